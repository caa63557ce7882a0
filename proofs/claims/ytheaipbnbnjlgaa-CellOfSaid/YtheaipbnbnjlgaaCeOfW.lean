/- The document's cell of a row of samples; the law's walk. -/
import Derived.Test.YtheaipbnbnjlgaaCeOf
namespace Go.Proofs.Ytheaipbnbnjlgaa.Ce
open Go.RowKit Go.Proofs.YtheaipbnbnjlgaaW.PrintWords Go.Proofs.YtheaipbnbnjlgaaW.PrintLast Go.Proofs.YtheaipbnbnjlgaaW.PrintMore
open Go.Proofs.Ytheaipbnbnjlgaa.Flow
set_option linter.unusedVariables false
set_option linter.unusedSimpArgs false

set_option maxHeartbeats 4000000 in
theorem rof_fold (w : World) (A1 : Option Addr) (c1 : Nat) (l : List Smp) (hl : kSample.C w A1 l.length l) (hc : l.length ≤ c1) (hln : l.length ≤ 2000) (hv : VOk l) :
    Calls Try.prog 13 #[.slice A1 l.length c1] w fun e w' => e = .returned (.agg (carr (foldC l))) ∧ Below w.heap.size w w' := by
  refine calls_flow Try.func13 rfl 89 rfl (Nat.le_of_ble_eq_true rfl) [(0, .slice A1 l.length c1)] ?_ ?_
  · intro t v h; exact args_look rfl t v h
  refine w_seq ?_
  refine w_region ?_
  refine rw_new (cs := carr CL.unit) (t := 31) (fun g => .pointer (some ⟨g, 0, none⟩)) rfl rfl rfl rfl (by kernel_rfl) ?_
  intro g1 w2 hg6 hz5 hb3 hk4
  have hs_w2 := hb3.size
  refine rw_end ?_
  refine w_seq ?_
  refine w_region ?_
  refine rw_val (v := .agg (carr CL.unit)) (w' := w2) rfl rfl rfl rfl (by kernel_rfl) ?_
  refine rw_new (cs := carr CL.unit) (t := 31) (fun g => .pointer (some ⟨g, 0, none⟩)) rfl rfl rfl rfl (by kernel_rfl) ?_
  intro g7 w8 hg12 hz11 hb9 hk10
  have hs_w8 := hb9.size
  refine rw_seg (g := g7) (off := 0) (ty := 31) (p := .tmp 3) (x := .tmp 8) (v := .agg (carr CL.unit)) (cs' := carr CL.unit) rfl rfl rfl rfl rfl rfl hk10 (by show (sizeOf 31).run _ _ = .ok (carr _).size _; rw [carr_size]; kernel_rfl) (Nat.le_of_eq (by rw [Nat.zero_add]; exact (carr_size _).trans (carr_size _).symm)) (encC_one _) (seg_all CL.unit CL.unit) ?_
  intro w13 hk14 hb15
  have hs_w13 := hk14.size
  refine rw_end ?_
  refine w_seq ?_
  refine w_seq ?_
  refine w_region ?_
  refine rw_val (v := .int .i64 0) (w' := w13) rfl rfl rfl rfl rfl ?_
  refine rw_end ?_
  refine w_block ?_
  refine w_loop (fun m_ G W_ => ∃ (j : Nat) (o : CL), j + m_ = l.length ∧ Below w.heap.size w W_ ∧ (o = foldC (l.take j)) ∧ (Blk W_ g7 31 (carr o)) ∧ (Blk W_ g1 31 (carr CL.unit)) ∧ (-9223372036854775808 ≤ o.hi ∧ o.hi ≤ 9223372036854775807) ∧ G = [(0, .slice A1 l.length c1), (2, .pointer (some ⟨g1, 0, none⟩)), (3, .pointer (some ⟨g7, 0, none⟩)), (4, .int .i64 ((j : Nat) : Int))]) l.length [(0, .slice A1 l.length c1), (2, .pointer (some ⟨g1, 0, none⟩)), (3, .pointer (some ⟨g7, 0, none⟩)), (4, .int .i64 0)] ⟨0, CL.unit, by omega, (hk14.below (by omega) (chain hb3 hb9)), rfl, hb15, ((hk4.on hb9).keep hk14 (by omega)), (by decide), rfl⟩ ⟨rfl, rfl, rfl, rfl, trivial⟩ ?_
  rintro m_ G w_L16 ⟨j, o, hp17, hB_L16, hf18, hf19, hf20, hf21, rfl⟩
  have hs_w_L16 := hB_L16.size
  have hlt3_ := hf19.lt
  have hlt2_ := hf20.lt
  have hB_ : Bnd (l.take j) o := by rw [hf18]; exact fold_bnd l j (by omega) hv
  have hlt_ : (l.take j).length = j := by rw [List.length_take]; omega
  have hcn_ := hB_.cnt
  rw [hlt_] at hcn_
  have hhi_ := hf21
  have hlo_ : 0 ≤ o.lo ∧ o.lo < 18446744073709551616 := by rw [hf18]; exact fold_lo _
  refine w_seq ?_
  refine w_seq ?_
  refine w_region ?_
  refine rw_val (v := .int .i64 ((j : Nat) : Int)) (w' := w_L16) rfl rfl rfl rfl rfl ?_
  refine rw_val (v := .slice A1 l.length c1) (w' := w_L16) rfl rfl rfl rfl rfl ?_
  refine rw_val (v := .int .i64 ((l.length : Nat) : Int)) (w' := w_L16) rfl rfl rfl rfl (by simp [go_sem, sEv, sLook, nbeq, i64_w, -List.getD_eq_getElem?_getD]) ?_
  refine rw_val (v := .bool (decide (((j : Nat) : Int) < ((l.length : Nat) : Int)))) (w' := w_L16) rfl rfl rfl rfl (by simp [go_sem, sEv, sLook, nbeq, i64_w, -List.getD_eq_getElem?_getD]) ?_
  refine rw_end ?_
  refine w_weaken (G' := [(0, .slice A1 l.length c1), (2, .pointer (some ⟨g1, 0, none⟩)), (3, .pointer (some ⟨g7, 0, none⟩)), (4, .int .i64 ((j : Nat) : Int)), (12, .bool (decide (((j : Nat) : Int) < ((l.length : Nat) : Int))))]) ⟨rfl, rfl, rfl, rfl, rfl, trivial⟩ ?_
  refine w_cond rfl rfl (fun cJ => ?_) (fun cJ => ?_)
  · have l22 : (((j : Nat) : Int) < ((l.length : Nat) : Int)) := of_decide_eq_true cJ
    refine w_skip ?_
    refine w_seq ?_
    refine w_block ?_
    refine w_seq ?_
    refine w_region ?_
    refine rw_val (v := .slice A1 l.length c1) (w' := w_L16) rfl rfl rfl rfl rfl ?_
    refine rw_val (v := .int .i64 ((j : Nat) : Int)) (w' := w_L16) rfl rfl rfl rfl rfl ?_
    obtain ⟨ad23, hA24, hc25⟩ := flat_at (Kd.C_below hl hB_L16) (0, 0, 0, 0, 0, 0) j (by first | omega | decide)
    subst hA24
    have he26 : w_L16.cell? (ad23.add (j * 6)) = some (.int .i64 ((l.getD j (0, 0, 0, 0, 0, 0)).1)) := cell_0 (hc25 0 _ rfl)
    have he27 : w_L16.cell? ⟨(ad23.add (j * 6)).block, (ad23.add (j * 6)).off + 1, none⟩ = some (.int .i64 ((l.getD j (0, 0, 0, 0, 0, 0)).2.1)) := cell_j (hc25 1 _ rfl)
    have he28 : w_L16.cell? ⟨(ad23.add (j * 6)).block, (ad23.add (j * 6)).off + 2, none⟩ = some (.int .i64 ((l.getD j (0, 0, 0, 0, 0, 0)).2.2.1)) := cell_j (hc25 2 _ rfl)
    have he29 : w_L16.cell? ⟨(ad23.add (j * 6)).block, (ad23.add (j * 6)).off + 3, none⟩ = some (.int .i64 ((l.getD j (0, 0, 0, 0, 0, 0)).2.2.2.1)) := cell_j (hc25 3 _ rfl)
    have he30 : w_L16.cell? ⟨(ad23.add (j * 6)).block, (ad23.add (j * 6)).off + 4, none⟩ = some (.int .i64 ((l.getD j (0, 0, 0, 0, 0, 0)).2.2.2.2.1)) := cell_j (hc25 4 _ rfl)
    have he31 : w_L16.cell? ⟨(ad23.add (j * 6)).block, (ad23.add (j * 6)).off + 5, none⟩ = some (.int .i64 ((l.getD j (0, 0, 0, 0, 0, 0)).2.2.2.2.2)) := cell_j (hc25 5 _ rfl)
    refine rw_val (v := .pointer (some (ad23.add (j * 6)))) (w' := w_L16) rfl rfl rfl rfl (run_as (run_at_k (P := Try.prog) (e := 46) (sz := 6) (by kernel_rfl) (by kernel_rfl) j (by first | omega | decide) _)) ?_
    refine rw_val (v := .pointer (some ⟨(ad23.add (j * 6)).block, (ad23.add (j * 6)).off + 1, none⟩)) (w' := w_L16) rfl rfl rfl rfl (by simp [go_sem, sEv, sLook, nbeq, i64_w, -List.getD_eq_getElem?_getD, Try.underlying46]) ?_
    refine rw_val (v := .agg #[.int .i64 ((l.getD j (0, 0, 0, 0, 0, 0)).2.1), .int .i64 ((l.getD j (0, 0, 0, 0, 0, 0)).2.2.1), .int .i64 ((l.getD j (0, 0, 0, 0, 0, 0)).2.2.2.1), .int .i64 ((l.getD j (0, 0, 0, 0, 0, 0)).2.2.2.2.1), .int .i64 ((l.getD j (0, 0, 0, 0, 0, 0)).2.2.2.2.2)]) (w' := w_L16) rfl rfl rfl rfl (by have e0_ := cellOn he27 (Below.refl _ _); have e1_ := cellOn he28 (Below.refl _ _); have e2_ := cellOn he29 (Below.refl _ _); have e3_ := cellOn he30 (Below.refl _ _); have e4_ := cellOn he31 (Below.refl _ _); simp [go_sem, sEv, sLook, nbeq, i64_w, -List.getD_eq_getElem?_getD, e0_, e1_, e2_, e3_, e4_, Try.underlying44]) ?_
    refine rw_new (cs := #[.int .i64 0, .int .i64 0, .int .i64 0, .int .i64 0, .int .i64 0]) (t := 44) (fun g => .pointer (some ⟨g, 0, none⟩)) rfl rfl rfl rfl (by kernel_rfl) ?_
    intro g32 w33 hg37 hz36 hb34 hk35
    have hs_w33 := hb34.size
    have hb41 := hk35
    refine rw_store (g := g32) (i := 0) (l := [.int .i64 ((l.getD j (0, 0, 0, 0, 0, 0)).2.1), .int .i64 ((l.getD j (0, 0, 0, 0, 0, 0)).2.2.1), .int .i64 ((l.getD j (0, 0, 0, 0, 0, 0)).2.2.2.1), .int .i64 ((l.getD j (0, 0, 0, 0, 0, 0)).2.2.2.2.1), .int .i64 ((l.getD j (0, 0, 0, 0, 0, 0)).2.2.2.2.2)]) (cs' := #[.int .i64 ((l.getD j (0, 0, 0, 0, 0, 0)).2.1), .int .i64 ((l.getD j (0, 0, 0, 0, 0, 0)).2.2.1), .int .i64 ((l.getD j (0, 0, 0, 0, 0, 0)).2.2.2.1), .int .i64 ((l.getD j (0, 0, 0, 0, 0, 0)).2.2.2.2.1), .int .i64 ((l.getD j (0, 0, 0, 0, 0, 0)).2.2.2.2.2)]) rfl rfl rfl hb41 rfl (by have e0_ := hb41.cellv (i := 0) (v := (.int .i64 0 : Value)) rfl; have f0_ := hb41.frozen 0; have e1_ := hb41.cellv (i := 1) (v := (.int .i64 0 : Value)) rfl; have f1_ := hb41.frozen 1; have e2_ := hb41.cellv (i := 2) (v := (.int .i64 0 : Value)) rfl; have f2_ := hb41.frozen 2; have e3_ := hb41.cellv (i := 3) (v := (.int .i64 0 : Value)) rfl; have f3_ := hb41.frozen 3; have e4_ := hb41.cellv (i := 4) (v := (.int .i64 0 : Value)) rfl; have f4_ := hb41.frozen 4; simp [go_sem, sEv, sLook, nbeq, i64_w, -List.getD_eq_getElem?_getD, putCells, e0_, f0_, e1_, f1_, e2_, f2_, e3_, f3_, e4_, f4_, Try.underlying44]) ?_
    intro w38 hk39 hk40
    have hs_w38 := hk39.size
    refine rw_end ?_
    refine w_weaken (G' := [(0, .slice (some ad23) l.length c1), (2, .pointer (some ⟨g1, 0, none⟩)), (3, .pointer (some ⟨g7, 0, none⟩)), (4, .int .i64 ((j : Nat) : Int)), (5, .pointer (some ⟨g32, 0, none⟩))]) ⟨rfl, rfl, rfl, rfl, rfl, trivial⟩ ?_
    refine w_seq ?_
    obtain ⟨ad42, hA43, hc44⟩ := flat_at (Kd.C_below hl (hk39.below (by omega) (chain hB_L16 hb34))) (0, 0, 0, 0, 0, 0) j (by first | omega | decide)
    obtain rfl := Option.some.inj hA43
    have he45 : w38.cell? (ad23.add (j * 6)) = some (.int .i64 ((l.getD j (0, 0, 0, 0, 0, 0)).1)) := cell_0 (hc44 0 _ rfl)
    have he46 : w38.cell? ⟨(ad23.add (j * 6)).block, (ad23.add (j * 6)).off + 1, none⟩ = some (.int .i64 ((l.getD j (0, 0, 0, 0, 0, 0)).2.1)) := cell_j (hc44 1 _ rfl)
    have he47 : w38.cell? ⟨(ad23.add (j * 6)).block, (ad23.add (j * 6)).off + 2, none⟩ = some (.int .i64 ((l.getD j (0, 0, 0, 0, 0, 0)).2.2.1)) := cell_j (hc44 2 _ rfl)
    have he48 : w38.cell? ⟨(ad23.add (j * 6)).block, (ad23.add (j * 6)).off + 3, none⟩ = some (.int .i64 ((l.getD j (0, 0, 0, 0, 0, 0)).2.2.2.1)) := cell_j (hc44 3 _ rfl)
    have he49 : w38.cell? ⟨(ad23.add (j * 6)).block, (ad23.add (j * 6)).off + 4, none⟩ = some (.int .i64 ((l.getD j (0, 0, 0, 0, 0, 0)).2.2.2.2.1)) := cell_j (hc44 4 _ rfl)
    have he50 : w38.cell? ⟨(ad23.add (j * 6)).block, (ad23.add (j * 6)).off + 5, none⟩ = some (.int .i64 ((l.getD j (0, 0, 0, 0, 0, 0)).2.2.2.2.2)) := cell_j (hc44 5 _ rfl)
    refine w_drawk (M := [0, 1, 0, 0, 12, 28, 60, 0, 128, 0, 512, 2047, 0, 8191]) (ss := [Is (.pointer (some ⟨g32, 2, none⟩)), Is (.int .i64 ((l.getD j (0, 0, 0, 0, 0, 0)).2.2.2.1)), Is (.slice (some ad23) l.length c1), Is (.int .i64 ((j : Nat) : Int)), Is (.pointer (some (ad23.add (j * 6)))), Is (.pointer (some (ad23.add (j * 6)))), Is (.int .i64 ((l.getD j (0, 0, 0, 0, 0, 0)).1)), Is (.pointer (some ⟨g32, 0, none⟩)), Is (.int .i64 ((l.getD j (0, 0, 0, 0, 0, 0)).2.1)), Is (.pointer (some ⟨g32, 4, none⟩)), Is (.int .i64 ((l.getD j (0, 0, 0, 0, 0, 0)).2.2.2.2.2)), Is (.agg #[.int .i64 ((l.getD j (0, 0, 0, 0, 0, 0)).2.2.2.1), .int .i64 ((l.getD j (0, 0, 0, 0, 0, 0)).1), .int .i64 ((l.getD j (0, 0, 0, 0, 0, 0)).2.1), .int .i64 ((l.getD j (0, 0, 0, 0, 0, 0)).2.2.2.2.2)]), BlkSpec w38.heap.size 28 #[.int .i64 0, .int .i64 0, .int .i64 0, .int .i64 0]]) 13 rfl (by decide +kernel) ?_
    refine t_is (.pointer (some ⟨g32, 2, none⟩)) rfl rfl rfl rfl (fun W_ hW_ F_ => by simp [go_sem, sEv, sLook, nbeq, i64_w, -List.getD_eq_getElem?_getD, Try.underlying44]) ?_
    refine t_is (.int .i64 ((l.getD j (0, 0, 0, 0, 0, 0)).2.2.2.1)) rfl rfl rfl rfl (fun W_ hW_ F_ => by have eb_ := (hk40.on (below_of_drew hW_)); have e0_ := eb_.cellv (i := 2) (v := (.int .i64 ((l.getD j (0, 0, 0, 0, 0, 0)).2.2.2.1) : Value)) rfl; simp [go_sem, sEv, sLook, nbeq, i64_w, -List.getD_eq_getElem?_getD, e0_]) ?_
    refine t_is (.slice (some ad23) l.length c1) rfl rfl rfl rfl (fun W_ hW_ F_ => rfl) ?_
    refine t_is (.int .i64 ((j : Nat) : Int)) rfl rfl rfl rfl (fun W_ hW_ F_ => rfl) ?_
    refine t_is (.pointer (some (ad23.add (j * 6)))) rfl rfl rfl rfl (fun W_ hW_ F_ => (run_as (run_at_k (P := Try.prog) (e := 46) (sz := 6) (by kernel_rfl) (by kernel_rfl) j (by first | omega | decide) _))) ?_
    refine t_is (.pointer (some (ad23.add (j * 6)))) rfl rfl rfl rfl (fun W_ hW_ F_ => by simp [go_sem, sEv, sLook, nbeq, i64_w, -List.getD_eq_getElem?_getD, Try.underlying46]) ?_
    refine t_is (.int .i64 ((l.getD j (0, 0, 0, 0, 0, 0)).1)) rfl rfl rfl rfl (fun W_ hW_ F_ => by have e0_ := cellOn he45 (below_of_drew hW_); simp [go_sem, sEv, sLook, nbeq, i64_w, -List.getD_eq_getElem?_getD, e0_]) ?_
    refine t_is (.pointer (some ⟨g32, 0, none⟩)) rfl rfl rfl rfl (fun W_ hW_ F_ => by simp [go_sem, sEv, sLook, nbeq, i64_w, -List.getD_eq_getElem?_getD, Try.underlying44]) ?_
    refine t_is (.int .i64 ((l.getD j (0, 0, 0, 0, 0, 0)).2.1)) rfl rfl rfl rfl (fun W_ hW_ F_ => by have eb_ := (hk40.on (below_of_drew hW_)); have e0_ := eb_.cellv (i := 0) (v := (.int .i64 ((l.getD j (0, 0, 0, 0, 0, 0)).2.1) : Value)) rfl; simp [go_sem, sEv, sLook, nbeq, i64_w, -List.getD_eq_getElem?_getD, e0_]) ?_
    refine t_is (.pointer (some ⟨g32, 4, none⟩)) rfl rfl rfl rfl (fun W_ hW_ F_ => by simp [go_sem, sEv, sLook, nbeq, i64_w, -List.getD_eq_getElem?_getD, Try.underlying44]) ?_
    refine t_is (.int .i64 ((l.getD j (0, 0, 0, 0, 0, 0)).2.2.2.2.2)) rfl rfl rfl rfl (fun W_ hW_ F_ => by have eb_ := (hk40.on (below_of_drew hW_)); have e0_ := eb_.cellv (i := 4) (v := (.int .i64 ((l.getD j (0, 0, 0, 0, 0, 0)).2.2.2.2.2) : Value)) rfl; simp [go_sem, sEv, sLook, nbeq, i64_w, -List.getD_eq_getElem?_getD, e0_]) ?_
    refine t_is (.agg #[.int .i64 ((l.getD j (0, 0, 0, 0, 0, 0)).2.2.2.1), .int .i64 ((l.getD j (0, 0, 0, 0, 0, 0)).1), .int .i64 ((l.getD j (0, 0, 0, 0, 0, 0)).2.1), .int .i64 ((l.getD j (0, 0, 0, 0, 0, 0)).2.2.2.2.2)]) rfl rfl rfl rfl (fun W_ hW_ F_ => by kernel_rfl) ?_
    refine t_val (BlkSpec w38.heap.size 28 #[.int .i64 0, .int .i64 0, .int .i64 0, .int .i64 0]) rfl rfl rfl rfl (fun W_ hW_ F_ => blk_gives _ _ _ (below_of_drew hW_).size (by kernel_rfl)) ?_
    rintro _ ⟨g51, rfl⟩
    refine t_tail ?_
    intro w54 hb55_ F56
    have hb55 := below_of_drew hb55_
    have hs_w54 := hb55.size
    obtain ⟨hge53, hk52⟩ := blk_fact (F56 12 _ _ rfl)
    have hlt_g51 := hk52.lt
    have hb60 := hk52
    refine rw_store (g := g51) (i := 0) (l := [.int .i64 ((l.getD j (0, 0, 0, 0, 0, 0)).2.2.2.1), .int .i64 ((l.getD j (0, 0, 0, 0, 0, 0)).1), .int .i64 ((l.getD j (0, 0, 0, 0, 0, 0)).2.1), .int .i64 ((l.getD j (0, 0, 0, 0, 0, 0)).2.2.2.2.2)]) (cs' := #[.int .i64 ((l.getD j (0, 0, 0, 0, 0, 0)).2.2.2.1), .int .i64 ((l.getD j (0, 0, 0, 0, 0, 0)).1), .int .i64 ((l.getD j (0, 0, 0, 0, 0, 0)).2.1), .int .i64 ((l.getD j (0, 0, 0, 0, 0, 0)).2.2.2.2.2)]) rfl rfl rfl hb60 rfl (by have e0_ := hb60.cellv (i := 0) (v := (.int .i64 0 : Value)) rfl; have f0_ := hb60.frozen 0; have e1_ := hb60.cellv (i := 1) (v := (.int .i64 0 : Value)) rfl; have f1_ := hb60.frozen 1; have e2_ := hb60.cellv (i := 2) (v := (.int .i64 0 : Value)) rfl; have f2_ := hb60.frozen 2; have e3_ := hb60.cellv (i := 3) (v := (.int .i64 0 : Value)) rfl; have f3_ := hb60.frozen 3; simp [go_sem, sEv, sLook, nbeq, i64_w, -List.getD_eq_getElem?_getD, putCells, e0_, f0_, e1_, f1_, e2_, f2_, e3_, f3_, Try.underlying28]) ?_
    intro w57 hk58 hk59
    have hs_w57 := hk58.size
    refine rw_end ?_
    refine w_weaken (G' := [(0, .slice (some ad23) l.length c1), (2, .pointer (some ⟨g1, 0, none⟩)), (3, .pointer (some ⟨g7, 0, none⟩)), (4, .int .i64 ((j : Nat) : Int)), (5, .pointer (some ⟨g32, 0, none⟩)), (6, .pointer (some ⟨g51, 0, none⟩))]) ⟨rfl, rfl, rfl, rfl, rfl, rfl, trivial⟩ ?_
    refine w_seq ?_
    refine w_seq ?_
    refine w_region ?_
    refine rw_val (v := .int .i64 ((j : Nat) : Int)) (w' := w57) rfl rfl rfl rfl rfl ?_
    refine rw_val (v := .bool (((j : Nat) : Int) == 0)) (w' := w57) rfl rfl rfl rfl (by simp [go_sem, sEv, sLook, nbeq, i64_w, -List.getD_eq_getElem?_getD]) ?_
    refine rw_val (v := .bool (((j : Nat) : Int) == 0)) (w' := w57) rfl rfl rfl rfl rfl ?_
    rcases bcase (((j : Nat) : Int) == 0) with cZ | cZ
    · have l61 : ¬ ((j : Nat) : Int) = 0 := by simpa using cZ
      refine rw_on (c := (((j : Nat) : Int) == 0)) rfl rfl rfl (by first | (rw [cZ]; rfl) | simp [cZ]) ?_
      refine rw_val (v := .pointer (some ⟨g32, 4, none⟩)) (w' := w57) rfl rfl rfl rfl (by simp [go_sem, sEv, sLook, nbeq, i64_w, -List.getD_eq_getElem?_getD, Try.underlying44]) ?_
      refine rw_on (c := (((j : Nat) : Int) == 0)) rfl rfl rfl (by first | (rw [cZ]; rfl) | simp [cZ]) ?_
      refine rw_val (v := .int .i64 ((l.getD j (0, 0, 0, 0, 0, 0)).2.2.2.2.2)) (w' := w57) rfl rfl rfl rfl (by have eb_ := ((hk40.on hb55).keep hk58 (by omega)); have e0_ := eb_.cellv (i := 4) (v := (.int .i64 ((l.getD j (0, 0, 0, 0, 0, 0)).2.2.2.2.2) : Value)) rfl; simp [go_sem, sEv, sLook, nbeq, i64_w, -List.getD_eq_getElem?_getD, e0_]) ?_
      refine rw_on (c := (((j : Nat) : Int) == 0)) rfl rfl rfl (by first | (rw [cZ]; rfl) | simp [cZ]) ?_
      refine rw_val (v := .pointer (some ⟨g7, 3, none⟩)) (w' := w57) rfl rfl rfl rfl (by simp [go_sem, sEv, sLook, nbeq, i64_w, -List.getD_eq_getElem?_getD, Try.underlying31]) ?_
      refine rw_on (c := (((j : Nat) : Int) == 0)) rfl rfl rfl (by first | (rw [cZ]; rfl) | simp [cZ]) ?_
      refine rw_val (v := .int .i64 o.mn) (w' := w57) rfl rfl rfl rfl (by have eb_ := ((((hf19.on hb34).keep hk39 (by omega)).on hb55).keep hk58 (by omega)); have e0_ := eb_.cellv (v := .int .i64 o.mn) (cA3 o); simp [go_sem, sEv, sLook, nbeq, i64_w, -List.getD_eq_getElem?_getD, e0_]) ?_
      refine rw_on (c := (((j : Nat) : Int) == 0)) rfl rfl rfl (by first | (rw [cZ]; rfl) | simp [cZ]) ?_
      refine rw_val (v := .bool (decide (((l.getD j (0, 0, 0, 0, 0, 0)).2.2.2.2.2) < o.mn))) (w' := w57) rfl rfl rfl rfl (by simp [go_sem, sEv, sLook, nbeq, i64_w, -List.getD_eq_getElem?_getD]) ?_
      refine rw_val (v := .bool (decide (((l.getD j (0, 0, 0, 0, 0, 0)).2.2.2.2.2) < o.mn))) (w' := w57) rfl rfl rfl rfl (by first | (simp [go_sem, sEv, sLook, nbeq, i64_w, -List.getD_eq_getElem?_getD, cZ]; done) | (rw [cZ]; simp [go_sem, sEv, sLook, nbeq, i64_w, -List.getD_eq_getElem?_getD]; done) | (simp [go_sem, sEv, sLook, nbeq, i64_w, -List.getD_eq_getElem?_getD] <;> omega) | (simp [go_sem, sEv, sLook, nbeq, i64_w, -List.getD_eq_getElem?_getD]; intro h_; exact absurd (by omega) h_)) ?_
      refine rw_end ?_
      refine w_weaken (G' := [(0, .slice (some ad23) l.length c1), (2, .pointer (some ⟨g1, 0, none⟩)), (3, .pointer (some ⟨g7, 0, none⟩)), (4, .int .i64 ((j : Nat) : Int)), (5, .pointer (some ⟨g32, 0, none⟩)), (6, .pointer (some ⟨g51, 0, none⟩)), (40, .bool (decide (((l.getD j (0, 0, 0, 0, 0, 0)).2.2.2.2.2) < o.mn)))]) ⟨rfl, rfl, rfl, rfl, rfl, rfl, rfl, trivial⟩ ?_
      refine w_cond rfl rfl (fun cMn => ?_) (fun cMn => ?_)
      · have l62 : (((l.getD j (0, 0, 0, 0, 0, 0)).2.2.2.2.2) < o.mn) := of_decide_eq_true cMn
        refine w_region ?_
        refine rw_val (v := .pointer (some ⟨g32, 4, none⟩)) (w' := w57) rfl rfl rfl rfl (by simp [go_sem, sEv, sLook, nbeq, i64_w, -List.getD_eq_getElem?_getD, Try.underlying44]) ?_
        refine rw_val (v := .int .i64 ((l.getD j (0, 0, 0, 0, 0, 0)).2.2.2.2.2)) (w' := w57) rfl rfl rfl rfl (by have eb_ := ((hk40.on hb55).keep hk58 (by omega)); have e0_ := eb_.cellv (i := 4) (v := (.int .i64 ((l.getD j (0, 0, 0, 0, 0, 0)).2.2.2.2.2) : Value)) rfl; simp [go_sem, sEv, sLook, nbeq, i64_w, -List.getD_eq_getElem?_getD, e0_]) ?_
        refine rw_val (v := .pointer (some ⟨g7, 3, none⟩)) (w' := w57) rfl rfl rfl rfl (by simp [go_sem, sEv, sLook, nbeq, i64_w, -List.getD_eq_getElem?_getD, Try.underlying31]) ?_
        refine rw_seg (g := g7) (off := 3) (ty := 3) (p := .tmp 43) (x := .tmp 42) (v := .int .i64 ((l.getD j (0, 0, 0, 0, 0, 0)).2.2.2.2.2)) (cs' := carr (⟨o.cnt, o.hi, o.lo, (l.getD j (0, 0, 0, 0, 0, 0)).2.2.2.2.2, o.mx, o.t, o.src, o.seq, o.v, o.h⟩ : CL)) rfl rfl rfl rfl rfl rfl ((((hf19.on hb34).keep hk39 (by omega)).on hb55).keep hk58 (by omega)) (by kernel_rfl) (by rw [carr_size]; simp [Value.cells] <;> omega) (by intro q hq; simp only [List.mem_cons, List.not_mem_nil, or_false, Value.cells] at hq; (first | (rcases hq with rfl | rfl | rfl | rfl <;> rfl) | (rcases hq with rfl | rfl <;> rfl) | (subst hq; rfl))) (seg_mn o ((l.getD j (0, 0, 0, 0, 0, 0)).2.2.2.2.2)) ?_
        intro w63 hk64 hb65
        have hs_w63 := hk64.size
        refine rw_end ?_
        refine w_weaken (G' := [(0, .slice (some ad23) l.length c1), (2, .pointer (some ⟨g1, 0, none⟩)), (3, .pointer (some ⟨g7, 0, none⟩)), (4, .int .i64 ((j : Nat) : Int)), (5, .pointer (some ⟨g32, 0, none⟩)), (6, .pointer (some ⟨g51, 0, none⟩))]) ⟨rfl, rfl, rfl, rfl, rfl, rfl, trivial⟩ ?_
        refine w_seq ?_
        refine w_seq ?_
        refine w_region ?_
        refine rw_val (v := .int .i64 ((j : Nat) : Int)) (w' := w63) rfl rfl rfl rfl rfl ?_
        refine rw_val (v := .bool (((j : Nat) : Int) == 0)) (w' := w63) rfl rfl rfl rfl (by simp [go_sem, sEv, sLook, nbeq, i64_w, -List.getD_eq_getElem?_getD]) ?_
        refine rw_val (v := .bool (((j : Nat) : Int) == 0)) (w' := w63) rfl rfl rfl rfl rfl ?_
        refine rw_on (c := (((j : Nat) : Int) == 0)) rfl rfl rfl (by first | (rw [cZ]; rfl) | simp [cZ]) ?_
        refine rw_val (v := .pointer (some ⟨g32, 4, none⟩)) (w' := w63) rfl rfl rfl rfl (by simp [go_sem, sEv, sLook, nbeq, i64_w, -List.getD_eq_getElem?_getD, Try.underlying44]) ?_
        refine rw_on (c := (((j : Nat) : Int) == 0)) rfl rfl rfl (by first | (rw [cZ]; rfl) | simp [cZ]) ?_
        refine rw_val (v := .int .i64 ((l.getD j (0, 0, 0, 0, 0, 0)).2.2.2.2.2)) (w' := w63) rfl rfl rfl rfl (by have eb_ := (((hk40.on hb55).keep hk58 (by omega)).keep hk64 (by omega)); have e0_ := eb_.cellv (i := 4) (v := (.int .i64 ((l.getD j (0, 0, 0, 0, 0, 0)).2.2.2.2.2) : Value)) rfl; simp [go_sem, sEv, sLook, nbeq, i64_w, -List.getD_eq_getElem?_getD, e0_]) ?_
        refine rw_on (c := (((j : Nat) : Int) == 0)) rfl rfl rfl (by first | (rw [cZ]; rfl) | simp [cZ]) ?_
        refine rw_val (v := .pointer (some ⟨g7, 4, none⟩)) (w' := w63) rfl rfl rfl rfl (by simp [go_sem, sEv, sLook, nbeq, i64_w, -List.getD_eq_getElem?_getD, Try.underlying31]) ?_
        refine rw_on (c := (((j : Nat) : Int) == 0)) rfl rfl rfl (by first | (rw [cZ]; rfl) | simp [cZ]) ?_
        refine rw_val (v := .int .i64 o.mx) (w' := w63) rfl rfl rfl rfl (by have eb_ := hb65; have e0_ := eb_.cellv (v := .int .i64 o.mx) (cA4 (⟨o.cnt, o.hi, o.lo, (l.getD j (0, 0, 0, 0, 0, 0)).2.2.2.2.2, o.mx, o.t, o.src, o.seq, o.v, o.h⟩ : CL)); simp [go_sem, sEv, sLook, nbeq, i64_w, -List.getD_eq_getElem?_getD, e0_]) ?_
        refine rw_on (c := (((j : Nat) : Int) == 0)) rfl rfl rfl (by first | (rw [cZ]; rfl) | simp [cZ]) ?_
        refine rw_val (v := .bool (decide (o.mx < ((l.getD j (0, 0, 0, 0, 0, 0)).2.2.2.2.2)))) (w' := w63) rfl rfl rfl rfl (by simp [go_sem, sEv, sLook, nbeq, i64_w, -List.getD_eq_getElem?_getD]) ?_
        refine rw_val (v := .bool (decide (o.mx < ((l.getD j (0, 0, 0, 0, 0, 0)).2.2.2.2.2)))) (w' := w63) rfl rfl rfl rfl (by first | (simp [go_sem, sEv, sLook, nbeq, i64_w, -List.getD_eq_getElem?_getD, cZ]; done) | (rw [cZ]; simp [go_sem, sEv, sLook, nbeq, i64_w, -List.getD_eq_getElem?_getD]; done) | (simp [go_sem, sEv, sLook, nbeq, i64_w, -List.getD_eq_getElem?_getD] <;> omega) | (simp [go_sem, sEv, sLook, nbeq, i64_w, -List.getD_eq_getElem?_getD]; intro h_; exact absurd (by omega) h_)) ?_
        refine rw_end ?_
        refine w_weaken (G' := [(0, .slice (some ad23) l.length c1), (2, .pointer (some ⟨g1, 0, none⟩)), (3, .pointer (some ⟨g7, 0, none⟩)), (4, .int .i64 ((j : Nat) : Int)), (5, .pointer (some ⟨g32, 0, none⟩)), (6, .pointer (some ⟨g51, 0, none⟩)), (52, .bool (decide (o.mx < ((l.getD j (0, 0, 0, 0, 0, 0)).2.2.2.2.2))))]) ⟨rfl, rfl, rfl, rfl, rfl, rfl, rfl, trivial⟩ ?_
        refine w_cond rfl rfl (fun cMx => ?_) (fun cMx => ?_)
        · have l66 : (o.mx < ((l.getD j (0, 0, 0, 0, 0, 0)).2.2.2.2.2)) := of_decide_eq_true cMx
          refine w_region ?_
          refine rw_val (v := .pointer (some ⟨g32, 4, none⟩)) (w' := w63) rfl rfl rfl rfl (by simp [go_sem, sEv, sLook, nbeq, i64_w, -List.getD_eq_getElem?_getD, Try.underlying44]) ?_
          refine rw_val (v := .int .i64 ((l.getD j (0, 0, 0, 0, 0, 0)).2.2.2.2.2)) (w' := w63) rfl rfl rfl rfl (by have eb_ := (((hk40.on hb55).keep hk58 (by omega)).keep hk64 (by omega)); have e0_ := eb_.cellv (i := 4) (v := (.int .i64 ((l.getD j (0, 0, 0, 0, 0, 0)).2.2.2.2.2) : Value)) rfl; simp [go_sem, sEv, sLook, nbeq, i64_w, -List.getD_eq_getElem?_getD, e0_]) ?_
          refine rw_val (v := .pointer (some ⟨g7, 4, none⟩)) (w' := w63) rfl rfl rfl rfl (by simp [go_sem, sEv, sLook, nbeq, i64_w, -List.getD_eq_getElem?_getD, Try.underlying31]) ?_
          refine rw_seg (g := g7) (off := 4) (ty := 3) (p := .tmp 55) (x := .tmp 54) (v := .int .i64 ((l.getD j (0, 0, 0, 0, 0, 0)).2.2.2.2.2)) (cs' := carr (⟨o.cnt, o.hi, o.lo, (l.getD j (0, 0, 0, 0, 0, 0)).2.2.2.2.2, (l.getD j (0, 0, 0, 0, 0, 0)).2.2.2.2.2, o.t, o.src, o.seq, o.v, o.h⟩ : CL)) rfl rfl rfl rfl rfl rfl hb65 (by kernel_rfl) (by rw [carr_size]; simp [Value.cells] <;> omega) (by intro q hq; simp only [List.mem_cons, List.not_mem_nil, or_false, Value.cells] at hq; (first | (rcases hq with rfl | rfl | rfl | rfl <;> rfl) | (rcases hq with rfl | rfl <;> rfl) | (subst hq; rfl))) (seg_mx (⟨o.cnt, o.hi, o.lo, (l.getD j (0, 0, 0, 0, 0, 0)).2.2.2.2.2, o.mx, o.t, o.src, o.seq, o.v, o.h⟩ : CL) ((l.getD j (0, 0, 0, 0, 0, 0)).2.2.2.2.2)) ?_
          intro w67 hk68 hb69
          have hs_w67 := hk68.size
          refine rw_end ?_
          refine w_weaken (G' := [(0, .slice (some ad23) l.length c1), (2, .pointer (some ⟨g1, 0, none⟩)), (3, .pointer (some ⟨g7, 0, none⟩)), (4, .int .i64 ((j : Nat) : Int)), (5, .pointer (some ⟨g32, 0, none⟩)), (6, .pointer (some ⟨g51, 0, none⟩))]) ⟨rfl, rfl, rfl, rfl, rfl, rfl, trivial⟩ ?_
          refine w_seq ?_
          refine w_seq ?_
          refine w_region ?_
          refine rw_val (v := .int .i64 ((j : Nat) : Int)) (w' := w67) rfl rfl rfl rfl rfl ?_
          refine rw_val (v := .bool (((j : Nat) : Int) == 0)) (w' := w67) rfl rfl rfl rfl (by simp [go_sem, sEv, sLook, nbeq, i64_w, -List.getD_eq_getElem?_getD]) ?_
          refine rw_val (v := .bool (((j : Nat) : Int) == 0)) (w' := w67) rfl rfl rfl rfl rfl ?_
          refine rw_on (c := (((j : Nat) : Int) == 0)) rfl rfl rfl (by first | (rw [cZ]; rfl) | simp [cZ]) ?_
          refine rw_val (v := .agg #[.int .i64 ((l.getD j (0, 0, 0, 0, 0, 0)).2.2.2.1), .int .i64 ((l.getD j (0, 0, 0, 0, 0, 0)).1), .int .i64 ((l.getD j (0, 0, 0, 0, 0, 0)).2.1), .int .i64 ((l.getD j (0, 0, 0, 0, 0, 0)).2.2.2.2.2)]) (w' := w67) rfl rfl rfl rfl (by have eb_ := ((hk59.keep hk64 (by omega)).keep hk68 (by omega)); have e0_ := eb_.cellv (i := 0) (v := (.int .i64 ((l.getD j (0, 0, 0, 0, 0, 0)).2.2.2.1) : Value)) rfl; have e1_ := eb_.cellv (i := 1) (v := (.int .i64 ((l.getD j (0, 0, 0, 0, 0, 0)).1) : Value)) rfl; have e2_ := eb_.cellv (i := 2) (v := (.int .i64 ((l.getD j (0, 0, 0, 0, 0, 0)).2.1) : Value)) rfl; have e3_ := eb_.cellv (i := 3) (v := (.int .i64 ((l.getD j (0, 0, 0, 0, 0, 0)).2.2.2.2.2) : Value)) rfl; simp [go_sem, sEv, sLook, nbeq, i64_w, -List.getD_eq_getElem?_getD, e0_, e1_, e2_, e3_, Try.underlying28]) ?_
          refine rw_on (c := (((j : Nat) : Int) == 0)) rfl rfl rfl (by first | (rw [cZ]; rfl) | simp [cZ]) ?_
          refine rw_val (v := .pointer (some ⟨g7, 5, none⟩)) (w' := w67) rfl rfl rfl rfl (by simp [go_sem, sEv, sLook, nbeq, i64_w, -List.getD_eq_getElem?_getD, Try.underlying31]) ?_
          refine rw_on (c := (((j : Nat) : Int) == 0)) rfl rfl rfl (by first | (rw [cZ]; rfl) | simp [cZ]) ?_
          refine rw_val (v := .agg #[.int .i64 o.t, .int .i64 o.src, .int .i64 o.seq, .int .i64 o.v]) (w' := w67) rfl rfl rfl rfl (by have eb_ := hb69; have e0_ := eb_.cellv (v := .int .i64 o.t) (cA5 (⟨o.cnt, o.hi, o.lo, (l.getD j (0, 0, 0, 0, 0, 0)).2.2.2.2.2, (l.getD j (0, 0, 0, 0, 0, 0)).2.2.2.2.2, o.t, o.src, o.seq, o.v, o.h⟩ : CL)); have e1_ := eb_.cellv (v := .int .i64 o.src) (cA6 (⟨o.cnt, o.hi, o.lo, (l.getD j (0, 0, 0, 0, 0, 0)).2.2.2.2.2, (l.getD j (0, 0, 0, 0, 0, 0)).2.2.2.2.2, o.t, o.src, o.seq, o.v, o.h⟩ : CL)); have e2_ := eb_.cellv (v := .int .i64 o.seq) (cA7 (⟨o.cnt, o.hi, o.lo, (l.getD j (0, 0, 0, 0, 0, 0)).2.2.2.2.2, (l.getD j (0, 0, 0, 0, 0, 0)).2.2.2.2.2, o.t, o.src, o.seq, o.v, o.h⟩ : CL)); have e3_ := eb_.cellv (v := .int .i64 o.v) (cA8 (⟨o.cnt, o.hi, o.lo, (l.getD j (0, 0, 0, 0, 0, 0)).2.2.2.2.2, (l.getD j (0, 0, 0, 0, 0, 0)).2.2.2.2.2, o.t, o.src, o.seq, o.v, o.h⟩ : CL)); simp [go_sem, sEv, sLook, nbeq, i64_w, -List.getD_eq_getElem?_getD, e0_, e1_, e2_, e3_, Try.underlying28]) ?_
          refine rw_on (c := (((j : Nat) : Int) == 0)) rfl rfl rfl (by first | (rw [cZ]; rfl) | simp [cZ]) ?_
          refine rw_call rfl rfl rfl rfl (f := 17) (args := #[.agg #[.int .i64 ((l.getD j (0, 0, 0, 0, 0, 0)).2.2.2.1), .int .i64 ((l.getD j (0, 0, 0, 0, 0, 0)).1), .int .i64 ((l.getD j (0, 0, 0, 0, 0, 0)).2.1), .int .i64 ((l.getD j (0, 0, 0, 0, 0, 0)).2.2.2.2.2)], .agg #[.int .i64 o.t, .int .i64 o.src, .int .i64 o.seq, .int .i64 o.v]]) (by simp [go_sem, sEv, sLook, nbeq, i64_w, -List.getD_eq_getElem?_getD]) (rlater_calls ((l.getD j (0, 0, 0, 0, 0, 0)).2.2.2.1) ((l.getD j (0, 0, 0, 0, 0, 0)).1) ((l.getD j (0, 0, 0, 0, 0, 0)).2.1) ((l.getD j (0, 0, 0, 0, 0, 0)).2.2.2.2.2) o.t o.src o.seq o.v w67) ?_
          rintro e_ w70 ⟨rfl, hb71⟩
          refine ⟨_, rfl, ?_⟩
          have hs_w70 := hb71.size
          refine rw_val (v := .bool (later ((l.getD j (0, 0, 0, 0, 0, 0)).2.2.2.1) ((l.getD j (0, 0, 0, 0, 0, 0)).1) ((l.getD j (0, 0, 0, 0, 0, 0)).2.1) ((l.getD j (0, 0, 0, 0, 0, 0)).2.2.2.2.2) o.t o.src o.seq o.v)) (w' := w70) rfl rfl rfl rfl (by first | (simp [go_sem, sEv, sLook, nbeq, i64_w, -List.getD_eq_getElem?_getD, cZ]; done) | (rw [cZ]; simp [go_sem, sEv, sLook, nbeq, i64_w, -List.getD_eq_getElem?_getD]; done) | (simp [go_sem, sEv, sLook, nbeq, i64_w, -List.getD_eq_getElem?_getD] <;> omega) | (simp [go_sem, sEv, sLook, nbeq, i64_w, -List.getD_eq_getElem?_getD]; intro h_; exact absurd (by omega) h_)) ?_
          refine rw_end ?_
          refine w_weaken (G' := [(0, .slice (some ad23) l.length c1), (2, .pointer (some ⟨g1, 0, none⟩)), (3, .pointer (some ⟨g7, 0, none⟩)), (4, .int .i64 ((j : Nat) : Int)), (5, .pointer (some ⟨g32, 0, none⟩)), (6, .pointer (some ⟨g51, 0, none⟩)), (63, .bool (later ((l.getD j (0, 0, 0, 0, 0, 0)).2.2.2.1) ((l.getD j (0, 0, 0, 0, 0, 0)).1) ((l.getD j (0, 0, 0, 0, 0, 0)).2.1) ((l.getD j (0, 0, 0, 0, 0, 0)).2.2.2.2.2) o.t o.src o.seq o.v))]) ⟨rfl, rfl, rfl, rfl, rfl, rfl, rfl, trivial⟩ ?_
          refine w_cond rfl rfl (fun cL => ?_) (fun cL => ?_)
          · refine w_region ?_
            refine rw_val (v := .agg #[.int .i64 ((l.getD j (0, 0, 0, 0, 0, 0)).2.2.2.1), .int .i64 ((l.getD j (0, 0, 0, 0, 0, 0)).1), .int .i64 ((l.getD j (0, 0, 0, 0, 0, 0)).2.1), .int .i64 ((l.getD j (0, 0, 0, 0, 0, 0)).2.2.2.2.2)]) (w' := w70) rfl rfl rfl rfl (by have eb_ := (((hk59.keep hk64 (by omega)).keep hk68 (by omega)).on hb71); have e0_ := eb_.cellv (i := 0) (v := (.int .i64 ((l.getD j (0, 0, 0, 0, 0, 0)).2.2.2.1) : Value)) rfl; have e1_ := eb_.cellv (i := 1) (v := (.int .i64 ((l.getD j (0, 0, 0, 0, 0, 0)).1) : Value)) rfl; have e2_ := eb_.cellv (i := 2) (v := (.int .i64 ((l.getD j (0, 0, 0, 0, 0, 0)).2.1) : Value)) rfl; have e3_ := eb_.cellv (i := 3) (v := (.int .i64 ((l.getD j (0, 0, 0, 0, 0, 0)).2.2.2.2.2) : Value)) rfl; simp [go_sem, sEv, sLook, nbeq, i64_w, -List.getD_eq_getElem?_getD, e0_, e1_, e2_, e3_, Try.underlying28]) ?_
            refine rw_val (v := .pointer (some ⟨g7, 5, none⟩)) (w' := w70) rfl rfl rfl rfl (by simp [go_sem, sEv, sLook, nbeq, i64_w, -List.getD_eq_getElem?_getD, Try.underlying31]) ?_
            refine rw_seg (g := g7) (off := 5) (ty := 28) (p := .tmp 65) (x := .tmp 64) (v := .agg #[.int .i64 ((l.getD j (0, 0, 0, 0, 0, 0)).2.2.2.1), .int .i64 ((l.getD j (0, 0, 0, 0, 0, 0)).1), .int .i64 ((l.getD j (0, 0, 0, 0, 0, 0)).2.1), .int .i64 ((l.getD j (0, 0, 0, 0, 0, 0)).2.2.2.2.2)]) (cs' := carr (⟨o.cnt, o.hi, o.lo, (l.getD j (0, 0, 0, 0, 0, 0)).2.2.2.2.2, (l.getD j (0, 0, 0, 0, 0, 0)).2.2.2.2.2, (l.getD j (0, 0, 0, 0, 0, 0)).2.2.2.1, (l.getD j (0, 0, 0, 0, 0, 0)).1, (l.getD j (0, 0, 0, 0, 0, 0)).2.1, (l.getD j (0, 0, 0, 0, 0, 0)).2.2.2.2.2, o.h⟩ : CL)) rfl rfl rfl rfl rfl rfl (hb69.on hb71) (by kernel_rfl) (by rw [carr_size]; simp [Value.cells] <;> omega) (by intro q hq; simp only [List.mem_cons, List.not_mem_nil, or_false, Value.cells] at hq; (first | (rcases hq with rfl | rfl | rfl | rfl <;> rfl) | (rcases hq with rfl | rfl <;> rfl) | (subst hq; rfl))) (seg_last (⟨o.cnt, o.hi, o.lo, (l.getD j (0, 0, 0, 0, 0, 0)).2.2.2.2.2, (l.getD j (0, 0, 0, 0, 0, 0)).2.2.2.2.2, o.t, o.src, o.seq, o.v, o.h⟩ : CL) ((l.getD j (0, 0, 0, 0, 0, 0)).2.2.2.1) ((l.getD j (0, 0, 0, 0, 0, 0)).1) ((l.getD j (0, 0, 0, 0, 0, 0)).2.1) ((l.getD j (0, 0, 0, 0, 0, 0)).2.2.2.2.2)) ?_
            intro w72 hk73 hb74
            have hs_w72 := hk73.size
            refine rw_end ?_
            refine w_seq ?_
            refine w_region ?_
            refine rw_val (v := .pointer (some ⟨g7, 0, none⟩)) (w' := w72) rfl rfl rfl rfl (by simp [go_sem, sEv, sLook, nbeq, i64_w, -List.getD_eq_getElem?_getD, Try.underlying31]) ?_
            refine rw_val (v := .int .i64 o.cnt) (w' := w72) rfl rfl rfl rfl (by have eb_ := hb74; have e0_ := eb_.cellv (v := .int .i64 o.cnt) (cA0 (⟨o.cnt, o.hi, o.lo, (l.getD j (0, 0, 0, 0, 0, 0)).2.2.2.2.2, (l.getD j (0, 0, 0, 0, 0, 0)).2.2.2.2.2, (l.getD j (0, 0, 0, 0, 0, 0)).2.2.2.1, (l.getD j (0, 0, 0, 0, 0, 0)).1, (l.getD j (0, 0, 0, 0, 0, 0)).2.1, (l.getD j (0, 0, 0, 0, 0, 0)).2.2.2.2.2, o.h⟩ : CL)); simp [go_sem, sEv, sLook, nbeq, i64_w, -List.getD_eq_getElem?_getD, e0_]) ?_
            refine rw_val (v := .int .i64 (o.cnt + 1)) (w' := w72) rfl rfl rfl rfl (by simp [go_sem, sEv, sLook, nbeq, i64_w, -List.getD_eq_getElem?_getD]; exact wrap_id (by omega) (by omega)) ?_
            refine rw_val (v := .pointer (some ⟨g7, 0, none⟩)) (w' := w72) rfl rfl rfl rfl (by simp [go_sem, sEv, sLook, nbeq, i64_w, -List.getD_eq_getElem?_getD, Try.underlying31]) ?_
            refine rw_seg (g := g7) (off := 0) (ty := 3) (p := .tmp 69) (x := .tmp 68) (v := .int .i64 (o.cnt + 1)) (cs' := carr (⟨(o.cnt + 1), o.hi, o.lo, (l.getD j (0, 0, 0, 0, 0, 0)).2.2.2.2.2, (l.getD j (0, 0, 0, 0, 0, 0)).2.2.2.2.2, (l.getD j (0, 0, 0, 0, 0, 0)).2.2.2.1, (l.getD j (0, 0, 0, 0, 0, 0)).1, (l.getD j (0, 0, 0, 0, 0, 0)).2.1, (l.getD j (0, 0, 0, 0, 0, 0)).2.2.2.2.2, o.h⟩ : CL)) rfl rfl rfl rfl rfl rfl hb74 (by kernel_rfl) (by rw [carr_size]; simp [Value.cells] <;> omega) (by intro q hq; simp only [List.mem_cons, List.not_mem_nil, or_false, Value.cells] at hq; (first | (rcases hq with rfl | rfl | rfl | rfl <;> rfl) | (rcases hq with rfl | rfl <;> rfl) | (subst hq; rfl))) (seg_cnt (⟨o.cnt, o.hi, o.lo, (l.getD j (0, 0, 0, 0, 0, 0)).2.2.2.2.2, (l.getD j (0, 0, 0, 0, 0, 0)).2.2.2.2.2, (l.getD j (0, 0, 0, 0, 0, 0)).2.2.2.1, (l.getD j (0, 0, 0, 0, 0, 0)).1, (l.getD j (0, 0, 0, 0, 0, 0)).2.1, (l.getD j (0, 0, 0, 0, 0, 0)).2.2.2.2.2, o.h⟩ : CL) (o.cnt + 1)) ?_
            intro w75 hk76 hb77
            have hs_w75 := hk76.size
            refine rw_end ?_
            refine w_weaken (G' := [(0, .slice (some ad23) l.length c1), (2, .pointer (some ⟨g1, 0, none⟩)), (3, .pointer (some ⟨g7, 0, none⟩)), (4, .int .i64 ((j : Nat) : Int)), (5, .pointer (some ⟨g32, 0, none⟩))]) ⟨rfl, rfl, rfl, rfl, rfl, trivial⟩ ?_
            refine w_seq ?_
            refine w_drawk (M := [0, 1, 0, 4, 12, 31, 63, 127]) (ss := [Is (.pointer (some ⟨g7, 1, none⟩)), Is (.agg #[.int .i64 o.hi, .int .u64 o.lo]), Is (.pointer (some ⟨g32, 4, none⟩)), Is (.int .i64 ((l.getD j (0, 0, 0, 0, 0, 0)).2.2.2.2.2)), (Is (.agg #[.int .i64 (((l.getD j (0, 0, 0, 0, 0, 0)).2.2.2.2.2) / 9223372036854775808), .int .u64 (((l.getD j (0, 0, 0, 0, 0, 0)).2.2.2.2.2) % 18446744073709551616)]))]) 5 rfl (by decide +kernel) ?_
            refine t_is (.pointer (some ⟨g7, 1, none⟩)) rfl rfl rfl rfl (fun W_ hW_ F_ => by simp [go_sem, sEv, sLook, nbeq, i64_w, -List.getD_eq_getElem?_getD, Try.underlying31]) ?_
            refine t_is (.agg #[.int .i64 o.hi, .int .u64 o.lo]) rfl rfl rfl rfl (fun W_ hW_ F_ => (by have eb_ := (hb77.on (below_of_drew hW_)); have e0_ := eb_.cellv (v := .int .i64 o.hi) (cA1 (⟨(o.cnt + 1), o.hi, o.lo, (l.getD j (0, 0, 0, 0, 0, 0)).2.2.2.2.2, (l.getD j (0, 0, 0, 0, 0, 0)).2.2.2.2.2, (l.getD j (0, 0, 0, 0, 0, 0)).2.2.2.1, (l.getD j (0, 0, 0, 0, 0, 0)).1, (l.getD j (0, 0, 0, 0, 0, 0)).2.1, (l.getD j (0, 0, 0, 0, 0, 0)).2.2.2.2.2, o.h⟩ : CL)); have e1_ := eb_.cellv (v := .int .u64 o.lo) (cA2 (⟨(o.cnt + 1), o.hi, o.lo, (l.getD j (0, 0, 0, 0, 0, 0)).2.2.2.2.2, (l.getD j (0, 0, 0, 0, 0, 0)).2.2.2.2.2, (l.getD j (0, 0, 0, 0, 0, 0)).2.2.2.1, (l.getD j (0, 0, 0, 0, 0, 0)).1, (l.getD j (0, 0, 0, 0, 0, 0)).2.1, (l.getD j (0, 0, 0, 0, 0, 0)).2.2.2.2.2, o.h⟩ : CL)); simp [go_sem, sEv, sLook, nbeq, i64_w, -List.getD_eq_getElem?_getD, e0_, e1_, Try.underlying26])) ?_
            refine t_is (.pointer (some ⟨g32, 4, none⟩)) rfl rfl rfl rfl (fun W_ hW_ F_ => by simp [go_sem, sEv, sLook, nbeq, i64_w, -List.getD_eq_getElem?_getD, Try.underlying44]) ?_
            refine t_is (.int .i64 ((l.getD j (0, 0, 0, 0, 0, 0)).2.2.2.2.2)) rfl rfl rfl rfl (fun W_ hW_ F_ => by have eb_ := ((((((((hk40.on hb55).keep hk58 (by omega)).keep hk64 (by omega)).keep hk68 (by omega)).on hb71).keep hk73 (by omega)).keep hk76 (by omega)).on (below_of_drew hW_)); have e0_ := eb_.cellv (i := 4) (v := (.int .i64 ((l.getD j (0, 0, 0, 0, 0, 0)).2.2.2.2.2) : Value)) rfl; simp [go_sem, sEv, sLook, nbeq, i64_w, -List.getD_eq_getElem?_getD, e0_]) ?_
            refine t_call (f := 26) (args := #[.int .i64 ((l.getD j (0, 0, 0, 0, 0, 0)).2.2.2.2.2)]) (Is (.agg #[.int .i64 (((l.getD j (0, 0, 0, 0, 0, 0)).2.2.2.2.2) / 9223372036854775808), .int .u64 (((l.getD j (0, 0, 0, 0, 0, 0)).2.2.2.2.2) % 18446744073709551616)])) rfl rfl rfl rfl (fun W_ => by simp [go_sem, sEv, sLook, nbeq, i64_w, -List.getD_eq_getElem?_getD]) (fun W_ hW_ F_ => ?_) ?_
            · refine (rof_calls ((l.getD j (0, 0, 0, 0, 0, 0)).2.2.2.2.2) (hv _ (getD_mem l j (0, 0, 0, 0, 0, 0) (by omega))) W_).mono ?_
              rintro e_ w_ ⟨rfl, hb_⟩
              exact ⟨_, rfl, rfl, hb_⟩
            rintro _ rfl
            refine t_tail ?_
            intro w78 hb79_ F80
            have hb79 := below_of_drew hb79_
            have hs_w78 := hb79.size
            refine rw_call rfl rfl rfl rfl (f := 25) (args := #[.agg #[.int .i64 o.hi, .int .u64 o.lo], .agg #[.int .i64 (((l.getD j (0, 0, 0, 0, 0, 0)).2.2.2.2.2) / 9223372036854775808), .int .u64 (((l.getD j (0, 0, 0, 0, 0, 0)).2.2.2.2.2) % 18446744073709551616)]]) (by simp [go_sem, sEv, sLook, nbeq, i64_w, -List.getD_eq_getElem?_getD]) (radd_calls o.hi o.lo (((l.getD j (0, 0, 0, 0, 0, 0)).2.2.2.2.2) / 9223372036854775808) (((l.getD j (0, 0, 0, 0, 0, 0)).2.2.2.2.2) % 18446744073709551616) hhi_ hlo_ (by have h_ := (hv _ (getD_mem l j (0, 0, 0, 0, 0, 0) (by omega))); omega) (by omega) w78) ?_
            rintro e_ w81 ⟨rfl, hb82⟩
            refine ⟨_, rfl, ?_⟩
            have hs_w81 := hb82.size
            refine rw_val (v := .pointer (some ⟨g7, 1, none⟩)) (w' := w81) rfl rfl rfl rfl (by simp [go_sem, sEv, sLook, nbeq, i64_w, -List.getD_eq_getElem?_getD, Try.underlying31]) ?_
            refine rw_seg (g := g7) (off := 1) (ty := 26) (p := .tmp 76) (x := .tmp 75) (v := .agg #[.int .i64 (wh o.hi o.lo (((l.getD j (0, 0, 0, 0, 0, 0)).2.2.2.2.2) / 9223372036854775808) (((l.getD j (0, 0, 0, 0, 0, 0)).2.2.2.2.2) % 18446744073709551616)), .int .u64 (wl o.lo (((l.getD j (0, 0, 0, 0, 0, 0)).2.2.2.2.2) % 18446744073709551616))]) (cs' := carr (⟨(o.cnt + 1), (wh o.hi o.lo (((l.getD j (0, 0, 0, 0, 0, 0)).2.2.2.2.2) / 9223372036854775808) (((l.getD j (0, 0, 0, 0, 0, 0)).2.2.2.2.2) % 18446744073709551616)), (wl o.lo (((l.getD j (0, 0, 0, 0, 0, 0)).2.2.2.2.2) % 18446744073709551616)), (l.getD j (0, 0, 0, 0, 0, 0)).2.2.2.2.2, (l.getD j (0, 0, 0, 0, 0, 0)).2.2.2.2.2, (l.getD j (0, 0, 0, 0, 0, 0)).2.2.2.1, (l.getD j (0, 0, 0, 0, 0, 0)).1, (l.getD j (0, 0, 0, 0, 0, 0)).2.1, (l.getD j (0, 0, 0, 0, 0, 0)).2.2.2.2.2, o.h⟩ : CL)) rfl rfl rfl rfl rfl rfl ((hb77.on hb79).on hb82) (by kernel_rfl) (by rw [carr_size]; simp [Value.cells] <;> omega) (by intro q hq; simp only [List.mem_cons, List.not_mem_nil, or_false, Value.cells] at hq; (first | (rcases hq with rfl | rfl | rfl | rfl <;> rfl) | (rcases hq with rfl | rfl <;> rfl) | (subst hq; rfl))) (seg_sum (⟨(o.cnt + 1), o.hi, o.lo, (l.getD j (0, 0, 0, 0, 0, 0)).2.2.2.2.2, (l.getD j (0, 0, 0, 0, 0, 0)).2.2.2.2.2, (l.getD j (0, 0, 0, 0, 0, 0)).2.2.2.1, (l.getD j (0, 0, 0, 0, 0, 0)).1, (l.getD j (0, 0, 0, 0, 0, 0)).2.1, (l.getD j (0, 0, 0, 0, 0, 0)).2.2.2.2.2, o.h⟩ : CL) (wh o.hi o.lo (((l.getD j (0, 0, 0, 0, 0, 0)).2.2.2.2.2) / 9223372036854775808) (((l.getD j (0, 0, 0, 0, 0, 0)).2.2.2.2.2) % 18446744073709551616)) (wl o.lo (((l.getD j (0, 0, 0, 0, 0, 0)).2.2.2.2.2) % 18446744073709551616))) ?_
            intro w83 hk84 hb85
            have hs_w83 := hk84.size
            refine rw_end ?_
            refine w_weaken (G' := [(0, .slice (some ad23) l.length c1), (2, .pointer (some ⟨g1, 0, none⟩)), (3, .pointer (some ⟨g7, 0, none⟩)), (4, .int .i64 ((j : Nat) : Int)), (5, .pointer (some ⟨g32, 0, none⟩))]) ⟨rfl, rfl, rfl, rfl, rfl, trivial⟩ ?_
            refine w_seq ?_
            refine w_region ?_
            refine rw_val (v := .pointer (some ⟨g32, 4, none⟩)) (w' := w83) rfl rfl rfl rfl (by simp [go_sem, sEv, sLook, nbeq, i64_w, -List.getD_eq_getElem?_getD, Try.underlying44]) ?_
            refine rw_val (v := .int .i64 ((l.getD j (0, 0, 0, 0, 0, 0)).2.2.2.2.2)) (w' := w83) rfl rfl rfl rfl (by have eb_ := ((((((((((hk40.on hb55).keep hk58 (by omega)).keep hk64 (by omega)).keep hk68 (by omega)).on hb71).keep hk73 (by omega)).keep hk76 (by omega)).on hb79).on hb82).keep hk84 (by omega)); have e0_ := eb_.cellv (i := 4) (v := (.int .i64 ((l.getD j (0, 0, 0, 0, 0, 0)).2.2.2.2.2) : Value)) rfl; simp [go_sem, sEv, sLook, nbeq, i64_w, -List.getD_eq_getElem?_getD, e0_]) ?_
            refine rw_call rfl rfl rfl rfl (f := 27) (args := #[.int .i64 ((l.getD j (0, 0, 0, 0, 0, 0)).2.2.2.2.2)]) (by simp [go_sem, sEv, sLook, nbeq, i64_w, -List.getD_eq_getElem?_getD]) (rbits_calls ((l.getD j (0, 0, 0, 0, 0, 0)).2.2.2.2.2) (hv _ (getD_mem l j (0, 0, 0, 0, 0, 0) (by omega))) w83) ?_
            rintro e_ w86 ⟨rfl, hb87⟩
            refine ⟨_, rfl, ?_⟩
            have hs_w86 := hb87.size
            have hbl_ := blen_64 ((l.getD j (0, 0, 0, 0, 0, 0)).2.2.2.2.2) (hv _ (getD_mem l j (0, 0, 0, 0, 0, 0) (by omega)))
            have hat_ := atF_bnd hB_ (blen ((l.getD j (0, 0, 0, 0, 0, 0)).2.2.2.2.2).natAbs)
            rw [hlt_] at hat_
            refine rw_val (v := .int .i64 (((blen ((l.getD j (0, 0, 0, 0, 0, 0)).2.2.2.2.2).natAbs) : Nat) : Int)) (w' := w86) rfl rfl rfl rfl rfl ?_
            refine rw_end ?_
            refine w_weaken (G' := [(0, .slice (some ad23) l.length c1), (2, .pointer (some ⟨g1, 0, none⟩)), (3, .pointer (some ⟨g7, 0, none⟩)), (4, .int .i64 ((j : Nat) : Int)), (7, .int .i64 (((blen ((l.getD j (0, 0, 0, 0, 0, 0)).2.2.2.2.2).natAbs) : Nat) : Int))]) ⟨rfl, rfl, rfl, rfl, rfl, trivial⟩ ?_
            refine w_region ?_
            refine rw_val (v := .int .i64 (((blen ((l.getD j (0, 0, 0, 0, 0, 0)).2.2.2.2.2).natAbs) : Nat) : Int)) (w' := w86) rfl rfl rfl rfl rfl ?_
            refine rw_val (v := .int .i64 (((blen ((l.getD j (0, 0, 0, 0, 0, 0)).2.2.2.2.2).natAbs) : Nat) : Int)) (w' := w86) rfl rfl rfl rfl rfl ?_
            refine rw_val (v := .pointer (some ⟨g7, 9, none⟩)) (w' := w86) rfl rfl rfl rfl (by simp [go_sem, sEv, sLook, nbeq, i64_w, -List.getD_eq_getElem?_getD, Try.underlying31]) ?_
            refine rw_val (v := .pointer (some ⟨g7, 9 + (blen ((l.getD j (0, 0, 0, 0, 0, 0)).2.2.2.2.2).natAbs), none⟩)) (w' := w86) rfl rfl rfl rfl (run_as (addr_hist (blen ((l.getD j (0, 0, 0, 0, 0, 0)).2.2.2.2.2).natAbs) (by omega) _)) ?_
            refine rw_val (v := .int .i64 (atF o.h (blen ((l.getD j (0, 0, 0, 0, 0, 0)).2.2.2.2.2).natAbs))) (w' := w86) rfl rfl rfl rfl (by have e0_ := ((hb85.on hb87)).cellv (cHA (⟨(o.cnt + 1), (wh o.hi o.lo (((l.getD j (0, 0, 0, 0, 0, 0)).2.2.2.2.2) / 9223372036854775808) (((l.getD j (0, 0, 0, 0, 0, 0)).2.2.2.2.2) % 18446744073709551616)), (wl o.lo (((l.getD j (0, 0, 0, 0, 0, 0)).2.2.2.2.2) % 18446744073709551616)), (l.getD j (0, 0, 0, 0, 0, 0)).2.2.2.2.2, (l.getD j (0, 0, 0, 0, 0, 0)).2.2.2.2.2, (l.getD j (0, 0, 0, 0, 0, 0)).2.2.2.1, (l.getD j (0, 0, 0, 0, 0, 0)).1, (l.getD j (0, 0, 0, 0, 0, 0)).2.1, (l.getD j (0, 0, 0, 0, 0, 0)).2.2.2.2.2, o.h⟩ : CL) (blen ((l.getD j (0, 0, 0, 0, 0, 0)).2.2.2.2.2).natAbs) (by omega)); simp [go_sem, sEv, sLook, nbeq, i64_w, -List.getD_eq_getElem?_getD, e0_]) ?_
            refine rw_val (v := .int .i64 ((atF o.h (blen ((l.getD j (0, 0, 0, 0, 0, 0)).2.2.2.2.2).natAbs)) + 1)) (w' := w86) rfl rfl rfl rfl (by simp [go_sem, sEv, sLook, nbeq, i64_w, -List.getD_eq_getElem?_getD]; exact wrap_id (by omega) (by omega)) ?_
            refine rw_val (v := .pointer (some ⟨g7, 9, none⟩)) (w' := w86) rfl rfl rfl rfl (by simp [go_sem, sEv, sLook, nbeq, i64_w, -List.getD_eq_getElem?_getD, Try.underlying31]) ?_
            refine rw_val (v := .pointer (some ⟨g7, 9 + (blen ((l.getD j (0, 0, 0, 0, 0, 0)).2.2.2.2.2).natAbs), none⟩)) (w' := w86) rfl rfl rfl rfl (run_as (addr_hist (blen ((l.getD j (0, 0, 0, 0, 0, 0)).2.2.2.2.2).natAbs) (by omega) _)) ?_
            refine rw_seg (g := g7) (off := (9 + (blen ((l.getD j (0, 0, 0, 0, 0, 0)).2.2.2.2.2).natAbs))) (ty := 3) (p := .tmp 87) (x := .tmp 85) (v := .int .i64 ((atF o.h (blen ((l.getD j (0, 0, 0, 0, 0, 0)).2.2.2.2.2).natAbs)) + 1)) (cs' := carr (⟨(o.cnt + 1), (wh o.hi o.lo (((l.getD j (0, 0, 0, 0, 0, 0)).2.2.2.2.2) / 9223372036854775808) (((l.getD j (0, 0, 0, 0, 0, 0)).2.2.2.2.2) % 18446744073709551616)), (wl o.lo (((l.getD j (0, 0, 0, 0, 0, 0)).2.2.2.2.2) % 18446744073709551616)), (l.getD j (0, 0, 0, 0, 0, 0)).2.2.2.2.2, (l.getD j (0, 0, 0, 0, 0, 0)).2.2.2.2.2, (l.getD j (0, 0, 0, 0, 0, 0)).2.2.2.1, (l.getD j (0, 0, 0, 0, 0, 0)).1, (l.getD j (0, 0, 0, 0, 0, 0)).2.1, (l.getD j (0, 0, 0, 0, 0, 0)).2.2.2.2.2, (updF o.h (blen ((l.getD j (0, 0, 0, 0, 0, 0)).2.2.2.2.2).natAbs) ((atF o.h (blen ((l.getD j (0, 0, 0, 0, 0, 0)).2.2.2.2.2).natAbs)) + 1))⟩ : CL)) rfl rfl rfl rfl rfl rfl (hb85.on hb87) (by kernel_rfl) (by rw [carr_size]; show 9 + (blen ((l.getD j (0, 0, 0, 0, 0, 0)).2.2.2.2.2).natAbs) + 1 ≤ 74; omega) (by intro q hq; simp only [List.mem_cons, List.not_mem_nil, or_false, Value.cells] at hq; (first | (rcases hq with rfl | rfl | rfl | rfl <;> rfl) | (rcases hq with rfl | rfl <;> rfl) | (subst hq; rfl))) (seg_h (⟨(o.cnt + 1), (wh o.hi o.lo (((l.getD j (0, 0, 0, 0, 0, 0)).2.2.2.2.2) / 9223372036854775808) (((l.getD j (0, 0, 0, 0, 0, 0)).2.2.2.2.2) % 18446744073709551616)), (wl o.lo (((l.getD j (0, 0, 0, 0, 0, 0)).2.2.2.2.2) % 18446744073709551616)), (l.getD j (0, 0, 0, 0, 0, 0)).2.2.2.2.2, (l.getD j (0, 0, 0, 0, 0, 0)).2.2.2.2.2, (l.getD j (0, 0, 0, 0, 0, 0)).2.2.2.1, (l.getD j (0, 0, 0, 0, 0, 0)).1, (l.getD j (0, 0, 0, 0, 0, 0)).2.1, (l.getD j (0, 0, 0, 0, 0, 0)).2.2.2.2.2, o.h⟩ : CL) (blen ((l.getD j (0, 0, 0, 0, 0, 0)).2.2.2.2.2).natAbs) (by omega) ((atF o.h (blen ((l.getD j (0, 0, 0, 0, 0, 0)).2.2.2.2.2).natAbs)) + 1)) ?_
            intro w88 hk89 hb90
            have hs_w88 := hk89.size
            refine rw_end ?_
            refine w_weaken (G' := [(0, .slice (some ad23) l.length c1), (2, .pointer (some ⟨g1, 0, none⟩)), (3, .pointer (some ⟨g7, 0, none⟩)), (4, .int .i64 ((j : Nat) : Int))]) ⟨rfl, rfl, rfl, rfl, trivial⟩ ?_
            refine w_blk ?_
            refine w_region ?_
            refine rw_val (v := .int .i64 ((j : Nat) : Int)) (w' := w88) rfl rfl rfl rfl rfl ?_
            refine rw_val (v := .int .i64 ((j + 1 : Nat) : Int)) (w' := w88) rfl rfl rfl rfl (by simp [go_sem, sEv, sLook, nbeq, i64_w, -List.getD_eq_getElem?_getD]; exact wrap_id (by omega) (by omega)) ?_
            refine rw_val (v := .int .i64 ((j + 1 : Nat) : Int)) (w' := w88) rfl rfl rfl rfl rfl ?_
            refine rw_end ?_
            exact w_back (m_ - 1) [(0, .slice (some ad23) l.length c1), (2, .pointer (some ⟨g1, 0, none⟩)), (3, .pointer (some ⟨g7, 0, none⟩)), (4, .int .i64 ((j + 1 : Nat) : Int))] (by omega) ⟨rfl, rfl, rfl, rfl, trivial⟩ ⟨(j + 1), (⟨(o.cnt + 1), (wh o.hi o.lo (((l.getD j (0, 0, 0, 0, 0, 0)).2.2.2.2.2) / 9223372036854775808) (((l.getD j (0, 0, 0, 0, 0, 0)).2.2.2.2.2) % 18446744073709551616)), (wl o.lo (((l.getD j (0, 0, 0, 0, 0, 0)).2.2.2.2.2) % 18446744073709551616)), (l.getD j (0, 0, 0, 0, 0, 0)).2.2.2.2.2, (l.getD j (0, 0, 0, 0, 0, 0)).2.2.2.2.2, (l.getD j (0, 0, 0, 0, 0, 0)).2.2.2.1, (l.getD j (0, 0, 0, 0, 0, 0)).1, (l.getD j (0, 0, 0, 0, 0, 0)).2.1, (l.getD j (0, 0, 0, 0, 0, 0)).2.2.2.2.2, (updF o.h (blen ((l.getD j (0, 0, 0, 0, 0, 0)).2.2.2.2.2).natAbs) ((atF o.h (blen ((l.getD j (0, 0, 0, 0, 0, 0)).2.2.2.2.2).natAbs)) + 1))⟩ : CL), by omega, (hk89.below (by omega) (chain (hk84.below (by omega) (chain (chain (hk76.below (by omega) (hk73.below (by omega) (chain (hk68.below (by omega) (hk64.below (by omega) (hk58.below (by omega) (chain (hk39.below (by omega) (chain hB_L16 hb34)) hb55)))) hb71))) hb79) hb82)) hb87)), (of_leaf l j (by omega) (by omega) hv (l.getD j (0, 0, 0, 0, 0, 0)) rfl o hf18 ((l.getD j (0, 0, 0, 0, 0, 0)).2.2.2.2.2) ((l.getD j (0, 0, 0, 0, 0, 0)).2.2.2.2.2) ((l.getD j (0, 0, 0, 0, 0, 0)).2.2.2.1) ((l.getD j (0, 0, 0, 0, 0, 0)).1) ((l.getD j (0, 0, 0, 0, 0, 0)).2.1) ((l.getD j (0, 0, 0, 0, 0, 0)).2.2.2.2.2) (by rw [if_pos (.inr (of_decide_eq_true cMn))]) (by rw [if_pos (.inr (of_decide_eq_true cMx))]) (by rw [if_pos (.inr (cL))])).symm, hb90, ((((((((((((((hf20.on hb34).keep hk39 (by omega)).on hb55).keep hk58 (by omega)).keep hk64 (by omega)).keep hk68 (by omega)).on hb71).keep hk73 (by omega)).keep hk76 (by omega)).on hb79).on hb82).keep hk84 (by omega)).on hb87).keep hk89 (by omega)), (wrap_rng _), rfl⟩
          · refine w_skip ?_
            refine w_seq ?_
            refine w_region ?_
            refine rw_val (v := .pointer (some ⟨g7, 0, none⟩)) (w' := w70) rfl rfl rfl rfl (by simp [go_sem, sEv, sLook, nbeq, i64_w, -List.getD_eq_getElem?_getD, Try.underlying31]) ?_
            refine rw_val (v := .int .i64 o.cnt) (w' := w70) rfl rfl rfl rfl (by have eb_ := (hb69.on hb71); have e0_ := eb_.cellv (v := .int .i64 o.cnt) (cA0 (⟨o.cnt, o.hi, o.lo, (l.getD j (0, 0, 0, 0, 0, 0)).2.2.2.2.2, (l.getD j (0, 0, 0, 0, 0, 0)).2.2.2.2.2, o.t, o.src, o.seq, o.v, o.h⟩ : CL)); simp [go_sem, sEv, sLook, nbeq, i64_w, -List.getD_eq_getElem?_getD, e0_]) ?_
            refine rw_val (v := .int .i64 (o.cnt + 1)) (w' := w70) rfl rfl rfl rfl (by simp [go_sem, sEv, sLook, nbeq, i64_w, -List.getD_eq_getElem?_getD]; exact wrap_id (by omega) (by omega)) ?_
            refine rw_val (v := .pointer (some ⟨g7, 0, none⟩)) (w' := w70) rfl rfl rfl rfl (by simp [go_sem, sEv, sLook, nbeq, i64_w, -List.getD_eq_getElem?_getD, Try.underlying31]) ?_
            refine rw_seg (g := g7) (off := 0) (ty := 3) (p := .tmp 69) (x := .tmp 68) (v := .int .i64 (o.cnt + 1)) (cs' := carr (⟨(o.cnt + 1), o.hi, o.lo, (l.getD j (0, 0, 0, 0, 0, 0)).2.2.2.2.2, (l.getD j (0, 0, 0, 0, 0, 0)).2.2.2.2.2, o.t, o.src, o.seq, o.v, o.h⟩ : CL)) rfl rfl rfl rfl rfl rfl (hb69.on hb71) (by kernel_rfl) (by rw [carr_size]; simp [Value.cells] <;> omega) (by intro q hq; simp only [List.mem_cons, List.not_mem_nil, or_false, Value.cells] at hq; (first | (rcases hq with rfl | rfl | rfl | rfl <;> rfl) | (rcases hq with rfl | rfl <;> rfl) | (subst hq; rfl))) (seg_cnt (⟨o.cnt, o.hi, o.lo, (l.getD j (0, 0, 0, 0, 0, 0)).2.2.2.2.2, (l.getD j (0, 0, 0, 0, 0, 0)).2.2.2.2.2, o.t, o.src, o.seq, o.v, o.h⟩ : CL) (o.cnt + 1)) ?_
            intro w91 hk92 hb93
            have hs_w91 := hk92.size
            refine rw_end ?_
            refine w_weaken (G' := [(0, .slice (some ad23) l.length c1), (2, .pointer (some ⟨g1, 0, none⟩)), (3, .pointer (some ⟨g7, 0, none⟩)), (4, .int .i64 ((j : Nat) : Int)), (5, .pointer (some ⟨g32, 0, none⟩))]) ⟨rfl, rfl, rfl, rfl, rfl, trivial⟩ ?_
            refine w_seq ?_
            refine w_drawk (M := [0, 1, 0, 4, 12, 31, 63, 127]) (ss := [Is (.pointer (some ⟨g7, 1, none⟩)), Is (.agg #[.int .i64 o.hi, .int .u64 o.lo]), Is (.pointer (some ⟨g32, 4, none⟩)), Is (.int .i64 ((l.getD j (0, 0, 0, 0, 0, 0)).2.2.2.2.2)), (Is (.agg #[.int .i64 (((l.getD j (0, 0, 0, 0, 0, 0)).2.2.2.2.2) / 9223372036854775808), .int .u64 (((l.getD j (0, 0, 0, 0, 0, 0)).2.2.2.2.2) % 18446744073709551616)]))]) 5 rfl (by decide +kernel) ?_
            refine t_is (.pointer (some ⟨g7, 1, none⟩)) rfl rfl rfl rfl (fun W_ hW_ F_ => by simp [go_sem, sEv, sLook, nbeq, i64_w, -List.getD_eq_getElem?_getD, Try.underlying31]) ?_
            refine t_is (.agg #[.int .i64 o.hi, .int .u64 o.lo]) rfl rfl rfl rfl (fun W_ hW_ F_ => (by have eb_ := (hb93.on (below_of_drew hW_)); have e0_ := eb_.cellv (v := .int .i64 o.hi) (cA1 (⟨(o.cnt + 1), o.hi, o.lo, (l.getD j (0, 0, 0, 0, 0, 0)).2.2.2.2.2, (l.getD j (0, 0, 0, 0, 0, 0)).2.2.2.2.2, o.t, o.src, o.seq, o.v, o.h⟩ : CL)); have e1_ := eb_.cellv (v := .int .u64 o.lo) (cA2 (⟨(o.cnt + 1), o.hi, o.lo, (l.getD j (0, 0, 0, 0, 0, 0)).2.2.2.2.2, (l.getD j (0, 0, 0, 0, 0, 0)).2.2.2.2.2, o.t, o.src, o.seq, o.v, o.h⟩ : CL)); simp [go_sem, sEv, sLook, nbeq, i64_w, -List.getD_eq_getElem?_getD, e0_, e1_, Try.underlying26])) ?_
            refine t_is (.pointer (some ⟨g32, 4, none⟩)) rfl rfl rfl rfl (fun W_ hW_ F_ => by simp [go_sem, sEv, sLook, nbeq, i64_w, -List.getD_eq_getElem?_getD, Try.underlying44]) ?_
            refine t_is (.int .i64 ((l.getD j (0, 0, 0, 0, 0, 0)).2.2.2.2.2)) rfl rfl rfl rfl (fun W_ hW_ F_ => by have eb_ := (((((((hk40.on hb55).keep hk58 (by omega)).keep hk64 (by omega)).keep hk68 (by omega)).on hb71).keep hk92 (by omega)).on (below_of_drew hW_)); have e0_ := eb_.cellv (i := 4) (v := (.int .i64 ((l.getD j (0, 0, 0, 0, 0, 0)).2.2.2.2.2) : Value)) rfl; simp [go_sem, sEv, sLook, nbeq, i64_w, -List.getD_eq_getElem?_getD, e0_]) ?_
            refine t_call (f := 26) (args := #[.int .i64 ((l.getD j (0, 0, 0, 0, 0, 0)).2.2.2.2.2)]) (Is (.agg #[.int .i64 (((l.getD j (0, 0, 0, 0, 0, 0)).2.2.2.2.2) / 9223372036854775808), .int .u64 (((l.getD j (0, 0, 0, 0, 0, 0)).2.2.2.2.2) % 18446744073709551616)])) rfl rfl rfl rfl (fun W_ => by simp [go_sem, sEv, sLook, nbeq, i64_w, -List.getD_eq_getElem?_getD]) (fun W_ hW_ F_ => ?_) ?_
            · refine (rof_calls ((l.getD j (0, 0, 0, 0, 0, 0)).2.2.2.2.2) (hv _ (getD_mem l j (0, 0, 0, 0, 0, 0) (by omega))) W_).mono ?_
              rintro e_ w_ ⟨rfl, hb_⟩
              exact ⟨_, rfl, rfl, hb_⟩
            rintro _ rfl
            refine t_tail ?_
            intro w94 hb95_ F96
            have hb95 := below_of_drew hb95_
            have hs_w94 := hb95.size
            refine rw_call rfl rfl rfl rfl (f := 25) (args := #[.agg #[.int .i64 o.hi, .int .u64 o.lo], .agg #[.int .i64 (((l.getD j (0, 0, 0, 0, 0, 0)).2.2.2.2.2) / 9223372036854775808), .int .u64 (((l.getD j (0, 0, 0, 0, 0, 0)).2.2.2.2.2) % 18446744073709551616)]]) (by simp [go_sem, sEv, sLook, nbeq, i64_w, -List.getD_eq_getElem?_getD]) (radd_calls o.hi o.lo (((l.getD j (0, 0, 0, 0, 0, 0)).2.2.2.2.2) / 9223372036854775808) (((l.getD j (0, 0, 0, 0, 0, 0)).2.2.2.2.2) % 18446744073709551616) hhi_ hlo_ (by have h_ := (hv _ (getD_mem l j (0, 0, 0, 0, 0, 0) (by omega))); omega) (by omega) w94) ?_
            rintro e_ w97 ⟨rfl, hb98⟩
            refine ⟨_, rfl, ?_⟩
            have hs_w97 := hb98.size
            refine rw_val (v := .pointer (some ⟨g7, 1, none⟩)) (w' := w97) rfl rfl rfl rfl (by simp [go_sem, sEv, sLook, nbeq, i64_w, -List.getD_eq_getElem?_getD, Try.underlying31]) ?_
            refine rw_seg (g := g7) (off := 1) (ty := 26) (p := .tmp 76) (x := .tmp 75) (v := .agg #[.int .i64 (wh o.hi o.lo (((l.getD j (0, 0, 0, 0, 0, 0)).2.2.2.2.2) / 9223372036854775808) (((l.getD j (0, 0, 0, 0, 0, 0)).2.2.2.2.2) % 18446744073709551616)), .int .u64 (wl o.lo (((l.getD j (0, 0, 0, 0, 0, 0)).2.2.2.2.2) % 18446744073709551616))]) (cs' := carr (⟨(o.cnt + 1), (wh o.hi o.lo (((l.getD j (0, 0, 0, 0, 0, 0)).2.2.2.2.2) / 9223372036854775808) (((l.getD j (0, 0, 0, 0, 0, 0)).2.2.2.2.2) % 18446744073709551616)), (wl o.lo (((l.getD j (0, 0, 0, 0, 0, 0)).2.2.2.2.2) % 18446744073709551616)), (l.getD j (0, 0, 0, 0, 0, 0)).2.2.2.2.2, (l.getD j (0, 0, 0, 0, 0, 0)).2.2.2.2.2, o.t, o.src, o.seq, o.v, o.h⟩ : CL)) rfl rfl rfl rfl rfl rfl ((hb93.on hb95).on hb98) (by kernel_rfl) (by rw [carr_size]; simp [Value.cells] <;> omega) (by intro q hq; simp only [List.mem_cons, List.not_mem_nil, or_false, Value.cells] at hq; (first | (rcases hq with rfl | rfl | rfl | rfl <;> rfl) | (rcases hq with rfl | rfl <;> rfl) | (subst hq; rfl))) (seg_sum (⟨(o.cnt + 1), o.hi, o.lo, (l.getD j (0, 0, 0, 0, 0, 0)).2.2.2.2.2, (l.getD j (0, 0, 0, 0, 0, 0)).2.2.2.2.2, o.t, o.src, o.seq, o.v, o.h⟩ : CL) (wh o.hi o.lo (((l.getD j (0, 0, 0, 0, 0, 0)).2.2.2.2.2) / 9223372036854775808) (((l.getD j (0, 0, 0, 0, 0, 0)).2.2.2.2.2) % 18446744073709551616)) (wl o.lo (((l.getD j (0, 0, 0, 0, 0, 0)).2.2.2.2.2) % 18446744073709551616))) ?_
            intro w99 hk100 hb101
            have hs_w99 := hk100.size
            refine rw_end ?_
            refine w_weaken (G' := [(0, .slice (some ad23) l.length c1), (2, .pointer (some ⟨g1, 0, none⟩)), (3, .pointer (some ⟨g7, 0, none⟩)), (4, .int .i64 ((j : Nat) : Int)), (5, .pointer (some ⟨g32, 0, none⟩))]) ⟨rfl, rfl, rfl, rfl, rfl, trivial⟩ ?_
            refine w_seq ?_
            refine w_region ?_
            refine rw_val (v := .pointer (some ⟨g32, 4, none⟩)) (w' := w99) rfl rfl rfl rfl (by simp [go_sem, sEv, sLook, nbeq, i64_w, -List.getD_eq_getElem?_getD, Try.underlying44]) ?_
            refine rw_val (v := .int .i64 ((l.getD j (0, 0, 0, 0, 0, 0)).2.2.2.2.2)) (w' := w99) rfl rfl rfl rfl (by have eb_ := (((((((((hk40.on hb55).keep hk58 (by omega)).keep hk64 (by omega)).keep hk68 (by omega)).on hb71).keep hk92 (by omega)).on hb95).on hb98).keep hk100 (by omega)); have e0_ := eb_.cellv (i := 4) (v := (.int .i64 ((l.getD j (0, 0, 0, 0, 0, 0)).2.2.2.2.2) : Value)) rfl; simp [go_sem, sEv, sLook, nbeq, i64_w, -List.getD_eq_getElem?_getD, e0_]) ?_
            refine rw_call rfl rfl rfl rfl (f := 27) (args := #[.int .i64 ((l.getD j (0, 0, 0, 0, 0, 0)).2.2.2.2.2)]) (by simp [go_sem, sEv, sLook, nbeq, i64_w, -List.getD_eq_getElem?_getD]) (rbits_calls ((l.getD j (0, 0, 0, 0, 0, 0)).2.2.2.2.2) (hv _ (getD_mem l j (0, 0, 0, 0, 0, 0) (by omega))) w99) ?_
            rintro e_ w102 ⟨rfl, hb103⟩
            refine ⟨_, rfl, ?_⟩
            have hs_w102 := hb103.size
            have hbl_ := blen_64 ((l.getD j (0, 0, 0, 0, 0, 0)).2.2.2.2.2) (hv _ (getD_mem l j (0, 0, 0, 0, 0, 0) (by omega)))
            have hat_ := atF_bnd hB_ (blen ((l.getD j (0, 0, 0, 0, 0, 0)).2.2.2.2.2).natAbs)
            rw [hlt_] at hat_
            refine rw_val (v := .int .i64 (((blen ((l.getD j (0, 0, 0, 0, 0, 0)).2.2.2.2.2).natAbs) : Nat) : Int)) (w' := w102) rfl rfl rfl rfl rfl ?_
            refine rw_end ?_
            refine w_weaken (G' := [(0, .slice (some ad23) l.length c1), (2, .pointer (some ⟨g1, 0, none⟩)), (3, .pointer (some ⟨g7, 0, none⟩)), (4, .int .i64 ((j : Nat) : Int)), (7, .int .i64 (((blen ((l.getD j (0, 0, 0, 0, 0, 0)).2.2.2.2.2).natAbs) : Nat) : Int))]) ⟨rfl, rfl, rfl, rfl, rfl, trivial⟩ ?_
            refine w_region ?_
            refine rw_val (v := .int .i64 (((blen ((l.getD j (0, 0, 0, 0, 0, 0)).2.2.2.2.2).natAbs) : Nat) : Int)) (w' := w102) rfl rfl rfl rfl rfl ?_
            refine rw_val (v := .int .i64 (((blen ((l.getD j (0, 0, 0, 0, 0, 0)).2.2.2.2.2).natAbs) : Nat) : Int)) (w' := w102) rfl rfl rfl rfl rfl ?_
            refine rw_val (v := .pointer (some ⟨g7, 9, none⟩)) (w' := w102) rfl rfl rfl rfl (by simp [go_sem, sEv, sLook, nbeq, i64_w, -List.getD_eq_getElem?_getD, Try.underlying31]) ?_
            refine rw_val (v := .pointer (some ⟨g7, 9 + (blen ((l.getD j (0, 0, 0, 0, 0, 0)).2.2.2.2.2).natAbs), none⟩)) (w' := w102) rfl rfl rfl rfl (run_as (addr_hist (blen ((l.getD j (0, 0, 0, 0, 0, 0)).2.2.2.2.2).natAbs) (by omega) _)) ?_
            refine rw_val (v := .int .i64 (atF o.h (blen ((l.getD j (0, 0, 0, 0, 0, 0)).2.2.2.2.2).natAbs))) (w' := w102) rfl rfl rfl rfl (by have e0_ := ((hb101.on hb103)).cellv (cHA (⟨(o.cnt + 1), (wh o.hi o.lo (((l.getD j (0, 0, 0, 0, 0, 0)).2.2.2.2.2) / 9223372036854775808) (((l.getD j (0, 0, 0, 0, 0, 0)).2.2.2.2.2) % 18446744073709551616)), (wl o.lo (((l.getD j (0, 0, 0, 0, 0, 0)).2.2.2.2.2) % 18446744073709551616)), (l.getD j (0, 0, 0, 0, 0, 0)).2.2.2.2.2, (l.getD j (0, 0, 0, 0, 0, 0)).2.2.2.2.2, o.t, o.src, o.seq, o.v, o.h⟩ : CL) (blen ((l.getD j (0, 0, 0, 0, 0, 0)).2.2.2.2.2).natAbs) (by omega)); simp [go_sem, sEv, sLook, nbeq, i64_w, -List.getD_eq_getElem?_getD, e0_]) ?_
            refine rw_val (v := .int .i64 ((atF o.h (blen ((l.getD j (0, 0, 0, 0, 0, 0)).2.2.2.2.2).natAbs)) + 1)) (w' := w102) rfl rfl rfl rfl (by simp [go_sem, sEv, sLook, nbeq, i64_w, -List.getD_eq_getElem?_getD]; exact wrap_id (by omega) (by omega)) ?_
            refine rw_val (v := .pointer (some ⟨g7, 9, none⟩)) (w' := w102) rfl rfl rfl rfl (by simp [go_sem, sEv, sLook, nbeq, i64_w, -List.getD_eq_getElem?_getD, Try.underlying31]) ?_
            refine rw_val (v := .pointer (some ⟨g7, 9 + (blen ((l.getD j (0, 0, 0, 0, 0, 0)).2.2.2.2.2).natAbs), none⟩)) (w' := w102) rfl rfl rfl rfl (run_as (addr_hist (blen ((l.getD j (0, 0, 0, 0, 0, 0)).2.2.2.2.2).natAbs) (by omega) _)) ?_
            refine rw_seg (g := g7) (off := (9 + (blen ((l.getD j (0, 0, 0, 0, 0, 0)).2.2.2.2.2).natAbs))) (ty := 3) (p := .tmp 87) (x := .tmp 85) (v := .int .i64 ((atF o.h (blen ((l.getD j (0, 0, 0, 0, 0, 0)).2.2.2.2.2).natAbs)) + 1)) (cs' := carr (⟨(o.cnt + 1), (wh o.hi o.lo (((l.getD j (0, 0, 0, 0, 0, 0)).2.2.2.2.2) / 9223372036854775808) (((l.getD j (0, 0, 0, 0, 0, 0)).2.2.2.2.2) % 18446744073709551616)), (wl o.lo (((l.getD j (0, 0, 0, 0, 0, 0)).2.2.2.2.2) % 18446744073709551616)), (l.getD j (0, 0, 0, 0, 0, 0)).2.2.2.2.2, (l.getD j (0, 0, 0, 0, 0, 0)).2.2.2.2.2, o.t, o.src, o.seq, o.v, (updF o.h (blen ((l.getD j (0, 0, 0, 0, 0, 0)).2.2.2.2.2).natAbs) ((atF o.h (blen ((l.getD j (0, 0, 0, 0, 0, 0)).2.2.2.2.2).natAbs)) + 1))⟩ : CL)) rfl rfl rfl rfl rfl rfl (hb101.on hb103) (by kernel_rfl) (by rw [carr_size]; show 9 + (blen ((l.getD j (0, 0, 0, 0, 0, 0)).2.2.2.2.2).natAbs) + 1 ≤ 74; omega) (by intro q hq; simp only [List.mem_cons, List.not_mem_nil, or_false, Value.cells] at hq; (first | (rcases hq with rfl | rfl | rfl | rfl <;> rfl) | (rcases hq with rfl | rfl <;> rfl) | (subst hq; rfl))) (seg_h (⟨(o.cnt + 1), (wh o.hi o.lo (((l.getD j (0, 0, 0, 0, 0, 0)).2.2.2.2.2) / 9223372036854775808) (((l.getD j (0, 0, 0, 0, 0, 0)).2.2.2.2.2) % 18446744073709551616)), (wl o.lo (((l.getD j (0, 0, 0, 0, 0, 0)).2.2.2.2.2) % 18446744073709551616)), (l.getD j (0, 0, 0, 0, 0, 0)).2.2.2.2.2, (l.getD j (0, 0, 0, 0, 0, 0)).2.2.2.2.2, o.t, o.src, o.seq, o.v, o.h⟩ : CL) (blen ((l.getD j (0, 0, 0, 0, 0, 0)).2.2.2.2.2).natAbs) (by omega) ((atF o.h (blen ((l.getD j (0, 0, 0, 0, 0, 0)).2.2.2.2.2).natAbs)) + 1)) ?_
            intro w104 hk105 hb106
            have hs_w104 := hk105.size
            refine rw_end ?_
            refine w_weaken (G' := [(0, .slice (some ad23) l.length c1), (2, .pointer (some ⟨g1, 0, none⟩)), (3, .pointer (some ⟨g7, 0, none⟩)), (4, .int .i64 ((j : Nat) : Int))]) ⟨rfl, rfl, rfl, rfl, trivial⟩ ?_
            refine w_blk ?_
            refine w_region ?_
            refine rw_val (v := .int .i64 ((j : Nat) : Int)) (w' := w104) rfl rfl rfl rfl rfl ?_
            refine rw_val (v := .int .i64 ((j + 1 : Nat) : Int)) (w' := w104) rfl rfl rfl rfl (by simp [go_sem, sEv, sLook, nbeq, i64_w, -List.getD_eq_getElem?_getD]; exact wrap_id (by omega) (by omega)) ?_
            refine rw_val (v := .int .i64 ((j + 1 : Nat) : Int)) (w' := w104) rfl rfl rfl rfl rfl ?_
            refine rw_end ?_
            exact w_back (m_ - 1) [(0, .slice (some ad23) l.length c1), (2, .pointer (some ⟨g1, 0, none⟩)), (3, .pointer (some ⟨g7, 0, none⟩)), (4, .int .i64 ((j + 1 : Nat) : Int))] (by omega) ⟨rfl, rfl, rfl, rfl, trivial⟩ ⟨(j + 1), (⟨(o.cnt + 1), (wh o.hi o.lo (((l.getD j (0, 0, 0, 0, 0, 0)).2.2.2.2.2) / 9223372036854775808) (((l.getD j (0, 0, 0, 0, 0, 0)).2.2.2.2.2) % 18446744073709551616)), (wl o.lo (((l.getD j (0, 0, 0, 0, 0, 0)).2.2.2.2.2) % 18446744073709551616)), (l.getD j (0, 0, 0, 0, 0, 0)).2.2.2.2.2, (l.getD j (0, 0, 0, 0, 0, 0)).2.2.2.2.2, o.t, o.src, o.seq, o.v, (updF o.h (blen ((l.getD j (0, 0, 0, 0, 0, 0)).2.2.2.2.2).natAbs) ((atF o.h (blen ((l.getD j (0, 0, 0, 0, 0, 0)).2.2.2.2.2).natAbs)) + 1))⟩ : CL), by omega, (hk105.below (by omega) (chain (hk100.below (by omega) (chain (chain (hk92.below (by omega) (chain (hk68.below (by omega) (hk64.below (by omega) (hk58.below (by omega) (chain (hk39.below (by omega) (chain hB_L16 hb34)) hb55)))) hb71)) hb95) hb98)) hb103)), (of_leaf l j (by omega) (by omega) hv (l.getD j (0, 0, 0, 0, 0, 0)) rfl o hf18 ((l.getD j (0, 0, 0, 0, 0, 0)).2.2.2.2.2) ((l.getD j (0, 0, 0, 0, 0, 0)).2.2.2.2.2) o.t o.src o.seq o.v (by rw [if_pos (.inr (of_decide_eq_true cMn))]) (by rw [if_pos (.inr (of_decide_eq_true cMx))]) (by rw [if_neg (fun h_ => h_.elim (fun h2_ => absurd h2_ (by have h_ := cZ; simpa using h_)) (fun h2_ => (by rw [cL] at h2_; cases h2_)))])).symm, hb106, (((((((((((((hf20.on hb34).keep hk39 (by omega)).on hb55).keep hk58 (by omega)).keep hk64 (by omega)).keep hk68 (by omega)).on hb71).keep hk92 (by omega)).on hb95).on hb98).keep hk100 (by omega)).on hb103).keep hk105 (by omega)), (wrap_rng _), rfl⟩
        · have l107 : ¬ (o.mx < ((l.getD j (0, 0, 0, 0, 0, 0)).2.2.2.2.2)) := of_decide_eq_false cMx
          refine w_skip ?_
          refine w_seq ?_
          refine w_seq ?_
          refine w_region ?_
          refine rw_val (v := .int .i64 ((j : Nat) : Int)) (w' := w63) rfl rfl rfl rfl rfl ?_
          refine rw_val (v := .bool (((j : Nat) : Int) == 0)) (w' := w63) rfl rfl rfl rfl (by simp [go_sem, sEv, sLook, nbeq, i64_w, -List.getD_eq_getElem?_getD]) ?_
          refine rw_val (v := .bool (((j : Nat) : Int) == 0)) (w' := w63) rfl rfl rfl rfl rfl ?_
          refine rw_on (c := (((j : Nat) : Int) == 0)) rfl rfl rfl (by first | (rw [cZ]; rfl) | simp [cZ]) ?_
          refine rw_val (v := .agg #[.int .i64 ((l.getD j (0, 0, 0, 0, 0, 0)).2.2.2.1), .int .i64 ((l.getD j (0, 0, 0, 0, 0, 0)).1), .int .i64 ((l.getD j (0, 0, 0, 0, 0, 0)).2.1), .int .i64 ((l.getD j (0, 0, 0, 0, 0, 0)).2.2.2.2.2)]) (w' := w63) rfl rfl rfl rfl (by have eb_ := (hk59.keep hk64 (by omega)); have e0_ := eb_.cellv (i := 0) (v := (.int .i64 ((l.getD j (0, 0, 0, 0, 0, 0)).2.2.2.1) : Value)) rfl; have e1_ := eb_.cellv (i := 1) (v := (.int .i64 ((l.getD j (0, 0, 0, 0, 0, 0)).1) : Value)) rfl; have e2_ := eb_.cellv (i := 2) (v := (.int .i64 ((l.getD j (0, 0, 0, 0, 0, 0)).2.1) : Value)) rfl; have e3_ := eb_.cellv (i := 3) (v := (.int .i64 ((l.getD j (0, 0, 0, 0, 0, 0)).2.2.2.2.2) : Value)) rfl; simp [go_sem, sEv, sLook, nbeq, i64_w, -List.getD_eq_getElem?_getD, e0_, e1_, e2_, e3_, Try.underlying28]) ?_
          refine rw_on (c := (((j : Nat) : Int) == 0)) rfl rfl rfl (by first | (rw [cZ]; rfl) | simp [cZ]) ?_
          refine rw_val (v := .pointer (some ⟨g7, 5, none⟩)) (w' := w63) rfl rfl rfl rfl (by simp [go_sem, sEv, sLook, nbeq, i64_w, -List.getD_eq_getElem?_getD, Try.underlying31]) ?_
          refine rw_on (c := (((j : Nat) : Int) == 0)) rfl rfl rfl (by first | (rw [cZ]; rfl) | simp [cZ]) ?_
          refine rw_val (v := .agg #[.int .i64 o.t, .int .i64 o.src, .int .i64 o.seq, .int .i64 o.v]) (w' := w63) rfl rfl rfl rfl (by have eb_ := hb65; have e0_ := eb_.cellv (v := .int .i64 o.t) (cA5 (⟨o.cnt, o.hi, o.lo, (l.getD j (0, 0, 0, 0, 0, 0)).2.2.2.2.2, o.mx, o.t, o.src, o.seq, o.v, o.h⟩ : CL)); have e1_ := eb_.cellv (v := .int .i64 o.src) (cA6 (⟨o.cnt, o.hi, o.lo, (l.getD j (0, 0, 0, 0, 0, 0)).2.2.2.2.2, o.mx, o.t, o.src, o.seq, o.v, o.h⟩ : CL)); have e2_ := eb_.cellv (v := .int .i64 o.seq) (cA7 (⟨o.cnt, o.hi, o.lo, (l.getD j (0, 0, 0, 0, 0, 0)).2.2.2.2.2, o.mx, o.t, o.src, o.seq, o.v, o.h⟩ : CL)); have e3_ := eb_.cellv (v := .int .i64 o.v) (cA8 (⟨o.cnt, o.hi, o.lo, (l.getD j (0, 0, 0, 0, 0, 0)).2.2.2.2.2, o.mx, o.t, o.src, o.seq, o.v, o.h⟩ : CL)); simp [go_sem, sEv, sLook, nbeq, i64_w, -List.getD_eq_getElem?_getD, e0_, e1_, e2_, e3_, Try.underlying28]) ?_
          refine rw_on (c := (((j : Nat) : Int) == 0)) rfl rfl rfl (by first | (rw [cZ]; rfl) | simp [cZ]) ?_
          refine rw_call rfl rfl rfl rfl (f := 17) (args := #[.agg #[.int .i64 ((l.getD j (0, 0, 0, 0, 0, 0)).2.2.2.1), .int .i64 ((l.getD j (0, 0, 0, 0, 0, 0)).1), .int .i64 ((l.getD j (0, 0, 0, 0, 0, 0)).2.1), .int .i64 ((l.getD j (0, 0, 0, 0, 0, 0)).2.2.2.2.2)], .agg #[.int .i64 o.t, .int .i64 o.src, .int .i64 o.seq, .int .i64 o.v]]) (by simp [go_sem, sEv, sLook, nbeq, i64_w, -List.getD_eq_getElem?_getD]) (rlater_calls ((l.getD j (0, 0, 0, 0, 0, 0)).2.2.2.1) ((l.getD j (0, 0, 0, 0, 0, 0)).1) ((l.getD j (0, 0, 0, 0, 0, 0)).2.1) ((l.getD j (0, 0, 0, 0, 0, 0)).2.2.2.2.2) o.t o.src o.seq o.v w63) ?_
          rintro e_ w108 ⟨rfl, hb109⟩
          refine ⟨_, rfl, ?_⟩
          have hs_w108 := hb109.size
          refine rw_val (v := .bool (later ((l.getD j (0, 0, 0, 0, 0, 0)).2.2.2.1) ((l.getD j (0, 0, 0, 0, 0, 0)).1) ((l.getD j (0, 0, 0, 0, 0, 0)).2.1) ((l.getD j (0, 0, 0, 0, 0, 0)).2.2.2.2.2) o.t o.src o.seq o.v)) (w' := w108) rfl rfl rfl rfl (by first | (simp [go_sem, sEv, sLook, nbeq, i64_w, -List.getD_eq_getElem?_getD, cZ]; done) | (rw [cZ]; simp [go_sem, sEv, sLook, nbeq, i64_w, -List.getD_eq_getElem?_getD]; done) | (simp [go_sem, sEv, sLook, nbeq, i64_w, -List.getD_eq_getElem?_getD] <;> omega) | (simp [go_sem, sEv, sLook, nbeq, i64_w, -List.getD_eq_getElem?_getD]; intro h_; exact absurd (by omega) h_)) ?_
          refine rw_end ?_
          refine w_weaken (G' := [(0, .slice (some ad23) l.length c1), (2, .pointer (some ⟨g1, 0, none⟩)), (3, .pointer (some ⟨g7, 0, none⟩)), (4, .int .i64 ((j : Nat) : Int)), (5, .pointer (some ⟨g32, 0, none⟩)), (6, .pointer (some ⟨g51, 0, none⟩)), (63, .bool (later ((l.getD j (0, 0, 0, 0, 0, 0)).2.2.2.1) ((l.getD j (0, 0, 0, 0, 0, 0)).1) ((l.getD j (0, 0, 0, 0, 0, 0)).2.1) ((l.getD j (0, 0, 0, 0, 0, 0)).2.2.2.2.2) o.t o.src o.seq o.v))]) ⟨rfl, rfl, rfl, rfl, rfl, rfl, rfl, trivial⟩ ?_
          refine w_cond rfl rfl (fun cL => ?_) (fun cL => ?_)
          · refine w_region ?_
            refine rw_val (v := .agg #[.int .i64 ((l.getD j (0, 0, 0, 0, 0, 0)).2.2.2.1), .int .i64 ((l.getD j (0, 0, 0, 0, 0, 0)).1), .int .i64 ((l.getD j (0, 0, 0, 0, 0, 0)).2.1), .int .i64 ((l.getD j (0, 0, 0, 0, 0, 0)).2.2.2.2.2)]) (w' := w108) rfl rfl rfl rfl (by have eb_ := ((hk59.keep hk64 (by omega)).on hb109); have e0_ := eb_.cellv (i := 0) (v := (.int .i64 ((l.getD j (0, 0, 0, 0, 0, 0)).2.2.2.1) : Value)) rfl; have e1_ := eb_.cellv (i := 1) (v := (.int .i64 ((l.getD j (0, 0, 0, 0, 0, 0)).1) : Value)) rfl; have e2_ := eb_.cellv (i := 2) (v := (.int .i64 ((l.getD j (0, 0, 0, 0, 0, 0)).2.1) : Value)) rfl; have e3_ := eb_.cellv (i := 3) (v := (.int .i64 ((l.getD j (0, 0, 0, 0, 0, 0)).2.2.2.2.2) : Value)) rfl; simp [go_sem, sEv, sLook, nbeq, i64_w, -List.getD_eq_getElem?_getD, e0_, e1_, e2_, e3_, Try.underlying28]) ?_
            refine rw_val (v := .pointer (some ⟨g7, 5, none⟩)) (w' := w108) rfl rfl rfl rfl (by simp [go_sem, sEv, sLook, nbeq, i64_w, -List.getD_eq_getElem?_getD, Try.underlying31]) ?_
            refine rw_seg (g := g7) (off := 5) (ty := 28) (p := .tmp 65) (x := .tmp 64) (v := .agg #[.int .i64 ((l.getD j (0, 0, 0, 0, 0, 0)).2.2.2.1), .int .i64 ((l.getD j (0, 0, 0, 0, 0, 0)).1), .int .i64 ((l.getD j (0, 0, 0, 0, 0, 0)).2.1), .int .i64 ((l.getD j (0, 0, 0, 0, 0, 0)).2.2.2.2.2)]) (cs' := carr (⟨o.cnt, o.hi, o.lo, (l.getD j (0, 0, 0, 0, 0, 0)).2.2.2.2.2, o.mx, (l.getD j (0, 0, 0, 0, 0, 0)).2.2.2.1, (l.getD j (0, 0, 0, 0, 0, 0)).1, (l.getD j (0, 0, 0, 0, 0, 0)).2.1, (l.getD j (0, 0, 0, 0, 0, 0)).2.2.2.2.2, o.h⟩ : CL)) rfl rfl rfl rfl rfl rfl (hb65.on hb109) (by kernel_rfl) (by rw [carr_size]; simp [Value.cells] <;> omega) (by intro q hq; simp only [List.mem_cons, List.not_mem_nil, or_false, Value.cells] at hq; (first | (rcases hq with rfl | rfl | rfl | rfl <;> rfl) | (rcases hq with rfl | rfl <;> rfl) | (subst hq; rfl))) (seg_last (⟨o.cnt, o.hi, o.lo, (l.getD j (0, 0, 0, 0, 0, 0)).2.2.2.2.2, o.mx, o.t, o.src, o.seq, o.v, o.h⟩ : CL) ((l.getD j (0, 0, 0, 0, 0, 0)).2.2.2.1) ((l.getD j (0, 0, 0, 0, 0, 0)).1) ((l.getD j (0, 0, 0, 0, 0, 0)).2.1) ((l.getD j (0, 0, 0, 0, 0, 0)).2.2.2.2.2)) ?_
            intro w110 hk111 hb112
            have hs_w110 := hk111.size
            refine rw_end ?_
            refine w_seq ?_
            refine w_region ?_
            refine rw_val (v := .pointer (some ⟨g7, 0, none⟩)) (w' := w110) rfl rfl rfl rfl (by simp [go_sem, sEv, sLook, nbeq, i64_w, -List.getD_eq_getElem?_getD, Try.underlying31]) ?_
            refine rw_val (v := .int .i64 o.cnt) (w' := w110) rfl rfl rfl rfl (by have eb_ := hb112; have e0_ := eb_.cellv (v := .int .i64 o.cnt) (cA0 (⟨o.cnt, o.hi, o.lo, (l.getD j (0, 0, 0, 0, 0, 0)).2.2.2.2.2, o.mx, (l.getD j (0, 0, 0, 0, 0, 0)).2.2.2.1, (l.getD j (0, 0, 0, 0, 0, 0)).1, (l.getD j (0, 0, 0, 0, 0, 0)).2.1, (l.getD j (0, 0, 0, 0, 0, 0)).2.2.2.2.2, o.h⟩ : CL)); simp [go_sem, sEv, sLook, nbeq, i64_w, -List.getD_eq_getElem?_getD, e0_]) ?_
            refine rw_val (v := .int .i64 (o.cnt + 1)) (w' := w110) rfl rfl rfl rfl (by simp [go_sem, sEv, sLook, nbeq, i64_w, -List.getD_eq_getElem?_getD]; exact wrap_id (by omega) (by omega)) ?_
            refine rw_val (v := .pointer (some ⟨g7, 0, none⟩)) (w' := w110) rfl rfl rfl rfl (by simp [go_sem, sEv, sLook, nbeq, i64_w, -List.getD_eq_getElem?_getD, Try.underlying31]) ?_
            refine rw_seg (g := g7) (off := 0) (ty := 3) (p := .tmp 69) (x := .tmp 68) (v := .int .i64 (o.cnt + 1)) (cs' := carr (⟨(o.cnt + 1), o.hi, o.lo, (l.getD j (0, 0, 0, 0, 0, 0)).2.2.2.2.2, o.mx, (l.getD j (0, 0, 0, 0, 0, 0)).2.2.2.1, (l.getD j (0, 0, 0, 0, 0, 0)).1, (l.getD j (0, 0, 0, 0, 0, 0)).2.1, (l.getD j (0, 0, 0, 0, 0, 0)).2.2.2.2.2, o.h⟩ : CL)) rfl rfl rfl rfl rfl rfl hb112 (by kernel_rfl) (by rw [carr_size]; simp [Value.cells] <;> omega) (by intro q hq; simp only [List.mem_cons, List.not_mem_nil, or_false, Value.cells] at hq; (first | (rcases hq with rfl | rfl | rfl | rfl <;> rfl) | (rcases hq with rfl | rfl <;> rfl) | (subst hq; rfl))) (seg_cnt (⟨o.cnt, o.hi, o.lo, (l.getD j (0, 0, 0, 0, 0, 0)).2.2.2.2.2, o.mx, (l.getD j (0, 0, 0, 0, 0, 0)).2.2.2.1, (l.getD j (0, 0, 0, 0, 0, 0)).1, (l.getD j (0, 0, 0, 0, 0, 0)).2.1, (l.getD j (0, 0, 0, 0, 0, 0)).2.2.2.2.2, o.h⟩ : CL) (o.cnt + 1)) ?_
            intro w113 hk114 hb115
            have hs_w113 := hk114.size
            refine rw_end ?_
            refine w_weaken (G' := [(0, .slice (some ad23) l.length c1), (2, .pointer (some ⟨g1, 0, none⟩)), (3, .pointer (some ⟨g7, 0, none⟩)), (4, .int .i64 ((j : Nat) : Int)), (5, .pointer (some ⟨g32, 0, none⟩))]) ⟨rfl, rfl, rfl, rfl, rfl, trivial⟩ ?_
            refine w_seq ?_
            refine w_drawk (M := [0, 1, 0, 4, 12, 31, 63, 127]) (ss := [Is (.pointer (some ⟨g7, 1, none⟩)), Is (.agg #[.int .i64 o.hi, .int .u64 o.lo]), Is (.pointer (some ⟨g32, 4, none⟩)), Is (.int .i64 ((l.getD j (0, 0, 0, 0, 0, 0)).2.2.2.2.2)), (Is (.agg #[.int .i64 (((l.getD j (0, 0, 0, 0, 0, 0)).2.2.2.2.2) / 9223372036854775808), .int .u64 (((l.getD j (0, 0, 0, 0, 0, 0)).2.2.2.2.2) % 18446744073709551616)]))]) 5 rfl (by decide +kernel) ?_
            refine t_is (.pointer (some ⟨g7, 1, none⟩)) rfl rfl rfl rfl (fun W_ hW_ F_ => by simp [go_sem, sEv, sLook, nbeq, i64_w, -List.getD_eq_getElem?_getD, Try.underlying31]) ?_
            refine t_is (.agg #[.int .i64 o.hi, .int .u64 o.lo]) rfl rfl rfl rfl (fun W_ hW_ F_ => (by have eb_ := (hb115.on (below_of_drew hW_)); have e0_ := eb_.cellv (v := .int .i64 o.hi) (cA1 (⟨(o.cnt + 1), o.hi, o.lo, (l.getD j (0, 0, 0, 0, 0, 0)).2.2.2.2.2, o.mx, (l.getD j (0, 0, 0, 0, 0, 0)).2.2.2.1, (l.getD j (0, 0, 0, 0, 0, 0)).1, (l.getD j (0, 0, 0, 0, 0, 0)).2.1, (l.getD j (0, 0, 0, 0, 0, 0)).2.2.2.2.2, o.h⟩ : CL)); have e1_ := eb_.cellv (v := .int .u64 o.lo) (cA2 (⟨(o.cnt + 1), o.hi, o.lo, (l.getD j (0, 0, 0, 0, 0, 0)).2.2.2.2.2, o.mx, (l.getD j (0, 0, 0, 0, 0, 0)).2.2.2.1, (l.getD j (0, 0, 0, 0, 0, 0)).1, (l.getD j (0, 0, 0, 0, 0, 0)).2.1, (l.getD j (0, 0, 0, 0, 0, 0)).2.2.2.2.2, o.h⟩ : CL)); simp [go_sem, sEv, sLook, nbeq, i64_w, -List.getD_eq_getElem?_getD, e0_, e1_, Try.underlying26])) ?_
            refine t_is (.pointer (some ⟨g32, 4, none⟩)) rfl rfl rfl rfl (fun W_ hW_ F_ => by simp [go_sem, sEv, sLook, nbeq, i64_w, -List.getD_eq_getElem?_getD, Try.underlying44]) ?_
            refine t_is (.int .i64 ((l.getD j (0, 0, 0, 0, 0, 0)).2.2.2.2.2)) rfl rfl rfl rfl (fun W_ hW_ F_ => by have eb_ := (((((((hk40.on hb55).keep hk58 (by omega)).keep hk64 (by omega)).on hb109).keep hk111 (by omega)).keep hk114 (by omega)).on (below_of_drew hW_)); have e0_ := eb_.cellv (i := 4) (v := (.int .i64 ((l.getD j (0, 0, 0, 0, 0, 0)).2.2.2.2.2) : Value)) rfl; simp [go_sem, sEv, sLook, nbeq, i64_w, -List.getD_eq_getElem?_getD, e0_]) ?_
            refine t_call (f := 26) (args := #[.int .i64 ((l.getD j (0, 0, 0, 0, 0, 0)).2.2.2.2.2)]) (Is (.agg #[.int .i64 (((l.getD j (0, 0, 0, 0, 0, 0)).2.2.2.2.2) / 9223372036854775808), .int .u64 (((l.getD j (0, 0, 0, 0, 0, 0)).2.2.2.2.2) % 18446744073709551616)])) rfl rfl rfl rfl (fun W_ => by simp [go_sem, sEv, sLook, nbeq, i64_w, -List.getD_eq_getElem?_getD]) (fun W_ hW_ F_ => ?_) ?_
            · refine (rof_calls ((l.getD j (0, 0, 0, 0, 0, 0)).2.2.2.2.2) (hv _ (getD_mem l j (0, 0, 0, 0, 0, 0) (by omega))) W_).mono ?_
              rintro e_ w_ ⟨rfl, hb_⟩
              exact ⟨_, rfl, rfl, hb_⟩
            rintro _ rfl
            refine t_tail ?_
            intro w116 hb117_ F118
            have hb117 := below_of_drew hb117_
            have hs_w116 := hb117.size
            refine rw_call rfl rfl rfl rfl (f := 25) (args := #[.agg #[.int .i64 o.hi, .int .u64 o.lo], .agg #[.int .i64 (((l.getD j (0, 0, 0, 0, 0, 0)).2.2.2.2.2) / 9223372036854775808), .int .u64 (((l.getD j (0, 0, 0, 0, 0, 0)).2.2.2.2.2) % 18446744073709551616)]]) (by simp [go_sem, sEv, sLook, nbeq, i64_w, -List.getD_eq_getElem?_getD]) (radd_calls o.hi o.lo (((l.getD j (0, 0, 0, 0, 0, 0)).2.2.2.2.2) / 9223372036854775808) (((l.getD j (0, 0, 0, 0, 0, 0)).2.2.2.2.2) % 18446744073709551616) hhi_ hlo_ (by have h_ := (hv _ (getD_mem l j (0, 0, 0, 0, 0, 0) (by omega))); omega) (by omega) w116) ?_
            rintro e_ w119 ⟨rfl, hb120⟩
            refine ⟨_, rfl, ?_⟩
            have hs_w119 := hb120.size
            refine rw_val (v := .pointer (some ⟨g7, 1, none⟩)) (w' := w119) rfl rfl rfl rfl (by simp [go_sem, sEv, sLook, nbeq, i64_w, -List.getD_eq_getElem?_getD, Try.underlying31]) ?_
            refine rw_seg (g := g7) (off := 1) (ty := 26) (p := .tmp 76) (x := .tmp 75) (v := .agg #[.int .i64 (wh o.hi o.lo (((l.getD j (0, 0, 0, 0, 0, 0)).2.2.2.2.2) / 9223372036854775808) (((l.getD j (0, 0, 0, 0, 0, 0)).2.2.2.2.2) % 18446744073709551616)), .int .u64 (wl o.lo (((l.getD j (0, 0, 0, 0, 0, 0)).2.2.2.2.2) % 18446744073709551616))]) (cs' := carr (⟨(o.cnt + 1), (wh o.hi o.lo (((l.getD j (0, 0, 0, 0, 0, 0)).2.2.2.2.2) / 9223372036854775808) (((l.getD j (0, 0, 0, 0, 0, 0)).2.2.2.2.2) % 18446744073709551616)), (wl o.lo (((l.getD j (0, 0, 0, 0, 0, 0)).2.2.2.2.2) % 18446744073709551616)), (l.getD j (0, 0, 0, 0, 0, 0)).2.2.2.2.2, o.mx, (l.getD j (0, 0, 0, 0, 0, 0)).2.2.2.1, (l.getD j (0, 0, 0, 0, 0, 0)).1, (l.getD j (0, 0, 0, 0, 0, 0)).2.1, (l.getD j (0, 0, 0, 0, 0, 0)).2.2.2.2.2, o.h⟩ : CL)) rfl rfl rfl rfl rfl rfl ((hb115.on hb117).on hb120) (by kernel_rfl) (by rw [carr_size]; simp [Value.cells] <;> omega) (by intro q hq; simp only [List.mem_cons, List.not_mem_nil, or_false, Value.cells] at hq; (first | (rcases hq with rfl | rfl | rfl | rfl <;> rfl) | (rcases hq with rfl | rfl <;> rfl) | (subst hq; rfl))) (seg_sum (⟨(o.cnt + 1), o.hi, o.lo, (l.getD j (0, 0, 0, 0, 0, 0)).2.2.2.2.2, o.mx, (l.getD j (0, 0, 0, 0, 0, 0)).2.2.2.1, (l.getD j (0, 0, 0, 0, 0, 0)).1, (l.getD j (0, 0, 0, 0, 0, 0)).2.1, (l.getD j (0, 0, 0, 0, 0, 0)).2.2.2.2.2, o.h⟩ : CL) (wh o.hi o.lo (((l.getD j (0, 0, 0, 0, 0, 0)).2.2.2.2.2) / 9223372036854775808) (((l.getD j (0, 0, 0, 0, 0, 0)).2.2.2.2.2) % 18446744073709551616)) (wl o.lo (((l.getD j (0, 0, 0, 0, 0, 0)).2.2.2.2.2) % 18446744073709551616))) ?_
            intro w121 hk122 hb123
            have hs_w121 := hk122.size
            refine rw_end ?_
            refine w_weaken (G' := [(0, .slice (some ad23) l.length c1), (2, .pointer (some ⟨g1, 0, none⟩)), (3, .pointer (some ⟨g7, 0, none⟩)), (4, .int .i64 ((j : Nat) : Int)), (5, .pointer (some ⟨g32, 0, none⟩))]) ⟨rfl, rfl, rfl, rfl, rfl, trivial⟩ ?_
            refine w_seq ?_
            refine w_region ?_
            refine rw_val (v := .pointer (some ⟨g32, 4, none⟩)) (w' := w121) rfl rfl rfl rfl (by simp [go_sem, sEv, sLook, nbeq, i64_w, -List.getD_eq_getElem?_getD, Try.underlying44]) ?_
            refine rw_val (v := .int .i64 ((l.getD j (0, 0, 0, 0, 0, 0)).2.2.2.2.2)) (w' := w121) rfl rfl rfl rfl (by have eb_ := (((((((((hk40.on hb55).keep hk58 (by omega)).keep hk64 (by omega)).on hb109).keep hk111 (by omega)).keep hk114 (by omega)).on hb117).on hb120).keep hk122 (by omega)); have e0_ := eb_.cellv (i := 4) (v := (.int .i64 ((l.getD j (0, 0, 0, 0, 0, 0)).2.2.2.2.2) : Value)) rfl; simp [go_sem, sEv, sLook, nbeq, i64_w, -List.getD_eq_getElem?_getD, e0_]) ?_
            refine rw_call rfl rfl rfl rfl (f := 27) (args := #[.int .i64 ((l.getD j (0, 0, 0, 0, 0, 0)).2.2.2.2.2)]) (by simp [go_sem, sEv, sLook, nbeq, i64_w, -List.getD_eq_getElem?_getD]) (rbits_calls ((l.getD j (0, 0, 0, 0, 0, 0)).2.2.2.2.2) (hv _ (getD_mem l j (0, 0, 0, 0, 0, 0) (by omega))) w121) ?_
            rintro e_ w124 ⟨rfl, hb125⟩
            refine ⟨_, rfl, ?_⟩
            have hs_w124 := hb125.size
            have hbl_ := blen_64 ((l.getD j (0, 0, 0, 0, 0, 0)).2.2.2.2.2) (hv _ (getD_mem l j (0, 0, 0, 0, 0, 0) (by omega)))
            have hat_ := atF_bnd hB_ (blen ((l.getD j (0, 0, 0, 0, 0, 0)).2.2.2.2.2).natAbs)
            rw [hlt_] at hat_
            refine rw_val (v := .int .i64 (((blen ((l.getD j (0, 0, 0, 0, 0, 0)).2.2.2.2.2).natAbs) : Nat) : Int)) (w' := w124) rfl rfl rfl rfl rfl ?_
            refine rw_end ?_
            refine w_weaken (G' := [(0, .slice (some ad23) l.length c1), (2, .pointer (some ⟨g1, 0, none⟩)), (3, .pointer (some ⟨g7, 0, none⟩)), (4, .int .i64 ((j : Nat) : Int)), (7, .int .i64 (((blen ((l.getD j (0, 0, 0, 0, 0, 0)).2.2.2.2.2).natAbs) : Nat) : Int))]) ⟨rfl, rfl, rfl, rfl, rfl, trivial⟩ ?_
            refine w_region ?_
            refine rw_val (v := .int .i64 (((blen ((l.getD j (0, 0, 0, 0, 0, 0)).2.2.2.2.2).natAbs) : Nat) : Int)) (w' := w124) rfl rfl rfl rfl rfl ?_
            refine rw_val (v := .int .i64 (((blen ((l.getD j (0, 0, 0, 0, 0, 0)).2.2.2.2.2).natAbs) : Nat) : Int)) (w' := w124) rfl rfl rfl rfl rfl ?_
            refine rw_val (v := .pointer (some ⟨g7, 9, none⟩)) (w' := w124) rfl rfl rfl rfl (by simp [go_sem, sEv, sLook, nbeq, i64_w, -List.getD_eq_getElem?_getD, Try.underlying31]) ?_
            refine rw_val (v := .pointer (some ⟨g7, 9 + (blen ((l.getD j (0, 0, 0, 0, 0, 0)).2.2.2.2.2).natAbs), none⟩)) (w' := w124) rfl rfl rfl rfl (run_as (addr_hist (blen ((l.getD j (0, 0, 0, 0, 0, 0)).2.2.2.2.2).natAbs) (by omega) _)) ?_
            refine rw_val (v := .int .i64 (atF o.h (blen ((l.getD j (0, 0, 0, 0, 0, 0)).2.2.2.2.2).natAbs))) (w' := w124) rfl rfl rfl rfl (by have e0_ := ((hb123.on hb125)).cellv (cHA (⟨(o.cnt + 1), (wh o.hi o.lo (((l.getD j (0, 0, 0, 0, 0, 0)).2.2.2.2.2) / 9223372036854775808) (((l.getD j (0, 0, 0, 0, 0, 0)).2.2.2.2.2) % 18446744073709551616)), (wl o.lo (((l.getD j (0, 0, 0, 0, 0, 0)).2.2.2.2.2) % 18446744073709551616)), (l.getD j (0, 0, 0, 0, 0, 0)).2.2.2.2.2, o.mx, (l.getD j (0, 0, 0, 0, 0, 0)).2.2.2.1, (l.getD j (0, 0, 0, 0, 0, 0)).1, (l.getD j (0, 0, 0, 0, 0, 0)).2.1, (l.getD j (0, 0, 0, 0, 0, 0)).2.2.2.2.2, o.h⟩ : CL) (blen ((l.getD j (0, 0, 0, 0, 0, 0)).2.2.2.2.2).natAbs) (by omega)); simp [go_sem, sEv, sLook, nbeq, i64_w, -List.getD_eq_getElem?_getD, e0_]) ?_
            refine rw_val (v := .int .i64 ((atF o.h (blen ((l.getD j (0, 0, 0, 0, 0, 0)).2.2.2.2.2).natAbs)) + 1)) (w' := w124) rfl rfl rfl rfl (by simp [go_sem, sEv, sLook, nbeq, i64_w, -List.getD_eq_getElem?_getD]; exact wrap_id (by omega) (by omega)) ?_
            refine rw_val (v := .pointer (some ⟨g7, 9, none⟩)) (w' := w124) rfl rfl rfl rfl (by simp [go_sem, sEv, sLook, nbeq, i64_w, -List.getD_eq_getElem?_getD, Try.underlying31]) ?_
            refine rw_val (v := .pointer (some ⟨g7, 9 + (blen ((l.getD j (0, 0, 0, 0, 0, 0)).2.2.2.2.2).natAbs), none⟩)) (w' := w124) rfl rfl rfl rfl (run_as (addr_hist (blen ((l.getD j (0, 0, 0, 0, 0, 0)).2.2.2.2.2).natAbs) (by omega) _)) ?_
            refine rw_seg (g := g7) (off := (9 + (blen ((l.getD j (0, 0, 0, 0, 0, 0)).2.2.2.2.2).natAbs))) (ty := 3) (p := .tmp 87) (x := .tmp 85) (v := .int .i64 ((atF o.h (blen ((l.getD j (0, 0, 0, 0, 0, 0)).2.2.2.2.2).natAbs)) + 1)) (cs' := carr (⟨(o.cnt + 1), (wh o.hi o.lo (((l.getD j (0, 0, 0, 0, 0, 0)).2.2.2.2.2) / 9223372036854775808) (((l.getD j (0, 0, 0, 0, 0, 0)).2.2.2.2.2) % 18446744073709551616)), (wl o.lo (((l.getD j (0, 0, 0, 0, 0, 0)).2.2.2.2.2) % 18446744073709551616)), (l.getD j (0, 0, 0, 0, 0, 0)).2.2.2.2.2, o.mx, (l.getD j (0, 0, 0, 0, 0, 0)).2.2.2.1, (l.getD j (0, 0, 0, 0, 0, 0)).1, (l.getD j (0, 0, 0, 0, 0, 0)).2.1, (l.getD j (0, 0, 0, 0, 0, 0)).2.2.2.2.2, (updF o.h (blen ((l.getD j (0, 0, 0, 0, 0, 0)).2.2.2.2.2).natAbs) ((atF o.h (blen ((l.getD j (0, 0, 0, 0, 0, 0)).2.2.2.2.2).natAbs)) + 1))⟩ : CL)) rfl rfl rfl rfl rfl rfl (hb123.on hb125) (by kernel_rfl) (by rw [carr_size]; show 9 + (blen ((l.getD j (0, 0, 0, 0, 0, 0)).2.2.2.2.2).natAbs) + 1 ≤ 74; omega) (by intro q hq; simp only [List.mem_cons, List.not_mem_nil, or_false, Value.cells] at hq; (first | (rcases hq with rfl | rfl | rfl | rfl <;> rfl) | (rcases hq with rfl | rfl <;> rfl) | (subst hq; rfl))) (seg_h (⟨(o.cnt + 1), (wh o.hi o.lo (((l.getD j (0, 0, 0, 0, 0, 0)).2.2.2.2.2) / 9223372036854775808) (((l.getD j (0, 0, 0, 0, 0, 0)).2.2.2.2.2) % 18446744073709551616)), (wl o.lo (((l.getD j (0, 0, 0, 0, 0, 0)).2.2.2.2.2) % 18446744073709551616)), (l.getD j (0, 0, 0, 0, 0, 0)).2.2.2.2.2, o.mx, (l.getD j (0, 0, 0, 0, 0, 0)).2.2.2.1, (l.getD j (0, 0, 0, 0, 0, 0)).1, (l.getD j (0, 0, 0, 0, 0, 0)).2.1, (l.getD j (0, 0, 0, 0, 0, 0)).2.2.2.2.2, o.h⟩ : CL) (blen ((l.getD j (0, 0, 0, 0, 0, 0)).2.2.2.2.2).natAbs) (by omega) ((atF o.h (blen ((l.getD j (0, 0, 0, 0, 0, 0)).2.2.2.2.2).natAbs)) + 1)) ?_
            intro w126 hk127 hb128
            have hs_w126 := hk127.size
            refine rw_end ?_
            refine w_weaken (G' := [(0, .slice (some ad23) l.length c1), (2, .pointer (some ⟨g1, 0, none⟩)), (3, .pointer (some ⟨g7, 0, none⟩)), (4, .int .i64 ((j : Nat) : Int))]) ⟨rfl, rfl, rfl, rfl, trivial⟩ ?_
            refine w_blk ?_
            refine w_region ?_
            refine rw_val (v := .int .i64 ((j : Nat) : Int)) (w' := w126) rfl rfl rfl rfl rfl ?_
            refine rw_val (v := .int .i64 ((j + 1 : Nat) : Int)) (w' := w126) rfl rfl rfl rfl (by simp [go_sem, sEv, sLook, nbeq, i64_w, -List.getD_eq_getElem?_getD]; exact wrap_id (by omega) (by omega)) ?_
            refine rw_val (v := .int .i64 ((j + 1 : Nat) : Int)) (w' := w126) rfl rfl rfl rfl rfl ?_
            refine rw_end ?_
            exact w_back (m_ - 1) [(0, .slice (some ad23) l.length c1), (2, .pointer (some ⟨g1, 0, none⟩)), (3, .pointer (some ⟨g7, 0, none⟩)), (4, .int .i64 ((j + 1 : Nat) : Int))] (by omega) ⟨rfl, rfl, rfl, rfl, trivial⟩ ⟨(j + 1), (⟨(o.cnt + 1), (wh o.hi o.lo (((l.getD j (0, 0, 0, 0, 0, 0)).2.2.2.2.2) / 9223372036854775808) (((l.getD j (0, 0, 0, 0, 0, 0)).2.2.2.2.2) % 18446744073709551616)), (wl o.lo (((l.getD j (0, 0, 0, 0, 0, 0)).2.2.2.2.2) % 18446744073709551616)), (l.getD j (0, 0, 0, 0, 0, 0)).2.2.2.2.2, o.mx, (l.getD j (0, 0, 0, 0, 0, 0)).2.2.2.1, (l.getD j (0, 0, 0, 0, 0, 0)).1, (l.getD j (0, 0, 0, 0, 0, 0)).2.1, (l.getD j (0, 0, 0, 0, 0, 0)).2.2.2.2.2, (updF o.h (blen ((l.getD j (0, 0, 0, 0, 0, 0)).2.2.2.2.2).natAbs) ((atF o.h (blen ((l.getD j (0, 0, 0, 0, 0, 0)).2.2.2.2.2).natAbs)) + 1))⟩ : CL), by omega, (hk127.below (by omega) (chain (hk122.below (by omega) (chain (chain (hk114.below (by omega) (hk111.below (by omega) (chain (hk64.below (by omega) (hk58.below (by omega) (chain (hk39.below (by omega) (chain hB_L16 hb34)) hb55))) hb109))) hb117) hb120)) hb125)), (of_leaf l j (by omega) (by omega) hv (l.getD j (0, 0, 0, 0, 0, 0)) rfl o hf18 ((l.getD j (0, 0, 0, 0, 0, 0)).2.2.2.2.2) o.mx ((l.getD j (0, 0, 0, 0, 0, 0)).2.2.2.1) ((l.getD j (0, 0, 0, 0, 0, 0)).1) ((l.getD j (0, 0, 0, 0, 0, 0)).2.1) ((l.getD j (0, 0, 0, 0, 0, 0)).2.2.2.2.2) (by rw [if_pos (.inr (of_decide_eq_true cMn))]) (by rw [if_neg (fun h_ => h_.elim (fun h2_ => absurd h2_ (by have h_ := cZ; simpa using h_)) (fun h2_ => absurd h2_ (of_decide_eq_false cMx)))]) (by rw [if_pos (.inr (cL))])).symm, hb128, (((((((((((((hf20.on hb34).keep hk39 (by omega)).on hb55).keep hk58 (by omega)).keep hk64 (by omega)).on hb109).keep hk111 (by omega)).keep hk114 (by omega)).on hb117).on hb120).keep hk122 (by omega)).on hb125).keep hk127 (by omega)), (wrap_rng _), rfl⟩
          · refine w_skip ?_
            refine w_seq ?_
            refine w_region ?_
            refine rw_val (v := .pointer (some ⟨g7, 0, none⟩)) (w' := w108) rfl rfl rfl rfl (by simp [go_sem, sEv, sLook, nbeq, i64_w, -List.getD_eq_getElem?_getD, Try.underlying31]) ?_
            refine rw_val (v := .int .i64 o.cnt) (w' := w108) rfl rfl rfl rfl (by have eb_ := (hb65.on hb109); have e0_ := eb_.cellv (v := .int .i64 o.cnt) (cA0 (⟨o.cnt, o.hi, o.lo, (l.getD j (0, 0, 0, 0, 0, 0)).2.2.2.2.2, o.mx, o.t, o.src, o.seq, o.v, o.h⟩ : CL)); simp [go_sem, sEv, sLook, nbeq, i64_w, -List.getD_eq_getElem?_getD, e0_]) ?_
            refine rw_val (v := .int .i64 (o.cnt + 1)) (w' := w108) rfl rfl rfl rfl (by simp [go_sem, sEv, sLook, nbeq, i64_w, -List.getD_eq_getElem?_getD]; exact wrap_id (by omega) (by omega)) ?_
            refine rw_val (v := .pointer (some ⟨g7, 0, none⟩)) (w' := w108) rfl rfl rfl rfl (by simp [go_sem, sEv, sLook, nbeq, i64_w, -List.getD_eq_getElem?_getD, Try.underlying31]) ?_
            refine rw_seg (g := g7) (off := 0) (ty := 3) (p := .tmp 69) (x := .tmp 68) (v := .int .i64 (o.cnt + 1)) (cs' := carr (⟨(o.cnt + 1), o.hi, o.lo, (l.getD j (0, 0, 0, 0, 0, 0)).2.2.2.2.2, o.mx, o.t, o.src, o.seq, o.v, o.h⟩ : CL)) rfl rfl rfl rfl rfl rfl (hb65.on hb109) (by kernel_rfl) (by rw [carr_size]; simp [Value.cells] <;> omega) (by intro q hq; simp only [List.mem_cons, List.not_mem_nil, or_false, Value.cells] at hq; (first | (rcases hq with rfl | rfl | rfl | rfl <;> rfl) | (rcases hq with rfl | rfl <;> rfl) | (subst hq; rfl))) (seg_cnt (⟨o.cnt, o.hi, o.lo, (l.getD j (0, 0, 0, 0, 0, 0)).2.2.2.2.2, o.mx, o.t, o.src, o.seq, o.v, o.h⟩ : CL) (o.cnt + 1)) ?_
            intro w129 hk130 hb131
            have hs_w129 := hk130.size
            refine rw_end ?_
            refine w_weaken (G' := [(0, .slice (some ad23) l.length c1), (2, .pointer (some ⟨g1, 0, none⟩)), (3, .pointer (some ⟨g7, 0, none⟩)), (4, .int .i64 ((j : Nat) : Int)), (5, .pointer (some ⟨g32, 0, none⟩))]) ⟨rfl, rfl, rfl, rfl, rfl, trivial⟩ ?_
            refine w_seq ?_
            refine w_drawk (M := [0, 1, 0, 4, 12, 31, 63, 127]) (ss := [Is (.pointer (some ⟨g7, 1, none⟩)), Is (.agg #[.int .i64 o.hi, .int .u64 o.lo]), Is (.pointer (some ⟨g32, 4, none⟩)), Is (.int .i64 ((l.getD j (0, 0, 0, 0, 0, 0)).2.2.2.2.2)), (Is (.agg #[.int .i64 (((l.getD j (0, 0, 0, 0, 0, 0)).2.2.2.2.2) / 9223372036854775808), .int .u64 (((l.getD j (0, 0, 0, 0, 0, 0)).2.2.2.2.2) % 18446744073709551616)]))]) 5 rfl (by decide +kernel) ?_
            refine t_is (.pointer (some ⟨g7, 1, none⟩)) rfl rfl rfl rfl (fun W_ hW_ F_ => by simp [go_sem, sEv, sLook, nbeq, i64_w, -List.getD_eq_getElem?_getD, Try.underlying31]) ?_
            refine t_is (.agg #[.int .i64 o.hi, .int .u64 o.lo]) rfl rfl rfl rfl (fun W_ hW_ F_ => (by have eb_ := (hb131.on (below_of_drew hW_)); have e0_ := eb_.cellv (v := .int .i64 o.hi) (cA1 (⟨(o.cnt + 1), o.hi, o.lo, (l.getD j (0, 0, 0, 0, 0, 0)).2.2.2.2.2, o.mx, o.t, o.src, o.seq, o.v, o.h⟩ : CL)); have e1_ := eb_.cellv (v := .int .u64 o.lo) (cA2 (⟨(o.cnt + 1), o.hi, o.lo, (l.getD j (0, 0, 0, 0, 0, 0)).2.2.2.2.2, o.mx, o.t, o.src, o.seq, o.v, o.h⟩ : CL)); simp [go_sem, sEv, sLook, nbeq, i64_w, -List.getD_eq_getElem?_getD, e0_, e1_, Try.underlying26])) ?_
            refine t_is (.pointer (some ⟨g32, 4, none⟩)) rfl rfl rfl rfl (fun W_ hW_ F_ => by simp [go_sem, sEv, sLook, nbeq, i64_w, -List.getD_eq_getElem?_getD, Try.underlying44]) ?_
            refine t_is (.int .i64 ((l.getD j (0, 0, 0, 0, 0, 0)).2.2.2.2.2)) rfl rfl rfl rfl (fun W_ hW_ F_ => by have eb_ := ((((((hk40.on hb55).keep hk58 (by omega)).keep hk64 (by omega)).on hb109).keep hk130 (by omega)).on (below_of_drew hW_)); have e0_ := eb_.cellv (i := 4) (v := (.int .i64 ((l.getD j (0, 0, 0, 0, 0, 0)).2.2.2.2.2) : Value)) rfl; simp [go_sem, sEv, sLook, nbeq, i64_w, -List.getD_eq_getElem?_getD, e0_]) ?_
            refine t_call (f := 26) (args := #[.int .i64 ((l.getD j (0, 0, 0, 0, 0, 0)).2.2.2.2.2)]) (Is (.agg #[.int .i64 (((l.getD j (0, 0, 0, 0, 0, 0)).2.2.2.2.2) / 9223372036854775808), .int .u64 (((l.getD j (0, 0, 0, 0, 0, 0)).2.2.2.2.2) % 18446744073709551616)])) rfl rfl rfl rfl (fun W_ => by simp [go_sem, sEv, sLook, nbeq, i64_w, -List.getD_eq_getElem?_getD]) (fun W_ hW_ F_ => ?_) ?_
            · refine (rof_calls ((l.getD j (0, 0, 0, 0, 0, 0)).2.2.2.2.2) (hv _ (getD_mem l j (0, 0, 0, 0, 0, 0) (by omega))) W_).mono ?_
              rintro e_ w_ ⟨rfl, hb_⟩
              exact ⟨_, rfl, rfl, hb_⟩
            rintro _ rfl
            refine t_tail ?_
            intro w132 hb133_ F134
            have hb133 := below_of_drew hb133_
            have hs_w132 := hb133.size
            refine rw_call rfl rfl rfl rfl (f := 25) (args := #[.agg #[.int .i64 o.hi, .int .u64 o.lo], .agg #[.int .i64 (((l.getD j (0, 0, 0, 0, 0, 0)).2.2.2.2.2) / 9223372036854775808), .int .u64 (((l.getD j (0, 0, 0, 0, 0, 0)).2.2.2.2.2) % 18446744073709551616)]]) (by simp [go_sem, sEv, sLook, nbeq, i64_w, -List.getD_eq_getElem?_getD]) (radd_calls o.hi o.lo (((l.getD j (0, 0, 0, 0, 0, 0)).2.2.2.2.2) / 9223372036854775808) (((l.getD j (0, 0, 0, 0, 0, 0)).2.2.2.2.2) % 18446744073709551616) hhi_ hlo_ (by have h_ := (hv _ (getD_mem l j (0, 0, 0, 0, 0, 0) (by omega))); omega) (by omega) w132) ?_
            rintro e_ w135 ⟨rfl, hb136⟩
            refine ⟨_, rfl, ?_⟩
            have hs_w135 := hb136.size
            refine rw_val (v := .pointer (some ⟨g7, 1, none⟩)) (w' := w135) rfl rfl rfl rfl (by simp [go_sem, sEv, sLook, nbeq, i64_w, -List.getD_eq_getElem?_getD, Try.underlying31]) ?_
            refine rw_seg (g := g7) (off := 1) (ty := 26) (p := .tmp 76) (x := .tmp 75) (v := .agg #[.int .i64 (wh o.hi o.lo (((l.getD j (0, 0, 0, 0, 0, 0)).2.2.2.2.2) / 9223372036854775808) (((l.getD j (0, 0, 0, 0, 0, 0)).2.2.2.2.2) % 18446744073709551616)), .int .u64 (wl o.lo (((l.getD j (0, 0, 0, 0, 0, 0)).2.2.2.2.2) % 18446744073709551616))]) (cs' := carr (⟨(o.cnt + 1), (wh o.hi o.lo (((l.getD j (0, 0, 0, 0, 0, 0)).2.2.2.2.2) / 9223372036854775808) (((l.getD j (0, 0, 0, 0, 0, 0)).2.2.2.2.2) % 18446744073709551616)), (wl o.lo (((l.getD j (0, 0, 0, 0, 0, 0)).2.2.2.2.2) % 18446744073709551616)), (l.getD j (0, 0, 0, 0, 0, 0)).2.2.2.2.2, o.mx, o.t, o.src, o.seq, o.v, o.h⟩ : CL)) rfl rfl rfl rfl rfl rfl ((hb131.on hb133).on hb136) (by kernel_rfl) (by rw [carr_size]; simp [Value.cells] <;> omega) (by intro q hq; simp only [List.mem_cons, List.not_mem_nil, or_false, Value.cells] at hq; (first | (rcases hq with rfl | rfl | rfl | rfl <;> rfl) | (rcases hq with rfl | rfl <;> rfl) | (subst hq; rfl))) (seg_sum (⟨(o.cnt + 1), o.hi, o.lo, (l.getD j (0, 0, 0, 0, 0, 0)).2.2.2.2.2, o.mx, o.t, o.src, o.seq, o.v, o.h⟩ : CL) (wh o.hi o.lo (((l.getD j (0, 0, 0, 0, 0, 0)).2.2.2.2.2) / 9223372036854775808) (((l.getD j (0, 0, 0, 0, 0, 0)).2.2.2.2.2) % 18446744073709551616)) (wl o.lo (((l.getD j (0, 0, 0, 0, 0, 0)).2.2.2.2.2) % 18446744073709551616))) ?_
            intro w137 hk138 hb139
            have hs_w137 := hk138.size
            refine rw_end ?_
            refine w_weaken (G' := [(0, .slice (some ad23) l.length c1), (2, .pointer (some ⟨g1, 0, none⟩)), (3, .pointer (some ⟨g7, 0, none⟩)), (4, .int .i64 ((j : Nat) : Int)), (5, .pointer (some ⟨g32, 0, none⟩))]) ⟨rfl, rfl, rfl, rfl, rfl, trivial⟩ ?_
            refine w_seq ?_
            refine w_region ?_
            refine rw_val (v := .pointer (some ⟨g32, 4, none⟩)) (w' := w137) rfl rfl rfl rfl (by simp [go_sem, sEv, sLook, nbeq, i64_w, -List.getD_eq_getElem?_getD, Try.underlying44]) ?_
            refine rw_val (v := .int .i64 ((l.getD j (0, 0, 0, 0, 0, 0)).2.2.2.2.2)) (w' := w137) rfl rfl rfl rfl (by have eb_ := ((((((((hk40.on hb55).keep hk58 (by omega)).keep hk64 (by omega)).on hb109).keep hk130 (by omega)).on hb133).on hb136).keep hk138 (by omega)); have e0_ := eb_.cellv (i := 4) (v := (.int .i64 ((l.getD j (0, 0, 0, 0, 0, 0)).2.2.2.2.2) : Value)) rfl; simp [go_sem, sEv, sLook, nbeq, i64_w, -List.getD_eq_getElem?_getD, e0_]) ?_
            refine rw_call rfl rfl rfl rfl (f := 27) (args := #[.int .i64 ((l.getD j (0, 0, 0, 0, 0, 0)).2.2.2.2.2)]) (by simp [go_sem, sEv, sLook, nbeq, i64_w, -List.getD_eq_getElem?_getD]) (rbits_calls ((l.getD j (0, 0, 0, 0, 0, 0)).2.2.2.2.2) (hv _ (getD_mem l j (0, 0, 0, 0, 0, 0) (by omega))) w137) ?_
            rintro e_ w140 ⟨rfl, hb141⟩
            refine ⟨_, rfl, ?_⟩
            have hs_w140 := hb141.size
            have hbl_ := blen_64 ((l.getD j (0, 0, 0, 0, 0, 0)).2.2.2.2.2) (hv _ (getD_mem l j (0, 0, 0, 0, 0, 0) (by omega)))
            have hat_ := atF_bnd hB_ (blen ((l.getD j (0, 0, 0, 0, 0, 0)).2.2.2.2.2).natAbs)
            rw [hlt_] at hat_
            refine rw_val (v := .int .i64 (((blen ((l.getD j (0, 0, 0, 0, 0, 0)).2.2.2.2.2).natAbs) : Nat) : Int)) (w' := w140) rfl rfl rfl rfl rfl ?_
            refine rw_end ?_
            refine w_weaken (G' := [(0, .slice (some ad23) l.length c1), (2, .pointer (some ⟨g1, 0, none⟩)), (3, .pointer (some ⟨g7, 0, none⟩)), (4, .int .i64 ((j : Nat) : Int)), (7, .int .i64 (((blen ((l.getD j (0, 0, 0, 0, 0, 0)).2.2.2.2.2).natAbs) : Nat) : Int))]) ⟨rfl, rfl, rfl, rfl, rfl, trivial⟩ ?_
            refine w_region ?_
            refine rw_val (v := .int .i64 (((blen ((l.getD j (0, 0, 0, 0, 0, 0)).2.2.2.2.2).natAbs) : Nat) : Int)) (w' := w140) rfl rfl rfl rfl rfl ?_
            refine rw_val (v := .int .i64 (((blen ((l.getD j (0, 0, 0, 0, 0, 0)).2.2.2.2.2).natAbs) : Nat) : Int)) (w' := w140) rfl rfl rfl rfl rfl ?_
            refine rw_val (v := .pointer (some ⟨g7, 9, none⟩)) (w' := w140) rfl rfl rfl rfl (by simp [go_sem, sEv, sLook, nbeq, i64_w, -List.getD_eq_getElem?_getD, Try.underlying31]) ?_
            refine rw_val (v := .pointer (some ⟨g7, 9 + (blen ((l.getD j (0, 0, 0, 0, 0, 0)).2.2.2.2.2).natAbs), none⟩)) (w' := w140) rfl rfl rfl rfl (run_as (addr_hist (blen ((l.getD j (0, 0, 0, 0, 0, 0)).2.2.2.2.2).natAbs) (by omega) _)) ?_
            refine rw_val (v := .int .i64 (atF o.h (blen ((l.getD j (0, 0, 0, 0, 0, 0)).2.2.2.2.2).natAbs))) (w' := w140) rfl rfl rfl rfl (by have e0_ := ((hb139.on hb141)).cellv (cHA (⟨(o.cnt + 1), (wh o.hi o.lo (((l.getD j (0, 0, 0, 0, 0, 0)).2.2.2.2.2) / 9223372036854775808) (((l.getD j (0, 0, 0, 0, 0, 0)).2.2.2.2.2) % 18446744073709551616)), (wl o.lo (((l.getD j (0, 0, 0, 0, 0, 0)).2.2.2.2.2) % 18446744073709551616)), (l.getD j (0, 0, 0, 0, 0, 0)).2.2.2.2.2, o.mx, o.t, o.src, o.seq, o.v, o.h⟩ : CL) (blen ((l.getD j (0, 0, 0, 0, 0, 0)).2.2.2.2.2).natAbs) (by omega)); simp [go_sem, sEv, sLook, nbeq, i64_w, -List.getD_eq_getElem?_getD, e0_]) ?_
            refine rw_val (v := .int .i64 ((atF o.h (blen ((l.getD j (0, 0, 0, 0, 0, 0)).2.2.2.2.2).natAbs)) + 1)) (w' := w140) rfl rfl rfl rfl (by simp [go_sem, sEv, sLook, nbeq, i64_w, -List.getD_eq_getElem?_getD]; exact wrap_id (by omega) (by omega)) ?_
            refine rw_val (v := .pointer (some ⟨g7, 9, none⟩)) (w' := w140) rfl rfl rfl rfl (by simp [go_sem, sEv, sLook, nbeq, i64_w, -List.getD_eq_getElem?_getD, Try.underlying31]) ?_
            refine rw_val (v := .pointer (some ⟨g7, 9 + (blen ((l.getD j (0, 0, 0, 0, 0, 0)).2.2.2.2.2).natAbs), none⟩)) (w' := w140) rfl rfl rfl rfl (run_as (addr_hist (blen ((l.getD j (0, 0, 0, 0, 0, 0)).2.2.2.2.2).natAbs) (by omega) _)) ?_
            refine rw_seg (g := g7) (off := (9 + (blen ((l.getD j (0, 0, 0, 0, 0, 0)).2.2.2.2.2).natAbs))) (ty := 3) (p := .tmp 87) (x := .tmp 85) (v := .int .i64 ((atF o.h (blen ((l.getD j (0, 0, 0, 0, 0, 0)).2.2.2.2.2).natAbs)) + 1)) (cs' := carr (⟨(o.cnt + 1), (wh o.hi o.lo (((l.getD j (0, 0, 0, 0, 0, 0)).2.2.2.2.2) / 9223372036854775808) (((l.getD j (0, 0, 0, 0, 0, 0)).2.2.2.2.2) % 18446744073709551616)), (wl o.lo (((l.getD j (0, 0, 0, 0, 0, 0)).2.2.2.2.2) % 18446744073709551616)), (l.getD j (0, 0, 0, 0, 0, 0)).2.2.2.2.2, o.mx, o.t, o.src, o.seq, o.v, (updF o.h (blen ((l.getD j (0, 0, 0, 0, 0, 0)).2.2.2.2.2).natAbs) ((atF o.h (blen ((l.getD j (0, 0, 0, 0, 0, 0)).2.2.2.2.2).natAbs)) + 1))⟩ : CL)) rfl rfl rfl rfl rfl rfl (hb139.on hb141) (by kernel_rfl) (by rw [carr_size]; show 9 + (blen ((l.getD j (0, 0, 0, 0, 0, 0)).2.2.2.2.2).natAbs) + 1 ≤ 74; omega) (by intro q hq; simp only [List.mem_cons, List.not_mem_nil, or_false, Value.cells] at hq; (first | (rcases hq with rfl | rfl | rfl | rfl <;> rfl) | (rcases hq with rfl | rfl <;> rfl) | (subst hq; rfl))) (seg_h (⟨(o.cnt + 1), (wh o.hi o.lo (((l.getD j (0, 0, 0, 0, 0, 0)).2.2.2.2.2) / 9223372036854775808) (((l.getD j (0, 0, 0, 0, 0, 0)).2.2.2.2.2) % 18446744073709551616)), (wl o.lo (((l.getD j (0, 0, 0, 0, 0, 0)).2.2.2.2.2) % 18446744073709551616)), (l.getD j (0, 0, 0, 0, 0, 0)).2.2.2.2.2, o.mx, o.t, o.src, o.seq, o.v, o.h⟩ : CL) (blen ((l.getD j (0, 0, 0, 0, 0, 0)).2.2.2.2.2).natAbs) (by omega) ((atF o.h (blen ((l.getD j (0, 0, 0, 0, 0, 0)).2.2.2.2.2).natAbs)) + 1)) ?_
            intro w142 hk143 hb144
            have hs_w142 := hk143.size
            refine rw_end ?_
            refine w_weaken (G' := [(0, .slice (some ad23) l.length c1), (2, .pointer (some ⟨g1, 0, none⟩)), (3, .pointer (some ⟨g7, 0, none⟩)), (4, .int .i64 ((j : Nat) : Int))]) ⟨rfl, rfl, rfl, rfl, trivial⟩ ?_
            refine w_blk ?_
            refine w_region ?_
            refine rw_val (v := .int .i64 ((j : Nat) : Int)) (w' := w142) rfl rfl rfl rfl rfl ?_
            refine rw_val (v := .int .i64 ((j + 1 : Nat) : Int)) (w' := w142) rfl rfl rfl rfl (by simp [go_sem, sEv, sLook, nbeq, i64_w, -List.getD_eq_getElem?_getD]; exact wrap_id (by omega) (by omega)) ?_
            refine rw_val (v := .int .i64 ((j + 1 : Nat) : Int)) (w' := w142) rfl rfl rfl rfl rfl ?_
            refine rw_end ?_
            exact w_back (m_ - 1) [(0, .slice (some ad23) l.length c1), (2, .pointer (some ⟨g1, 0, none⟩)), (3, .pointer (some ⟨g7, 0, none⟩)), (4, .int .i64 ((j + 1 : Nat) : Int))] (by omega) ⟨rfl, rfl, rfl, rfl, trivial⟩ ⟨(j + 1), (⟨(o.cnt + 1), (wh o.hi o.lo (((l.getD j (0, 0, 0, 0, 0, 0)).2.2.2.2.2) / 9223372036854775808) (((l.getD j (0, 0, 0, 0, 0, 0)).2.2.2.2.2) % 18446744073709551616)), (wl o.lo (((l.getD j (0, 0, 0, 0, 0, 0)).2.2.2.2.2) % 18446744073709551616)), (l.getD j (0, 0, 0, 0, 0, 0)).2.2.2.2.2, o.mx, o.t, o.src, o.seq, o.v, (updF o.h (blen ((l.getD j (0, 0, 0, 0, 0, 0)).2.2.2.2.2).natAbs) ((atF o.h (blen ((l.getD j (0, 0, 0, 0, 0, 0)).2.2.2.2.2).natAbs)) + 1))⟩ : CL), by omega, (hk143.below (by omega) (chain (hk138.below (by omega) (chain (chain (hk130.below (by omega) (chain (hk64.below (by omega) (hk58.below (by omega) (chain (hk39.below (by omega) (chain hB_L16 hb34)) hb55))) hb109)) hb133) hb136)) hb141)), (of_leaf l j (by omega) (by omega) hv (l.getD j (0, 0, 0, 0, 0, 0)) rfl o hf18 ((l.getD j (0, 0, 0, 0, 0, 0)).2.2.2.2.2) o.mx o.t o.src o.seq o.v (by rw [if_pos (.inr (of_decide_eq_true cMn))]) (by rw [if_neg (fun h_ => h_.elim (fun h2_ => absurd h2_ (by have h_ := cZ; simpa using h_)) (fun h2_ => absurd h2_ (of_decide_eq_false cMx)))]) (by rw [if_neg (fun h_ => h_.elim (fun h2_ => absurd h2_ (by have h_ := cZ; simpa using h_)) (fun h2_ => (by rw [cL] at h2_; cases h2_)))])).symm, hb144, ((((((((((((hf20.on hb34).keep hk39 (by omega)).on hb55).keep hk58 (by omega)).keep hk64 (by omega)).on hb109).keep hk130 (by omega)).on hb133).on hb136).keep hk138 (by omega)).on hb141).keep hk143 (by omega)), (wrap_rng _), rfl⟩
      · have l145 : ¬ (((l.getD j (0, 0, 0, 0, 0, 0)).2.2.2.2.2) < o.mn) := of_decide_eq_false cMn
        refine w_skip ?_
        refine w_seq ?_
        refine w_seq ?_
        refine w_region ?_
        refine rw_val (v := .int .i64 ((j : Nat) : Int)) (w' := w57) rfl rfl rfl rfl rfl ?_
        refine rw_val (v := .bool (((j : Nat) : Int) == 0)) (w' := w57) rfl rfl rfl rfl (by simp [go_sem, sEv, sLook, nbeq, i64_w, -List.getD_eq_getElem?_getD]) ?_
        refine rw_val (v := .bool (((j : Nat) : Int) == 0)) (w' := w57) rfl rfl rfl rfl rfl ?_
        refine rw_on (c := (((j : Nat) : Int) == 0)) rfl rfl rfl (by first | (rw [cZ]; rfl) | simp [cZ]) ?_
        refine rw_val (v := .pointer (some ⟨g32, 4, none⟩)) (w' := w57) rfl rfl rfl rfl (by simp [go_sem, sEv, sLook, nbeq, i64_w, -List.getD_eq_getElem?_getD, Try.underlying44]) ?_
        refine rw_on (c := (((j : Nat) : Int) == 0)) rfl rfl rfl (by first | (rw [cZ]; rfl) | simp [cZ]) ?_
        refine rw_val (v := .int .i64 ((l.getD j (0, 0, 0, 0, 0, 0)).2.2.2.2.2)) (w' := w57) rfl rfl rfl rfl (by have eb_ := ((hk40.on hb55).keep hk58 (by omega)); have e0_ := eb_.cellv (i := 4) (v := (.int .i64 ((l.getD j (0, 0, 0, 0, 0, 0)).2.2.2.2.2) : Value)) rfl; simp [go_sem, sEv, sLook, nbeq, i64_w, -List.getD_eq_getElem?_getD, e0_]) ?_
        refine rw_on (c := (((j : Nat) : Int) == 0)) rfl rfl rfl (by first | (rw [cZ]; rfl) | simp [cZ]) ?_
        refine rw_val (v := .pointer (some ⟨g7, 4, none⟩)) (w' := w57) rfl rfl rfl rfl (by simp [go_sem, sEv, sLook, nbeq, i64_w, -List.getD_eq_getElem?_getD, Try.underlying31]) ?_
        refine rw_on (c := (((j : Nat) : Int) == 0)) rfl rfl rfl (by first | (rw [cZ]; rfl) | simp [cZ]) ?_
        refine rw_val (v := .int .i64 o.mx) (w' := w57) rfl rfl rfl rfl (by have eb_ := ((((hf19.on hb34).keep hk39 (by omega)).on hb55).keep hk58 (by omega)); have e0_ := eb_.cellv (v := .int .i64 o.mx) (cA4 o); simp [go_sem, sEv, sLook, nbeq, i64_w, -List.getD_eq_getElem?_getD, e0_]) ?_
        refine rw_on (c := (((j : Nat) : Int) == 0)) rfl rfl rfl (by first | (rw [cZ]; rfl) | simp [cZ]) ?_
        refine rw_val (v := .bool (decide (o.mx < ((l.getD j (0, 0, 0, 0, 0, 0)).2.2.2.2.2)))) (w' := w57) rfl rfl rfl rfl (by simp [go_sem, sEv, sLook, nbeq, i64_w, -List.getD_eq_getElem?_getD]) ?_
        refine rw_val (v := .bool (decide (o.mx < ((l.getD j (0, 0, 0, 0, 0, 0)).2.2.2.2.2)))) (w' := w57) rfl rfl rfl rfl (by first | (simp [go_sem, sEv, sLook, nbeq, i64_w, -List.getD_eq_getElem?_getD, cZ]; done) | (rw [cZ]; simp [go_sem, sEv, sLook, nbeq, i64_w, -List.getD_eq_getElem?_getD]; done) | (simp [go_sem, sEv, sLook, nbeq, i64_w, -List.getD_eq_getElem?_getD] <;> omega) | (simp [go_sem, sEv, sLook, nbeq, i64_w, -List.getD_eq_getElem?_getD]; intro h_; exact absurd (by omega) h_)) ?_
        refine rw_end ?_
        refine w_weaken (G' := [(0, .slice (some ad23) l.length c1), (2, .pointer (some ⟨g1, 0, none⟩)), (3, .pointer (some ⟨g7, 0, none⟩)), (4, .int .i64 ((j : Nat) : Int)), (5, .pointer (some ⟨g32, 0, none⟩)), (6, .pointer (some ⟨g51, 0, none⟩)), (52, .bool (decide (o.mx < ((l.getD j (0, 0, 0, 0, 0, 0)).2.2.2.2.2))))]) ⟨rfl, rfl, rfl, rfl, rfl, rfl, rfl, trivial⟩ ?_
        refine w_cond rfl rfl (fun cMx => ?_) (fun cMx => ?_)
        · have l146 : (o.mx < ((l.getD j (0, 0, 0, 0, 0, 0)).2.2.2.2.2)) := of_decide_eq_true cMx
          refine w_region ?_
          refine rw_val (v := .pointer (some ⟨g32, 4, none⟩)) (w' := w57) rfl rfl rfl rfl (by simp [go_sem, sEv, sLook, nbeq, i64_w, -List.getD_eq_getElem?_getD, Try.underlying44]) ?_
          refine rw_val (v := .int .i64 ((l.getD j (0, 0, 0, 0, 0, 0)).2.2.2.2.2)) (w' := w57) rfl rfl rfl rfl (by have eb_ := ((hk40.on hb55).keep hk58 (by omega)); have e0_ := eb_.cellv (i := 4) (v := (.int .i64 ((l.getD j (0, 0, 0, 0, 0, 0)).2.2.2.2.2) : Value)) rfl; simp [go_sem, sEv, sLook, nbeq, i64_w, -List.getD_eq_getElem?_getD, e0_]) ?_
          refine rw_val (v := .pointer (some ⟨g7, 4, none⟩)) (w' := w57) rfl rfl rfl rfl (by simp [go_sem, sEv, sLook, nbeq, i64_w, -List.getD_eq_getElem?_getD, Try.underlying31]) ?_
          refine rw_seg (g := g7) (off := 4) (ty := 3) (p := .tmp 55) (x := .tmp 54) (v := .int .i64 ((l.getD j (0, 0, 0, 0, 0, 0)).2.2.2.2.2)) (cs' := carr (⟨o.cnt, o.hi, o.lo, o.mn, (l.getD j (0, 0, 0, 0, 0, 0)).2.2.2.2.2, o.t, o.src, o.seq, o.v, o.h⟩ : CL)) rfl rfl rfl rfl rfl rfl ((((hf19.on hb34).keep hk39 (by omega)).on hb55).keep hk58 (by omega)) (by kernel_rfl) (by rw [carr_size]; simp [Value.cells] <;> omega) (by intro q hq; simp only [List.mem_cons, List.not_mem_nil, or_false, Value.cells] at hq; (first | (rcases hq with rfl | rfl | rfl | rfl <;> rfl) | (rcases hq with rfl | rfl <;> rfl) | (subst hq; rfl))) (seg_mx o ((l.getD j (0, 0, 0, 0, 0, 0)).2.2.2.2.2)) ?_
          intro w147 hk148 hb149
          have hs_w147 := hk148.size
          refine rw_end ?_
          refine w_weaken (G' := [(0, .slice (some ad23) l.length c1), (2, .pointer (some ⟨g1, 0, none⟩)), (3, .pointer (some ⟨g7, 0, none⟩)), (4, .int .i64 ((j : Nat) : Int)), (5, .pointer (some ⟨g32, 0, none⟩)), (6, .pointer (some ⟨g51, 0, none⟩))]) ⟨rfl, rfl, rfl, rfl, rfl, rfl, trivial⟩ ?_
          refine w_seq ?_
          refine w_seq ?_
          refine w_region ?_
          refine rw_val (v := .int .i64 ((j : Nat) : Int)) (w' := w147) rfl rfl rfl rfl rfl ?_
          refine rw_val (v := .bool (((j : Nat) : Int) == 0)) (w' := w147) rfl rfl rfl rfl (by simp [go_sem, sEv, sLook, nbeq, i64_w, -List.getD_eq_getElem?_getD]) ?_
          refine rw_val (v := .bool (((j : Nat) : Int) == 0)) (w' := w147) rfl rfl rfl rfl rfl ?_
          refine rw_on (c := (((j : Nat) : Int) == 0)) rfl rfl rfl (by first | (rw [cZ]; rfl) | simp [cZ]) ?_
          refine rw_val (v := .agg #[.int .i64 ((l.getD j (0, 0, 0, 0, 0, 0)).2.2.2.1), .int .i64 ((l.getD j (0, 0, 0, 0, 0, 0)).1), .int .i64 ((l.getD j (0, 0, 0, 0, 0, 0)).2.1), .int .i64 ((l.getD j (0, 0, 0, 0, 0, 0)).2.2.2.2.2)]) (w' := w147) rfl rfl rfl rfl (by have eb_ := (hk59.keep hk148 (by omega)); have e0_ := eb_.cellv (i := 0) (v := (.int .i64 ((l.getD j (0, 0, 0, 0, 0, 0)).2.2.2.1) : Value)) rfl; have e1_ := eb_.cellv (i := 1) (v := (.int .i64 ((l.getD j (0, 0, 0, 0, 0, 0)).1) : Value)) rfl; have e2_ := eb_.cellv (i := 2) (v := (.int .i64 ((l.getD j (0, 0, 0, 0, 0, 0)).2.1) : Value)) rfl; have e3_ := eb_.cellv (i := 3) (v := (.int .i64 ((l.getD j (0, 0, 0, 0, 0, 0)).2.2.2.2.2) : Value)) rfl; simp [go_sem, sEv, sLook, nbeq, i64_w, -List.getD_eq_getElem?_getD, e0_, e1_, e2_, e3_, Try.underlying28]) ?_
          refine rw_on (c := (((j : Nat) : Int) == 0)) rfl rfl rfl (by first | (rw [cZ]; rfl) | simp [cZ]) ?_
          refine rw_val (v := .pointer (some ⟨g7, 5, none⟩)) (w' := w147) rfl rfl rfl rfl (by simp [go_sem, sEv, sLook, nbeq, i64_w, -List.getD_eq_getElem?_getD, Try.underlying31]) ?_
          refine rw_on (c := (((j : Nat) : Int) == 0)) rfl rfl rfl (by first | (rw [cZ]; rfl) | simp [cZ]) ?_
          refine rw_val (v := .agg #[.int .i64 o.t, .int .i64 o.src, .int .i64 o.seq, .int .i64 o.v]) (w' := w147) rfl rfl rfl rfl (by have eb_ := hb149; have e0_ := eb_.cellv (v := .int .i64 o.t) (cA5 (⟨o.cnt, o.hi, o.lo, o.mn, (l.getD j (0, 0, 0, 0, 0, 0)).2.2.2.2.2, o.t, o.src, o.seq, o.v, o.h⟩ : CL)); have e1_ := eb_.cellv (v := .int .i64 o.src) (cA6 (⟨o.cnt, o.hi, o.lo, o.mn, (l.getD j (0, 0, 0, 0, 0, 0)).2.2.2.2.2, o.t, o.src, o.seq, o.v, o.h⟩ : CL)); have e2_ := eb_.cellv (v := .int .i64 o.seq) (cA7 (⟨o.cnt, o.hi, o.lo, o.mn, (l.getD j (0, 0, 0, 0, 0, 0)).2.2.2.2.2, o.t, o.src, o.seq, o.v, o.h⟩ : CL)); have e3_ := eb_.cellv (v := .int .i64 o.v) (cA8 (⟨o.cnt, o.hi, o.lo, o.mn, (l.getD j (0, 0, 0, 0, 0, 0)).2.2.2.2.2, o.t, o.src, o.seq, o.v, o.h⟩ : CL)); simp [go_sem, sEv, sLook, nbeq, i64_w, -List.getD_eq_getElem?_getD, e0_, e1_, e2_, e3_, Try.underlying28]) ?_
          refine rw_on (c := (((j : Nat) : Int) == 0)) rfl rfl rfl (by first | (rw [cZ]; rfl) | simp [cZ]) ?_
          refine rw_call rfl rfl rfl rfl (f := 17) (args := #[.agg #[.int .i64 ((l.getD j (0, 0, 0, 0, 0, 0)).2.2.2.1), .int .i64 ((l.getD j (0, 0, 0, 0, 0, 0)).1), .int .i64 ((l.getD j (0, 0, 0, 0, 0, 0)).2.1), .int .i64 ((l.getD j (0, 0, 0, 0, 0, 0)).2.2.2.2.2)], .agg #[.int .i64 o.t, .int .i64 o.src, .int .i64 o.seq, .int .i64 o.v]]) (by simp [go_sem, sEv, sLook, nbeq, i64_w, -List.getD_eq_getElem?_getD]) (rlater_calls ((l.getD j (0, 0, 0, 0, 0, 0)).2.2.2.1) ((l.getD j (0, 0, 0, 0, 0, 0)).1) ((l.getD j (0, 0, 0, 0, 0, 0)).2.1) ((l.getD j (0, 0, 0, 0, 0, 0)).2.2.2.2.2) o.t o.src o.seq o.v w147) ?_
          rintro e_ w150 ⟨rfl, hb151⟩
          refine ⟨_, rfl, ?_⟩
          have hs_w150 := hb151.size
          refine rw_val (v := .bool (later ((l.getD j (0, 0, 0, 0, 0, 0)).2.2.2.1) ((l.getD j (0, 0, 0, 0, 0, 0)).1) ((l.getD j (0, 0, 0, 0, 0, 0)).2.1) ((l.getD j (0, 0, 0, 0, 0, 0)).2.2.2.2.2) o.t o.src o.seq o.v)) (w' := w150) rfl rfl rfl rfl (by first | (simp [go_sem, sEv, sLook, nbeq, i64_w, -List.getD_eq_getElem?_getD, cZ]; done) | (rw [cZ]; simp [go_sem, sEv, sLook, nbeq, i64_w, -List.getD_eq_getElem?_getD]; done) | (simp [go_sem, sEv, sLook, nbeq, i64_w, -List.getD_eq_getElem?_getD] <;> omega) | (simp [go_sem, sEv, sLook, nbeq, i64_w, -List.getD_eq_getElem?_getD]; intro h_; exact absurd (by omega) h_)) ?_
          refine rw_end ?_
          refine w_weaken (G' := [(0, .slice (some ad23) l.length c1), (2, .pointer (some ⟨g1, 0, none⟩)), (3, .pointer (some ⟨g7, 0, none⟩)), (4, .int .i64 ((j : Nat) : Int)), (5, .pointer (some ⟨g32, 0, none⟩)), (6, .pointer (some ⟨g51, 0, none⟩)), (63, .bool (later ((l.getD j (0, 0, 0, 0, 0, 0)).2.2.2.1) ((l.getD j (0, 0, 0, 0, 0, 0)).1) ((l.getD j (0, 0, 0, 0, 0, 0)).2.1) ((l.getD j (0, 0, 0, 0, 0, 0)).2.2.2.2.2) o.t o.src o.seq o.v))]) ⟨rfl, rfl, rfl, rfl, rfl, rfl, rfl, trivial⟩ ?_
          refine w_cond rfl rfl (fun cL => ?_) (fun cL => ?_)
          · refine w_region ?_
            refine rw_val (v := .agg #[.int .i64 ((l.getD j (0, 0, 0, 0, 0, 0)).2.2.2.1), .int .i64 ((l.getD j (0, 0, 0, 0, 0, 0)).1), .int .i64 ((l.getD j (0, 0, 0, 0, 0, 0)).2.1), .int .i64 ((l.getD j (0, 0, 0, 0, 0, 0)).2.2.2.2.2)]) (w' := w150) rfl rfl rfl rfl (by have eb_ := ((hk59.keep hk148 (by omega)).on hb151); have e0_ := eb_.cellv (i := 0) (v := (.int .i64 ((l.getD j (0, 0, 0, 0, 0, 0)).2.2.2.1) : Value)) rfl; have e1_ := eb_.cellv (i := 1) (v := (.int .i64 ((l.getD j (0, 0, 0, 0, 0, 0)).1) : Value)) rfl; have e2_ := eb_.cellv (i := 2) (v := (.int .i64 ((l.getD j (0, 0, 0, 0, 0, 0)).2.1) : Value)) rfl; have e3_ := eb_.cellv (i := 3) (v := (.int .i64 ((l.getD j (0, 0, 0, 0, 0, 0)).2.2.2.2.2) : Value)) rfl; simp [go_sem, sEv, sLook, nbeq, i64_w, -List.getD_eq_getElem?_getD, e0_, e1_, e2_, e3_, Try.underlying28]) ?_
            refine rw_val (v := .pointer (some ⟨g7, 5, none⟩)) (w' := w150) rfl rfl rfl rfl (by simp [go_sem, sEv, sLook, nbeq, i64_w, -List.getD_eq_getElem?_getD, Try.underlying31]) ?_
            refine rw_seg (g := g7) (off := 5) (ty := 28) (p := .tmp 65) (x := .tmp 64) (v := .agg #[.int .i64 ((l.getD j (0, 0, 0, 0, 0, 0)).2.2.2.1), .int .i64 ((l.getD j (0, 0, 0, 0, 0, 0)).1), .int .i64 ((l.getD j (0, 0, 0, 0, 0, 0)).2.1), .int .i64 ((l.getD j (0, 0, 0, 0, 0, 0)).2.2.2.2.2)]) (cs' := carr (⟨o.cnt, o.hi, o.lo, o.mn, (l.getD j (0, 0, 0, 0, 0, 0)).2.2.2.2.2, (l.getD j (0, 0, 0, 0, 0, 0)).2.2.2.1, (l.getD j (0, 0, 0, 0, 0, 0)).1, (l.getD j (0, 0, 0, 0, 0, 0)).2.1, (l.getD j (0, 0, 0, 0, 0, 0)).2.2.2.2.2, o.h⟩ : CL)) rfl rfl rfl rfl rfl rfl (hb149.on hb151) (by kernel_rfl) (by rw [carr_size]; simp [Value.cells] <;> omega) (by intro q hq; simp only [List.mem_cons, List.not_mem_nil, or_false, Value.cells] at hq; (first | (rcases hq with rfl | rfl | rfl | rfl <;> rfl) | (rcases hq with rfl | rfl <;> rfl) | (subst hq; rfl))) (seg_last (⟨o.cnt, o.hi, o.lo, o.mn, (l.getD j (0, 0, 0, 0, 0, 0)).2.2.2.2.2, o.t, o.src, o.seq, o.v, o.h⟩ : CL) ((l.getD j (0, 0, 0, 0, 0, 0)).2.2.2.1) ((l.getD j (0, 0, 0, 0, 0, 0)).1) ((l.getD j (0, 0, 0, 0, 0, 0)).2.1) ((l.getD j (0, 0, 0, 0, 0, 0)).2.2.2.2.2)) ?_
            intro w152 hk153 hb154
            have hs_w152 := hk153.size
            refine rw_end ?_
            refine w_seq ?_
            refine w_region ?_
            refine rw_val (v := .pointer (some ⟨g7, 0, none⟩)) (w' := w152) rfl rfl rfl rfl (by simp [go_sem, sEv, sLook, nbeq, i64_w, -List.getD_eq_getElem?_getD, Try.underlying31]) ?_
            refine rw_val (v := .int .i64 o.cnt) (w' := w152) rfl rfl rfl rfl (by have eb_ := hb154; have e0_ := eb_.cellv (v := .int .i64 o.cnt) (cA0 (⟨o.cnt, o.hi, o.lo, o.mn, (l.getD j (0, 0, 0, 0, 0, 0)).2.2.2.2.2, (l.getD j (0, 0, 0, 0, 0, 0)).2.2.2.1, (l.getD j (0, 0, 0, 0, 0, 0)).1, (l.getD j (0, 0, 0, 0, 0, 0)).2.1, (l.getD j (0, 0, 0, 0, 0, 0)).2.2.2.2.2, o.h⟩ : CL)); simp [go_sem, sEv, sLook, nbeq, i64_w, -List.getD_eq_getElem?_getD, e0_]) ?_
            refine rw_val (v := .int .i64 (o.cnt + 1)) (w' := w152) rfl rfl rfl rfl (by simp [go_sem, sEv, sLook, nbeq, i64_w, -List.getD_eq_getElem?_getD]; exact wrap_id (by omega) (by omega)) ?_
            refine rw_val (v := .pointer (some ⟨g7, 0, none⟩)) (w' := w152) rfl rfl rfl rfl (by simp [go_sem, sEv, sLook, nbeq, i64_w, -List.getD_eq_getElem?_getD, Try.underlying31]) ?_
            refine rw_seg (g := g7) (off := 0) (ty := 3) (p := .tmp 69) (x := .tmp 68) (v := .int .i64 (o.cnt + 1)) (cs' := carr (⟨(o.cnt + 1), o.hi, o.lo, o.mn, (l.getD j (0, 0, 0, 0, 0, 0)).2.2.2.2.2, (l.getD j (0, 0, 0, 0, 0, 0)).2.2.2.1, (l.getD j (0, 0, 0, 0, 0, 0)).1, (l.getD j (0, 0, 0, 0, 0, 0)).2.1, (l.getD j (0, 0, 0, 0, 0, 0)).2.2.2.2.2, o.h⟩ : CL)) rfl rfl rfl rfl rfl rfl hb154 (by kernel_rfl) (by rw [carr_size]; simp [Value.cells] <;> omega) (by intro q hq; simp only [List.mem_cons, List.not_mem_nil, or_false, Value.cells] at hq; (first | (rcases hq with rfl | rfl | rfl | rfl <;> rfl) | (rcases hq with rfl | rfl <;> rfl) | (subst hq; rfl))) (seg_cnt (⟨o.cnt, o.hi, o.lo, o.mn, (l.getD j (0, 0, 0, 0, 0, 0)).2.2.2.2.2, (l.getD j (0, 0, 0, 0, 0, 0)).2.2.2.1, (l.getD j (0, 0, 0, 0, 0, 0)).1, (l.getD j (0, 0, 0, 0, 0, 0)).2.1, (l.getD j (0, 0, 0, 0, 0, 0)).2.2.2.2.2, o.h⟩ : CL) (o.cnt + 1)) ?_
            intro w155 hk156 hb157
            have hs_w155 := hk156.size
            refine rw_end ?_
            refine w_weaken (G' := [(0, .slice (some ad23) l.length c1), (2, .pointer (some ⟨g1, 0, none⟩)), (3, .pointer (some ⟨g7, 0, none⟩)), (4, .int .i64 ((j : Nat) : Int)), (5, .pointer (some ⟨g32, 0, none⟩))]) ⟨rfl, rfl, rfl, rfl, rfl, trivial⟩ ?_
            refine w_seq ?_
            refine w_drawk (M := [0, 1, 0, 4, 12, 31, 63, 127]) (ss := [Is (.pointer (some ⟨g7, 1, none⟩)), Is (.agg #[.int .i64 o.hi, .int .u64 o.lo]), Is (.pointer (some ⟨g32, 4, none⟩)), Is (.int .i64 ((l.getD j (0, 0, 0, 0, 0, 0)).2.2.2.2.2)), (Is (.agg #[.int .i64 (((l.getD j (0, 0, 0, 0, 0, 0)).2.2.2.2.2) / 9223372036854775808), .int .u64 (((l.getD j (0, 0, 0, 0, 0, 0)).2.2.2.2.2) % 18446744073709551616)]))]) 5 rfl (by decide +kernel) ?_
            refine t_is (.pointer (some ⟨g7, 1, none⟩)) rfl rfl rfl rfl (fun W_ hW_ F_ => by simp [go_sem, sEv, sLook, nbeq, i64_w, -List.getD_eq_getElem?_getD, Try.underlying31]) ?_
            refine t_is (.agg #[.int .i64 o.hi, .int .u64 o.lo]) rfl rfl rfl rfl (fun W_ hW_ F_ => (by have eb_ := (hb157.on (below_of_drew hW_)); have e0_ := eb_.cellv (v := .int .i64 o.hi) (cA1 (⟨(o.cnt + 1), o.hi, o.lo, o.mn, (l.getD j (0, 0, 0, 0, 0, 0)).2.2.2.2.2, (l.getD j (0, 0, 0, 0, 0, 0)).2.2.2.1, (l.getD j (0, 0, 0, 0, 0, 0)).1, (l.getD j (0, 0, 0, 0, 0, 0)).2.1, (l.getD j (0, 0, 0, 0, 0, 0)).2.2.2.2.2, o.h⟩ : CL)); have e1_ := eb_.cellv (v := .int .u64 o.lo) (cA2 (⟨(o.cnt + 1), o.hi, o.lo, o.mn, (l.getD j (0, 0, 0, 0, 0, 0)).2.2.2.2.2, (l.getD j (0, 0, 0, 0, 0, 0)).2.2.2.1, (l.getD j (0, 0, 0, 0, 0, 0)).1, (l.getD j (0, 0, 0, 0, 0, 0)).2.1, (l.getD j (0, 0, 0, 0, 0, 0)).2.2.2.2.2, o.h⟩ : CL)); simp [go_sem, sEv, sLook, nbeq, i64_w, -List.getD_eq_getElem?_getD, e0_, e1_, Try.underlying26])) ?_
            refine t_is (.pointer (some ⟨g32, 4, none⟩)) rfl rfl rfl rfl (fun W_ hW_ F_ => by simp [go_sem, sEv, sLook, nbeq, i64_w, -List.getD_eq_getElem?_getD, Try.underlying44]) ?_
            refine t_is (.int .i64 ((l.getD j (0, 0, 0, 0, 0, 0)).2.2.2.2.2)) rfl rfl rfl rfl (fun W_ hW_ F_ => by have eb_ := (((((((hk40.on hb55).keep hk58 (by omega)).keep hk148 (by omega)).on hb151).keep hk153 (by omega)).keep hk156 (by omega)).on (below_of_drew hW_)); have e0_ := eb_.cellv (i := 4) (v := (.int .i64 ((l.getD j (0, 0, 0, 0, 0, 0)).2.2.2.2.2) : Value)) rfl; simp [go_sem, sEv, sLook, nbeq, i64_w, -List.getD_eq_getElem?_getD, e0_]) ?_
            refine t_call (f := 26) (args := #[.int .i64 ((l.getD j (0, 0, 0, 0, 0, 0)).2.2.2.2.2)]) (Is (.agg #[.int .i64 (((l.getD j (0, 0, 0, 0, 0, 0)).2.2.2.2.2) / 9223372036854775808), .int .u64 (((l.getD j (0, 0, 0, 0, 0, 0)).2.2.2.2.2) % 18446744073709551616)])) rfl rfl rfl rfl (fun W_ => by simp [go_sem, sEv, sLook, nbeq, i64_w, -List.getD_eq_getElem?_getD]) (fun W_ hW_ F_ => ?_) ?_
            · refine (rof_calls ((l.getD j (0, 0, 0, 0, 0, 0)).2.2.2.2.2) (hv _ (getD_mem l j (0, 0, 0, 0, 0, 0) (by omega))) W_).mono ?_
              rintro e_ w_ ⟨rfl, hb_⟩
              exact ⟨_, rfl, rfl, hb_⟩
            rintro _ rfl
            refine t_tail ?_
            intro w158 hb159_ F160
            have hb159 := below_of_drew hb159_
            have hs_w158 := hb159.size
            refine rw_call rfl rfl rfl rfl (f := 25) (args := #[.agg #[.int .i64 o.hi, .int .u64 o.lo], .agg #[.int .i64 (((l.getD j (0, 0, 0, 0, 0, 0)).2.2.2.2.2) / 9223372036854775808), .int .u64 (((l.getD j (0, 0, 0, 0, 0, 0)).2.2.2.2.2) % 18446744073709551616)]]) (by simp [go_sem, sEv, sLook, nbeq, i64_w, -List.getD_eq_getElem?_getD]) (radd_calls o.hi o.lo (((l.getD j (0, 0, 0, 0, 0, 0)).2.2.2.2.2) / 9223372036854775808) (((l.getD j (0, 0, 0, 0, 0, 0)).2.2.2.2.2) % 18446744073709551616) hhi_ hlo_ (by have h_ := (hv _ (getD_mem l j (0, 0, 0, 0, 0, 0) (by omega))); omega) (by omega) w158) ?_
            rintro e_ w161 ⟨rfl, hb162⟩
            refine ⟨_, rfl, ?_⟩
            have hs_w161 := hb162.size
            refine rw_val (v := .pointer (some ⟨g7, 1, none⟩)) (w' := w161) rfl rfl rfl rfl (by simp [go_sem, sEv, sLook, nbeq, i64_w, -List.getD_eq_getElem?_getD, Try.underlying31]) ?_
            refine rw_seg (g := g7) (off := 1) (ty := 26) (p := .tmp 76) (x := .tmp 75) (v := .agg #[.int .i64 (wh o.hi o.lo (((l.getD j (0, 0, 0, 0, 0, 0)).2.2.2.2.2) / 9223372036854775808) (((l.getD j (0, 0, 0, 0, 0, 0)).2.2.2.2.2) % 18446744073709551616)), .int .u64 (wl o.lo (((l.getD j (0, 0, 0, 0, 0, 0)).2.2.2.2.2) % 18446744073709551616))]) (cs' := carr (⟨(o.cnt + 1), (wh o.hi o.lo (((l.getD j (0, 0, 0, 0, 0, 0)).2.2.2.2.2) / 9223372036854775808) (((l.getD j (0, 0, 0, 0, 0, 0)).2.2.2.2.2) % 18446744073709551616)), (wl o.lo (((l.getD j (0, 0, 0, 0, 0, 0)).2.2.2.2.2) % 18446744073709551616)), o.mn, (l.getD j (0, 0, 0, 0, 0, 0)).2.2.2.2.2, (l.getD j (0, 0, 0, 0, 0, 0)).2.2.2.1, (l.getD j (0, 0, 0, 0, 0, 0)).1, (l.getD j (0, 0, 0, 0, 0, 0)).2.1, (l.getD j (0, 0, 0, 0, 0, 0)).2.2.2.2.2, o.h⟩ : CL)) rfl rfl rfl rfl rfl rfl ((hb157.on hb159).on hb162) (by kernel_rfl) (by rw [carr_size]; simp [Value.cells] <;> omega) (by intro q hq; simp only [List.mem_cons, List.not_mem_nil, or_false, Value.cells] at hq; (first | (rcases hq with rfl | rfl | rfl | rfl <;> rfl) | (rcases hq with rfl | rfl <;> rfl) | (subst hq; rfl))) (seg_sum (⟨(o.cnt + 1), o.hi, o.lo, o.mn, (l.getD j (0, 0, 0, 0, 0, 0)).2.2.2.2.2, (l.getD j (0, 0, 0, 0, 0, 0)).2.2.2.1, (l.getD j (0, 0, 0, 0, 0, 0)).1, (l.getD j (0, 0, 0, 0, 0, 0)).2.1, (l.getD j (0, 0, 0, 0, 0, 0)).2.2.2.2.2, o.h⟩ : CL) (wh o.hi o.lo (((l.getD j (0, 0, 0, 0, 0, 0)).2.2.2.2.2) / 9223372036854775808) (((l.getD j (0, 0, 0, 0, 0, 0)).2.2.2.2.2) % 18446744073709551616)) (wl o.lo (((l.getD j (0, 0, 0, 0, 0, 0)).2.2.2.2.2) % 18446744073709551616))) ?_
            intro w163 hk164 hb165
            have hs_w163 := hk164.size
            refine rw_end ?_
            refine w_weaken (G' := [(0, .slice (some ad23) l.length c1), (2, .pointer (some ⟨g1, 0, none⟩)), (3, .pointer (some ⟨g7, 0, none⟩)), (4, .int .i64 ((j : Nat) : Int)), (5, .pointer (some ⟨g32, 0, none⟩))]) ⟨rfl, rfl, rfl, rfl, rfl, trivial⟩ ?_
            refine w_seq ?_
            refine w_region ?_
            refine rw_val (v := .pointer (some ⟨g32, 4, none⟩)) (w' := w163) rfl rfl rfl rfl (by simp [go_sem, sEv, sLook, nbeq, i64_w, -List.getD_eq_getElem?_getD, Try.underlying44]) ?_
            refine rw_val (v := .int .i64 ((l.getD j (0, 0, 0, 0, 0, 0)).2.2.2.2.2)) (w' := w163) rfl rfl rfl rfl (by have eb_ := (((((((((hk40.on hb55).keep hk58 (by omega)).keep hk148 (by omega)).on hb151).keep hk153 (by omega)).keep hk156 (by omega)).on hb159).on hb162).keep hk164 (by omega)); have e0_ := eb_.cellv (i := 4) (v := (.int .i64 ((l.getD j (0, 0, 0, 0, 0, 0)).2.2.2.2.2) : Value)) rfl; simp [go_sem, sEv, sLook, nbeq, i64_w, -List.getD_eq_getElem?_getD, e0_]) ?_
            refine rw_call rfl rfl rfl rfl (f := 27) (args := #[.int .i64 ((l.getD j (0, 0, 0, 0, 0, 0)).2.2.2.2.2)]) (by simp [go_sem, sEv, sLook, nbeq, i64_w, -List.getD_eq_getElem?_getD]) (rbits_calls ((l.getD j (0, 0, 0, 0, 0, 0)).2.2.2.2.2) (hv _ (getD_mem l j (0, 0, 0, 0, 0, 0) (by omega))) w163) ?_
            rintro e_ w166 ⟨rfl, hb167⟩
            refine ⟨_, rfl, ?_⟩
            have hs_w166 := hb167.size
            have hbl_ := blen_64 ((l.getD j (0, 0, 0, 0, 0, 0)).2.2.2.2.2) (hv _ (getD_mem l j (0, 0, 0, 0, 0, 0) (by omega)))
            have hat_ := atF_bnd hB_ (blen ((l.getD j (0, 0, 0, 0, 0, 0)).2.2.2.2.2).natAbs)
            rw [hlt_] at hat_
            refine rw_val (v := .int .i64 (((blen ((l.getD j (0, 0, 0, 0, 0, 0)).2.2.2.2.2).natAbs) : Nat) : Int)) (w' := w166) rfl rfl rfl rfl rfl ?_
            refine rw_end ?_
            refine w_weaken (G' := [(0, .slice (some ad23) l.length c1), (2, .pointer (some ⟨g1, 0, none⟩)), (3, .pointer (some ⟨g7, 0, none⟩)), (4, .int .i64 ((j : Nat) : Int)), (7, .int .i64 (((blen ((l.getD j (0, 0, 0, 0, 0, 0)).2.2.2.2.2).natAbs) : Nat) : Int))]) ⟨rfl, rfl, rfl, rfl, rfl, trivial⟩ ?_
            refine w_region ?_
            refine rw_val (v := .int .i64 (((blen ((l.getD j (0, 0, 0, 0, 0, 0)).2.2.2.2.2).natAbs) : Nat) : Int)) (w' := w166) rfl rfl rfl rfl rfl ?_
            refine rw_val (v := .int .i64 (((blen ((l.getD j (0, 0, 0, 0, 0, 0)).2.2.2.2.2).natAbs) : Nat) : Int)) (w' := w166) rfl rfl rfl rfl rfl ?_
            refine rw_val (v := .pointer (some ⟨g7, 9, none⟩)) (w' := w166) rfl rfl rfl rfl (by simp [go_sem, sEv, sLook, nbeq, i64_w, -List.getD_eq_getElem?_getD, Try.underlying31]) ?_
            refine rw_val (v := .pointer (some ⟨g7, 9 + (blen ((l.getD j (0, 0, 0, 0, 0, 0)).2.2.2.2.2).natAbs), none⟩)) (w' := w166) rfl rfl rfl rfl (run_as (addr_hist (blen ((l.getD j (0, 0, 0, 0, 0, 0)).2.2.2.2.2).natAbs) (by omega) _)) ?_
            refine rw_val (v := .int .i64 (atF o.h (blen ((l.getD j (0, 0, 0, 0, 0, 0)).2.2.2.2.2).natAbs))) (w' := w166) rfl rfl rfl rfl (by have e0_ := ((hb165.on hb167)).cellv (cHA (⟨(o.cnt + 1), (wh o.hi o.lo (((l.getD j (0, 0, 0, 0, 0, 0)).2.2.2.2.2) / 9223372036854775808) (((l.getD j (0, 0, 0, 0, 0, 0)).2.2.2.2.2) % 18446744073709551616)), (wl o.lo (((l.getD j (0, 0, 0, 0, 0, 0)).2.2.2.2.2) % 18446744073709551616)), o.mn, (l.getD j (0, 0, 0, 0, 0, 0)).2.2.2.2.2, (l.getD j (0, 0, 0, 0, 0, 0)).2.2.2.1, (l.getD j (0, 0, 0, 0, 0, 0)).1, (l.getD j (0, 0, 0, 0, 0, 0)).2.1, (l.getD j (0, 0, 0, 0, 0, 0)).2.2.2.2.2, o.h⟩ : CL) (blen ((l.getD j (0, 0, 0, 0, 0, 0)).2.2.2.2.2).natAbs) (by omega)); simp [go_sem, sEv, sLook, nbeq, i64_w, -List.getD_eq_getElem?_getD, e0_]) ?_
            refine rw_val (v := .int .i64 ((atF o.h (blen ((l.getD j (0, 0, 0, 0, 0, 0)).2.2.2.2.2).natAbs)) + 1)) (w' := w166) rfl rfl rfl rfl (by simp [go_sem, sEv, sLook, nbeq, i64_w, -List.getD_eq_getElem?_getD]; exact wrap_id (by omega) (by omega)) ?_
            refine rw_val (v := .pointer (some ⟨g7, 9, none⟩)) (w' := w166) rfl rfl rfl rfl (by simp [go_sem, sEv, sLook, nbeq, i64_w, -List.getD_eq_getElem?_getD, Try.underlying31]) ?_
            refine rw_val (v := .pointer (some ⟨g7, 9 + (blen ((l.getD j (0, 0, 0, 0, 0, 0)).2.2.2.2.2).natAbs), none⟩)) (w' := w166) rfl rfl rfl rfl (run_as (addr_hist (blen ((l.getD j (0, 0, 0, 0, 0, 0)).2.2.2.2.2).natAbs) (by omega) _)) ?_
            refine rw_seg (g := g7) (off := (9 + (blen ((l.getD j (0, 0, 0, 0, 0, 0)).2.2.2.2.2).natAbs))) (ty := 3) (p := .tmp 87) (x := .tmp 85) (v := .int .i64 ((atF o.h (blen ((l.getD j (0, 0, 0, 0, 0, 0)).2.2.2.2.2).natAbs)) + 1)) (cs' := carr (⟨(o.cnt + 1), (wh o.hi o.lo (((l.getD j (0, 0, 0, 0, 0, 0)).2.2.2.2.2) / 9223372036854775808) (((l.getD j (0, 0, 0, 0, 0, 0)).2.2.2.2.2) % 18446744073709551616)), (wl o.lo (((l.getD j (0, 0, 0, 0, 0, 0)).2.2.2.2.2) % 18446744073709551616)), o.mn, (l.getD j (0, 0, 0, 0, 0, 0)).2.2.2.2.2, (l.getD j (0, 0, 0, 0, 0, 0)).2.2.2.1, (l.getD j (0, 0, 0, 0, 0, 0)).1, (l.getD j (0, 0, 0, 0, 0, 0)).2.1, (l.getD j (0, 0, 0, 0, 0, 0)).2.2.2.2.2, (updF o.h (blen ((l.getD j (0, 0, 0, 0, 0, 0)).2.2.2.2.2).natAbs) ((atF o.h (blen ((l.getD j (0, 0, 0, 0, 0, 0)).2.2.2.2.2).natAbs)) + 1))⟩ : CL)) rfl rfl rfl rfl rfl rfl (hb165.on hb167) (by kernel_rfl) (by rw [carr_size]; show 9 + (blen ((l.getD j (0, 0, 0, 0, 0, 0)).2.2.2.2.2).natAbs) + 1 ≤ 74; omega) (by intro q hq; simp only [List.mem_cons, List.not_mem_nil, or_false, Value.cells] at hq; (first | (rcases hq with rfl | rfl | rfl | rfl <;> rfl) | (rcases hq with rfl | rfl <;> rfl) | (subst hq; rfl))) (seg_h (⟨(o.cnt + 1), (wh o.hi o.lo (((l.getD j (0, 0, 0, 0, 0, 0)).2.2.2.2.2) / 9223372036854775808) (((l.getD j (0, 0, 0, 0, 0, 0)).2.2.2.2.2) % 18446744073709551616)), (wl o.lo (((l.getD j (0, 0, 0, 0, 0, 0)).2.2.2.2.2) % 18446744073709551616)), o.mn, (l.getD j (0, 0, 0, 0, 0, 0)).2.2.2.2.2, (l.getD j (0, 0, 0, 0, 0, 0)).2.2.2.1, (l.getD j (0, 0, 0, 0, 0, 0)).1, (l.getD j (0, 0, 0, 0, 0, 0)).2.1, (l.getD j (0, 0, 0, 0, 0, 0)).2.2.2.2.2, o.h⟩ : CL) (blen ((l.getD j (0, 0, 0, 0, 0, 0)).2.2.2.2.2).natAbs) (by omega) ((atF o.h (blen ((l.getD j (0, 0, 0, 0, 0, 0)).2.2.2.2.2).natAbs)) + 1)) ?_
            intro w168 hk169 hb170
            have hs_w168 := hk169.size
            refine rw_end ?_
            refine w_weaken (G' := [(0, .slice (some ad23) l.length c1), (2, .pointer (some ⟨g1, 0, none⟩)), (3, .pointer (some ⟨g7, 0, none⟩)), (4, .int .i64 ((j : Nat) : Int))]) ⟨rfl, rfl, rfl, rfl, trivial⟩ ?_
            refine w_blk ?_
            refine w_region ?_
            refine rw_val (v := .int .i64 ((j : Nat) : Int)) (w' := w168) rfl rfl rfl rfl rfl ?_
            refine rw_val (v := .int .i64 ((j + 1 : Nat) : Int)) (w' := w168) rfl rfl rfl rfl (by simp [go_sem, sEv, sLook, nbeq, i64_w, -List.getD_eq_getElem?_getD]; exact wrap_id (by omega) (by omega)) ?_
            refine rw_val (v := .int .i64 ((j + 1 : Nat) : Int)) (w' := w168) rfl rfl rfl rfl rfl ?_
            refine rw_end ?_
            exact w_back (m_ - 1) [(0, .slice (some ad23) l.length c1), (2, .pointer (some ⟨g1, 0, none⟩)), (3, .pointer (some ⟨g7, 0, none⟩)), (4, .int .i64 ((j + 1 : Nat) : Int))] (by omega) ⟨rfl, rfl, rfl, rfl, trivial⟩ ⟨(j + 1), (⟨(o.cnt + 1), (wh o.hi o.lo (((l.getD j (0, 0, 0, 0, 0, 0)).2.2.2.2.2) / 9223372036854775808) (((l.getD j (0, 0, 0, 0, 0, 0)).2.2.2.2.2) % 18446744073709551616)), (wl o.lo (((l.getD j (0, 0, 0, 0, 0, 0)).2.2.2.2.2) % 18446744073709551616)), o.mn, (l.getD j (0, 0, 0, 0, 0, 0)).2.2.2.2.2, (l.getD j (0, 0, 0, 0, 0, 0)).2.2.2.1, (l.getD j (0, 0, 0, 0, 0, 0)).1, (l.getD j (0, 0, 0, 0, 0, 0)).2.1, (l.getD j (0, 0, 0, 0, 0, 0)).2.2.2.2.2, (updF o.h (blen ((l.getD j (0, 0, 0, 0, 0, 0)).2.2.2.2.2).natAbs) ((atF o.h (blen ((l.getD j (0, 0, 0, 0, 0, 0)).2.2.2.2.2).natAbs)) + 1))⟩ : CL), by omega, (hk169.below (by omega) (chain (hk164.below (by omega) (chain (chain (hk156.below (by omega) (hk153.below (by omega) (chain (hk148.below (by omega) (hk58.below (by omega) (chain (hk39.below (by omega) (chain hB_L16 hb34)) hb55))) hb151))) hb159) hb162)) hb167)), (of_leaf l j (by omega) (by omega) hv (l.getD j (0, 0, 0, 0, 0, 0)) rfl o hf18 o.mn ((l.getD j (0, 0, 0, 0, 0, 0)).2.2.2.2.2) ((l.getD j (0, 0, 0, 0, 0, 0)).2.2.2.1) ((l.getD j (0, 0, 0, 0, 0, 0)).1) ((l.getD j (0, 0, 0, 0, 0, 0)).2.1) ((l.getD j (0, 0, 0, 0, 0, 0)).2.2.2.2.2) (by rw [if_neg (fun h_ => h_.elim (fun h2_ => absurd h2_ (by have h_ := cZ; simpa using h_)) (fun h2_ => absurd h2_ (of_decide_eq_false cMn)))]) (by rw [if_pos (.inr (of_decide_eq_true cMx))]) (by rw [if_pos (.inr (cL))])).symm, hb170, (((((((((((((hf20.on hb34).keep hk39 (by omega)).on hb55).keep hk58 (by omega)).keep hk148 (by omega)).on hb151).keep hk153 (by omega)).keep hk156 (by omega)).on hb159).on hb162).keep hk164 (by omega)).on hb167).keep hk169 (by omega)), (wrap_rng _), rfl⟩
          · refine w_skip ?_
            refine w_seq ?_
            refine w_region ?_
            refine rw_val (v := .pointer (some ⟨g7, 0, none⟩)) (w' := w150) rfl rfl rfl rfl (by simp [go_sem, sEv, sLook, nbeq, i64_w, -List.getD_eq_getElem?_getD, Try.underlying31]) ?_
            refine rw_val (v := .int .i64 o.cnt) (w' := w150) rfl rfl rfl rfl (by have eb_ := (hb149.on hb151); have e0_ := eb_.cellv (v := .int .i64 o.cnt) (cA0 (⟨o.cnt, o.hi, o.lo, o.mn, (l.getD j (0, 0, 0, 0, 0, 0)).2.2.2.2.2, o.t, o.src, o.seq, o.v, o.h⟩ : CL)); simp [go_sem, sEv, sLook, nbeq, i64_w, -List.getD_eq_getElem?_getD, e0_]) ?_
            refine rw_val (v := .int .i64 (o.cnt + 1)) (w' := w150) rfl rfl rfl rfl (by simp [go_sem, sEv, sLook, nbeq, i64_w, -List.getD_eq_getElem?_getD]; exact wrap_id (by omega) (by omega)) ?_
            refine rw_val (v := .pointer (some ⟨g7, 0, none⟩)) (w' := w150) rfl rfl rfl rfl (by simp [go_sem, sEv, sLook, nbeq, i64_w, -List.getD_eq_getElem?_getD, Try.underlying31]) ?_
            refine rw_seg (g := g7) (off := 0) (ty := 3) (p := .tmp 69) (x := .tmp 68) (v := .int .i64 (o.cnt + 1)) (cs' := carr (⟨(o.cnt + 1), o.hi, o.lo, o.mn, (l.getD j (0, 0, 0, 0, 0, 0)).2.2.2.2.2, o.t, o.src, o.seq, o.v, o.h⟩ : CL)) rfl rfl rfl rfl rfl rfl (hb149.on hb151) (by kernel_rfl) (by rw [carr_size]; simp [Value.cells] <;> omega) (by intro q hq; simp only [List.mem_cons, List.not_mem_nil, or_false, Value.cells] at hq; (first | (rcases hq with rfl | rfl | rfl | rfl <;> rfl) | (rcases hq with rfl | rfl <;> rfl) | (subst hq; rfl))) (seg_cnt (⟨o.cnt, o.hi, o.lo, o.mn, (l.getD j (0, 0, 0, 0, 0, 0)).2.2.2.2.2, o.t, o.src, o.seq, o.v, o.h⟩ : CL) (o.cnt + 1)) ?_
            intro w171 hk172 hb173
            have hs_w171 := hk172.size
            refine rw_end ?_
            refine w_weaken (G' := [(0, .slice (some ad23) l.length c1), (2, .pointer (some ⟨g1, 0, none⟩)), (3, .pointer (some ⟨g7, 0, none⟩)), (4, .int .i64 ((j : Nat) : Int)), (5, .pointer (some ⟨g32, 0, none⟩))]) ⟨rfl, rfl, rfl, rfl, rfl, trivial⟩ ?_
            refine w_seq ?_
            refine w_drawk (M := [0, 1, 0, 4, 12, 31, 63, 127]) (ss := [Is (.pointer (some ⟨g7, 1, none⟩)), Is (.agg #[.int .i64 o.hi, .int .u64 o.lo]), Is (.pointer (some ⟨g32, 4, none⟩)), Is (.int .i64 ((l.getD j (0, 0, 0, 0, 0, 0)).2.2.2.2.2)), (Is (.agg #[.int .i64 (((l.getD j (0, 0, 0, 0, 0, 0)).2.2.2.2.2) / 9223372036854775808), .int .u64 (((l.getD j (0, 0, 0, 0, 0, 0)).2.2.2.2.2) % 18446744073709551616)]))]) 5 rfl (by decide +kernel) ?_
            refine t_is (.pointer (some ⟨g7, 1, none⟩)) rfl rfl rfl rfl (fun W_ hW_ F_ => by simp [go_sem, sEv, sLook, nbeq, i64_w, -List.getD_eq_getElem?_getD, Try.underlying31]) ?_
            refine t_is (.agg #[.int .i64 o.hi, .int .u64 o.lo]) rfl rfl rfl rfl (fun W_ hW_ F_ => (by have eb_ := (hb173.on (below_of_drew hW_)); have e0_ := eb_.cellv (v := .int .i64 o.hi) (cA1 (⟨(o.cnt + 1), o.hi, o.lo, o.mn, (l.getD j (0, 0, 0, 0, 0, 0)).2.2.2.2.2, o.t, o.src, o.seq, o.v, o.h⟩ : CL)); have e1_ := eb_.cellv (v := .int .u64 o.lo) (cA2 (⟨(o.cnt + 1), o.hi, o.lo, o.mn, (l.getD j (0, 0, 0, 0, 0, 0)).2.2.2.2.2, o.t, o.src, o.seq, o.v, o.h⟩ : CL)); simp [go_sem, sEv, sLook, nbeq, i64_w, -List.getD_eq_getElem?_getD, e0_, e1_, Try.underlying26])) ?_
            refine t_is (.pointer (some ⟨g32, 4, none⟩)) rfl rfl rfl rfl (fun W_ hW_ F_ => by simp [go_sem, sEv, sLook, nbeq, i64_w, -List.getD_eq_getElem?_getD, Try.underlying44]) ?_
            refine t_is (.int .i64 ((l.getD j (0, 0, 0, 0, 0, 0)).2.2.2.2.2)) rfl rfl rfl rfl (fun W_ hW_ F_ => by have eb_ := ((((((hk40.on hb55).keep hk58 (by omega)).keep hk148 (by omega)).on hb151).keep hk172 (by omega)).on (below_of_drew hW_)); have e0_ := eb_.cellv (i := 4) (v := (.int .i64 ((l.getD j (0, 0, 0, 0, 0, 0)).2.2.2.2.2) : Value)) rfl; simp [go_sem, sEv, sLook, nbeq, i64_w, -List.getD_eq_getElem?_getD, e0_]) ?_
            refine t_call (f := 26) (args := #[.int .i64 ((l.getD j (0, 0, 0, 0, 0, 0)).2.2.2.2.2)]) (Is (.agg #[.int .i64 (((l.getD j (0, 0, 0, 0, 0, 0)).2.2.2.2.2) / 9223372036854775808), .int .u64 (((l.getD j (0, 0, 0, 0, 0, 0)).2.2.2.2.2) % 18446744073709551616)])) rfl rfl rfl rfl (fun W_ => by simp [go_sem, sEv, sLook, nbeq, i64_w, -List.getD_eq_getElem?_getD]) (fun W_ hW_ F_ => ?_) ?_
            · refine (rof_calls ((l.getD j (0, 0, 0, 0, 0, 0)).2.2.2.2.2) (hv _ (getD_mem l j (0, 0, 0, 0, 0, 0) (by omega))) W_).mono ?_
              rintro e_ w_ ⟨rfl, hb_⟩
              exact ⟨_, rfl, rfl, hb_⟩
            rintro _ rfl
            refine t_tail ?_
            intro w174 hb175_ F176
            have hb175 := below_of_drew hb175_
            have hs_w174 := hb175.size
            refine rw_call rfl rfl rfl rfl (f := 25) (args := #[.agg #[.int .i64 o.hi, .int .u64 o.lo], .agg #[.int .i64 (((l.getD j (0, 0, 0, 0, 0, 0)).2.2.2.2.2) / 9223372036854775808), .int .u64 (((l.getD j (0, 0, 0, 0, 0, 0)).2.2.2.2.2) % 18446744073709551616)]]) (by simp [go_sem, sEv, sLook, nbeq, i64_w, -List.getD_eq_getElem?_getD]) (radd_calls o.hi o.lo (((l.getD j (0, 0, 0, 0, 0, 0)).2.2.2.2.2) / 9223372036854775808) (((l.getD j (0, 0, 0, 0, 0, 0)).2.2.2.2.2) % 18446744073709551616) hhi_ hlo_ (by have h_ := (hv _ (getD_mem l j (0, 0, 0, 0, 0, 0) (by omega))); omega) (by omega) w174) ?_
            rintro e_ w177 ⟨rfl, hb178⟩
            refine ⟨_, rfl, ?_⟩
            have hs_w177 := hb178.size
            refine rw_val (v := .pointer (some ⟨g7, 1, none⟩)) (w' := w177) rfl rfl rfl rfl (by simp [go_sem, sEv, sLook, nbeq, i64_w, -List.getD_eq_getElem?_getD, Try.underlying31]) ?_
            refine rw_seg (g := g7) (off := 1) (ty := 26) (p := .tmp 76) (x := .tmp 75) (v := .agg #[.int .i64 (wh o.hi o.lo (((l.getD j (0, 0, 0, 0, 0, 0)).2.2.2.2.2) / 9223372036854775808) (((l.getD j (0, 0, 0, 0, 0, 0)).2.2.2.2.2) % 18446744073709551616)), .int .u64 (wl o.lo (((l.getD j (0, 0, 0, 0, 0, 0)).2.2.2.2.2) % 18446744073709551616))]) (cs' := carr (⟨(o.cnt + 1), (wh o.hi o.lo (((l.getD j (0, 0, 0, 0, 0, 0)).2.2.2.2.2) / 9223372036854775808) (((l.getD j (0, 0, 0, 0, 0, 0)).2.2.2.2.2) % 18446744073709551616)), (wl o.lo (((l.getD j (0, 0, 0, 0, 0, 0)).2.2.2.2.2) % 18446744073709551616)), o.mn, (l.getD j (0, 0, 0, 0, 0, 0)).2.2.2.2.2, o.t, o.src, o.seq, o.v, o.h⟩ : CL)) rfl rfl rfl rfl rfl rfl ((hb173.on hb175).on hb178) (by kernel_rfl) (by rw [carr_size]; simp [Value.cells] <;> omega) (by intro q hq; simp only [List.mem_cons, List.not_mem_nil, or_false, Value.cells] at hq; (first | (rcases hq with rfl | rfl | rfl | rfl <;> rfl) | (rcases hq with rfl | rfl <;> rfl) | (subst hq; rfl))) (seg_sum (⟨(o.cnt + 1), o.hi, o.lo, o.mn, (l.getD j (0, 0, 0, 0, 0, 0)).2.2.2.2.2, o.t, o.src, o.seq, o.v, o.h⟩ : CL) (wh o.hi o.lo (((l.getD j (0, 0, 0, 0, 0, 0)).2.2.2.2.2) / 9223372036854775808) (((l.getD j (0, 0, 0, 0, 0, 0)).2.2.2.2.2) % 18446744073709551616)) (wl o.lo (((l.getD j (0, 0, 0, 0, 0, 0)).2.2.2.2.2) % 18446744073709551616))) ?_
            intro w179 hk180 hb181
            have hs_w179 := hk180.size
            refine rw_end ?_
            refine w_weaken (G' := [(0, .slice (some ad23) l.length c1), (2, .pointer (some ⟨g1, 0, none⟩)), (3, .pointer (some ⟨g7, 0, none⟩)), (4, .int .i64 ((j : Nat) : Int)), (5, .pointer (some ⟨g32, 0, none⟩))]) ⟨rfl, rfl, rfl, rfl, rfl, trivial⟩ ?_
            refine w_seq ?_
            refine w_region ?_
            refine rw_val (v := .pointer (some ⟨g32, 4, none⟩)) (w' := w179) rfl rfl rfl rfl (by simp [go_sem, sEv, sLook, nbeq, i64_w, -List.getD_eq_getElem?_getD, Try.underlying44]) ?_
            refine rw_val (v := .int .i64 ((l.getD j (0, 0, 0, 0, 0, 0)).2.2.2.2.2)) (w' := w179) rfl rfl rfl rfl (by have eb_ := ((((((((hk40.on hb55).keep hk58 (by omega)).keep hk148 (by omega)).on hb151).keep hk172 (by omega)).on hb175).on hb178).keep hk180 (by omega)); have e0_ := eb_.cellv (i := 4) (v := (.int .i64 ((l.getD j (0, 0, 0, 0, 0, 0)).2.2.2.2.2) : Value)) rfl; simp [go_sem, sEv, sLook, nbeq, i64_w, -List.getD_eq_getElem?_getD, e0_]) ?_
            refine rw_call rfl rfl rfl rfl (f := 27) (args := #[.int .i64 ((l.getD j (0, 0, 0, 0, 0, 0)).2.2.2.2.2)]) (by simp [go_sem, sEv, sLook, nbeq, i64_w, -List.getD_eq_getElem?_getD]) (rbits_calls ((l.getD j (0, 0, 0, 0, 0, 0)).2.2.2.2.2) (hv _ (getD_mem l j (0, 0, 0, 0, 0, 0) (by omega))) w179) ?_
            rintro e_ w182 ⟨rfl, hb183⟩
            refine ⟨_, rfl, ?_⟩
            have hs_w182 := hb183.size
            have hbl_ := blen_64 ((l.getD j (0, 0, 0, 0, 0, 0)).2.2.2.2.2) (hv _ (getD_mem l j (0, 0, 0, 0, 0, 0) (by omega)))
            have hat_ := atF_bnd hB_ (blen ((l.getD j (0, 0, 0, 0, 0, 0)).2.2.2.2.2).natAbs)
            rw [hlt_] at hat_
            refine rw_val (v := .int .i64 (((blen ((l.getD j (0, 0, 0, 0, 0, 0)).2.2.2.2.2).natAbs) : Nat) : Int)) (w' := w182) rfl rfl rfl rfl rfl ?_
            refine rw_end ?_
            refine w_weaken (G' := [(0, .slice (some ad23) l.length c1), (2, .pointer (some ⟨g1, 0, none⟩)), (3, .pointer (some ⟨g7, 0, none⟩)), (4, .int .i64 ((j : Nat) : Int)), (7, .int .i64 (((blen ((l.getD j (0, 0, 0, 0, 0, 0)).2.2.2.2.2).natAbs) : Nat) : Int))]) ⟨rfl, rfl, rfl, rfl, rfl, trivial⟩ ?_
            refine w_region ?_
            refine rw_val (v := .int .i64 (((blen ((l.getD j (0, 0, 0, 0, 0, 0)).2.2.2.2.2).natAbs) : Nat) : Int)) (w' := w182) rfl rfl rfl rfl rfl ?_
            refine rw_val (v := .int .i64 (((blen ((l.getD j (0, 0, 0, 0, 0, 0)).2.2.2.2.2).natAbs) : Nat) : Int)) (w' := w182) rfl rfl rfl rfl rfl ?_
            refine rw_val (v := .pointer (some ⟨g7, 9, none⟩)) (w' := w182) rfl rfl rfl rfl (by simp [go_sem, sEv, sLook, nbeq, i64_w, -List.getD_eq_getElem?_getD, Try.underlying31]) ?_
            refine rw_val (v := .pointer (some ⟨g7, 9 + (blen ((l.getD j (0, 0, 0, 0, 0, 0)).2.2.2.2.2).natAbs), none⟩)) (w' := w182) rfl rfl rfl rfl (run_as (addr_hist (blen ((l.getD j (0, 0, 0, 0, 0, 0)).2.2.2.2.2).natAbs) (by omega) _)) ?_
            refine rw_val (v := .int .i64 (atF o.h (blen ((l.getD j (0, 0, 0, 0, 0, 0)).2.2.2.2.2).natAbs))) (w' := w182) rfl rfl rfl rfl (by have e0_ := ((hb181.on hb183)).cellv (cHA (⟨(o.cnt + 1), (wh o.hi o.lo (((l.getD j (0, 0, 0, 0, 0, 0)).2.2.2.2.2) / 9223372036854775808) (((l.getD j (0, 0, 0, 0, 0, 0)).2.2.2.2.2) % 18446744073709551616)), (wl o.lo (((l.getD j (0, 0, 0, 0, 0, 0)).2.2.2.2.2) % 18446744073709551616)), o.mn, (l.getD j (0, 0, 0, 0, 0, 0)).2.2.2.2.2, o.t, o.src, o.seq, o.v, o.h⟩ : CL) (blen ((l.getD j (0, 0, 0, 0, 0, 0)).2.2.2.2.2).natAbs) (by omega)); simp [go_sem, sEv, sLook, nbeq, i64_w, -List.getD_eq_getElem?_getD, e0_]) ?_
            refine rw_val (v := .int .i64 ((atF o.h (blen ((l.getD j (0, 0, 0, 0, 0, 0)).2.2.2.2.2).natAbs)) + 1)) (w' := w182) rfl rfl rfl rfl (by simp [go_sem, sEv, sLook, nbeq, i64_w, -List.getD_eq_getElem?_getD]; exact wrap_id (by omega) (by omega)) ?_
            refine rw_val (v := .pointer (some ⟨g7, 9, none⟩)) (w' := w182) rfl rfl rfl rfl (by simp [go_sem, sEv, sLook, nbeq, i64_w, -List.getD_eq_getElem?_getD, Try.underlying31]) ?_
            refine rw_val (v := .pointer (some ⟨g7, 9 + (blen ((l.getD j (0, 0, 0, 0, 0, 0)).2.2.2.2.2).natAbs), none⟩)) (w' := w182) rfl rfl rfl rfl (run_as (addr_hist (blen ((l.getD j (0, 0, 0, 0, 0, 0)).2.2.2.2.2).natAbs) (by omega) _)) ?_
            refine rw_seg (g := g7) (off := (9 + (blen ((l.getD j (0, 0, 0, 0, 0, 0)).2.2.2.2.2).natAbs))) (ty := 3) (p := .tmp 87) (x := .tmp 85) (v := .int .i64 ((atF o.h (blen ((l.getD j (0, 0, 0, 0, 0, 0)).2.2.2.2.2).natAbs)) + 1)) (cs' := carr (⟨(o.cnt + 1), (wh o.hi o.lo (((l.getD j (0, 0, 0, 0, 0, 0)).2.2.2.2.2) / 9223372036854775808) (((l.getD j (0, 0, 0, 0, 0, 0)).2.2.2.2.2) % 18446744073709551616)), (wl o.lo (((l.getD j (0, 0, 0, 0, 0, 0)).2.2.2.2.2) % 18446744073709551616)), o.mn, (l.getD j (0, 0, 0, 0, 0, 0)).2.2.2.2.2, o.t, o.src, o.seq, o.v, (updF o.h (blen ((l.getD j (0, 0, 0, 0, 0, 0)).2.2.2.2.2).natAbs) ((atF o.h (blen ((l.getD j (0, 0, 0, 0, 0, 0)).2.2.2.2.2).natAbs)) + 1))⟩ : CL)) rfl rfl rfl rfl rfl rfl (hb181.on hb183) (by kernel_rfl) (by rw [carr_size]; show 9 + (blen ((l.getD j (0, 0, 0, 0, 0, 0)).2.2.2.2.2).natAbs) + 1 ≤ 74; omega) (by intro q hq; simp only [List.mem_cons, List.not_mem_nil, or_false, Value.cells] at hq; (first | (rcases hq with rfl | rfl | rfl | rfl <;> rfl) | (rcases hq with rfl | rfl <;> rfl) | (subst hq; rfl))) (seg_h (⟨(o.cnt + 1), (wh o.hi o.lo (((l.getD j (0, 0, 0, 0, 0, 0)).2.2.2.2.2) / 9223372036854775808) (((l.getD j (0, 0, 0, 0, 0, 0)).2.2.2.2.2) % 18446744073709551616)), (wl o.lo (((l.getD j (0, 0, 0, 0, 0, 0)).2.2.2.2.2) % 18446744073709551616)), o.mn, (l.getD j (0, 0, 0, 0, 0, 0)).2.2.2.2.2, o.t, o.src, o.seq, o.v, o.h⟩ : CL) (blen ((l.getD j (0, 0, 0, 0, 0, 0)).2.2.2.2.2).natAbs) (by omega) ((atF o.h (blen ((l.getD j (0, 0, 0, 0, 0, 0)).2.2.2.2.2).natAbs)) + 1)) ?_
            intro w184 hk185 hb186
            have hs_w184 := hk185.size
            refine rw_end ?_
            refine w_weaken (G' := [(0, .slice (some ad23) l.length c1), (2, .pointer (some ⟨g1, 0, none⟩)), (3, .pointer (some ⟨g7, 0, none⟩)), (4, .int .i64 ((j : Nat) : Int))]) ⟨rfl, rfl, rfl, rfl, trivial⟩ ?_
            refine w_blk ?_
            refine w_region ?_
            refine rw_val (v := .int .i64 ((j : Nat) : Int)) (w' := w184) rfl rfl rfl rfl rfl ?_
            refine rw_val (v := .int .i64 ((j + 1 : Nat) : Int)) (w' := w184) rfl rfl rfl rfl (by simp [go_sem, sEv, sLook, nbeq, i64_w, -List.getD_eq_getElem?_getD]; exact wrap_id (by omega) (by omega)) ?_
            refine rw_val (v := .int .i64 ((j + 1 : Nat) : Int)) (w' := w184) rfl rfl rfl rfl rfl ?_
            refine rw_end ?_
            exact w_back (m_ - 1) [(0, .slice (some ad23) l.length c1), (2, .pointer (some ⟨g1, 0, none⟩)), (3, .pointer (some ⟨g7, 0, none⟩)), (4, .int .i64 ((j + 1 : Nat) : Int))] (by omega) ⟨rfl, rfl, rfl, rfl, trivial⟩ ⟨(j + 1), (⟨(o.cnt + 1), (wh o.hi o.lo (((l.getD j (0, 0, 0, 0, 0, 0)).2.2.2.2.2) / 9223372036854775808) (((l.getD j (0, 0, 0, 0, 0, 0)).2.2.2.2.2) % 18446744073709551616)), (wl o.lo (((l.getD j (0, 0, 0, 0, 0, 0)).2.2.2.2.2) % 18446744073709551616)), o.mn, (l.getD j (0, 0, 0, 0, 0, 0)).2.2.2.2.2, o.t, o.src, o.seq, o.v, (updF o.h (blen ((l.getD j (0, 0, 0, 0, 0, 0)).2.2.2.2.2).natAbs) ((atF o.h (blen ((l.getD j (0, 0, 0, 0, 0, 0)).2.2.2.2.2).natAbs)) + 1))⟩ : CL), by omega, (hk185.below (by omega) (chain (hk180.below (by omega) (chain (chain (hk172.below (by omega) (chain (hk148.below (by omega) (hk58.below (by omega) (chain (hk39.below (by omega) (chain hB_L16 hb34)) hb55))) hb151)) hb175) hb178)) hb183)), (of_leaf l j (by omega) (by omega) hv (l.getD j (0, 0, 0, 0, 0, 0)) rfl o hf18 o.mn ((l.getD j (0, 0, 0, 0, 0, 0)).2.2.2.2.2) o.t o.src o.seq o.v (by rw [if_neg (fun h_ => h_.elim (fun h2_ => absurd h2_ (by have h_ := cZ; simpa using h_)) (fun h2_ => absurd h2_ (of_decide_eq_false cMn)))]) (by rw [if_pos (.inr (of_decide_eq_true cMx))]) (by rw [if_neg (fun h_ => h_.elim (fun h2_ => absurd h2_ (by have h_ := cZ; simpa using h_)) (fun h2_ => (by rw [cL] at h2_; cases h2_)))])).symm, hb186, ((((((((((((hf20.on hb34).keep hk39 (by omega)).on hb55).keep hk58 (by omega)).keep hk148 (by omega)).on hb151).keep hk172 (by omega)).on hb175).on hb178).keep hk180 (by omega)).on hb183).keep hk185 (by omega)), (wrap_rng _), rfl⟩
        · have l187 : ¬ (o.mx < ((l.getD j (0, 0, 0, 0, 0, 0)).2.2.2.2.2)) := of_decide_eq_false cMx
          refine w_skip ?_
          refine w_seq ?_
          refine w_seq ?_
          refine w_region ?_
          refine rw_val (v := .int .i64 ((j : Nat) : Int)) (w' := w57) rfl rfl rfl rfl rfl ?_
          refine rw_val (v := .bool (((j : Nat) : Int) == 0)) (w' := w57) rfl rfl rfl rfl (by simp [go_sem, sEv, sLook, nbeq, i64_w, -List.getD_eq_getElem?_getD]) ?_
          refine rw_val (v := .bool (((j : Nat) : Int) == 0)) (w' := w57) rfl rfl rfl rfl rfl ?_
          refine rw_on (c := (((j : Nat) : Int) == 0)) rfl rfl rfl (by first | (rw [cZ]; rfl) | simp [cZ]) ?_
          refine rw_val (v := .agg #[.int .i64 ((l.getD j (0, 0, 0, 0, 0, 0)).2.2.2.1), .int .i64 ((l.getD j (0, 0, 0, 0, 0, 0)).1), .int .i64 ((l.getD j (0, 0, 0, 0, 0, 0)).2.1), .int .i64 ((l.getD j (0, 0, 0, 0, 0, 0)).2.2.2.2.2)]) (w' := w57) rfl rfl rfl rfl (by have eb_ := hk59; have e0_ := eb_.cellv (i := 0) (v := (.int .i64 ((l.getD j (0, 0, 0, 0, 0, 0)).2.2.2.1) : Value)) rfl; have e1_ := eb_.cellv (i := 1) (v := (.int .i64 ((l.getD j (0, 0, 0, 0, 0, 0)).1) : Value)) rfl; have e2_ := eb_.cellv (i := 2) (v := (.int .i64 ((l.getD j (0, 0, 0, 0, 0, 0)).2.1) : Value)) rfl; have e3_ := eb_.cellv (i := 3) (v := (.int .i64 ((l.getD j (0, 0, 0, 0, 0, 0)).2.2.2.2.2) : Value)) rfl; simp [go_sem, sEv, sLook, nbeq, i64_w, -List.getD_eq_getElem?_getD, e0_, e1_, e2_, e3_, Try.underlying28]) ?_
          refine rw_on (c := (((j : Nat) : Int) == 0)) rfl rfl rfl (by first | (rw [cZ]; rfl) | simp [cZ]) ?_
          refine rw_val (v := .pointer (some ⟨g7, 5, none⟩)) (w' := w57) rfl rfl rfl rfl (by simp [go_sem, sEv, sLook, nbeq, i64_w, -List.getD_eq_getElem?_getD, Try.underlying31]) ?_
          refine rw_on (c := (((j : Nat) : Int) == 0)) rfl rfl rfl (by first | (rw [cZ]; rfl) | simp [cZ]) ?_
          refine rw_val (v := .agg #[.int .i64 o.t, .int .i64 o.src, .int .i64 o.seq, .int .i64 o.v]) (w' := w57) rfl rfl rfl rfl (by have eb_ := ((((hf19.on hb34).keep hk39 (by omega)).on hb55).keep hk58 (by omega)); have e0_ := eb_.cellv (v := .int .i64 o.t) (cA5 o); have e1_ := eb_.cellv (v := .int .i64 o.src) (cA6 o); have e2_ := eb_.cellv (v := .int .i64 o.seq) (cA7 o); have e3_ := eb_.cellv (v := .int .i64 o.v) (cA8 o); simp [go_sem, sEv, sLook, nbeq, i64_w, -List.getD_eq_getElem?_getD, e0_, e1_, e2_, e3_, Try.underlying28]) ?_
          refine rw_on (c := (((j : Nat) : Int) == 0)) rfl rfl rfl (by first | (rw [cZ]; rfl) | simp [cZ]) ?_
          refine rw_call rfl rfl rfl rfl (f := 17) (args := #[.agg #[.int .i64 ((l.getD j (0, 0, 0, 0, 0, 0)).2.2.2.1), .int .i64 ((l.getD j (0, 0, 0, 0, 0, 0)).1), .int .i64 ((l.getD j (0, 0, 0, 0, 0, 0)).2.1), .int .i64 ((l.getD j (0, 0, 0, 0, 0, 0)).2.2.2.2.2)], .agg #[.int .i64 o.t, .int .i64 o.src, .int .i64 o.seq, .int .i64 o.v]]) (by simp [go_sem, sEv, sLook, nbeq, i64_w, -List.getD_eq_getElem?_getD]) (rlater_calls ((l.getD j (0, 0, 0, 0, 0, 0)).2.2.2.1) ((l.getD j (0, 0, 0, 0, 0, 0)).1) ((l.getD j (0, 0, 0, 0, 0, 0)).2.1) ((l.getD j (0, 0, 0, 0, 0, 0)).2.2.2.2.2) o.t o.src o.seq o.v w57) ?_
          rintro e_ w188 ⟨rfl, hb189⟩
          refine ⟨_, rfl, ?_⟩
          have hs_w188 := hb189.size
          refine rw_val (v := .bool (later ((l.getD j (0, 0, 0, 0, 0, 0)).2.2.2.1) ((l.getD j (0, 0, 0, 0, 0, 0)).1) ((l.getD j (0, 0, 0, 0, 0, 0)).2.1) ((l.getD j (0, 0, 0, 0, 0, 0)).2.2.2.2.2) o.t o.src o.seq o.v)) (w' := w188) rfl rfl rfl rfl (by first | (simp [go_sem, sEv, sLook, nbeq, i64_w, -List.getD_eq_getElem?_getD, cZ]; done) | (rw [cZ]; simp [go_sem, sEv, sLook, nbeq, i64_w, -List.getD_eq_getElem?_getD]; done) | (simp [go_sem, sEv, sLook, nbeq, i64_w, -List.getD_eq_getElem?_getD] <;> omega) | (simp [go_sem, sEv, sLook, nbeq, i64_w, -List.getD_eq_getElem?_getD]; intro h_; exact absurd (by omega) h_)) ?_
          refine rw_end ?_
          refine w_weaken (G' := [(0, .slice (some ad23) l.length c1), (2, .pointer (some ⟨g1, 0, none⟩)), (3, .pointer (some ⟨g7, 0, none⟩)), (4, .int .i64 ((j : Nat) : Int)), (5, .pointer (some ⟨g32, 0, none⟩)), (6, .pointer (some ⟨g51, 0, none⟩)), (63, .bool (later ((l.getD j (0, 0, 0, 0, 0, 0)).2.2.2.1) ((l.getD j (0, 0, 0, 0, 0, 0)).1) ((l.getD j (0, 0, 0, 0, 0, 0)).2.1) ((l.getD j (0, 0, 0, 0, 0, 0)).2.2.2.2.2) o.t o.src o.seq o.v))]) ⟨rfl, rfl, rfl, rfl, rfl, rfl, rfl, trivial⟩ ?_
          refine w_cond rfl rfl (fun cL => ?_) (fun cL => ?_)
          · refine w_region ?_
            refine rw_val (v := .agg #[.int .i64 ((l.getD j (0, 0, 0, 0, 0, 0)).2.2.2.1), .int .i64 ((l.getD j (0, 0, 0, 0, 0, 0)).1), .int .i64 ((l.getD j (0, 0, 0, 0, 0, 0)).2.1), .int .i64 ((l.getD j (0, 0, 0, 0, 0, 0)).2.2.2.2.2)]) (w' := w188) rfl rfl rfl rfl (by have eb_ := (hk59.on hb189); have e0_ := eb_.cellv (i := 0) (v := (.int .i64 ((l.getD j (0, 0, 0, 0, 0, 0)).2.2.2.1) : Value)) rfl; have e1_ := eb_.cellv (i := 1) (v := (.int .i64 ((l.getD j (0, 0, 0, 0, 0, 0)).1) : Value)) rfl; have e2_ := eb_.cellv (i := 2) (v := (.int .i64 ((l.getD j (0, 0, 0, 0, 0, 0)).2.1) : Value)) rfl; have e3_ := eb_.cellv (i := 3) (v := (.int .i64 ((l.getD j (0, 0, 0, 0, 0, 0)).2.2.2.2.2) : Value)) rfl; simp [go_sem, sEv, sLook, nbeq, i64_w, -List.getD_eq_getElem?_getD, e0_, e1_, e2_, e3_, Try.underlying28]) ?_
            refine rw_val (v := .pointer (some ⟨g7, 5, none⟩)) (w' := w188) rfl rfl rfl rfl (by simp [go_sem, sEv, sLook, nbeq, i64_w, -List.getD_eq_getElem?_getD, Try.underlying31]) ?_
            refine rw_seg (g := g7) (off := 5) (ty := 28) (p := .tmp 65) (x := .tmp 64) (v := .agg #[.int .i64 ((l.getD j (0, 0, 0, 0, 0, 0)).2.2.2.1), .int .i64 ((l.getD j (0, 0, 0, 0, 0, 0)).1), .int .i64 ((l.getD j (0, 0, 0, 0, 0, 0)).2.1), .int .i64 ((l.getD j (0, 0, 0, 0, 0, 0)).2.2.2.2.2)]) (cs' := carr (⟨o.cnt, o.hi, o.lo, o.mn, o.mx, (l.getD j (0, 0, 0, 0, 0, 0)).2.2.2.1, (l.getD j (0, 0, 0, 0, 0, 0)).1, (l.getD j (0, 0, 0, 0, 0, 0)).2.1, (l.getD j (0, 0, 0, 0, 0, 0)).2.2.2.2.2, o.h⟩ : CL)) rfl rfl rfl rfl rfl rfl (((((hf19.on hb34).keep hk39 (by omega)).on hb55).keep hk58 (by omega)).on hb189) (by kernel_rfl) (by rw [carr_size]; simp [Value.cells] <;> omega) (by intro q hq; simp only [List.mem_cons, List.not_mem_nil, or_false, Value.cells] at hq; (first | (rcases hq with rfl | rfl | rfl | rfl <;> rfl) | (rcases hq with rfl | rfl <;> rfl) | (subst hq; rfl))) (seg_last o ((l.getD j (0, 0, 0, 0, 0, 0)).2.2.2.1) ((l.getD j (0, 0, 0, 0, 0, 0)).1) ((l.getD j (0, 0, 0, 0, 0, 0)).2.1) ((l.getD j (0, 0, 0, 0, 0, 0)).2.2.2.2.2)) ?_
            intro w190 hk191 hb192
            have hs_w190 := hk191.size
            refine rw_end ?_
            refine w_seq ?_
            refine w_region ?_
            refine rw_val (v := .pointer (some ⟨g7, 0, none⟩)) (w' := w190) rfl rfl rfl rfl (by simp [go_sem, sEv, sLook, nbeq, i64_w, -List.getD_eq_getElem?_getD, Try.underlying31]) ?_
            refine rw_val (v := .int .i64 o.cnt) (w' := w190) rfl rfl rfl rfl (by have eb_ := hb192; have e0_ := eb_.cellv (v := .int .i64 o.cnt) (cA0 (⟨o.cnt, o.hi, o.lo, o.mn, o.mx, (l.getD j (0, 0, 0, 0, 0, 0)).2.2.2.1, (l.getD j (0, 0, 0, 0, 0, 0)).1, (l.getD j (0, 0, 0, 0, 0, 0)).2.1, (l.getD j (0, 0, 0, 0, 0, 0)).2.2.2.2.2, o.h⟩ : CL)); simp [go_sem, sEv, sLook, nbeq, i64_w, -List.getD_eq_getElem?_getD, e0_]) ?_
            refine rw_val (v := .int .i64 (o.cnt + 1)) (w' := w190) rfl rfl rfl rfl (by simp [go_sem, sEv, sLook, nbeq, i64_w, -List.getD_eq_getElem?_getD]; exact wrap_id (by omega) (by omega)) ?_
            refine rw_val (v := .pointer (some ⟨g7, 0, none⟩)) (w' := w190) rfl rfl rfl rfl (by simp [go_sem, sEv, sLook, nbeq, i64_w, -List.getD_eq_getElem?_getD, Try.underlying31]) ?_
            refine rw_seg (g := g7) (off := 0) (ty := 3) (p := .tmp 69) (x := .tmp 68) (v := .int .i64 (o.cnt + 1)) (cs' := carr (⟨(o.cnt + 1), o.hi, o.lo, o.mn, o.mx, (l.getD j (0, 0, 0, 0, 0, 0)).2.2.2.1, (l.getD j (0, 0, 0, 0, 0, 0)).1, (l.getD j (0, 0, 0, 0, 0, 0)).2.1, (l.getD j (0, 0, 0, 0, 0, 0)).2.2.2.2.2, o.h⟩ : CL)) rfl rfl rfl rfl rfl rfl hb192 (by kernel_rfl) (by rw [carr_size]; simp [Value.cells] <;> omega) (by intro q hq; simp only [List.mem_cons, List.not_mem_nil, or_false, Value.cells] at hq; (first | (rcases hq with rfl | rfl | rfl | rfl <;> rfl) | (rcases hq with rfl | rfl <;> rfl) | (subst hq; rfl))) (seg_cnt (⟨o.cnt, o.hi, o.lo, o.mn, o.mx, (l.getD j (0, 0, 0, 0, 0, 0)).2.2.2.1, (l.getD j (0, 0, 0, 0, 0, 0)).1, (l.getD j (0, 0, 0, 0, 0, 0)).2.1, (l.getD j (0, 0, 0, 0, 0, 0)).2.2.2.2.2, o.h⟩ : CL) (o.cnt + 1)) ?_
            intro w193 hk194 hb195
            have hs_w193 := hk194.size
            refine rw_end ?_
            refine w_weaken (G' := [(0, .slice (some ad23) l.length c1), (2, .pointer (some ⟨g1, 0, none⟩)), (3, .pointer (some ⟨g7, 0, none⟩)), (4, .int .i64 ((j : Nat) : Int)), (5, .pointer (some ⟨g32, 0, none⟩))]) ⟨rfl, rfl, rfl, rfl, rfl, trivial⟩ ?_
            refine w_seq ?_
            refine w_drawk (M := [0, 1, 0, 4, 12, 31, 63, 127]) (ss := [Is (.pointer (some ⟨g7, 1, none⟩)), Is (.agg #[.int .i64 o.hi, .int .u64 o.lo]), Is (.pointer (some ⟨g32, 4, none⟩)), Is (.int .i64 ((l.getD j (0, 0, 0, 0, 0, 0)).2.2.2.2.2)), (Is (.agg #[.int .i64 (((l.getD j (0, 0, 0, 0, 0, 0)).2.2.2.2.2) / 9223372036854775808), .int .u64 (((l.getD j (0, 0, 0, 0, 0, 0)).2.2.2.2.2) % 18446744073709551616)]))]) 5 rfl (by decide +kernel) ?_
            refine t_is (.pointer (some ⟨g7, 1, none⟩)) rfl rfl rfl rfl (fun W_ hW_ F_ => by simp [go_sem, sEv, sLook, nbeq, i64_w, -List.getD_eq_getElem?_getD, Try.underlying31]) ?_
            refine t_is (.agg #[.int .i64 o.hi, .int .u64 o.lo]) rfl rfl rfl rfl (fun W_ hW_ F_ => (by have eb_ := (hb195.on (below_of_drew hW_)); have e0_ := eb_.cellv (v := .int .i64 o.hi) (cA1 (⟨(o.cnt + 1), o.hi, o.lo, o.mn, o.mx, (l.getD j (0, 0, 0, 0, 0, 0)).2.2.2.1, (l.getD j (0, 0, 0, 0, 0, 0)).1, (l.getD j (0, 0, 0, 0, 0, 0)).2.1, (l.getD j (0, 0, 0, 0, 0, 0)).2.2.2.2.2, o.h⟩ : CL)); have e1_ := eb_.cellv (v := .int .u64 o.lo) (cA2 (⟨(o.cnt + 1), o.hi, o.lo, o.mn, o.mx, (l.getD j (0, 0, 0, 0, 0, 0)).2.2.2.1, (l.getD j (0, 0, 0, 0, 0, 0)).1, (l.getD j (0, 0, 0, 0, 0, 0)).2.1, (l.getD j (0, 0, 0, 0, 0, 0)).2.2.2.2.2, o.h⟩ : CL)); simp [go_sem, sEv, sLook, nbeq, i64_w, -List.getD_eq_getElem?_getD, e0_, e1_, Try.underlying26])) ?_
            refine t_is (.pointer (some ⟨g32, 4, none⟩)) rfl rfl rfl rfl (fun W_ hW_ F_ => by simp [go_sem, sEv, sLook, nbeq, i64_w, -List.getD_eq_getElem?_getD, Try.underlying44]) ?_
            refine t_is (.int .i64 ((l.getD j (0, 0, 0, 0, 0, 0)).2.2.2.2.2)) rfl rfl rfl rfl (fun W_ hW_ F_ => by have eb_ := ((((((hk40.on hb55).keep hk58 (by omega)).on hb189).keep hk191 (by omega)).keep hk194 (by omega)).on (below_of_drew hW_)); have e0_ := eb_.cellv (i := 4) (v := (.int .i64 ((l.getD j (0, 0, 0, 0, 0, 0)).2.2.2.2.2) : Value)) rfl; simp [go_sem, sEv, sLook, nbeq, i64_w, -List.getD_eq_getElem?_getD, e0_]) ?_
            refine t_call (f := 26) (args := #[.int .i64 ((l.getD j (0, 0, 0, 0, 0, 0)).2.2.2.2.2)]) (Is (.agg #[.int .i64 (((l.getD j (0, 0, 0, 0, 0, 0)).2.2.2.2.2) / 9223372036854775808), .int .u64 (((l.getD j (0, 0, 0, 0, 0, 0)).2.2.2.2.2) % 18446744073709551616)])) rfl rfl rfl rfl (fun W_ => by simp [go_sem, sEv, sLook, nbeq, i64_w, -List.getD_eq_getElem?_getD]) (fun W_ hW_ F_ => ?_) ?_
            · refine (rof_calls ((l.getD j (0, 0, 0, 0, 0, 0)).2.2.2.2.2) (hv _ (getD_mem l j (0, 0, 0, 0, 0, 0) (by omega))) W_).mono ?_
              rintro e_ w_ ⟨rfl, hb_⟩
              exact ⟨_, rfl, rfl, hb_⟩
            rintro _ rfl
            refine t_tail ?_
            intro w196 hb197_ F198
            have hb197 := below_of_drew hb197_
            have hs_w196 := hb197.size
            refine rw_call rfl rfl rfl rfl (f := 25) (args := #[.agg #[.int .i64 o.hi, .int .u64 o.lo], .agg #[.int .i64 (((l.getD j (0, 0, 0, 0, 0, 0)).2.2.2.2.2) / 9223372036854775808), .int .u64 (((l.getD j (0, 0, 0, 0, 0, 0)).2.2.2.2.2) % 18446744073709551616)]]) (by simp [go_sem, sEv, sLook, nbeq, i64_w, -List.getD_eq_getElem?_getD]) (radd_calls o.hi o.lo (((l.getD j (0, 0, 0, 0, 0, 0)).2.2.2.2.2) / 9223372036854775808) (((l.getD j (0, 0, 0, 0, 0, 0)).2.2.2.2.2) % 18446744073709551616) hhi_ hlo_ (by have h_ := (hv _ (getD_mem l j (0, 0, 0, 0, 0, 0) (by omega))); omega) (by omega) w196) ?_
            rintro e_ w199 ⟨rfl, hb200⟩
            refine ⟨_, rfl, ?_⟩
            have hs_w199 := hb200.size
            refine rw_val (v := .pointer (some ⟨g7, 1, none⟩)) (w' := w199) rfl rfl rfl rfl (by simp [go_sem, sEv, sLook, nbeq, i64_w, -List.getD_eq_getElem?_getD, Try.underlying31]) ?_
            refine rw_seg (g := g7) (off := 1) (ty := 26) (p := .tmp 76) (x := .tmp 75) (v := .agg #[.int .i64 (wh o.hi o.lo (((l.getD j (0, 0, 0, 0, 0, 0)).2.2.2.2.2) / 9223372036854775808) (((l.getD j (0, 0, 0, 0, 0, 0)).2.2.2.2.2) % 18446744073709551616)), .int .u64 (wl o.lo (((l.getD j (0, 0, 0, 0, 0, 0)).2.2.2.2.2) % 18446744073709551616))]) (cs' := carr (⟨(o.cnt + 1), (wh o.hi o.lo (((l.getD j (0, 0, 0, 0, 0, 0)).2.2.2.2.2) / 9223372036854775808) (((l.getD j (0, 0, 0, 0, 0, 0)).2.2.2.2.2) % 18446744073709551616)), (wl o.lo (((l.getD j (0, 0, 0, 0, 0, 0)).2.2.2.2.2) % 18446744073709551616)), o.mn, o.mx, (l.getD j (0, 0, 0, 0, 0, 0)).2.2.2.1, (l.getD j (0, 0, 0, 0, 0, 0)).1, (l.getD j (0, 0, 0, 0, 0, 0)).2.1, (l.getD j (0, 0, 0, 0, 0, 0)).2.2.2.2.2, o.h⟩ : CL)) rfl rfl rfl rfl rfl rfl ((hb195.on hb197).on hb200) (by kernel_rfl) (by rw [carr_size]; simp [Value.cells] <;> omega) (by intro q hq; simp only [List.mem_cons, List.not_mem_nil, or_false, Value.cells] at hq; (first | (rcases hq with rfl | rfl | rfl | rfl <;> rfl) | (rcases hq with rfl | rfl <;> rfl) | (subst hq; rfl))) (seg_sum (⟨(o.cnt + 1), o.hi, o.lo, o.mn, o.mx, (l.getD j (0, 0, 0, 0, 0, 0)).2.2.2.1, (l.getD j (0, 0, 0, 0, 0, 0)).1, (l.getD j (0, 0, 0, 0, 0, 0)).2.1, (l.getD j (0, 0, 0, 0, 0, 0)).2.2.2.2.2, o.h⟩ : CL) (wh o.hi o.lo (((l.getD j (0, 0, 0, 0, 0, 0)).2.2.2.2.2) / 9223372036854775808) (((l.getD j (0, 0, 0, 0, 0, 0)).2.2.2.2.2) % 18446744073709551616)) (wl o.lo (((l.getD j (0, 0, 0, 0, 0, 0)).2.2.2.2.2) % 18446744073709551616))) ?_
            intro w201 hk202 hb203
            have hs_w201 := hk202.size
            refine rw_end ?_
            refine w_weaken (G' := [(0, .slice (some ad23) l.length c1), (2, .pointer (some ⟨g1, 0, none⟩)), (3, .pointer (some ⟨g7, 0, none⟩)), (4, .int .i64 ((j : Nat) : Int)), (5, .pointer (some ⟨g32, 0, none⟩))]) ⟨rfl, rfl, rfl, rfl, rfl, trivial⟩ ?_
            refine w_seq ?_
            refine w_region ?_
            refine rw_val (v := .pointer (some ⟨g32, 4, none⟩)) (w' := w201) rfl rfl rfl rfl (by simp [go_sem, sEv, sLook, nbeq, i64_w, -List.getD_eq_getElem?_getD, Try.underlying44]) ?_
            refine rw_val (v := .int .i64 ((l.getD j (0, 0, 0, 0, 0, 0)).2.2.2.2.2)) (w' := w201) rfl rfl rfl rfl (by have eb_ := ((((((((hk40.on hb55).keep hk58 (by omega)).on hb189).keep hk191 (by omega)).keep hk194 (by omega)).on hb197).on hb200).keep hk202 (by omega)); have e0_ := eb_.cellv (i := 4) (v := (.int .i64 ((l.getD j (0, 0, 0, 0, 0, 0)).2.2.2.2.2) : Value)) rfl; simp [go_sem, sEv, sLook, nbeq, i64_w, -List.getD_eq_getElem?_getD, e0_]) ?_
            refine rw_call rfl rfl rfl rfl (f := 27) (args := #[.int .i64 ((l.getD j (0, 0, 0, 0, 0, 0)).2.2.2.2.2)]) (by simp [go_sem, sEv, sLook, nbeq, i64_w, -List.getD_eq_getElem?_getD]) (rbits_calls ((l.getD j (0, 0, 0, 0, 0, 0)).2.2.2.2.2) (hv _ (getD_mem l j (0, 0, 0, 0, 0, 0) (by omega))) w201) ?_
            rintro e_ w204 ⟨rfl, hb205⟩
            refine ⟨_, rfl, ?_⟩
            have hs_w204 := hb205.size
            have hbl_ := blen_64 ((l.getD j (0, 0, 0, 0, 0, 0)).2.2.2.2.2) (hv _ (getD_mem l j (0, 0, 0, 0, 0, 0) (by omega)))
            have hat_ := atF_bnd hB_ (blen ((l.getD j (0, 0, 0, 0, 0, 0)).2.2.2.2.2).natAbs)
            rw [hlt_] at hat_
            refine rw_val (v := .int .i64 (((blen ((l.getD j (0, 0, 0, 0, 0, 0)).2.2.2.2.2).natAbs) : Nat) : Int)) (w' := w204) rfl rfl rfl rfl rfl ?_
            refine rw_end ?_
            refine w_weaken (G' := [(0, .slice (some ad23) l.length c1), (2, .pointer (some ⟨g1, 0, none⟩)), (3, .pointer (some ⟨g7, 0, none⟩)), (4, .int .i64 ((j : Nat) : Int)), (7, .int .i64 (((blen ((l.getD j (0, 0, 0, 0, 0, 0)).2.2.2.2.2).natAbs) : Nat) : Int))]) ⟨rfl, rfl, rfl, rfl, rfl, trivial⟩ ?_
            refine w_region ?_
            refine rw_val (v := .int .i64 (((blen ((l.getD j (0, 0, 0, 0, 0, 0)).2.2.2.2.2).natAbs) : Nat) : Int)) (w' := w204) rfl rfl rfl rfl rfl ?_
            refine rw_val (v := .int .i64 (((blen ((l.getD j (0, 0, 0, 0, 0, 0)).2.2.2.2.2).natAbs) : Nat) : Int)) (w' := w204) rfl rfl rfl rfl rfl ?_
            refine rw_val (v := .pointer (some ⟨g7, 9, none⟩)) (w' := w204) rfl rfl rfl rfl (by simp [go_sem, sEv, sLook, nbeq, i64_w, -List.getD_eq_getElem?_getD, Try.underlying31]) ?_
            refine rw_val (v := .pointer (some ⟨g7, 9 + (blen ((l.getD j (0, 0, 0, 0, 0, 0)).2.2.2.2.2).natAbs), none⟩)) (w' := w204) rfl rfl rfl rfl (run_as (addr_hist (blen ((l.getD j (0, 0, 0, 0, 0, 0)).2.2.2.2.2).natAbs) (by omega) _)) ?_
            refine rw_val (v := .int .i64 (atF o.h (blen ((l.getD j (0, 0, 0, 0, 0, 0)).2.2.2.2.2).natAbs))) (w' := w204) rfl rfl rfl rfl (by have e0_ := ((hb203.on hb205)).cellv (cHA (⟨(o.cnt + 1), (wh o.hi o.lo (((l.getD j (0, 0, 0, 0, 0, 0)).2.2.2.2.2) / 9223372036854775808) (((l.getD j (0, 0, 0, 0, 0, 0)).2.2.2.2.2) % 18446744073709551616)), (wl o.lo (((l.getD j (0, 0, 0, 0, 0, 0)).2.2.2.2.2) % 18446744073709551616)), o.mn, o.mx, (l.getD j (0, 0, 0, 0, 0, 0)).2.2.2.1, (l.getD j (0, 0, 0, 0, 0, 0)).1, (l.getD j (0, 0, 0, 0, 0, 0)).2.1, (l.getD j (0, 0, 0, 0, 0, 0)).2.2.2.2.2, o.h⟩ : CL) (blen ((l.getD j (0, 0, 0, 0, 0, 0)).2.2.2.2.2).natAbs) (by omega)); simp [go_sem, sEv, sLook, nbeq, i64_w, -List.getD_eq_getElem?_getD, e0_]) ?_
            refine rw_val (v := .int .i64 ((atF o.h (blen ((l.getD j (0, 0, 0, 0, 0, 0)).2.2.2.2.2).natAbs)) + 1)) (w' := w204) rfl rfl rfl rfl (by simp [go_sem, sEv, sLook, nbeq, i64_w, -List.getD_eq_getElem?_getD]; exact wrap_id (by omega) (by omega)) ?_
            refine rw_val (v := .pointer (some ⟨g7, 9, none⟩)) (w' := w204) rfl rfl rfl rfl (by simp [go_sem, sEv, sLook, nbeq, i64_w, -List.getD_eq_getElem?_getD, Try.underlying31]) ?_
            refine rw_val (v := .pointer (some ⟨g7, 9 + (blen ((l.getD j (0, 0, 0, 0, 0, 0)).2.2.2.2.2).natAbs), none⟩)) (w' := w204) rfl rfl rfl rfl (run_as (addr_hist (blen ((l.getD j (0, 0, 0, 0, 0, 0)).2.2.2.2.2).natAbs) (by omega) _)) ?_
            refine rw_seg (g := g7) (off := (9 + (blen ((l.getD j (0, 0, 0, 0, 0, 0)).2.2.2.2.2).natAbs))) (ty := 3) (p := .tmp 87) (x := .tmp 85) (v := .int .i64 ((atF o.h (blen ((l.getD j (0, 0, 0, 0, 0, 0)).2.2.2.2.2).natAbs)) + 1)) (cs' := carr (⟨(o.cnt + 1), (wh o.hi o.lo (((l.getD j (0, 0, 0, 0, 0, 0)).2.2.2.2.2) / 9223372036854775808) (((l.getD j (0, 0, 0, 0, 0, 0)).2.2.2.2.2) % 18446744073709551616)), (wl o.lo (((l.getD j (0, 0, 0, 0, 0, 0)).2.2.2.2.2) % 18446744073709551616)), o.mn, o.mx, (l.getD j (0, 0, 0, 0, 0, 0)).2.2.2.1, (l.getD j (0, 0, 0, 0, 0, 0)).1, (l.getD j (0, 0, 0, 0, 0, 0)).2.1, (l.getD j (0, 0, 0, 0, 0, 0)).2.2.2.2.2, (updF o.h (blen ((l.getD j (0, 0, 0, 0, 0, 0)).2.2.2.2.2).natAbs) ((atF o.h (blen ((l.getD j (0, 0, 0, 0, 0, 0)).2.2.2.2.2).natAbs)) + 1))⟩ : CL)) rfl rfl rfl rfl rfl rfl (hb203.on hb205) (by kernel_rfl) (by rw [carr_size]; show 9 + (blen ((l.getD j (0, 0, 0, 0, 0, 0)).2.2.2.2.2).natAbs) + 1 ≤ 74; omega) (by intro q hq; simp only [List.mem_cons, List.not_mem_nil, or_false, Value.cells] at hq; (first | (rcases hq with rfl | rfl | rfl | rfl <;> rfl) | (rcases hq with rfl | rfl <;> rfl) | (subst hq; rfl))) (seg_h (⟨(o.cnt + 1), (wh o.hi o.lo (((l.getD j (0, 0, 0, 0, 0, 0)).2.2.2.2.2) / 9223372036854775808) (((l.getD j (0, 0, 0, 0, 0, 0)).2.2.2.2.2) % 18446744073709551616)), (wl o.lo (((l.getD j (0, 0, 0, 0, 0, 0)).2.2.2.2.2) % 18446744073709551616)), o.mn, o.mx, (l.getD j (0, 0, 0, 0, 0, 0)).2.2.2.1, (l.getD j (0, 0, 0, 0, 0, 0)).1, (l.getD j (0, 0, 0, 0, 0, 0)).2.1, (l.getD j (0, 0, 0, 0, 0, 0)).2.2.2.2.2, o.h⟩ : CL) (blen ((l.getD j (0, 0, 0, 0, 0, 0)).2.2.2.2.2).natAbs) (by omega) ((atF o.h (blen ((l.getD j (0, 0, 0, 0, 0, 0)).2.2.2.2.2).natAbs)) + 1)) ?_
            intro w206 hk207 hb208
            have hs_w206 := hk207.size
            refine rw_end ?_
            refine w_weaken (G' := [(0, .slice (some ad23) l.length c1), (2, .pointer (some ⟨g1, 0, none⟩)), (3, .pointer (some ⟨g7, 0, none⟩)), (4, .int .i64 ((j : Nat) : Int))]) ⟨rfl, rfl, rfl, rfl, trivial⟩ ?_
            refine w_blk ?_
            refine w_region ?_
            refine rw_val (v := .int .i64 ((j : Nat) : Int)) (w' := w206) rfl rfl rfl rfl rfl ?_
            refine rw_val (v := .int .i64 ((j + 1 : Nat) : Int)) (w' := w206) rfl rfl rfl rfl (by simp [go_sem, sEv, sLook, nbeq, i64_w, -List.getD_eq_getElem?_getD]; exact wrap_id (by omega) (by omega)) ?_
            refine rw_val (v := .int .i64 ((j + 1 : Nat) : Int)) (w' := w206) rfl rfl rfl rfl rfl ?_
            refine rw_end ?_
            exact w_back (m_ - 1) [(0, .slice (some ad23) l.length c1), (2, .pointer (some ⟨g1, 0, none⟩)), (3, .pointer (some ⟨g7, 0, none⟩)), (4, .int .i64 ((j + 1 : Nat) : Int))] (by omega) ⟨rfl, rfl, rfl, rfl, trivial⟩ ⟨(j + 1), (⟨(o.cnt + 1), (wh o.hi o.lo (((l.getD j (0, 0, 0, 0, 0, 0)).2.2.2.2.2) / 9223372036854775808) (((l.getD j (0, 0, 0, 0, 0, 0)).2.2.2.2.2) % 18446744073709551616)), (wl o.lo (((l.getD j (0, 0, 0, 0, 0, 0)).2.2.2.2.2) % 18446744073709551616)), o.mn, o.mx, (l.getD j (0, 0, 0, 0, 0, 0)).2.2.2.1, (l.getD j (0, 0, 0, 0, 0, 0)).1, (l.getD j (0, 0, 0, 0, 0, 0)).2.1, (l.getD j (0, 0, 0, 0, 0, 0)).2.2.2.2.2, (updF o.h (blen ((l.getD j (0, 0, 0, 0, 0, 0)).2.2.2.2.2).natAbs) ((atF o.h (blen ((l.getD j (0, 0, 0, 0, 0, 0)).2.2.2.2.2).natAbs)) + 1))⟩ : CL), by omega, (hk207.below (by omega) (chain (hk202.below (by omega) (chain (chain (hk194.below (by omega) (hk191.below (by omega) (chain (hk58.below (by omega) (chain (hk39.below (by omega) (chain hB_L16 hb34)) hb55)) hb189))) hb197) hb200)) hb205)), (of_leaf l j (by omega) (by omega) hv (l.getD j (0, 0, 0, 0, 0, 0)) rfl o hf18 o.mn o.mx ((l.getD j (0, 0, 0, 0, 0, 0)).2.2.2.1) ((l.getD j (0, 0, 0, 0, 0, 0)).1) ((l.getD j (0, 0, 0, 0, 0, 0)).2.1) ((l.getD j (0, 0, 0, 0, 0, 0)).2.2.2.2.2) (by rw [if_neg (fun h_ => h_.elim (fun h2_ => absurd h2_ (by have h_ := cZ; simpa using h_)) (fun h2_ => absurd h2_ (of_decide_eq_false cMn)))]) (by rw [if_neg (fun h_ => h_.elim (fun h2_ => absurd h2_ (by have h_ := cZ; simpa using h_)) (fun h2_ => absurd h2_ (of_decide_eq_false cMx)))]) (by rw [if_pos (.inr (cL))])).symm, hb208, ((((((((((((hf20.on hb34).keep hk39 (by omega)).on hb55).keep hk58 (by omega)).on hb189).keep hk191 (by omega)).keep hk194 (by omega)).on hb197).on hb200).keep hk202 (by omega)).on hb205).keep hk207 (by omega)), (wrap_rng _), rfl⟩
          · refine w_skip ?_
            refine w_seq ?_
            refine w_region ?_
            refine rw_val (v := .pointer (some ⟨g7, 0, none⟩)) (w' := w188) rfl rfl rfl rfl (by simp [go_sem, sEv, sLook, nbeq, i64_w, -List.getD_eq_getElem?_getD, Try.underlying31]) ?_
            refine rw_val (v := .int .i64 o.cnt) (w' := w188) rfl rfl rfl rfl (by have eb_ := (((((hf19.on hb34).keep hk39 (by omega)).on hb55).keep hk58 (by omega)).on hb189); have e0_ := eb_.cellv (v := .int .i64 o.cnt) (cA0 o); simp [go_sem, sEv, sLook, nbeq, i64_w, -List.getD_eq_getElem?_getD, e0_]) ?_
            refine rw_val (v := .int .i64 (o.cnt + 1)) (w' := w188) rfl rfl rfl rfl (by simp [go_sem, sEv, sLook, nbeq, i64_w, -List.getD_eq_getElem?_getD]; exact wrap_id (by omega) (by omega)) ?_
            refine rw_val (v := .pointer (some ⟨g7, 0, none⟩)) (w' := w188) rfl rfl rfl rfl (by simp [go_sem, sEv, sLook, nbeq, i64_w, -List.getD_eq_getElem?_getD, Try.underlying31]) ?_
            refine rw_seg (g := g7) (off := 0) (ty := 3) (p := .tmp 69) (x := .tmp 68) (v := .int .i64 (o.cnt + 1)) (cs' := carr (⟨(o.cnt + 1), o.hi, o.lo, o.mn, o.mx, o.t, o.src, o.seq, o.v, o.h⟩ : CL)) rfl rfl rfl rfl rfl rfl (((((hf19.on hb34).keep hk39 (by omega)).on hb55).keep hk58 (by omega)).on hb189) (by kernel_rfl) (by rw [carr_size]; simp [Value.cells] <;> omega) (by intro q hq; simp only [List.mem_cons, List.not_mem_nil, or_false, Value.cells] at hq; (first | (rcases hq with rfl | rfl | rfl | rfl <;> rfl) | (rcases hq with rfl | rfl <;> rfl) | (subst hq; rfl))) (seg_cnt o (o.cnt + 1)) ?_
            intro w209 hk210 hb211
            have hs_w209 := hk210.size
            refine rw_end ?_
            refine w_weaken (G' := [(0, .slice (some ad23) l.length c1), (2, .pointer (some ⟨g1, 0, none⟩)), (3, .pointer (some ⟨g7, 0, none⟩)), (4, .int .i64 ((j : Nat) : Int)), (5, .pointer (some ⟨g32, 0, none⟩))]) ⟨rfl, rfl, rfl, rfl, rfl, trivial⟩ ?_
            refine w_seq ?_
            refine w_drawk (M := [0, 1, 0, 4, 12, 31, 63, 127]) (ss := [Is (.pointer (some ⟨g7, 1, none⟩)), Is (.agg #[.int .i64 o.hi, .int .u64 o.lo]), Is (.pointer (some ⟨g32, 4, none⟩)), Is (.int .i64 ((l.getD j (0, 0, 0, 0, 0, 0)).2.2.2.2.2)), (Is (.agg #[.int .i64 (((l.getD j (0, 0, 0, 0, 0, 0)).2.2.2.2.2) / 9223372036854775808), .int .u64 (((l.getD j (0, 0, 0, 0, 0, 0)).2.2.2.2.2) % 18446744073709551616)]))]) 5 rfl (by decide +kernel) ?_
            refine t_is (.pointer (some ⟨g7, 1, none⟩)) rfl rfl rfl rfl (fun W_ hW_ F_ => by simp [go_sem, sEv, sLook, nbeq, i64_w, -List.getD_eq_getElem?_getD, Try.underlying31]) ?_
            refine t_is (.agg #[.int .i64 o.hi, .int .u64 o.lo]) rfl rfl rfl rfl (fun W_ hW_ F_ => (by have eb_ := (hb211.on (below_of_drew hW_)); have e0_ := eb_.cellv (v := .int .i64 o.hi) (cA1 (⟨(o.cnt + 1), o.hi, o.lo, o.mn, o.mx, o.t, o.src, o.seq, o.v, o.h⟩ : CL)); have e1_ := eb_.cellv (v := .int .u64 o.lo) (cA2 (⟨(o.cnt + 1), o.hi, o.lo, o.mn, o.mx, o.t, o.src, o.seq, o.v, o.h⟩ : CL)); simp [go_sem, sEv, sLook, nbeq, i64_w, -List.getD_eq_getElem?_getD, e0_, e1_, Try.underlying26])) ?_
            refine t_is (.pointer (some ⟨g32, 4, none⟩)) rfl rfl rfl rfl (fun W_ hW_ F_ => by simp [go_sem, sEv, sLook, nbeq, i64_w, -List.getD_eq_getElem?_getD, Try.underlying44]) ?_
            refine t_is (.int .i64 ((l.getD j (0, 0, 0, 0, 0, 0)).2.2.2.2.2)) rfl rfl rfl rfl (fun W_ hW_ F_ => by have eb_ := (((((hk40.on hb55).keep hk58 (by omega)).on hb189).keep hk210 (by omega)).on (below_of_drew hW_)); have e0_ := eb_.cellv (i := 4) (v := (.int .i64 ((l.getD j (0, 0, 0, 0, 0, 0)).2.2.2.2.2) : Value)) rfl; simp [go_sem, sEv, sLook, nbeq, i64_w, -List.getD_eq_getElem?_getD, e0_]) ?_
            refine t_call (f := 26) (args := #[.int .i64 ((l.getD j (0, 0, 0, 0, 0, 0)).2.2.2.2.2)]) (Is (.agg #[.int .i64 (((l.getD j (0, 0, 0, 0, 0, 0)).2.2.2.2.2) / 9223372036854775808), .int .u64 (((l.getD j (0, 0, 0, 0, 0, 0)).2.2.2.2.2) % 18446744073709551616)])) rfl rfl rfl rfl (fun W_ => by simp [go_sem, sEv, sLook, nbeq, i64_w, -List.getD_eq_getElem?_getD]) (fun W_ hW_ F_ => ?_) ?_
            · refine (rof_calls ((l.getD j (0, 0, 0, 0, 0, 0)).2.2.2.2.2) (hv _ (getD_mem l j (0, 0, 0, 0, 0, 0) (by omega))) W_).mono ?_
              rintro e_ w_ ⟨rfl, hb_⟩
              exact ⟨_, rfl, rfl, hb_⟩
            rintro _ rfl
            refine t_tail ?_
            intro w212 hb213_ F214
            have hb213 := below_of_drew hb213_
            have hs_w212 := hb213.size
            refine rw_call rfl rfl rfl rfl (f := 25) (args := #[.agg #[.int .i64 o.hi, .int .u64 o.lo], .agg #[.int .i64 (((l.getD j (0, 0, 0, 0, 0, 0)).2.2.2.2.2) / 9223372036854775808), .int .u64 (((l.getD j (0, 0, 0, 0, 0, 0)).2.2.2.2.2) % 18446744073709551616)]]) (by simp [go_sem, sEv, sLook, nbeq, i64_w, -List.getD_eq_getElem?_getD]) (radd_calls o.hi o.lo (((l.getD j (0, 0, 0, 0, 0, 0)).2.2.2.2.2) / 9223372036854775808) (((l.getD j (0, 0, 0, 0, 0, 0)).2.2.2.2.2) % 18446744073709551616) hhi_ hlo_ (by have h_ := (hv _ (getD_mem l j (0, 0, 0, 0, 0, 0) (by omega))); omega) (by omega) w212) ?_
            rintro e_ w215 ⟨rfl, hb216⟩
            refine ⟨_, rfl, ?_⟩
            have hs_w215 := hb216.size
            refine rw_val (v := .pointer (some ⟨g7, 1, none⟩)) (w' := w215) rfl rfl rfl rfl (by simp [go_sem, sEv, sLook, nbeq, i64_w, -List.getD_eq_getElem?_getD, Try.underlying31]) ?_
            refine rw_seg (g := g7) (off := 1) (ty := 26) (p := .tmp 76) (x := .tmp 75) (v := .agg #[.int .i64 (wh o.hi o.lo (((l.getD j (0, 0, 0, 0, 0, 0)).2.2.2.2.2) / 9223372036854775808) (((l.getD j (0, 0, 0, 0, 0, 0)).2.2.2.2.2) % 18446744073709551616)), .int .u64 (wl o.lo (((l.getD j (0, 0, 0, 0, 0, 0)).2.2.2.2.2) % 18446744073709551616))]) (cs' := carr (⟨(o.cnt + 1), (wh o.hi o.lo (((l.getD j (0, 0, 0, 0, 0, 0)).2.2.2.2.2) / 9223372036854775808) (((l.getD j (0, 0, 0, 0, 0, 0)).2.2.2.2.2) % 18446744073709551616)), (wl o.lo (((l.getD j (0, 0, 0, 0, 0, 0)).2.2.2.2.2) % 18446744073709551616)), o.mn, o.mx, o.t, o.src, o.seq, o.v, o.h⟩ : CL)) rfl rfl rfl rfl rfl rfl ((hb211.on hb213).on hb216) (by kernel_rfl) (by rw [carr_size]; simp [Value.cells] <;> omega) (by intro q hq; simp only [List.mem_cons, List.not_mem_nil, or_false, Value.cells] at hq; (first | (rcases hq with rfl | rfl | rfl | rfl <;> rfl) | (rcases hq with rfl | rfl <;> rfl) | (subst hq; rfl))) (seg_sum (⟨(o.cnt + 1), o.hi, o.lo, o.mn, o.mx, o.t, o.src, o.seq, o.v, o.h⟩ : CL) (wh o.hi o.lo (((l.getD j (0, 0, 0, 0, 0, 0)).2.2.2.2.2) / 9223372036854775808) (((l.getD j (0, 0, 0, 0, 0, 0)).2.2.2.2.2) % 18446744073709551616)) (wl o.lo (((l.getD j (0, 0, 0, 0, 0, 0)).2.2.2.2.2) % 18446744073709551616))) ?_
            intro w217 hk218 hb219
            have hs_w217 := hk218.size
            refine rw_end ?_
            refine w_weaken (G' := [(0, .slice (some ad23) l.length c1), (2, .pointer (some ⟨g1, 0, none⟩)), (3, .pointer (some ⟨g7, 0, none⟩)), (4, .int .i64 ((j : Nat) : Int)), (5, .pointer (some ⟨g32, 0, none⟩))]) ⟨rfl, rfl, rfl, rfl, rfl, trivial⟩ ?_
            refine w_seq ?_
            refine w_region ?_
            refine rw_val (v := .pointer (some ⟨g32, 4, none⟩)) (w' := w217) rfl rfl rfl rfl (by simp [go_sem, sEv, sLook, nbeq, i64_w, -List.getD_eq_getElem?_getD, Try.underlying44]) ?_
            refine rw_val (v := .int .i64 ((l.getD j (0, 0, 0, 0, 0, 0)).2.2.2.2.2)) (w' := w217) rfl rfl rfl rfl (by have eb_ := (((((((hk40.on hb55).keep hk58 (by omega)).on hb189).keep hk210 (by omega)).on hb213).on hb216).keep hk218 (by omega)); have e0_ := eb_.cellv (i := 4) (v := (.int .i64 ((l.getD j (0, 0, 0, 0, 0, 0)).2.2.2.2.2) : Value)) rfl; simp [go_sem, sEv, sLook, nbeq, i64_w, -List.getD_eq_getElem?_getD, e0_]) ?_
            refine rw_call rfl rfl rfl rfl (f := 27) (args := #[.int .i64 ((l.getD j (0, 0, 0, 0, 0, 0)).2.2.2.2.2)]) (by simp [go_sem, sEv, sLook, nbeq, i64_w, -List.getD_eq_getElem?_getD]) (rbits_calls ((l.getD j (0, 0, 0, 0, 0, 0)).2.2.2.2.2) (hv _ (getD_mem l j (0, 0, 0, 0, 0, 0) (by omega))) w217) ?_
            rintro e_ w220 ⟨rfl, hb221⟩
            refine ⟨_, rfl, ?_⟩
            have hs_w220 := hb221.size
            have hbl_ := blen_64 ((l.getD j (0, 0, 0, 0, 0, 0)).2.2.2.2.2) (hv _ (getD_mem l j (0, 0, 0, 0, 0, 0) (by omega)))
            have hat_ := atF_bnd hB_ (blen ((l.getD j (0, 0, 0, 0, 0, 0)).2.2.2.2.2).natAbs)
            rw [hlt_] at hat_
            refine rw_val (v := .int .i64 (((blen ((l.getD j (0, 0, 0, 0, 0, 0)).2.2.2.2.2).natAbs) : Nat) : Int)) (w' := w220) rfl rfl rfl rfl rfl ?_
            refine rw_end ?_
            refine w_weaken (G' := [(0, .slice (some ad23) l.length c1), (2, .pointer (some ⟨g1, 0, none⟩)), (3, .pointer (some ⟨g7, 0, none⟩)), (4, .int .i64 ((j : Nat) : Int)), (7, .int .i64 (((blen ((l.getD j (0, 0, 0, 0, 0, 0)).2.2.2.2.2).natAbs) : Nat) : Int))]) ⟨rfl, rfl, rfl, rfl, rfl, trivial⟩ ?_
            refine w_region ?_
            refine rw_val (v := .int .i64 (((blen ((l.getD j (0, 0, 0, 0, 0, 0)).2.2.2.2.2).natAbs) : Nat) : Int)) (w' := w220) rfl rfl rfl rfl rfl ?_
            refine rw_val (v := .int .i64 (((blen ((l.getD j (0, 0, 0, 0, 0, 0)).2.2.2.2.2).natAbs) : Nat) : Int)) (w' := w220) rfl rfl rfl rfl rfl ?_
            refine rw_val (v := .pointer (some ⟨g7, 9, none⟩)) (w' := w220) rfl rfl rfl rfl (by simp [go_sem, sEv, sLook, nbeq, i64_w, -List.getD_eq_getElem?_getD, Try.underlying31]) ?_
            refine rw_val (v := .pointer (some ⟨g7, 9 + (blen ((l.getD j (0, 0, 0, 0, 0, 0)).2.2.2.2.2).natAbs), none⟩)) (w' := w220) rfl rfl rfl rfl (run_as (addr_hist (blen ((l.getD j (0, 0, 0, 0, 0, 0)).2.2.2.2.2).natAbs) (by omega) _)) ?_
            refine rw_val (v := .int .i64 (atF o.h (blen ((l.getD j (0, 0, 0, 0, 0, 0)).2.2.2.2.2).natAbs))) (w' := w220) rfl rfl rfl rfl (by have e0_ := ((hb219.on hb221)).cellv (cHA (⟨(o.cnt + 1), (wh o.hi o.lo (((l.getD j (0, 0, 0, 0, 0, 0)).2.2.2.2.2) / 9223372036854775808) (((l.getD j (0, 0, 0, 0, 0, 0)).2.2.2.2.2) % 18446744073709551616)), (wl o.lo (((l.getD j (0, 0, 0, 0, 0, 0)).2.2.2.2.2) % 18446744073709551616)), o.mn, o.mx, o.t, o.src, o.seq, o.v, o.h⟩ : CL) (blen ((l.getD j (0, 0, 0, 0, 0, 0)).2.2.2.2.2).natAbs) (by omega)); simp [go_sem, sEv, sLook, nbeq, i64_w, -List.getD_eq_getElem?_getD, e0_]) ?_
            refine rw_val (v := .int .i64 ((atF o.h (blen ((l.getD j (0, 0, 0, 0, 0, 0)).2.2.2.2.2).natAbs)) + 1)) (w' := w220) rfl rfl rfl rfl (by simp [go_sem, sEv, sLook, nbeq, i64_w, -List.getD_eq_getElem?_getD]; exact wrap_id (by omega) (by omega)) ?_
            refine rw_val (v := .pointer (some ⟨g7, 9, none⟩)) (w' := w220) rfl rfl rfl rfl (by simp [go_sem, sEv, sLook, nbeq, i64_w, -List.getD_eq_getElem?_getD, Try.underlying31]) ?_
            refine rw_val (v := .pointer (some ⟨g7, 9 + (blen ((l.getD j (0, 0, 0, 0, 0, 0)).2.2.2.2.2).natAbs), none⟩)) (w' := w220) rfl rfl rfl rfl (run_as (addr_hist (blen ((l.getD j (0, 0, 0, 0, 0, 0)).2.2.2.2.2).natAbs) (by omega) _)) ?_
            refine rw_seg (g := g7) (off := (9 + (blen ((l.getD j (0, 0, 0, 0, 0, 0)).2.2.2.2.2).natAbs))) (ty := 3) (p := .tmp 87) (x := .tmp 85) (v := .int .i64 ((atF o.h (blen ((l.getD j (0, 0, 0, 0, 0, 0)).2.2.2.2.2).natAbs)) + 1)) (cs' := carr (⟨(o.cnt + 1), (wh o.hi o.lo (((l.getD j (0, 0, 0, 0, 0, 0)).2.2.2.2.2) / 9223372036854775808) (((l.getD j (0, 0, 0, 0, 0, 0)).2.2.2.2.2) % 18446744073709551616)), (wl o.lo (((l.getD j (0, 0, 0, 0, 0, 0)).2.2.2.2.2) % 18446744073709551616)), o.mn, o.mx, o.t, o.src, o.seq, o.v, (updF o.h (blen ((l.getD j (0, 0, 0, 0, 0, 0)).2.2.2.2.2).natAbs) ((atF o.h (blen ((l.getD j (0, 0, 0, 0, 0, 0)).2.2.2.2.2).natAbs)) + 1))⟩ : CL)) rfl rfl rfl rfl rfl rfl (hb219.on hb221) (by kernel_rfl) (by rw [carr_size]; show 9 + (blen ((l.getD j (0, 0, 0, 0, 0, 0)).2.2.2.2.2).natAbs) + 1 ≤ 74; omega) (by intro q hq; simp only [List.mem_cons, List.not_mem_nil, or_false, Value.cells] at hq; (first | (rcases hq with rfl | rfl | rfl | rfl <;> rfl) | (rcases hq with rfl | rfl <;> rfl) | (subst hq; rfl))) (seg_h (⟨(o.cnt + 1), (wh o.hi o.lo (((l.getD j (0, 0, 0, 0, 0, 0)).2.2.2.2.2) / 9223372036854775808) (((l.getD j (0, 0, 0, 0, 0, 0)).2.2.2.2.2) % 18446744073709551616)), (wl o.lo (((l.getD j (0, 0, 0, 0, 0, 0)).2.2.2.2.2) % 18446744073709551616)), o.mn, o.mx, o.t, o.src, o.seq, o.v, o.h⟩ : CL) (blen ((l.getD j (0, 0, 0, 0, 0, 0)).2.2.2.2.2).natAbs) (by omega) ((atF o.h (blen ((l.getD j (0, 0, 0, 0, 0, 0)).2.2.2.2.2).natAbs)) + 1)) ?_
            intro w222 hk223 hb224
            have hs_w222 := hk223.size
            refine rw_end ?_
            refine w_weaken (G' := [(0, .slice (some ad23) l.length c1), (2, .pointer (some ⟨g1, 0, none⟩)), (3, .pointer (some ⟨g7, 0, none⟩)), (4, .int .i64 ((j : Nat) : Int))]) ⟨rfl, rfl, rfl, rfl, trivial⟩ ?_
            refine w_blk ?_
            refine w_region ?_
            refine rw_val (v := .int .i64 ((j : Nat) : Int)) (w' := w222) rfl rfl rfl rfl rfl ?_
            refine rw_val (v := .int .i64 ((j + 1 : Nat) : Int)) (w' := w222) rfl rfl rfl rfl (by simp [go_sem, sEv, sLook, nbeq, i64_w, -List.getD_eq_getElem?_getD]; exact wrap_id (by omega) (by omega)) ?_
            refine rw_val (v := .int .i64 ((j + 1 : Nat) : Int)) (w' := w222) rfl rfl rfl rfl rfl ?_
            refine rw_end ?_
            exact w_back (m_ - 1) [(0, .slice (some ad23) l.length c1), (2, .pointer (some ⟨g1, 0, none⟩)), (3, .pointer (some ⟨g7, 0, none⟩)), (4, .int .i64 ((j + 1 : Nat) : Int))] (by omega) ⟨rfl, rfl, rfl, rfl, trivial⟩ ⟨(j + 1), (⟨(o.cnt + 1), (wh o.hi o.lo (((l.getD j (0, 0, 0, 0, 0, 0)).2.2.2.2.2) / 9223372036854775808) (((l.getD j (0, 0, 0, 0, 0, 0)).2.2.2.2.2) % 18446744073709551616)), (wl o.lo (((l.getD j (0, 0, 0, 0, 0, 0)).2.2.2.2.2) % 18446744073709551616)), o.mn, o.mx, o.t, o.src, o.seq, o.v, (updF o.h (blen ((l.getD j (0, 0, 0, 0, 0, 0)).2.2.2.2.2).natAbs) ((atF o.h (blen ((l.getD j (0, 0, 0, 0, 0, 0)).2.2.2.2.2).natAbs)) + 1))⟩ : CL), by omega, (hk223.below (by omega) (chain (hk218.below (by omega) (chain (chain (hk210.below (by omega) (chain (hk58.below (by omega) (chain (hk39.below (by omega) (chain hB_L16 hb34)) hb55)) hb189)) hb213) hb216)) hb221)), (of_leaf l j (by omega) (by omega) hv (l.getD j (0, 0, 0, 0, 0, 0)) rfl o hf18 o.mn o.mx o.t o.src o.seq o.v (by rw [if_neg (fun h_ => h_.elim (fun h2_ => absurd h2_ (by have h_ := cZ; simpa using h_)) (fun h2_ => absurd h2_ (of_decide_eq_false cMn)))]) (by rw [if_neg (fun h_ => h_.elim (fun h2_ => absurd h2_ (by have h_ := cZ; simpa using h_)) (fun h2_ => absurd h2_ (of_decide_eq_false cMx)))]) (by rw [if_neg (fun h_ => h_.elim (fun h2_ => absurd h2_ (by have h_ := cZ; simpa using h_)) (fun h2_ => (by rw [cL] at h2_; cases h2_)))])).symm, hb224, (((((((((((hf20.on hb34).keep hk39 (by omega)).on hb55).keep hk58 (by omega)).on hb189).keep hk210 (by omega)).on hb213).on hb216).keep hk218 (by omega)).on hb221).keep hk223 (by omega)), (wrap_rng _), rfl⟩
    · have l225 : ((j : Nat) : Int) = 0 := by simpa using cZ
      refine rw_off (c := (((j : Nat) : Int) == 0)) rfl rfl rfl (by first | (rw [cZ]; rfl) | simp [cZ]) rfl rfl ?_
      refine rw_off (c := (((j : Nat) : Int) == 0)) rfl rfl rfl (by first | (rw [cZ]; rfl) | simp [cZ]) rfl rfl ?_
      refine rw_off (c := (((j : Nat) : Int) == 0)) rfl rfl rfl (by first | (rw [cZ]; rfl) | simp [cZ]) rfl rfl ?_
      refine rw_off (c := (((j : Nat) : Int) == 0)) rfl rfl rfl (by first | (rw [cZ]; rfl) | simp [cZ]) rfl rfl ?_
      refine rw_off (c := (((j : Nat) : Int) == 0)) rfl rfl rfl (by first | (rw [cZ]; rfl) | simp [cZ]) rfl rfl ?_
      refine rw_val (v := .bool true) (w' := w57) rfl rfl rfl rfl (by first | (simp [go_sem, sEv, sLook, nbeq, i64_w, -List.getD_eq_getElem?_getD, cZ]; done) | (rw [cZ]; simp [go_sem, sEv, sLook, nbeq, i64_w, -List.getD_eq_getElem?_getD]; done) | (simp [go_sem, sEv, sLook, nbeq, i64_w, -List.getD_eq_getElem?_getD] <;> omega) | (simp [go_sem, sEv, sLook, nbeq, i64_w, -List.getD_eq_getElem?_getD]; intro h_; exact absurd (by omega) h_)) ?_
      refine rw_end ?_
      refine w_weaken (G' := [(0, .slice (some ad23) l.length c1), (2, .pointer (some ⟨g1, 0, none⟩)), (3, .pointer (some ⟨g7, 0, none⟩)), (4, .int .i64 ((j : Nat) : Int)), (5, .pointer (some ⟨g32, 0, none⟩)), (6, .pointer (some ⟨g51, 0, none⟩)), (40, .bool true)]) ⟨rfl, rfl, rfl, rfl, rfl, rfl, rfl, trivial⟩ ?_
      refine w_cond_t rfl rfl rfl ?_
      refine w_region ?_
      refine rw_val (v := .pointer (some ⟨g32, 4, none⟩)) (w' := w57) rfl rfl rfl rfl (by simp [go_sem, sEv, sLook, nbeq, i64_w, -List.getD_eq_getElem?_getD, Try.underlying44]) ?_
      refine rw_val (v := .int .i64 ((l.getD j (0, 0, 0, 0, 0, 0)).2.2.2.2.2)) (w' := w57) rfl rfl rfl rfl (by have eb_ := ((hk40.on hb55).keep hk58 (by omega)); have e0_ := eb_.cellv (i := 4) (v := (.int .i64 ((l.getD j (0, 0, 0, 0, 0, 0)).2.2.2.2.2) : Value)) rfl; simp [go_sem, sEv, sLook, nbeq, i64_w, -List.getD_eq_getElem?_getD, e0_]) ?_
      refine rw_val (v := .pointer (some ⟨g7, 3, none⟩)) (w' := w57) rfl rfl rfl rfl (by simp [go_sem, sEv, sLook, nbeq, i64_w, -List.getD_eq_getElem?_getD, Try.underlying31]) ?_
      refine rw_seg (g := g7) (off := 3) (ty := 3) (p := .tmp 43) (x := .tmp 42) (v := .int .i64 ((l.getD j (0, 0, 0, 0, 0, 0)).2.2.2.2.2)) (cs' := carr (⟨o.cnt, o.hi, o.lo, (l.getD j (0, 0, 0, 0, 0, 0)).2.2.2.2.2, o.mx, o.t, o.src, o.seq, o.v, o.h⟩ : CL)) rfl rfl rfl rfl rfl rfl ((((hf19.on hb34).keep hk39 (by omega)).on hb55).keep hk58 (by omega)) (by kernel_rfl) (by rw [carr_size]; simp [Value.cells] <;> omega) (by intro q hq; simp only [List.mem_cons, List.not_mem_nil, or_false, Value.cells] at hq; (first | (rcases hq with rfl | rfl | rfl | rfl <;> rfl) | (rcases hq with rfl | rfl <;> rfl) | (subst hq; rfl))) (seg_mn o ((l.getD j (0, 0, 0, 0, 0, 0)).2.2.2.2.2)) ?_
      intro w226 hk227 hb228
      have hs_w226 := hk227.size
      refine rw_end ?_
      refine w_weaken (G' := [(0, .slice (some ad23) l.length c1), (2, .pointer (some ⟨g1, 0, none⟩)), (3, .pointer (some ⟨g7, 0, none⟩)), (4, .int .i64 ((j : Nat) : Int)), (5, .pointer (some ⟨g32, 0, none⟩)), (6, .pointer (some ⟨g51, 0, none⟩))]) ⟨rfl, rfl, rfl, rfl, rfl, rfl, trivial⟩ ?_
      refine w_seq ?_
      refine w_seq ?_
      refine w_region ?_
      refine rw_val (v := .int .i64 ((j : Nat) : Int)) (w' := w226) rfl rfl rfl rfl rfl ?_
      refine rw_val (v := .bool (((j : Nat) : Int) == 0)) (w' := w226) rfl rfl rfl rfl (by simp [go_sem, sEv, sLook, nbeq, i64_w, -List.getD_eq_getElem?_getD]) ?_
      refine rw_val (v := .bool (((j : Nat) : Int) == 0)) (w' := w226) rfl rfl rfl rfl rfl ?_
      refine rw_off (c := (((j : Nat) : Int) == 0)) rfl rfl rfl (by first | (rw [cZ]; rfl) | simp [cZ]) rfl rfl ?_
      refine rw_off (c := (((j : Nat) : Int) == 0)) rfl rfl rfl (by first | (rw [cZ]; rfl) | simp [cZ]) rfl rfl ?_
      refine rw_off (c := (((j : Nat) : Int) == 0)) rfl rfl rfl (by first | (rw [cZ]; rfl) | simp [cZ]) rfl rfl ?_
      refine rw_off (c := (((j : Nat) : Int) == 0)) rfl rfl rfl (by first | (rw [cZ]; rfl) | simp [cZ]) rfl rfl ?_
      refine rw_off (c := (((j : Nat) : Int) == 0)) rfl rfl rfl (by first | (rw [cZ]; rfl) | simp [cZ]) rfl rfl ?_
      refine rw_val (v := .bool true) (w' := w226) rfl rfl rfl rfl (by first | (simp [go_sem, sEv, sLook, nbeq, i64_w, -List.getD_eq_getElem?_getD, cZ]; done) | (rw [cZ]; simp [go_sem, sEv, sLook, nbeq, i64_w, -List.getD_eq_getElem?_getD]; done) | (simp [go_sem, sEv, sLook, nbeq, i64_w, -List.getD_eq_getElem?_getD] <;> omega) | (simp [go_sem, sEv, sLook, nbeq, i64_w, -List.getD_eq_getElem?_getD]; intro h_; exact absurd (by omega) h_)) ?_
      refine rw_end ?_
      refine w_weaken (G' := [(0, .slice (some ad23) l.length c1), (2, .pointer (some ⟨g1, 0, none⟩)), (3, .pointer (some ⟨g7, 0, none⟩)), (4, .int .i64 ((j : Nat) : Int)), (5, .pointer (some ⟨g32, 0, none⟩)), (6, .pointer (some ⟨g51, 0, none⟩)), (52, .bool true)]) ⟨rfl, rfl, rfl, rfl, rfl, rfl, rfl, trivial⟩ ?_
      refine w_cond_t rfl rfl rfl ?_
      refine w_region ?_
      refine rw_val (v := .pointer (some ⟨g32, 4, none⟩)) (w' := w226) rfl rfl rfl rfl (by simp [go_sem, sEv, sLook, nbeq, i64_w, -List.getD_eq_getElem?_getD, Try.underlying44]) ?_
      refine rw_val (v := .int .i64 ((l.getD j (0, 0, 0, 0, 0, 0)).2.2.2.2.2)) (w' := w226) rfl rfl rfl rfl (by have eb_ := (((hk40.on hb55).keep hk58 (by omega)).keep hk227 (by omega)); have e0_ := eb_.cellv (i := 4) (v := (.int .i64 ((l.getD j (0, 0, 0, 0, 0, 0)).2.2.2.2.2) : Value)) rfl; simp [go_sem, sEv, sLook, nbeq, i64_w, -List.getD_eq_getElem?_getD, e0_]) ?_
      refine rw_val (v := .pointer (some ⟨g7, 4, none⟩)) (w' := w226) rfl rfl rfl rfl (by simp [go_sem, sEv, sLook, nbeq, i64_w, -List.getD_eq_getElem?_getD, Try.underlying31]) ?_
      refine rw_seg (g := g7) (off := 4) (ty := 3) (p := .tmp 55) (x := .tmp 54) (v := .int .i64 ((l.getD j (0, 0, 0, 0, 0, 0)).2.2.2.2.2)) (cs' := carr (⟨o.cnt, o.hi, o.lo, (l.getD j (0, 0, 0, 0, 0, 0)).2.2.2.2.2, (l.getD j (0, 0, 0, 0, 0, 0)).2.2.2.2.2, o.t, o.src, o.seq, o.v, o.h⟩ : CL)) rfl rfl rfl rfl rfl rfl hb228 (by kernel_rfl) (by rw [carr_size]; simp [Value.cells] <;> omega) (by intro q hq; simp only [List.mem_cons, List.not_mem_nil, or_false, Value.cells] at hq; (first | (rcases hq with rfl | rfl | rfl | rfl <;> rfl) | (rcases hq with rfl | rfl <;> rfl) | (subst hq; rfl))) (seg_mx (⟨o.cnt, o.hi, o.lo, (l.getD j (0, 0, 0, 0, 0, 0)).2.2.2.2.2, o.mx, o.t, o.src, o.seq, o.v, o.h⟩ : CL) ((l.getD j (0, 0, 0, 0, 0, 0)).2.2.2.2.2)) ?_
      intro w229 hk230 hb231
      have hs_w229 := hk230.size
      refine rw_end ?_
      refine w_weaken (G' := [(0, .slice (some ad23) l.length c1), (2, .pointer (some ⟨g1, 0, none⟩)), (3, .pointer (some ⟨g7, 0, none⟩)), (4, .int .i64 ((j : Nat) : Int)), (5, .pointer (some ⟨g32, 0, none⟩)), (6, .pointer (some ⟨g51, 0, none⟩))]) ⟨rfl, rfl, rfl, rfl, rfl, rfl, trivial⟩ ?_
      refine w_seq ?_
      refine w_seq ?_
      refine w_region ?_
      refine rw_val (v := .int .i64 ((j : Nat) : Int)) (w' := w229) rfl rfl rfl rfl rfl ?_
      refine rw_val (v := .bool (((j : Nat) : Int) == 0)) (w' := w229) rfl rfl rfl rfl (by simp [go_sem, sEv, sLook, nbeq, i64_w, -List.getD_eq_getElem?_getD]) ?_
      refine rw_val (v := .bool (((j : Nat) : Int) == 0)) (w' := w229) rfl rfl rfl rfl rfl ?_
      refine rw_off (c := (((j : Nat) : Int) == 0)) rfl rfl rfl (by first | (rw [cZ]; rfl) | simp [cZ]) rfl rfl ?_
      refine rw_off (c := (((j : Nat) : Int) == 0)) rfl rfl rfl (by first | (rw [cZ]; rfl) | simp [cZ]) rfl rfl ?_
      refine rw_off (c := (((j : Nat) : Int) == 0)) rfl rfl rfl (by first | (rw [cZ]; rfl) | simp [cZ]) rfl rfl ?_
      refine rw_off (c := (((j : Nat) : Int) == 0)) rfl rfl rfl (by first | (rw [cZ]; rfl) | simp [cZ]) rfl rfl ?_
      refine rw_val (v := .bool true) (w' := w229) rfl rfl rfl rfl (by first | (simp [go_sem, sEv, sLook, nbeq, i64_w, -List.getD_eq_getElem?_getD, cZ]; done) | (rw [cZ]; simp [go_sem, sEv, sLook, nbeq, i64_w, -List.getD_eq_getElem?_getD]; done) | (simp [go_sem, sEv, sLook, nbeq, i64_w, -List.getD_eq_getElem?_getD] <;> omega) | (simp [go_sem, sEv, sLook, nbeq, i64_w, -List.getD_eq_getElem?_getD]; intro h_; exact absurd (by omega) h_)) ?_
      refine rw_end ?_
      refine w_weaken (G' := [(0, .slice (some ad23) l.length c1), (2, .pointer (some ⟨g1, 0, none⟩)), (3, .pointer (some ⟨g7, 0, none⟩)), (4, .int .i64 ((j : Nat) : Int)), (5, .pointer (some ⟨g32, 0, none⟩)), (6, .pointer (some ⟨g51, 0, none⟩)), (63, .bool true)]) ⟨rfl, rfl, rfl, rfl, rfl, rfl, rfl, trivial⟩ ?_
      refine w_cond_t rfl rfl rfl ?_
      refine w_region ?_
      refine rw_val (v := .agg #[.int .i64 ((l.getD j (0, 0, 0, 0, 0, 0)).2.2.2.1), .int .i64 ((l.getD j (0, 0, 0, 0, 0, 0)).1), .int .i64 ((l.getD j (0, 0, 0, 0, 0, 0)).2.1), .int .i64 ((l.getD j (0, 0, 0, 0, 0, 0)).2.2.2.2.2)]) (w' := w229) rfl rfl rfl rfl (by have eb_ := ((hk59.keep hk227 (by omega)).keep hk230 (by omega)); have e0_ := eb_.cellv (i := 0) (v := (.int .i64 ((l.getD j (0, 0, 0, 0, 0, 0)).2.2.2.1) : Value)) rfl; have e1_ := eb_.cellv (i := 1) (v := (.int .i64 ((l.getD j (0, 0, 0, 0, 0, 0)).1) : Value)) rfl; have e2_ := eb_.cellv (i := 2) (v := (.int .i64 ((l.getD j (0, 0, 0, 0, 0, 0)).2.1) : Value)) rfl; have e3_ := eb_.cellv (i := 3) (v := (.int .i64 ((l.getD j (0, 0, 0, 0, 0, 0)).2.2.2.2.2) : Value)) rfl; simp [go_sem, sEv, sLook, nbeq, i64_w, -List.getD_eq_getElem?_getD, e0_, e1_, e2_, e3_, Try.underlying28]) ?_
      refine rw_val (v := .pointer (some ⟨g7, 5, none⟩)) (w' := w229) rfl rfl rfl rfl (by simp [go_sem, sEv, sLook, nbeq, i64_w, -List.getD_eq_getElem?_getD, Try.underlying31]) ?_
      refine rw_seg (g := g7) (off := 5) (ty := 28) (p := .tmp 65) (x := .tmp 64) (v := .agg #[.int .i64 ((l.getD j (0, 0, 0, 0, 0, 0)).2.2.2.1), .int .i64 ((l.getD j (0, 0, 0, 0, 0, 0)).1), .int .i64 ((l.getD j (0, 0, 0, 0, 0, 0)).2.1), .int .i64 ((l.getD j (0, 0, 0, 0, 0, 0)).2.2.2.2.2)]) (cs' := carr (⟨o.cnt, o.hi, o.lo, (l.getD j (0, 0, 0, 0, 0, 0)).2.2.2.2.2, (l.getD j (0, 0, 0, 0, 0, 0)).2.2.2.2.2, (l.getD j (0, 0, 0, 0, 0, 0)).2.2.2.1, (l.getD j (0, 0, 0, 0, 0, 0)).1, (l.getD j (0, 0, 0, 0, 0, 0)).2.1, (l.getD j (0, 0, 0, 0, 0, 0)).2.2.2.2.2, o.h⟩ : CL)) rfl rfl rfl rfl rfl rfl hb231 (by kernel_rfl) (by rw [carr_size]; simp [Value.cells] <;> omega) (by intro q hq; simp only [List.mem_cons, List.not_mem_nil, or_false, Value.cells] at hq; (first | (rcases hq with rfl | rfl | rfl | rfl <;> rfl) | (rcases hq with rfl | rfl <;> rfl) | (subst hq; rfl))) (seg_last (⟨o.cnt, o.hi, o.lo, (l.getD j (0, 0, 0, 0, 0, 0)).2.2.2.2.2, (l.getD j (0, 0, 0, 0, 0, 0)).2.2.2.2.2, o.t, o.src, o.seq, o.v, o.h⟩ : CL) ((l.getD j (0, 0, 0, 0, 0, 0)).2.2.2.1) ((l.getD j (0, 0, 0, 0, 0, 0)).1) ((l.getD j (0, 0, 0, 0, 0, 0)).2.1) ((l.getD j (0, 0, 0, 0, 0, 0)).2.2.2.2.2)) ?_
      intro w232 hk233 hb234
      have hs_w232 := hk233.size
      refine rw_end ?_
      refine w_seq ?_
      refine w_region ?_
      refine rw_val (v := .pointer (some ⟨g7, 0, none⟩)) (w' := w232) rfl rfl rfl rfl (by simp [go_sem, sEv, sLook, nbeq, i64_w, -List.getD_eq_getElem?_getD, Try.underlying31]) ?_
      refine rw_val (v := .int .i64 o.cnt) (w' := w232) rfl rfl rfl rfl (by have eb_ := hb234; have e0_ := eb_.cellv (v := .int .i64 o.cnt) (cA0 (⟨o.cnt, o.hi, o.lo, (l.getD j (0, 0, 0, 0, 0, 0)).2.2.2.2.2, (l.getD j (0, 0, 0, 0, 0, 0)).2.2.2.2.2, (l.getD j (0, 0, 0, 0, 0, 0)).2.2.2.1, (l.getD j (0, 0, 0, 0, 0, 0)).1, (l.getD j (0, 0, 0, 0, 0, 0)).2.1, (l.getD j (0, 0, 0, 0, 0, 0)).2.2.2.2.2, o.h⟩ : CL)); simp [go_sem, sEv, sLook, nbeq, i64_w, -List.getD_eq_getElem?_getD, e0_]) ?_
      refine rw_val (v := .int .i64 (o.cnt + 1)) (w' := w232) rfl rfl rfl rfl (by simp [go_sem, sEv, sLook, nbeq, i64_w, -List.getD_eq_getElem?_getD]; exact wrap_id (by omega) (by omega)) ?_
      refine rw_val (v := .pointer (some ⟨g7, 0, none⟩)) (w' := w232) rfl rfl rfl rfl (by simp [go_sem, sEv, sLook, nbeq, i64_w, -List.getD_eq_getElem?_getD, Try.underlying31]) ?_
      refine rw_seg (g := g7) (off := 0) (ty := 3) (p := .tmp 69) (x := .tmp 68) (v := .int .i64 (o.cnt + 1)) (cs' := carr (⟨(o.cnt + 1), o.hi, o.lo, (l.getD j (0, 0, 0, 0, 0, 0)).2.2.2.2.2, (l.getD j (0, 0, 0, 0, 0, 0)).2.2.2.2.2, (l.getD j (0, 0, 0, 0, 0, 0)).2.2.2.1, (l.getD j (0, 0, 0, 0, 0, 0)).1, (l.getD j (0, 0, 0, 0, 0, 0)).2.1, (l.getD j (0, 0, 0, 0, 0, 0)).2.2.2.2.2, o.h⟩ : CL)) rfl rfl rfl rfl rfl rfl hb234 (by kernel_rfl) (by rw [carr_size]; simp [Value.cells] <;> omega) (by intro q hq; simp only [List.mem_cons, List.not_mem_nil, or_false, Value.cells] at hq; (first | (rcases hq with rfl | rfl | rfl | rfl <;> rfl) | (rcases hq with rfl | rfl <;> rfl) | (subst hq; rfl))) (seg_cnt (⟨o.cnt, o.hi, o.lo, (l.getD j (0, 0, 0, 0, 0, 0)).2.2.2.2.2, (l.getD j (0, 0, 0, 0, 0, 0)).2.2.2.2.2, (l.getD j (0, 0, 0, 0, 0, 0)).2.2.2.1, (l.getD j (0, 0, 0, 0, 0, 0)).1, (l.getD j (0, 0, 0, 0, 0, 0)).2.1, (l.getD j (0, 0, 0, 0, 0, 0)).2.2.2.2.2, o.h⟩ : CL) (o.cnt + 1)) ?_
      intro w235 hk236 hb237
      have hs_w235 := hk236.size
      refine rw_end ?_
      refine w_weaken (G' := [(0, .slice (some ad23) l.length c1), (2, .pointer (some ⟨g1, 0, none⟩)), (3, .pointer (some ⟨g7, 0, none⟩)), (4, .int .i64 ((j : Nat) : Int)), (5, .pointer (some ⟨g32, 0, none⟩))]) ⟨rfl, rfl, rfl, rfl, rfl, trivial⟩ ?_
      refine w_seq ?_
      refine w_drawk (M := [0, 1, 0, 4, 12, 31, 63, 127]) (ss := [Is (.pointer (some ⟨g7, 1, none⟩)), Is (.agg #[.int .i64 o.hi, .int .u64 o.lo]), Is (.pointer (some ⟨g32, 4, none⟩)), Is (.int .i64 ((l.getD j (0, 0, 0, 0, 0, 0)).2.2.2.2.2)), (Is (.agg #[.int .i64 (((l.getD j (0, 0, 0, 0, 0, 0)).2.2.2.2.2) / 9223372036854775808), .int .u64 (((l.getD j (0, 0, 0, 0, 0, 0)).2.2.2.2.2) % 18446744073709551616)]))]) 5 rfl (by decide +kernel) ?_
      refine t_is (.pointer (some ⟨g7, 1, none⟩)) rfl rfl rfl rfl (fun W_ hW_ F_ => by simp [go_sem, sEv, sLook, nbeq, i64_w, -List.getD_eq_getElem?_getD, Try.underlying31]) ?_
      refine t_is (.agg #[.int .i64 o.hi, .int .u64 o.lo]) rfl rfl rfl rfl (fun W_ hW_ F_ => (by have eb_ := (hb237.on (below_of_drew hW_)); have e0_ := eb_.cellv (v := .int .i64 o.hi) (cA1 (⟨(o.cnt + 1), o.hi, o.lo, (l.getD j (0, 0, 0, 0, 0, 0)).2.2.2.2.2, (l.getD j (0, 0, 0, 0, 0, 0)).2.2.2.2.2, (l.getD j (0, 0, 0, 0, 0, 0)).2.2.2.1, (l.getD j (0, 0, 0, 0, 0, 0)).1, (l.getD j (0, 0, 0, 0, 0, 0)).2.1, (l.getD j (0, 0, 0, 0, 0, 0)).2.2.2.2.2, o.h⟩ : CL)); have e1_ := eb_.cellv (v := .int .u64 o.lo) (cA2 (⟨(o.cnt + 1), o.hi, o.lo, (l.getD j (0, 0, 0, 0, 0, 0)).2.2.2.2.2, (l.getD j (0, 0, 0, 0, 0, 0)).2.2.2.2.2, (l.getD j (0, 0, 0, 0, 0, 0)).2.2.2.1, (l.getD j (0, 0, 0, 0, 0, 0)).1, (l.getD j (0, 0, 0, 0, 0, 0)).2.1, (l.getD j (0, 0, 0, 0, 0, 0)).2.2.2.2.2, o.h⟩ : CL)); simp [go_sem, sEv, sLook, nbeq, i64_w, -List.getD_eq_getElem?_getD, e0_, e1_, Try.underlying26])) ?_
      refine t_is (.pointer (some ⟨g32, 4, none⟩)) rfl rfl rfl rfl (fun W_ hW_ F_ => by simp [go_sem, sEv, sLook, nbeq, i64_w, -List.getD_eq_getElem?_getD, Try.underlying44]) ?_
      refine t_is (.int .i64 ((l.getD j (0, 0, 0, 0, 0, 0)).2.2.2.2.2)) rfl rfl rfl rfl (fun W_ hW_ F_ => by have eb_ := (((((((hk40.on hb55).keep hk58 (by omega)).keep hk227 (by omega)).keep hk230 (by omega)).keep hk233 (by omega)).keep hk236 (by omega)).on (below_of_drew hW_)); have e0_ := eb_.cellv (i := 4) (v := (.int .i64 ((l.getD j (0, 0, 0, 0, 0, 0)).2.2.2.2.2) : Value)) rfl; simp [go_sem, sEv, sLook, nbeq, i64_w, -List.getD_eq_getElem?_getD, e0_]) ?_
      refine t_call (f := 26) (args := #[.int .i64 ((l.getD j (0, 0, 0, 0, 0, 0)).2.2.2.2.2)]) (Is (.agg #[.int .i64 (((l.getD j (0, 0, 0, 0, 0, 0)).2.2.2.2.2) / 9223372036854775808), .int .u64 (((l.getD j (0, 0, 0, 0, 0, 0)).2.2.2.2.2) % 18446744073709551616)])) rfl rfl rfl rfl (fun W_ => by simp [go_sem, sEv, sLook, nbeq, i64_w, -List.getD_eq_getElem?_getD]) (fun W_ hW_ F_ => ?_) ?_
      · refine (rof_calls ((l.getD j (0, 0, 0, 0, 0, 0)).2.2.2.2.2) (hv _ (getD_mem l j (0, 0, 0, 0, 0, 0) (by omega))) W_).mono ?_
        rintro e_ w_ ⟨rfl, hb_⟩
        exact ⟨_, rfl, rfl, hb_⟩
      rintro _ rfl
      refine t_tail ?_
      intro w238 hb239_ F240
      have hb239 := below_of_drew hb239_
      have hs_w238 := hb239.size
      refine rw_call rfl rfl rfl rfl (f := 25) (args := #[.agg #[.int .i64 o.hi, .int .u64 o.lo], .agg #[.int .i64 (((l.getD j (0, 0, 0, 0, 0, 0)).2.2.2.2.2) / 9223372036854775808), .int .u64 (((l.getD j (0, 0, 0, 0, 0, 0)).2.2.2.2.2) % 18446744073709551616)]]) (by simp [go_sem, sEv, sLook, nbeq, i64_w, -List.getD_eq_getElem?_getD]) (radd_calls o.hi o.lo (((l.getD j (0, 0, 0, 0, 0, 0)).2.2.2.2.2) / 9223372036854775808) (((l.getD j (0, 0, 0, 0, 0, 0)).2.2.2.2.2) % 18446744073709551616) hhi_ hlo_ (by have h_ := (hv _ (getD_mem l j (0, 0, 0, 0, 0, 0) (by omega))); omega) (by omega) w238) ?_
      rintro e_ w241 ⟨rfl, hb242⟩
      refine ⟨_, rfl, ?_⟩
      have hs_w241 := hb242.size
      refine rw_val (v := .pointer (some ⟨g7, 1, none⟩)) (w' := w241) rfl rfl rfl rfl (by simp [go_sem, sEv, sLook, nbeq, i64_w, -List.getD_eq_getElem?_getD, Try.underlying31]) ?_
      refine rw_seg (g := g7) (off := 1) (ty := 26) (p := .tmp 76) (x := .tmp 75) (v := .agg #[.int .i64 (wh o.hi o.lo (((l.getD j (0, 0, 0, 0, 0, 0)).2.2.2.2.2) / 9223372036854775808) (((l.getD j (0, 0, 0, 0, 0, 0)).2.2.2.2.2) % 18446744073709551616)), .int .u64 (wl o.lo (((l.getD j (0, 0, 0, 0, 0, 0)).2.2.2.2.2) % 18446744073709551616))]) (cs' := carr (⟨(o.cnt + 1), (wh o.hi o.lo (((l.getD j (0, 0, 0, 0, 0, 0)).2.2.2.2.2) / 9223372036854775808) (((l.getD j (0, 0, 0, 0, 0, 0)).2.2.2.2.2) % 18446744073709551616)), (wl o.lo (((l.getD j (0, 0, 0, 0, 0, 0)).2.2.2.2.2) % 18446744073709551616)), (l.getD j (0, 0, 0, 0, 0, 0)).2.2.2.2.2, (l.getD j (0, 0, 0, 0, 0, 0)).2.2.2.2.2, (l.getD j (0, 0, 0, 0, 0, 0)).2.2.2.1, (l.getD j (0, 0, 0, 0, 0, 0)).1, (l.getD j (0, 0, 0, 0, 0, 0)).2.1, (l.getD j (0, 0, 0, 0, 0, 0)).2.2.2.2.2, o.h⟩ : CL)) rfl rfl rfl rfl rfl rfl ((hb237.on hb239).on hb242) (by kernel_rfl) (by rw [carr_size]; simp [Value.cells] <;> omega) (by intro q hq; simp only [List.mem_cons, List.not_mem_nil, or_false, Value.cells] at hq; (first | (rcases hq with rfl | rfl | rfl | rfl <;> rfl) | (rcases hq with rfl | rfl <;> rfl) | (subst hq; rfl))) (seg_sum (⟨(o.cnt + 1), o.hi, o.lo, (l.getD j (0, 0, 0, 0, 0, 0)).2.2.2.2.2, (l.getD j (0, 0, 0, 0, 0, 0)).2.2.2.2.2, (l.getD j (0, 0, 0, 0, 0, 0)).2.2.2.1, (l.getD j (0, 0, 0, 0, 0, 0)).1, (l.getD j (0, 0, 0, 0, 0, 0)).2.1, (l.getD j (0, 0, 0, 0, 0, 0)).2.2.2.2.2, o.h⟩ : CL) (wh o.hi o.lo (((l.getD j (0, 0, 0, 0, 0, 0)).2.2.2.2.2) / 9223372036854775808) (((l.getD j (0, 0, 0, 0, 0, 0)).2.2.2.2.2) % 18446744073709551616)) (wl o.lo (((l.getD j (0, 0, 0, 0, 0, 0)).2.2.2.2.2) % 18446744073709551616))) ?_
      intro w243 hk244 hb245
      have hs_w243 := hk244.size
      refine rw_end ?_
      refine w_weaken (G' := [(0, .slice (some ad23) l.length c1), (2, .pointer (some ⟨g1, 0, none⟩)), (3, .pointer (some ⟨g7, 0, none⟩)), (4, .int .i64 ((j : Nat) : Int)), (5, .pointer (some ⟨g32, 0, none⟩))]) ⟨rfl, rfl, rfl, rfl, rfl, trivial⟩ ?_
      refine w_seq ?_
      refine w_region ?_
      refine rw_val (v := .pointer (some ⟨g32, 4, none⟩)) (w' := w243) rfl rfl rfl rfl (by simp [go_sem, sEv, sLook, nbeq, i64_w, -List.getD_eq_getElem?_getD, Try.underlying44]) ?_
      refine rw_val (v := .int .i64 ((l.getD j (0, 0, 0, 0, 0, 0)).2.2.2.2.2)) (w' := w243) rfl rfl rfl rfl (by have eb_ := (((((((((hk40.on hb55).keep hk58 (by omega)).keep hk227 (by omega)).keep hk230 (by omega)).keep hk233 (by omega)).keep hk236 (by omega)).on hb239).on hb242).keep hk244 (by omega)); have e0_ := eb_.cellv (i := 4) (v := (.int .i64 ((l.getD j (0, 0, 0, 0, 0, 0)).2.2.2.2.2) : Value)) rfl; simp [go_sem, sEv, sLook, nbeq, i64_w, -List.getD_eq_getElem?_getD, e0_]) ?_
      refine rw_call rfl rfl rfl rfl (f := 27) (args := #[.int .i64 ((l.getD j (0, 0, 0, 0, 0, 0)).2.2.2.2.2)]) (by simp [go_sem, sEv, sLook, nbeq, i64_w, -List.getD_eq_getElem?_getD]) (rbits_calls ((l.getD j (0, 0, 0, 0, 0, 0)).2.2.2.2.2) (hv _ (getD_mem l j (0, 0, 0, 0, 0, 0) (by omega))) w243) ?_
      rintro e_ w246 ⟨rfl, hb247⟩
      refine ⟨_, rfl, ?_⟩
      have hs_w246 := hb247.size
      have hbl_ := blen_64 ((l.getD j (0, 0, 0, 0, 0, 0)).2.2.2.2.2) (hv _ (getD_mem l j (0, 0, 0, 0, 0, 0) (by omega)))
      have hat_ := atF_bnd hB_ (blen ((l.getD j (0, 0, 0, 0, 0, 0)).2.2.2.2.2).natAbs)
      rw [hlt_] at hat_
      refine rw_val (v := .int .i64 (((blen ((l.getD j (0, 0, 0, 0, 0, 0)).2.2.2.2.2).natAbs) : Nat) : Int)) (w' := w246) rfl rfl rfl rfl rfl ?_
      refine rw_end ?_
      refine w_weaken (G' := [(0, .slice (some ad23) l.length c1), (2, .pointer (some ⟨g1, 0, none⟩)), (3, .pointer (some ⟨g7, 0, none⟩)), (4, .int .i64 ((j : Nat) : Int)), (7, .int .i64 (((blen ((l.getD j (0, 0, 0, 0, 0, 0)).2.2.2.2.2).natAbs) : Nat) : Int))]) ⟨rfl, rfl, rfl, rfl, rfl, trivial⟩ ?_
      refine w_region ?_
      refine rw_val (v := .int .i64 (((blen ((l.getD j (0, 0, 0, 0, 0, 0)).2.2.2.2.2).natAbs) : Nat) : Int)) (w' := w246) rfl rfl rfl rfl rfl ?_
      refine rw_val (v := .int .i64 (((blen ((l.getD j (0, 0, 0, 0, 0, 0)).2.2.2.2.2).natAbs) : Nat) : Int)) (w' := w246) rfl rfl rfl rfl rfl ?_
      refine rw_val (v := .pointer (some ⟨g7, 9, none⟩)) (w' := w246) rfl rfl rfl rfl (by simp [go_sem, sEv, sLook, nbeq, i64_w, -List.getD_eq_getElem?_getD, Try.underlying31]) ?_
      refine rw_val (v := .pointer (some ⟨g7, 9 + (blen ((l.getD j (0, 0, 0, 0, 0, 0)).2.2.2.2.2).natAbs), none⟩)) (w' := w246) rfl rfl rfl rfl (run_as (addr_hist (blen ((l.getD j (0, 0, 0, 0, 0, 0)).2.2.2.2.2).natAbs) (by omega) _)) ?_
      refine rw_val (v := .int .i64 (atF o.h (blen ((l.getD j (0, 0, 0, 0, 0, 0)).2.2.2.2.2).natAbs))) (w' := w246) rfl rfl rfl rfl (by have e0_ := ((hb245.on hb247)).cellv (cHA (⟨(o.cnt + 1), (wh o.hi o.lo (((l.getD j (0, 0, 0, 0, 0, 0)).2.2.2.2.2) / 9223372036854775808) (((l.getD j (0, 0, 0, 0, 0, 0)).2.2.2.2.2) % 18446744073709551616)), (wl o.lo (((l.getD j (0, 0, 0, 0, 0, 0)).2.2.2.2.2) % 18446744073709551616)), (l.getD j (0, 0, 0, 0, 0, 0)).2.2.2.2.2, (l.getD j (0, 0, 0, 0, 0, 0)).2.2.2.2.2, (l.getD j (0, 0, 0, 0, 0, 0)).2.2.2.1, (l.getD j (0, 0, 0, 0, 0, 0)).1, (l.getD j (0, 0, 0, 0, 0, 0)).2.1, (l.getD j (0, 0, 0, 0, 0, 0)).2.2.2.2.2, o.h⟩ : CL) (blen ((l.getD j (0, 0, 0, 0, 0, 0)).2.2.2.2.2).natAbs) (by omega)); simp [go_sem, sEv, sLook, nbeq, i64_w, -List.getD_eq_getElem?_getD, e0_]) ?_
      refine rw_val (v := .int .i64 ((atF o.h (blen ((l.getD j (0, 0, 0, 0, 0, 0)).2.2.2.2.2).natAbs)) + 1)) (w' := w246) rfl rfl rfl rfl (by simp [go_sem, sEv, sLook, nbeq, i64_w, -List.getD_eq_getElem?_getD]; exact wrap_id (by omega) (by omega)) ?_
      refine rw_val (v := .pointer (some ⟨g7, 9, none⟩)) (w' := w246) rfl rfl rfl rfl (by simp [go_sem, sEv, sLook, nbeq, i64_w, -List.getD_eq_getElem?_getD, Try.underlying31]) ?_
      refine rw_val (v := .pointer (some ⟨g7, 9 + (blen ((l.getD j (0, 0, 0, 0, 0, 0)).2.2.2.2.2).natAbs), none⟩)) (w' := w246) rfl rfl rfl rfl (run_as (addr_hist (blen ((l.getD j (0, 0, 0, 0, 0, 0)).2.2.2.2.2).natAbs) (by omega) _)) ?_
      refine rw_seg (g := g7) (off := (9 + (blen ((l.getD j (0, 0, 0, 0, 0, 0)).2.2.2.2.2).natAbs))) (ty := 3) (p := .tmp 87) (x := .tmp 85) (v := .int .i64 ((atF o.h (blen ((l.getD j (0, 0, 0, 0, 0, 0)).2.2.2.2.2).natAbs)) + 1)) (cs' := carr (⟨(o.cnt + 1), (wh o.hi o.lo (((l.getD j (0, 0, 0, 0, 0, 0)).2.2.2.2.2) / 9223372036854775808) (((l.getD j (0, 0, 0, 0, 0, 0)).2.2.2.2.2) % 18446744073709551616)), (wl o.lo (((l.getD j (0, 0, 0, 0, 0, 0)).2.2.2.2.2) % 18446744073709551616)), (l.getD j (0, 0, 0, 0, 0, 0)).2.2.2.2.2, (l.getD j (0, 0, 0, 0, 0, 0)).2.2.2.2.2, (l.getD j (0, 0, 0, 0, 0, 0)).2.2.2.1, (l.getD j (0, 0, 0, 0, 0, 0)).1, (l.getD j (0, 0, 0, 0, 0, 0)).2.1, (l.getD j (0, 0, 0, 0, 0, 0)).2.2.2.2.2, (updF o.h (blen ((l.getD j (0, 0, 0, 0, 0, 0)).2.2.2.2.2).natAbs) ((atF o.h (blen ((l.getD j (0, 0, 0, 0, 0, 0)).2.2.2.2.2).natAbs)) + 1))⟩ : CL)) rfl rfl rfl rfl rfl rfl (hb245.on hb247) (by kernel_rfl) (by rw [carr_size]; show 9 + (blen ((l.getD j (0, 0, 0, 0, 0, 0)).2.2.2.2.2).natAbs) + 1 ≤ 74; omega) (by intro q hq; simp only [List.mem_cons, List.not_mem_nil, or_false, Value.cells] at hq; (first | (rcases hq with rfl | rfl | rfl | rfl <;> rfl) | (rcases hq with rfl | rfl <;> rfl) | (subst hq; rfl))) (seg_h (⟨(o.cnt + 1), (wh o.hi o.lo (((l.getD j (0, 0, 0, 0, 0, 0)).2.2.2.2.2) / 9223372036854775808) (((l.getD j (0, 0, 0, 0, 0, 0)).2.2.2.2.2) % 18446744073709551616)), (wl o.lo (((l.getD j (0, 0, 0, 0, 0, 0)).2.2.2.2.2) % 18446744073709551616)), (l.getD j (0, 0, 0, 0, 0, 0)).2.2.2.2.2, (l.getD j (0, 0, 0, 0, 0, 0)).2.2.2.2.2, (l.getD j (0, 0, 0, 0, 0, 0)).2.2.2.1, (l.getD j (0, 0, 0, 0, 0, 0)).1, (l.getD j (0, 0, 0, 0, 0, 0)).2.1, (l.getD j (0, 0, 0, 0, 0, 0)).2.2.2.2.2, o.h⟩ : CL) (blen ((l.getD j (0, 0, 0, 0, 0, 0)).2.2.2.2.2).natAbs) (by omega) ((atF o.h (blen ((l.getD j (0, 0, 0, 0, 0, 0)).2.2.2.2.2).natAbs)) + 1)) ?_
      intro w248 hk249 hb250
      have hs_w248 := hk249.size
      refine rw_end ?_
      refine w_weaken (G' := [(0, .slice (some ad23) l.length c1), (2, .pointer (some ⟨g1, 0, none⟩)), (3, .pointer (some ⟨g7, 0, none⟩)), (4, .int .i64 ((j : Nat) : Int))]) ⟨rfl, rfl, rfl, rfl, trivial⟩ ?_
      refine w_blk ?_
      refine w_region ?_
      refine rw_val (v := .int .i64 ((j : Nat) : Int)) (w' := w248) rfl rfl rfl rfl rfl ?_
      refine rw_val (v := .int .i64 ((j + 1 : Nat) : Int)) (w' := w248) rfl rfl rfl rfl (by simp [go_sem, sEv, sLook, nbeq, i64_w, -List.getD_eq_getElem?_getD]; exact wrap_id (by omega) (by omega)) ?_
      refine rw_val (v := .int .i64 ((j + 1 : Nat) : Int)) (w' := w248) rfl rfl rfl rfl rfl ?_
      refine rw_end ?_
      exact w_back (m_ - 1) [(0, .slice (some ad23) l.length c1), (2, .pointer (some ⟨g1, 0, none⟩)), (3, .pointer (some ⟨g7, 0, none⟩)), (4, .int .i64 ((j + 1 : Nat) : Int))] (by omega) ⟨rfl, rfl, rfl, rfl, trivial⟩ ⟨(j + 1), (⟨(o.cnt + 1), (wh o.hi o.lo (((l.getD j (0, 0, 0, 0, 0, 0)).2.2.2.2.2) / 9223372036854775808) (((l.getD j (0, 0, 0, 0, 0, 0)).2.2.2.2.2) % 18446744073709551616)), (wl o.lo (((l.getD j (0, 0, 0, 0, 0, 0)).2.2.2.2.2) % 18446744073709551616)), (l.getD j (0, 0, 0, 0, 0, 0)).2.2.2.2.2, (l.getD j (0, 0, 0, 0, 0, 0)).2.2.2.2.2, (l.getD j (0, 0, 0, 0, 0, 0)).2.2.2.1, (l.getD j (0, 0, 0, 0, 0, 0)).1, (l.getD j (0, 0, 0, 0, 0, 0)).2.1, (l.getD j (0, 0, 0, 0, 0, 0)).2.2.2.2.2, (updF o.h (blen ((l.getD j (0, 0, 0, 0, 0, 0)).2.2.2.2.2).natAbs) ((atF o.h (blen ((l.getD j (0, 0, 0, 0, 0, 0)).2.2.2.2.2).natAbs)) + 1))⟩ : CL), by omega, (hk249.below (by omega) (chain (hk244.below (by omega) (chain (chain (hk236.below (by omega) (hk233.below (by omega) (hk230.below (by omega) (hk227.below (by omega) (hk58.below (by omega) (chain (hk39.below (by omega) (chain hB_L16 hb34)) hb55)))))) hb239) hb242)) hb247)), (of_leaf l j (by omega) (by omega) hv (l.getD j (0, 0, 0, 0, 0, 0)) rfl o hf18 ((l.getD j (0, 0, 0, 0, 0, 0)).2.2.2.2.2) ((l.getD j (0, 0, 0, 0, 0, 0)).2.2.2.2.2) ((l.getD j (0, 0, 0, 0, 0, 0)).2.2.2.1) ((l.getD j (0, 0, 0, 0, 0, 0)).1) ((l.getD j (0, 0, 0, 0, 0, 0)).2.1) ((l.getD j (0, 0, 0, 0, 0, 0)).2.2.2.2.2) (by rw [if_pos (.inl (by have h_ := cZ; simpa using h_))]) (by rw [if_pos (.inl (by have h_ := cZ; simpa using h_))]) (by rw [if_pos (.inl (by have h_ := cZ; simpa using h_))])).symm, hb250, (((((((((((((hf20.on hb34).keep hk39 (by omega)).on hb55).keep hk58 (by omega)).keep hk227 (by omega)).keep hk230 (by omega)).keep hk233 (by omega)).keep hk236 (by omega)).on hb239).on hb242).keep hk244 (by omega)).on hb247).keep hk249 (by omega)), (wrap_rng _), rfl⟩
  · have l251 : ¬ (((j : Nat) : Int) < ((l.length : Nat) : Int)) := of_decide_eq_false cJ
    refine w_exit rfl ?_
    refine w_seq ?_
    refine w_region ?_
    refine rw_val (v := .agg (carr o)) (w' := w_L16) rfl rfl rfl rfl (run_as (load_cell (c := o) hf19)) ?_
    refine rw_seg (g := g1) (off := 0) (ty := 31) (p := .tmp 2) (x := .tmp 88) (v := .agg (carr o)) (cs' := carr o) rfl rfl rfl rfl rfl rfl hf20 (by show (sizeOf 31).run _ _ = .ok (carr _).size _; rw [carr_size]; kernel_rfl) (Nat.le_of_eq (by rw [Nat.zero_add]; exact (carr_size _).trans (carr_size _).symm)) (encC_one _) (seg_all CL.unit o) ?_
    intro w252 hk253 hb254
    have hs_w252 := hk253.size
    refine rw_end ?_
    refine w_ret (post_retc (v := .agg (carr o)) rfl rfl (load_cell (c := o) hb254) ?_)
    have e1_ : foldC l = o := by have h_ := hf18; rw [show j = l.length by omega, List.take_length] at h_; exact h_.symm
    rw [e1_]
    exact ⟨rfl, (hk253.below (by omega) hB_L16)⟩
set_option maxHeartbeats 4000000 in
theorem walkOf (w : World) (A1 : Option Addr) (c1 : Nat) (l : List Smp) (hl : kSample.C w A1 l.length l) (hc : l.length ≤ c1) (hln : l.length ≤ 140737488355328) (hv : VOk l) :
    Calls Try.prog 3 #[.slice A1 l.length c1] w fun e w' => e = .returned (.bool true) ∧ Below w.heap.size w w' := by
  refine calls_flow Try.func3 rfl 19 rfl (Nat.le_of_ble_eq_true rfl) [(0, .slice A1 l.length c1)] ?_ ?_
  · intro t v h; exact args_look rfl t v h
  refine w_seq ?_
  refine w_region ?_
  refine rw_val (v := .bool false) (w' := w) rfl rfl rfl rfl rfl ?_
  refine rw_end ?_
  refine w_seq ?_
  refine w_seq ?_
  refine w_region ?_
  refine rw_call rfl rfl rfl rfl (f := 10) (args := #[]) (by simp [go_sem, sEv, sLook, nbeq, i64_w, -List.getD_eq_getElem?_getD]) (alive_calls w) ?_
  rintro e_ w1 ⟨rfl, hb2⟩
  refine ⟨_, rfl, ?_⟩
  have hs_w1 := hb2.size
  refine rw_val (v := .bool false) (w' := w1) rfl rfl rfl rfl (by simp [go_sem, sEv, sLook, nbeq, i64_w, -List.getD_eq_getElem?_getD]) ?_
  refine rw_end ?_
  refine w_cond_f rfl rfl rfl ?_
  refine w_skip ?_
  refine w_seq ?_
  refine w_seq ?_
  refine w_region ?_
  refine rw_val (v := .slice A1 l.length c1) (w' := w1) rfl rfl rfl rfl rfl ?_
  refine rw_val (v := .int .i64 ((l.length : Nat) : Int)) (w' := w1) rfl rfl rfl rfl (by simp [go_sem, sEv, sLook, nbeq, i64_w, -List.getD_eq_getElem?_getD]) ?_
  refine rw_val (v := .bool (decide (2000 < ((l.length : Nat) : Int)))) (w' := w1) rfl rfl rfl rfl (by simp [go_sem, sEv, sLook, nbeq, i64_w, -List.getD_eq_getElem?_getD]) ?_
  refine rw_end ?_
  refine w_cond rfl rfl (fun cN => ?_) (fun cN => ?_)
  · have l3 : (2000 < ((l.length : Nat) : Int)) := of_decide_eq_true cN
    refine w_seq ?_
    refine w_region ?_
    refine rw_val (v := .bool true) (w' := w1) rfl rfl rfl rfl rfl ?_
    refine rw_end ?_
    refine w_ret (post_ret1 rfl rfl ?_)
    exact ⟨rfl, hb2⟩
  · have l4 : ¬ (2000 < ((l.length : Nat) : Int)) := of_decide_eq_false cN
    refine w_skip ?_
    refine w_seq ?_
    refine w_region ?_
    refine rw_val (v := .slice A1 l.length c1) (w' := w1) rfl rfl rfl rfl rfl ?_
    refine rw_call rfl rfl rfl rfl (f := 12) (args := #[.slice A1 l.length c1]) (by simp [go_sem, sEv, sLook, nbeq, i64_w, -List.getD_eq_getElem?_getD]) (cells_calls w1 A1 c1 l (Kd.C_below hl hb2) hc (by omega) hv) ?_
    rintro e_ w7 ⟨A5, c6, rfl, hO8, hB9⟩
    refine ⟨_, rfl, ?_⟩
    have hs_w7 := hB9.size
    have hL10 : OwnK kCell 31 w7 w.heap.size w1.heap.size A5 (cellsC l).length c6 (cellsC l) := OwnK.lower hO8 (by omega)
    refine rw_call rfl rfl rfl rfl (f := 11) (args := #[.slice A5 ((cellsC l).length) c6]) (by simp [go_sem, sEv, sLook, nbeq, i64_w, -List.getD_eq_getElem?_getD]) (join_on w7 A5 c6 (cellsC l) l rfl (Kd.C_below (OwnK.C (d := kCell) hL10) (Below.refl _ _)) (OwnK.cap (d := kCell) hL10) (by rw [cells_len2]; omega)) ?_
    rintro e_ w11 ⟨rfl, hb12⟩
    refine ⟨_, rfl, ?_⟩
    have hs_w11 := hb12.size
    refine rw_val (v := .slice A1 l.length c1) (w' := w11) rfl rfl rfl rfl rfl ?_
    refine rw_call rfl rfl rfl rfl (f := 13) (args := #[.slice A1 l.length c1]) (by simp [go_sem, sEv, sLook, nbeq, i64_w, -List.getD_eq_getElem?_getD]) (rof_fold w11 A1 c1 l (Kd.C_below hl (chain (chain hb2 hB9) hb12)) hc (by omega) hv) ?_
    rintro e_ w13 ⟨rfl, hb14⟩
    refine ⟨_, rfl, ?_⟩
    have hs_w13 := hb14.size
    refine rw_val (v := .bool (eqC (foldC l) (foldC l))) (w' := w13) rfl rfl rfl rfl (run_as (guard_eq_cell _ _ _ _ _)) ?_
    refine rw_val (v := .bool (eqC (foldC l) (foldC l))) (w' := w13) rfl rfl rfl rfl rfl ?_
    have hq15 : (eqC (foldC l) (foldC l)) = true := by exact (eqC_iff _ _).2 rfl
    refine rw_on (c := eqC (foldC l) (foldC l)) rfl rfl rfl (by first | (rw [hq15]; rfl) | simp [hq15]) ?_
    refine rw_call rfl rfl rfl rfl (f := 14) (args := #[]) (by simp [go_sem, sEv, sLook, nbeq, i64_w, -List.getD_eq_getElem?_getD]) (unit_calls w13) ?_
    rintro e_ w16 ⟨rfl, hb17⟩
    refine ⟨_, rfl, ?_⟩
    have hs_w16 := hb17.size
    refine rw_on (c := eqC (foldC l) (foldC l)) rfl rfl rfl (by first | (rw [hq15]; rfl) | simp [hq15]) ?_
    refine rw_val (v := .agg (carr CL.unit)) (w' := w16) rfl rfl rfl rfl (by kernel_rfl) ?_
    refine rw_on (c := eqC (foldC l) (foldC l)) rfl rfl rfl (by first | (rw [hq15]; rfl) | simp [hq15]) ?_
    refine rw_val (v := .bool (eqC CL.unit CL.unit)) (w' := w16) rfl rfl rfl rfl (run_as (guard_eq_cell _ _ _ _ _)) ?_
    refine rw_val (v := .bool (eqC CL.unit CL.unit)) (w' := w16) rfl rfl rfl rfl (by first | (simp [go_sem, sEv, sLook, nbeq, i64_w, -List.getD_eq_getElem?_getD, hq15]; done) | (rw [hq15]; simp [go_sem, sEv, sLook, nbeq, i64_w, -List.getD_eq_getElem?_getD]; done) | (simp [go_sem, sEv, sLook, nbeq, i64_w, -List.getD_eq_getElem?_getD] <;> omega) | (simp [go_sem, sEv, sLook, nbeq, i64_w, -List.getD_eq_getElem?_getD]; intro h_; exact absurd (by omega) h_)) ?_
    refine rw_val (v := .bool (eqC CL.unit CL.unit)) (w' := w16) rfl rfl rfl rfl rfl ?_
    refine rw_end ?_
    refine w_weaken (G' := [(2, .bool (eqC CL.unit CL.unit))]) ⟨rfl, trivial⟩ ?_
    have hq18 : (eqC CL.unit CL.unit) = true := by exact (eqC_iff _ _).2 rfl
    refine w_ret (post_ret1 rfl rfl ?_)
    exact ⟨by rw [show (eqC CL.unit CL.unit) = true from hq18], (chain (chain (chain (chain hb2 hB9) hb12) hb14) hb17)⟩
end Go.Proofs.Ytheaipbnbnjlgaa.Ce
