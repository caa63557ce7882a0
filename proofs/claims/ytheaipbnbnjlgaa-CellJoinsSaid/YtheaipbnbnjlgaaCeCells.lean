/- The cell of each sample: the walk. -/
import Derived.Test.YtheaipbnbnjlgaaCeJoin
namespace Go.Proofs.Ytheaipbnbnjlgaa.Ce
open Go.RowKit Go.Proofs.YtheaipbnbnjlgaaW.PrintWords Go.Proofs.YtheaipbnbnjlgaaW.PrintLast Go.Proofs.YtheaipbnbnjlgaaW.PrintMore
open Go.Proofs.Ytheaipbnbnjlgaa.Flow
set_option linter.unusedVariables false
set_option linter.unusedSimpArgs false

/-- The cells of a Sample. -/
def encSample (x : (Int × Int × Int × Int × Int × Int)) : List Value := [.int .i64 x.1, .int .i64 x.2.1, .int .i64 x.2.2.1, .int .i64 x.2.2.2.1, .int .i64 x.2.2.2.2.1, .int .i64 x.2.2.2.2.2]
theorem encSample_len (x : (Int × Int × Int × Int × Int × Int)) : (encSample x).length = 6 := rfl
theorem encSample_one (x : (Int × Int × Int × Int × Int × Int)) (u : Value) (hu : u ∈ encSample x) : u.oneCell' = true := by
  simp only [encSample, List.mem_cons, List.not_mem_nil, or_false] at hu
  rcases hu with rfl | rfl | rfl | rfl | rfl | rfl <;> rfl
abbrev kSample : Kd (Int × Int × Int × Int × Int × Int) := flat 6 encSample encSample_len encSample_one

def oneS (s : (Int × Int × Int × Int × Int × Int)) : CL := oneC s.1 s.2.1 s.2.2.2.1 s.2.2.2.2.2
def cellsC (l : List (Int × Int × Int × Int × Int × Int)) : List CL := l.map oneS
theorem take_snocS (l : List (Int × Int × Int × Int × Int × Int)) (j : Nat) (h : j < l.length) : (l.take (j + 1)).map oneS = (l.take j).map oneS ++ [oneS (l.getD j (0, 0, 0, 0, 0, 0))] := by
  rw [List.take_succ_eq_append_getElem h, List.map_append, List.getD_eq_getElem?_getD, List.getElem?_eq_getElem h]
  rfl
set_option maxHeartbeats 4000000 in
theorem cells_calls (w : World) (A1 : Option Addr) (c1 : Nat) (l : List (Int × Int × Int × Int × Int × Int)) (hl : kSample.C w A1 l.length l) (hc : l.length ≤ c1) (hln : l.length ≤ 2000) (hv : ∀ s ∈ l, -9223372036854775808 ≤ s.2.2.2.2.2 ∧ s.2.2.2.2.2 ≤ 9223372036854775807) :
    Calls Try.prog 12 #[.slice A1 l.length c1] w fun e w' => ∃ A c, e = .returned (.slice A (cellsC l).length c) ∧ OwnK kCell 31 w' w.heap.size w.heap.size A (cellsC l).length c (cellsC l) ∧ Below w.heap.size w w' := by
  refine calls_flow Try.func12 rfl 23 rfl (Nat.le_of_ble_eq_true rfl) [(0, .slice A1 l.length c1)] ?_ ?_
  · intro t v h; exact args_look rfl t v h
  refine w_seq ?_
  refine w_region ?_
  refine rw_val (v := .slice none 0 0) (w' := w) rfl rfl rfl rfl rfl ?_
  refine rw_end ?_
  refine w_seq ?_
  refine w_region ?_
  refine rw_new (cs := #[]) (t := 31) (fun g => .slice (some ⟨g, 0, none⟩) 0 0) rfl rfl rfl rfl (by kernel_rfl) ?_
  intro g1 w2 hg6 hz5 hb3 hk4
  have hs_w2 := hb3.size
  have hk4r : OwnK kCell 31 w2 w.heap.size g1 (some ⟨g1, 0, none⟩) 0 0 ([] : List CL) := lit_nilK kCell w.heap.size hk4 (by omega)
  refine rw_val (v := .slice (some ⟨g1, 0, none⟩) 0 0) (w' := w2) rfl rfl rfl rfl rfl ?_
  refine rw_end ?_
  refine w_seq ?_
  refine w_seq ?_
  refine w_region ?_
  refine rw_val (v := .slice A1 l.length c1) (w' := w2) rfl rfl rfl rfl rfl ?_
  refine rw_val (v := .int .i64 ((l.length : Nat) : Int)) (w' := w2) rfl rfl rfl rfl (by simp [go_sem, sEv, sLook, nbeq, i64_w, -List.getD_eq_getElem?_getD]) ?_
  refine rw_val (v := .int .i64 0) (w' := w2) rfl rfl rfl rfl rfl ?_
  refine rw_end ?_
  refine w_block ?_
  refine w_loop (fun m_ G W_ => ∃ (j : Nat) (A3_ : Option Addr) (c3_ : Nat), j + m_ = l.length ∧ Below w.heap.size w W_ ∧ OwnK kCell 31 W_ w.heap.size w.heap.size A3_ ((l.take j).map oneS).length c3_ ((l.take j).map oneS) ∧ G = [(3, .slice A3_ (((l.take j).map oneS).length) c3_), (7, .slice A1 l.length c1), (8, .int .i64 ((l.length : Nat) : Int)), (9, .int .i64 ((j : Nat) : Int))]) l.length [(3, .slice (some ⟨g1, 0, none⟩) (((l.take 0).map oneS).length) 0), (7, .slice A1 l.length c1), (8, .int .i64 ((l.length : Nat) : Int)), (9, .int .i64 0)] ⟨0, (some ⟨g1, 0, none⟩), 0, by omega, hb3, (OwnK.mono (d := kCell) hk4r (by omega)), rfl⟩ ⟨rfl, rfl, rfl, rfl, trivial⟩ ?_
  rintro m_ G w_L7 ⟨j, A3_, c3_, hp8, hB_L7, hO3_, rfl⟩
  have hs_w_L7 := hB_L7.size
  refine w_seq ?_
  refine w_region ?_
  refine rw_val (v := .bool (decide (((j : Nat) : Int) < ((l.length : Nat) : Int)))) (w' := w_L7) rfl rfl rfl rfl (by simp [go_sem, sEv, sLook, nbeq, i64_w, -List.getD_eq_getElem?_getD]) ?_
  refine rw_end ?_
  refine w_seq ?_
  refine w_cond rfl rfl (fun cJ => ?_) (fun cJ => ?_)
  · have l9 : (((j : Nat) : Int) < ((l.length : Nat) : Int)) := of_decide_eq_true cJ
    refine w_skip ?_
    refine w_seq ?_
    refine w_block ?_
    refine w_seq ?_
    refine w_region ?_
    obtain ⟨ad10, hA11, hc12⟩ := flat_at (Kd.C_below hl hB_L7) (0, 0, 0, 0, 0, 0) j (by first | omega | decide)
    subst hA11
    have he13 : w_L7.cell? (ad10.add (j * 6)) = some (.int .i64 ((l.getD j (0, 0, 0, 0, 0, 0)).1)) := cell_0 (hc12 0 _ rfl)
    have he14 : w_L7.cell? ⟨(ad10.add (j * 6)).block, (ad10.add (j * 6)).off + 1, none⟩ = some (.int .i64 ((l.getD j (0, 0, 0, 0, 0, 0)).2.1)) := cell_j (hc12 1 _ rfl)
    have he15 : w_L7.cell? ⟨(ad10.add (j * 6)).block, (ad10.add (j * 6)).off + 2, none⟩ = some (.int .i64 ((l.getD j (0, 0, 0, 0, 0, 0)).2.2.1)) := cell_j (hc12 2 _ rfl)
    have he16 : w_L7.cell? ⟨(ad10.add (j * 6)).block, (ad10.add (j * 6)).off + 3, none⟩ = some (.int .i64 ((l.getD j (0, 0, 0, 0, 0, 0)).2.2.2.1)) := cell_j (hc12 3 _ rfl)
    have he17 : w_L7.cell? ⟨(ad10.add (j * 6)).block, (ad10.add (j * 6)).off + 4, none⟩ = some (.int .i64 ((l.getD j (0, 0, 0, 0, 0, 0)).2.2.2.2.1)) := cell_j (hc12 4 _ rfl)
    have he18 : w_L7.cell? ⟨(ad10.add (j * 6)).block, (ad10.add (j * 6)).off + 5, none⟩ = some (.int .i64 ((l.getD j (0, 0, 0, 0, 0, 0)).2.2.2.2.2)) := cell_j (hc12 5 _ rfl)
    refine rw_val (v := .pointer (some (ad10.add (j * 6)))) (w' := w_L7) rfl rfl rfl rfl (run_as (run_at_k (P := Try.prog) (e := 46) (sz := 6) (by kernel_rfl) (by kernel_rfl) j (by first | omega | decide) _)) ?_
    refine rw_val (v := .agg #[.int .i64 ((l.getD j (0, 0, 0, 0, 0, 0)).1), .int .i64 ((l.getD j (0, 0, 0, 0, 0, 0)).2.1), .int .i64 ((l.getD j (0, 0, 0, 0, 0, 0)).2.2.1), .int .i64 ((l.getD j (0, 0, 0, 0, 0, 0)).2.2.2.1), .int .i64 ((l.getD j (0, 0, 0, 0, 0, 0)).2.2.2.2.1), .int .i64 ((l.getD j (0, 0, 0, 0, 0, 0)).2.2.2.2.2)]) (w' := w_L7) rfl rfl rfl rfl (by have e0_ := cellOn he13 (Below.refl _ _); have e1_ := cellOn he14 (Below.refl _ _); have e2_ := cellOn he15 (Below.refl _ _); have e3_ := cellOn he16 (Below.refl _ _); have e4_ := cellOn he17 (Below.refl _ _); have e5_ := cellOn he18 (Below.refl _ _); simp [go_sem, sEv, sLook, nbeq, i64_w, -List.getD_eq_getElem?_getD, e0_, e1_, e2_, e3_, e4_, e5_, Try.underlying46]) ?_
    refine rw_new (cs := #[.int .i64 0, .int .i64 0, .int .i64 0, .int .i64 0, .int .i64 0, .int .i64 0]) (t := 46) (fun g => .pointer (some ⟨g, 0, none⟩)) rfl rfl rfl rfl (by kernel_rfl) ?_
    intro g19 w20 hg24 hz23 hb21 hk22
    have hs_w20 := hb21.size
    have hb28 := hk22
    refine rw_store (g := g19) (i := 0) (l := [.int .i64 ((l.getD j (0, 0, 0, 0, 0, 0)).1), .int .i64 ((l.getD j (0, 0, 0, 0, 0, 0)).2.1), .int .i64 ((l.getD j (0, 0, 0, 0, 0, 0)).2.2.1), .int .i64 ((l.getD j (0, 0, 0, 0, 0, 0)).2.2.2.1), .int .i64 ((l.getD j (0, 0, 0, 0, 0, 0)).2.2.2.2.1), .int .i64 ((l.getD j (0, 0, 0, 0, 0, 0)).2.2.2.2.2)]) (cs' := #[.int .i64 ((l.getD j (0, 0, 0, 0, 0, 0)).1), .int .i64 ((l.getD j (0, 0, 0, 0, 0, 0)).2.1), .int .i64 ((l.getD j (0, 0, 0, 0, 0, 0)).2.2.1), .int .i64 ((l.getD j (0, 0, 0, 0, 0, 0)).2.2.2.1), .int .i64 ((l.getD j (0, 0, 0, 0, 0, 0)).2.2.2.2.1), .int .i64 ((l.getD j (0, 0, 0, 0, 0, 0)).2.2.2.2.2)]) rfl rfl rfl hb28 rfl (by have e0_ := hb28.cellv (i := 0) (v := (.int .i64 0 : Value)) rfl; have f0_ := hb28.frozen 0; have e1_ := hb28.cellv (i := 1) (v := (.int .i64 0 : Value)) rfl; have f1_ := hb28.frozen 1; have e2_ := hb28.cellv (i := 2) (v := (.int .i64 0 : Value)) rfl; have f2_ := hb28.frozen 2; have e3_ := hb28.cellv (i := 3) (v := (.int .i64 0 : Value)) rfl; have f3_ := hb28.frozen 3; have e4_ := hb28.cellv (i := 4) (v := (.int .i64 0 : Value)) rfl; have f4_ := hb28.frozen 4; have e5_ := hb28.cellv (i := 5) (v := (.int .i64 0 : Value)) rfl; have f5_ := hb28.frozen 5; simp [go_sem, sEv, sLook, nbeq, i64_w, -List.getD_eq_getElem?_getD, putCells, e0_, f0_, e1_, f1_, e2_, f2_, e3_, f3_, e4_, f4_, e5_, f5_, Try.underlying46]) ?_
    intro w25 hk26 hk27
    have hs_w25 := hk26.size
    refine rw_end ?_
    refine w_weaken (G' := [(3, .slice A3_ (((l.take j).map oneS).length) c3_), (5, .pointer (some ⟨g19, 0, none⟩)), (7, .slice (some ad10) l.length c1), (8, .int .i64 ((l.length : Nat) : Int)), (9, .int .i64 ((j : Nat) : Int))]) ⟨rfl, rfl, rfl, rfl, rfl, trivial⟩ ?_
    refine w_region ?_
    refine rw_val (v := .slice A3_ (((l.take j).map oneS).length) c3_) (w' := w25) rfl rfl rfl rfl rfl ?_
    refine rw_val (v := .pointer (some ⟨g19, 0, none⟩)) (w' := w25) rfl rfl rfl rfl (by simp [go_sem, sEv, sLook, nbeq, i64_w, -List.getD_eq_getElem?_getD, Try.underlying46]) ?_
    refine rw_val (v := .int .i64 ((l.getD j (0, 0, 0, 0, 0, 0)).1)) (w' := w25) rfl rfl rfl rfl (by have eb_ := hk27; have e0_ := eb_.cellv (i := 0) (v := (.int .i64 ((l.getD j (0, 0, 0, 0, 0, 0)).1) : Value)) rfl; simp [go_sem, sEv, sLook, nbeq, i64_w, -List.getD_eq_getElem?_getD, e0_]) ?_
    refine rw_val (v := .pointer (some ⟨g19, 1, none⟩)) (w' := w25) rfl rfl rfl rfl (by simp [go_sem, sEv, sLook, nbeq, i64_w, -List.getD_eq_getElem?_getD, Try.underlying46]) ?_
    refine rw_val (v := .agg #[.int .i64 ((l.getD j (0, 0, 0, 0, 0, 0)).2.1), .int .i64 ((l.getD j (0, 0, 0, 0, 0, 0)).2.2.1), .int .i64 ((l.getD j (0, 0, 0, 0, 0, 0)).2.2.2.1), .int .i64 ((l.getD j (0, 0, 0, 0, 0, 0)).2.2.2.2.1), .int .i64 ((l.getD j (0, 0, 0, 0, 0, 0)).2.2.2.2.2)]) (w' := w25) rfl rfl rfl rfl (by have eb_ := hk27; have e0_ := eb_.cellv (i := 1) (v := (.int .i64 ((l.getD j (0, 0, 0, 0, 0, 0)).2.1) : Value)) rfl; have e1_ := eb_.cellv (i := 2) (v := (.int .i64 ((l.getD j (0, 0, 0, 0, 0, 0)).2.2.1) : Value)) rfl; have e2_ := eb_.cellv (i := 3) (v := (.int .i64 ((l.getD j (0, 0, 0, 0, 0, 0)).2.2.2.1) : Value)) rfl; have e3_ := eb_.cellv (i := 4) (v := (.int .i64 ((l.getD j (0, 0, 0, 0, 0, 0)).2.2.2.2.1) : Value)) rfl; have e4_ := eb_.cellv (i := 5) (v := (.int .i64 ((l.getD j (0, 0, 0, 0, 0, 0)).2.2.2.2.2) : Value)) rfl; simp [go_sem, sEv, sLook, nbeq, i64_w, -List.getD_eq_getElem?_getD, e0_, e1_, e2_, e3_, e4_, Try.underlying44]) ?_
    refine rw_call rfl rfl rfl rfl (f := 23) (args := #[.int .i64 ((l.getD j (0, 0, 0, 0, 0, 0)).1), .agg #[.int .i64 ((l.getD j (0, 0, 0, 0, 0, 0)).2.1), .int .i64 ((l.getD j (0, 0, 0, 0, 0, 0)).2.2.1), .int .i64 ((l.getD j (0, 0, 0, 0, 0, 0)).2.2.2.1), .int .i64 ((l.getD j (0, 0, 0, 0, 0, 0)).2.2.2.2.1), .int .i64 ((l.getD j (0, 0, 0, 0, 0, 0)).2.2.2.2.2)]]) (by simp [go_sem, sEv, sLook, nbeq, i64_w, -List.getD_eq_getElem?_getD]) (one_calls w25 ((l.getD j (0, 0, 0, 0, 0, 0)).1) ((l.getD j (0, 0, 0, 0, 0, 0)).2.1) ((l.getD j (0, 0, 0, 0, 0, 0)).2.2.1) ((l.getD j (0, 0, 0, 0, 0, 0)).2.2.2.1) ((l.getD j (0, 0, 0, 0, 0, 0)).2.2.2.2.1) ((l.getD j (0, 0, 0, 0, 0, 0)).2.2.2.2.2) (hv _ (getD_mem l j (0, 0, 0, 0, 0, 0) (by omega)))) ?_
    rintro e_ w29 ⟨rfl, hb30⟩
    refine ⟨_, rfl, ?_⟩
    have hs_w29 := hb30.size
    refine rw_new (cs := (encC (oneC ((l.getD j (0, 0, 0, 0, 0, 0)).1) ((l.getD j (0, 0, 0, 0, 0, 0)).2.1) ((l.getD j (0, 0, 0, 0, 0, 0)).2.2.2.1) ((l.getD j (0, 0, 0, 0, 0, 0)).2.2.2.2.2)) : List Value).toArray) (t := 31) (fun g => .slice (some ⟨g, 0, none⟩) 1 1) rfl rfl rfl rfl (by kernel_rfl) ?_
    intro g31 w32 hg36 hz35 hb33 hk34
    have hs_w32 := hb33.size
    have hk34r : OwnK kCell 31 w32 w.heap.size g31 (some ⟨g31, 0, none⟩) 1 1 ([(oneC ((l.getD j (0, 0, 0, 0, 0, 0)).1) ((l.getD j (0, 0, 0, 0, 0, 0)).2.1) ((l.getD j (0, 0, 0, 0, 0, 0)).2.2.2.1) ((l.getD j (0, 0, 0, 0, 0, 0)).2.2.2.2.2))] : List CL) := flat_own (enc := encC) (hl1 := encC_len) (h1 := encC_one) (xs := ([(oneC ((l.getD j (0, 0, 0, 0, 0, 0)).1) ((l.getD j (0, 0, 0, 0, 0, 0)).2.1) ((l.getD j (0, 0, 0, 0, 0, 0)).2.2.2.1) ((l.getD j (0, 0, 0, 0, 0, 0)).2.2.2.2.2))] : List CL)) (cap := 1) w.heap.size hk34 (by omega) (by simp) rfl (by simp) (by simp)
    have oA43 : OwnK kCell 31 w32 w.heap.size w.heap.size A3_ (((l.take j).map oneS).length) c3_ ((l.take j).map oneS) := (OwnK.on (d := kCell) hO3_ (chain (chain (hk26.below (by omega) hb21) hb30) hb33))
    refine rw_append_kd (d := kCell) w.heap.size rfl rfl rfl (.tmp 13) (.tmp 19) rfl rfl 33 31 (.agg (carr CL.unit)) 592 rfl (by kernel_rfl) (by kernel_rfl) rfl (show 0 < 74 by decide) (by decide) (fun _ _ h => h) (b := w.heap.size) rfl rfl (by omega) oA43 (OwnK.Cn (d := kCell) hk34r) (chain (chain (hk26.below (by omega) (chain hB_L7 hb21)) hb30) hb33) (by omega) (by simp only [List.length_map, List.length_take]; omega) ?_
    intro A37 c38 w39 hO40 hB41 hG42
    have hs_w39 := hB41.size
    have hgs_w39 := hG42.size
    have hk45 := OwnK.blk_grown ((hk27.on hb30).on hb33) oA43 (.inr (by decide)) hG42
    refine rw_val (v := .slice A37 ((((l.take j).map oneS) ++ ([(oneC ((l.getD j (0, 0, 0, 0, 0, 0)).1) ((l.getD j (0, 0, 0, 0, 0, 0)).2.1) ((l.getD j (0, 0, 0, 0, 0, 0)).2.2.2.1) ((l.getD j (0, 0, 0, 0, 0, 0)).2.2.2.2.2))] : List CL)).length) c38) (w' := w39) rfl rfl rfl rfl rfl ?_
    refine rw_end ?_
    refine w_weaken (G' := [(3, .slice A37 ((((l.take j).map oneS) ++ ([(oneC ((l.getD j (0, 0, 0, 0, 0, 0)).1) ((l.getD j (0, 0, 0, 0, 0, 0)).2.1) ((l.getD j (0, 0, 0, 0, 0, 0)).2.2.2.1) ((l.getD j (0, 0, 0, 0, 0, 0)).2.2.2.2.2))] : List CL)).length) c38), (7, .slice (some ad10) l.length c1), (8, .int .i64 ((l.length : Nat) : Int)), (9, .int .i64 ((j : Nat) : Int))]) ⟨rfl, rfl, rfl, rfl, trivial⟩ ?_
    refine w_blk ?_
    refine w_region ?_
    refine rw_val (v := .int .i64 ((j + 1 : Nat) : Int)) (w' := w39) rfl rfl rfl rfl (by simp [go_sem, sEv, sLook, nbeq, i64_w, -List.getD_eq_getElem?_getD]; exact wrap_id (by omega) (by omega)) ?_
    refine rw_val (v := .int .i64 ((j + 1 : Nat) : Int)) (w' := w39) rfl rfl rfl rfl rfl ?_
    refine rw_end ?_
    have e46 : (((l.take j).map oneS) ++ ([(oneC ((l.getD j (0, 0, 0, 0, 0, 0)).1) ((l.getD j (0, 0, 0, 0, 0, 0)).2.1) ((l.getD j (0, 0, 0, 0, 0, 0)).2.2.2.1) ((l.getD j (0, 0, 0, 0, 0, 0)).2.2.2.2.2))] : List CL)) = ((l.take (j + 1)).map oneS) := by (rw [take_snocS l j (by omega)]; rfl)
    have hO47 : OwnK kCell 31 w39 w.heap.size w.heap.size A37 ((l.take (j + 1)).map oneS).length c38 ((l.take (j + 1)).map oneS) := by rw [← e46]; exact OwnK.full hO40
    have en48 : (((l.take j).map oneS) ++ ([(oneC ((l.getD j (0, 0, 0, 0, 0, 0)).1) ((l.getD j (0, 0, 0, 0, 0, 0)).2.1) ((l.getD j (0, 0, 0, 0, 0, 0)).2.2.2.1) ((l.getD j (0, 0, 0, 0, 0, 0)).2.2.2.2.2))] : List CL)).length = ((l.take (j + 1)).map oneS).length := by rw [← e46] <;> exact OwnK.len (d := kCell) hO40
    exact w_back (m_ - 1) [(3, .slice A37 (((l.take (j + 1)).map oneS).length) c38), (7, .slice (some ad10) l.length c1), (8, .int .i64 ((l.length : Nat) : Int)), (9, .int .i64 ((j + 1 : Nat) : Int))] (by omega) ⟨(by first | rfl | (rw [← en48]; rfl)), rfl, rfl, rfl, trivial⟩ ⟨(j + 1), A37, c38, by omega, hB41, (OwnK.mono (d := kCell) hO47 (by omega)), rfl⟩
  · have l49 : ¬ (((j : Nat) : Int) < ((l.length : Nat) : Int)) := of_decide_eq_false cJ
    refine w_exit rfl ?_
    refine w_seq ?_
    refine w_region ?_
    refine rw_val (v := .slice A3_ (((l.take j).map oneS).length) c3_) (w' := w_L7) rfl rfl rfl rfl rfl ?_
    refine rw_val (v := .slice A3_ (((l.take j).map oneS).length) c3_) (w' := w_L7) rfl rfl rfl rfl rfl ?_
    refine rw_end ?_
    refine w_ret (post_ret1 rfl rfl ?_)
    have ej_ : j = l.length := by omega
    have et_ : (l.take j).map oneS = cellsC l := by rw [ej_, List.take_length]; rfl
    have hf_ := hO3_
    rw [et_] at hf_
    rw [et_]
    exact ⟨_, _, rfl, OwnK.mono (d := kCell) hf_ (by omega), hB_L7⟩
end Go.Proofs.Ytheaipbnbnjlgaa.Ce
