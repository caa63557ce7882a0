/- Copies with marks as blocks; a row is written over. -/
import Derived.Test.YtpbpeklbmmbigaaTpCopy
namespace Go.Proofs.Ytpbpeklbmmbigaa.Tp
open Go.RowKit Go.Proofs.YtpbpeklbmmbigaaW.PrintWords Go.Proofs.YtpbpeklbmmbigaaW.PrintLast Go.Proofs.YtpbpeklbmmbigaaW.PrintMore
open Go.Proofs.Ytpbpeklbmmbigaa.Flow
set_option linter.unusedVariables false
set_option linter.unusedSimpArgs false


theorem getD_left {a b : List Int} {j : Nat} (h : j < a.length) : (a ++ b).getD j 0 = a.getD j 0 := by
  rw [List.getD_eq_getElem?_getD, List.getD_eq_getElem?_getD, List.getElem?_append_left h]
/-- A copy with marks, as a block. -/
theorem copyB (w : World) (A0 : Option Addr) (c0 : Nat) (b : List Int) (hC : (Kd.int .u8).C w A0 b.length b) (hc : b.length ≤ c0) (hl : b.length ≤ 1000000) :
    Calls Try.prog 31 #[.slice A0 b.length c0] w fun e w' => ∃ (g : Nat) (cs : Array Value) (c : Nat), e = .returned (.slice (some ⟨g, 0, none⟩) b.length c) ∧ w.heap.size ≤ g ∧ Blk w' g 5 cs ∧ Nums .u8 cs (b ++ [165, 90]) ∧ b.length + 2 ≤ c ∧ b.length + 2 ≤ cs.size ∧ Below w.heap.size w w' := by
  refine (copy_calls w A0 c0 b hC hc hl).mono fun e w' h => ?_
  obtain ⟨A', c', h1, h2, h3⟩ := h
  obtain ⟨g, cap, cur, e1, h4, h5, h6, h7, h8⟩ := row_block h2 (by simp)
  injection e1 with e2 e3 e4
  subst e2 e4
  rw [List.length_append] at h6
  simp only [List.length_cons, List.length_nil] at h6
  exact ⟨g, cur, c', h1, h4, h5, h8, by omega, by omega, h3⟩
theorem keptB (w : World) (g : Nat) (cs : Array Value) (c cb : Nat) (B0 : Option Addr) (b : List Int) (hb : Blk w g 5 cs) (hN : Nums .u8 cs (b ++ [165, 90])) (hc : b.length + 2 ≤ c) (hC : (Kd.int .u8).C w B0 b.length b) (hcb : b.length ≤ cb) (hl : b.length ≤ 1000000) :
    Calls Try.prog 37 #[.slice (some ⟨g, 0, none⟩) b.length c, .slice B0 b.length cb] w fun e w' => e = .returned (.bool true) ∧ Below w.heap.size w w' := by
  have hC2 : (Kd.int .u8).C w (some ⟨g, 0, none⟩) (b.length + 2) (b ++ [165, 90]) := by
    have h := Nums.C hN hb (by simp; omega)
    simpa using h
  refine (kept_calls w (some ⟨g, 0, none⟩) B0 c cb b hC2 (Nums.C (xs := b) (fun j hj => by have h := hN j (by simp; omega); rw [h, getD_left hj]) hb (by omega)) hc (by omega) hC hcb hl).mono fun e w' h => h
theorem nums_left {k : IntKind} {cs : Array Value} {a b : List Int} (h : Nums k cs (a ++ b)) : Nums k cs a := fun j hj => by
  have h2 := h j (by rw [List.length_append]; omega)
  rw [h2, getD_left hj]
theorem nums_C {w : World} {g : Nat} {cs : Array Value} {a b : List Int} (h : Nums .u8 cs (a ++ b)) (hb : Blk w g 5 cs) (hl : a.length ≤ 1000000) : (Kd.int .u8).C w (some ⟨g, 0, none⟩) a.length a := Nums.C (nums_left h) hb (by omega)
set_option maxHeartbeats 4000000 in
theorem overB (w : World) (g c : Nat) (cs : Array Value) (xs : List Int) (hb : Blk w g 5 cs) (hN : Nums .u8 cs xs) (hl : xs.length ≤ cs.size) (hm : xs.length ≤ 140737488355328) :
    Calls Try.prog 27 #[.slice (some ⟨g, 0, none⟩) xs.length c] w fun e w' => e = .returned (.tuple #[]) ∧ Grow g w w' := by
  refine calls_flow Try.func27 rfl 15 rfl (Nat.le_of_ble_eq_true rfl) [(0, .slice (some ⟨g, 0, none⟩) xs.length c)] ?_ ?_
  · intro t v h; exact args_look rfl t v h
  refine w_seq ?_
  refine w_region ?_
  refine rw_val (v := .slice (some ⟨g, 0, none⟩) xs.length c) (w' := w) rfl rfl rfl rfl rfl ?_
  refine rw_val (v := .int .i64 ((xs.length : Nat) : Int)) (w' := w) rfl rfl rfl rfl (by simp [go_sem, sEv, sLook, nbeq, i64_w, -List.getD_eq_getElem?_getD]) ?_
  refine rw_val (v := .int .i64 0) (w' := w) rfl rfl rfl rfl rfl ?_
  refine rw_end ?_
  refine w_block ?_
  refine w_loop (fun m_ G W_ => ∃ (j : Nat) (ds : Array Value) (ys : List Int), j + m_ = xs.length ∧ ys.length = xs.length ∧ xs.length ≤ ds.size ∧ Grow g w W_ ∧ Blk W_ g 5 ds ∧ Nums .u8 ds ys ∧ G = [(0, .slice (some ⟨g, 0, none⟩) xs.length c), (3, .slice (some ⟨g, 0, none⟩) xs.length c), (4, .int .i64 ((xs.length : Nat) : Int)), (5, .int .i64 ((j : Nat) : Int))]) xs.length [(0, .slice (some ⟨g, 0, none⟩) xs.length c), (3, .slice (some ⟨g, 0, none⟩) xs.length c), (4, .int .i64 ((xs.length : Nat) : Int)), (5, .int .i64 ((0 : Nat) : Int))] ⟨0, cs, xs, by omega, rfl, hl, Grow.ofB (Below.refl _ _), hb, hN, rfl⟩ ⟨rfl, rfl, rfl, rfl, trivial⟩ ?_
  rintro m_ G w_ ⟨j, ds, ys, hj_, hy_, hd_, hG_, hB_, hN_, rfl⟩
  have hs_w_ := hG_.size
  refine w_seq ?_
  refine w_region ?_
  refine rw_val (v := .bool (decide (((j : Nat) : Int) < ((xs.length : Nat) : Int)))) (w' := w_) rfl rfl rfl rfl (by simp [go_sem, sEv, sLook, nbeq, i64_w, -List.getD_eq_getElem?_getD]) ?_
  refine rw_end ?_
  refine w_seq ?_
  refine w_cond rfl rfl (fun c1 => ?_) (fun c1 => ?_)
  · have l2 : (((j : Nat) : Int) < ((xs.length : Nat) : Int)) := of_decide_eq_true c1
    refine w_skip ?_
    refine w_seq ?_
    refine w_block ?_
    refine w_seq ?_
    refine w_region ?_
    refine rw_val (v := .int .i64 ((j : Nat) : Int)) (w' := w_) rfl rfl rfl rfl rfl ?_
    refine rw_val (v := .int .i64 ((j : Nat) : Int)) (w' := w_) rfl rfl rfl rfl rfl ?_
    refine rw_end ?_
    refine w_region ?_
    refine rw_val (v := .slice (some ⟨g, 0, none⟩) xs.length c) (w' := w_) rfl rfl rfl rfl rfl ?_
    refine rw_val (v := .int .i64 ((j : Nat) : Int)) (w' := w_) rfl rfl rfl rfl rfl ?_
    refine rw_val (v := .pointer (some ⟨g, j, none⟩)) (w' := w_) rfl rfl rfl rfl (by rw [← add_plain g j]; exact run_as (run_at_1 (P := Try.prog) (e := 5) (by kernel_rfl) (by kernel_rfl) j (by omega) _)) ?_
    refine rw_val (v := .int .u8 (ys.getD j 0)) (w' := w_) rfl rfl rfl rfl (by have e0_ := hB_.cellv (hN_ j (by omega)); simp [go_sem, sEv, sLook, nbeq, i64_w, -List.getD_eq_getElem?_getD, e0_]) ?_
    refine rw_val (v := .int .u8 (Go.bits .xor .u8 (ys.getD j 0) 255)) (w' := w_) rfl rfl rfl rfl (by simp [go_sem, sEv, sLook, nbeq, i64_w, -List.getD_eq_getElem?_getD]) ?_
    refine rw_val (v := .pointer (some ⟨g, j, none⟩)) (w' := w_) rfl rfl rfl rfl (by rw [← add_plain g j]; exact run_as (run_at_1 (P := Try.prog) (e := 5) (by kernel_rfl) (by kernel_rfl) j (by omega) _)) ?_
    refine rw_store (g := g) (i := j) (l := [.int .u8 (Go.bits .xor .u8 (ys.getD j 0) 255)]) (cs' := ds.setIfInBounds j (.int .u8 (Go.bits .xor .u8 (ys.getD j 0) 255))) rfl rfl rfl hB_ rfl (by have e0_ := hB_.cellv (hN_ j (by omega)); have f0_ := hB_.frozen j; simp [go_sem, sEv, sLook, nbeq, i64_w, -List.getD_eq_getElem?_getD, putCells, e0_, f0_]) ?_
    intro w3 hk4 hb5
    have hs_w3 := hk4.size
    refine rw_end ?_
    refine w_weaken (G' := [(0, .slice (some ⟨g, 0, none⟩) xs.length c), (3, .slice (some ⟨g, 0, none⟩) xs.length c), (4, .int .i64 ((xs.length : Nat) : Int)), (5, .int .i64 ((j : Nat) : Int))]) ⟨rfl, rfl, rfl, rfl, trivial⟩ ?_
    refine w_blk ?_
    refine w_region ?_
    refine rw_val (v := .int .i64 ((j + 1 : Nat) : Int)) (w' := w3) rfl rfl rfl rfl (by simp [go_sem, sEv, sLook, nbeq, i64_w, -List.getD_eq_getElem?_getD]; exact wrap_id (by omega) (by omega)) ?_
    refine rw_val (v := .int .i64 ((j + 1 : Nat) : Int)) (w' := w3) rfl rfl rfl rfl rfl ?_
    refine rw_end ?_
    exact w_back (m_ - 1) [(0, .slice (some ⟨g, 0, none⟩) xs.length c), (3, .slice (some ⟨g, 0, none⟩) xs.length c), (4, .int .i64 ((xs.length : Nat) : Int)), (5, .int .i64 ((j + 1 : Nat) : Int))] (by omega) ⟨rfl, rfl, rfl, rfl, trivial⟩ ⟨j + 1, _, ys.set j (Go.bits .xor .u8 (ys.getD j 0) 255), by omega, by rw [List.length_set]; exact hy_, by rw [Array.size_setIfInBounds]; exact hd_, hG_.trans (Grow.ofK hk4), hb5, hN_.set (by omega) j (Go.bits .xor .u8 (ys.getD j 0) 255), rfl⟩
  · have l6 : ¬ (((j : Nat) : Int) < ((xs.length : Nat) : Int)) := of_decide_eq_false c1
    refine w_exit rfl ?_
    refine w_end (post_end0 rfl ?_)
    exact ⟨rfl, hG_⟩
set_option maxHeartbeats 4000000 in
theorem over_0 (w : World) (A : Option Addr) (c : Nat) :
    Calls Try.prog 27 #[.slice A 0 c] w fun e w' => e = .returned (.tuple #[]) ∧ Below w.heap.size w w' := by
  refine calls_flow Try.func27 rfl 15 rfl (Nat.le_of_ble_eq_true rfl) [(0, .slice A 0 c)] ?_ ?_
  · intro t v h; exact args_look rfl t v h
  refine w_seq ?_
  refine w_region ?_
  refine rw_val (v := .slice A 0 c) (w' := w) rfl rfl rfl rfl rfl ?_
  refine rw_val (v := .int .i64 0) (w' := w) rfl rfl rfl rfl (by simp [go_sem, sEv, sLook, nbeq, i64_w]) ?_
  refine rw_val (v := .int .i64 0) (w' := w) rfl rfl rfl rfl rfl ?_
  refine rw_end ?_
  refine w_block ?_
  refine w_loop1 ?_
  refine w_seq ?_
  refine w_region ?_
  refine rw_val (v := .bool false) (w' := w) rfl rfl rfl rfl (by simp [go_sem, sEv, sLook, nbeq, i64_w]) ?_
  refine rw_end ?_
  refine w_seq ?_
  refine w_cond_f rfl rfl rfl ?_
  refine w_exit rfl ?_
  refine w_end (post_end0 rfl ?_)
  exact ⟨rfl, (Below.refl _ _)⟩

/-- A row of one's own is written over: nothing else is. -/
theorem overO (w : World) (base b : Nat) (A0 : Option Addr) (n c : Nat) (xs : List Int) (hO : OwnK (Kd.int .u8) 5 w base b A0 n c xs) (hm : n ≤ 140737488355328) :
    Calls Try.prog 27 #[.slice A0 n c] w fun e w' => e = .returned (.tuple #[]) ∧ ∃ g, b ≤ g ∧ Grow g w w' := by
  have hn := OwnK.len (d := (Kd.int .u8)) hO
  rcases xs with _ | ⟨x, xs⟩
  · subst hn
    exact (over_0 w A0 c).mono fun e w' h => ⟨h.1, b, Nat.le_refl _, Grow.ofB h.2⟩
  · obtain ⟨g, cap, cur, e1, h4, h5, h6, h7, h8⟩ := row_block hO (by simp)
    have hge := OwnK.blk_ge (d := (Kd.int .u8)) (q := g) hO (by rw [e1]; rfl)
    injection e1 with e2 e3 e4
    subst e2 e3 e4
    exact (overB w g _ cur (x :: xs) h5 h8 (by omega) (by omega)).mono fun e w' h => ⟨h.1, g, hge, h.2⟩
end Go.Proofs.Ytpbpeklbmmbigaa.Tp
