/- A law's own walk: NtKinds. -/
import Derived.Test.YtbbhdohjhipalaaQA6
section
namespace Go.Proofs.Ytbbhdohjhipalaa.Ce
open Go.RowKit Go.Proofs.YtbbhdohjhipalaaW.PrintWords Go.Proofs.YtbbhdohjhipalaaW.PrintLast Go.Proofs.YtbbhdohjhipalaaW.PrintMore
open Go.Proofs.Ytbbhdohjhipalaa.Flow
open Go.Proofs.Ytbbhdohjhipalaa.PNoteReads
set_option linter.unusedVariables false
set_option linter.unusedSimpArgs false
theorem fits_val {k a b c : Int} (h : shapeK k = some (a, b, c)) (n : Nat) : (fitsN k n = true) ↔ (a ≤ (n : Int) ∧ (n : Int) ≤ b ∧ ((n : Int) - a) % c = 0) := by
  unfold fitsN
  rw [h]
  simp only [Bool.and_eq_true, decide_eq_true_eq]
theorem kind_good (kk : Int) (nn : Nat) : goodN ⟨kk, 999, 0, List.replicate nn 0, [], []⟩ = fitsN kk nn := by
  unfold goodN
  simp
theorem kcheck (w : World) (A3 : Option Addr) (c3 : Nat) (kk : Int) (nn : Nat) (hn3 : (Kd.int .i64).C w A3 nn (List.replicate nn 0)) (hc3 : nn ≤ c3) (hm : nn ≤ 1000) : Calls Try.prog 15 #[.agg #[.int .i64 kk, .int .i64 999, .int .i64 0, .slice A3 nn c3, .slice none 0 0, .slice none 0 0]] w fun e w' => e = .returned (errT (if fitsN kk nn = true then none else some 2)) ∧ Below w.heap.size w w' := by
  have e0 : (List.replicate nn (0 : Int)).length = nn := List.length_replicate
  have h := check_calls w ⟨kk, 999, 0, List.replicate nn 0, [], []⟩ A3 c3 none 0 none 0 (by rw [e0]; exact hn3) (by rw [e0]; exact hc3) (C_nilK kOp w none) (Nat.le_refl 0) (C_nilK kEntry w none) (Nat.le_refl 0) (by rw [e0]; omega) (Nat.zero_le _) (Nat.zero_le _)
  rw [kind_good] at h
  simp only [e0] at h
  exact h
theorem kcheck_no (w : World) (A3 : Option Addr) (c3 : Nat) (kk : Int) (nn : Nat) (hn3 : (Kd.int .i64).C w A3 nn (List.replicate nn 0)) (hc3 : nn ≤ c3) (hm : nn ≤ 1000) (hf : fitsN kk nn = false) : Calls Try.prog 15 #[.agg #[.int .i64 kk, .int .i64 999, .int .i64 0, .slice A3 nn c3, .slice none 0 0, .slice none 0 0]] w fun e w' => e = .returned (errT (some 2)) ∧ Below w.heap.size w w' := by
  have h := kcheck w A3 c3 kk nn hn3 hc3 hm
  rw [hf] at h
  exact h
theorem kcheck_yes (w : World) (A3 : Option Addr) (c3 : Nat) (kk : Int) (nn : Nat) (hn3 : (Kd.int .i64).C w A3 nn (List.replicate nn 0)) (hc3 : nn ≤ c3) (hm : nn ≤ 1000) (hf : fitsN kk nn = true) : Calls Try.prog 15 #[.agg #[.int .i64 kk, .int .i64 999, .int .i64 0, .slice A3 nn c3, .slice none 0 0, .slice none 0 0]] w fun e w' => e = .returned .nilIface ∧ Below w.heap.size w w' := by
  have h := kcheck w A3 c3 kk nn hn3 hc3 hm
  rw [hf] at h
  exact h
set_option maxHeartbeats 4000000 in
theorem kinds_calls (w : World) (k0 m0 kk : Int) (nn : Nat) (hk_ : 1 + (k0 % 18446744073709551616) % 9 = kk) (hn_ : (m0 % 18446744073709551616) % 50 = (nn : Int)) (hk1 : 1 ≤ kk) (hk2 : kk ≤ 9) (hn2 : nn < 50) :
  Calls Try.prog 5 #[.int .i64 k0, .int .i64 m0] w fun e w' => e = .returned (.bool true) ∧ Below w.heap.size w w' := by
 refine calls_flow Try.func5 rfl 86 rfl (Nat.le_of_ble_eq_true rfl) [(0, .int .i64 k0), (1, .int .i64 m0)] ?_ ?_
 ·
  intro t v h; exact args_look rfl t v h
 refine w_seq ?_
 refine w_region ?_
 refine rv (.bool false) ?_
 refine rw_end ?_
 refine w_seq ?_
 refine w_seq ?_
 refine w_region ?_
 refine rw_call rfl rfl rfl rfl (f := 9) (args := #[]) (by simp [go_sem, sEv, sLook, nbeq, i64_w, -List.getD_eq_getElem?_getD]) (alive_calls w) ?_
 rintro e_ w1 ⟨rfl, hb2⟩
 refine ⟨_, rfl, ?_⟩
 have hs_w1 := hb2.size
 refine rz (.bool false) (by simp [go_sem, sEv, sLook, nbeq, i64_w, -List.getD_eq_getElem?_getD]) ?_
 refine rw_end ?_
 refine w_cond_f rfl rfl rfl ?_
 refine w_skip ?_
 refine w_seq ?_
 refine w_region ?_
 refine rv (.int .i64 k0) ?_
 refine rz (.int .u64 (k0 % 18446744073709551616)) (by simp [go_sem, sEv, sLook, nbeq, i64_w, -List.getD_eq_getElem?_getD]; first | rfl | (rw [u64_wrap]) | (simp [IntKind.wrap, IntKind.bits, IntKind.signed])) ?_
 refine rz (.int .u64 ((k0 % 18446744073709551616) % 9)) (by simp [go_sem, sEv, sLook, nbeq, i64_w, -List.getD_eq_getElem?_getD]; first | done | (rw [Int.tmod_eq_emod_of_nonneg (by omega)]; try rw [u64_wrap]; omega)) ?_
 refine rz (.int .i64 ((k0 % 18446744073709551616) % 9)) (by simp [go_sem, sEv, sLook, nbeq, i64_w, -List.getD_eq_getElem?_getD]; first | done | exact wrap_id (by omega) (by omega) | (unfold wrap64; omega)) ?_
 refine rz (.int .i64 kk) (by rw [← hk_]; simp [go_sem, sEv, sLook, nbeq, i64_w, -List.getD_eq_getElem?_getD]; first | done | exact wrap_id (by omega) (by omega) | (unfold wrap64; omega)) ?_
 refine rv (.int .i64 m0) ?_
 refine rz (.int .u64 (m0 % 18446744073709551616)) (by simp [go_sem, sEv, sLook, nbeq, i64_w, -List.getD_eq_getElem?_getD]; first | rfl | (rw [u64_wrap]) | (simp [IntKind.wrap, IntKind.bits, IntKind.signed])) ?_
 refine rz (.int .u64 ((m0 % 18446744073709551616) % 50)) (by simp [go_sem, sEv, sLook, nbeq, i64_w, -List.getD_eq_getElem?_getD]; first | done | (rw [Int.tmod_eq_emod_of_nonneg (by omega)]; try rw [u64_wrap]; omega)) ?_
 refine rz (.int .i64 ((nn : Nat) : Int)) (by rw [← hn_]; simp [go_sem, sEv, sLook, nbeq, i64_w, -List.getD_eq_getElem?_getD]; first | done | exact wrap_id (by omega) (by omega) | (unfold wrap64; omega)) ?_
 refine rv (.int .i64 kk) ?_
 refine rv (.int .i64 ((nn : Nat) : Int)) ?_
 refine rw_end ?_
 refine w_weaken (G' := [(0, .int .i64 kk), (1, .int .i64 ((nn : Nat) : Int)), (4, .bool false)]) ⟨rfl, rfl, rfl, trivial⟩ ?_
 refine w_seq ?_
 refine w_region ?_
 refine rv (.int .i64 kk) ?_
 refine rv (.int .i64 ((nn : Nat) : Int)) ?_
 refine rw_new (cs := madeCells #[.int .i64 0] nn) (t := 3) (fun g => .slice (some ⟨g, 0, none⟩) nn nn) rfl rfl rfl rfl (run_as (make_run (bytes := 8) (by kernel_rfl) (by kernel_rfl) rfl nn nn _ _ (by first | rfl | simp) (by first | rfl | simp) (by omega) (by omega) (by decide) _ _ _)) ?_
 intro g3 w4 hg8 hz7 hb5 hk6
 have hs_w4 := hb5.size
 have hO9 : OwnK (Kd.int .i64) 3 w4 w.heap.size g3 (some ⟨g3, 0, none⟩) nn nn (List.replicate nn 0 : List Int) := made_own 0 nn w.heap.size hk6 (by omega) (by omega) (by omega)
 refine rz (.agg #[.int .i64 kk, .int .i64 999, .int .i64 0, .slice (some ⟨g3, 0, none⟩) nn nn, .slice none 0 0, .slice none 0 0]) (by kernel_rfl) ?_
 refine rw_new (cs := #[.int .i64 0, .int .i64 0, .int .i64 0, .slice none 0 0, .slice none 0 0, .slice none 0 0]) (t := 26) (fun g => .pointer (some ⟨g, 0, none⟩)) rfl rfl rfl rfl (by kernel_rfl) ?_
 intro g10 w11 hg15 hz14 hb12 hk13
 have hs_w11 := hb12.size
 have hb19 := hk13
 refine rw_store (g := g10) (i := 0) (l := [.int .i64 kk, .int .i64 999, .int .i64 0, .slice (some ⟨g3, 0, none⟩) nn nn, .slice none 0 0, .slice none 0 0]) (cs' := #[.int .i64 kk, .int .i64 999, .int .i64 0, .slice (some ⟨g3, 0, none⟩) nn nn, .slice none 0 0, .slice none 0 0]) rfl rfl rfl hb19 rfl (by have e0_ := hb19.cellv (i := 0) (v := (.int .i64 0 : Value)) rfl; have f0_ := hb19.frozen 0; have e1_ := hb19.cellv (i := 1) (v := (.int .i64 0 : Value)) rfl; have f1_ := hb19.frozen 1; have e2_ := hb19.cellv (i := 2) (v := (.int .i64 0 : Value)) rfl; have f2_ := hb19.frozen 2; have e3_ := hb19.cellv (i := 3) (v := (.slice none 0 0 : Value)) rfl; have f3_ := hb19.frozen 3; have e4_ := hb19.cellv (i := 4) (v := (.slice none 0 0 : Value)) rfl; have f4_ := hb19.frozen 4; have e5_ := hb19.cellv (i := 5) (v := (.slice none 0 0 : Value)) rfl; have f5_ := hb19.frozen 5; simp [go_sem, sEv, sLook, nbeq, i64_w, -List.getD_eq_getElem?_getD, putCells, e0_, f0_, e1_, f1_, e2_, f2_, e3_, f3_, e4_, f4_, e5_, f5_, Try.underlying26]) ?_
 intro w16 hk17 hk18
 have hs_w16 := hk17.size
 refine rw_end ?_
 refine w_weaken (G' := [(0, .int .i64 kk), (1, .int .i64 ((nn : Nat) : Int)), (4, .bool false), (5, .pointer (some ⟨g10, 0, none⟩))]) ⟨rfl, rfl, rfl, rfl, trivial⟩ ?_
 refine w_seq ?_
 refine w_region ?_
 refine rv (.int .i64 ((nn : Nat) : Int)) ?_
 refine rz (.bool (((nn : Nat) : Int) == 4)) (by simp [go_sem, sEv, sLook, nbeq, i64_w, -List.getD_eq_getElem?_getD]) ?_
 refine rv (.bool (((nn : Nat) : Int) == 4)) ?_
 refine rw_end ?_
 refine w_seq ?_
 refine w_seq ?_
 refine w_region ?_
 refine rv (.int .i64 kk) ?_
 refine rw_end ?_
 refine w_join (fun G W_ => w16 = W_ ∧ G = [(5, .pointer (some ⟨g10, 0, none⟩)), (6, .bool (fitsN kk nn))]) ?_ ?_
 ·
  refine w_block ?_
  refine w_seq ?_
  refine w_region ?_
  refine rz (.bool (kk == 2)) (by simp [go_sem, sEv, sLook, nbeq, i64_w, -List.getD_eq_getElem?_getD]) ?_
  refine rv (.bool (kk == 2)) ?_
  refine rw_end ?_
  refine w_cond rfl rfl (fun c20 => ?_) (fun c20 => ?_)
  ·
   have l21 : kk = 2 := by simpa using c20
   refine w_region ?_
   refine rv (.int .i64 ((nn : Nat) : Int)) ?_
   refine rz (.bool (decide (7 ≤ ((nn : Nat) : Int)))) (by simp [go_sem, sEv, sLook, nbeq, i64_w, -List.getD_eq_getElem?_getD]) ?_
   refine rv (.bool (decide (7 ≤ ((nn : Nat) : Int)))) ?_
   rcases bcase (decide (7 ≤ ((nn : Nat) : Int))) with c22 | c22
   ·
    have l23 : ¬ (7 ≤ ((nn : Nat) : Int)) := of_decide_eq_false c22
    refine rw_off (c := decide (7 ≤ ((nn : Nat) : Int))) rfl rfl rfl (by first | (rw [c22]; rfl) | simp [c22]) rfl rfl ?_
    refine rw_off (c := decide (7 ≤ ((nn : Nat) : Int))) rfl rfl rfl (by first | (rw [c22]; rfl) | simp [c22]) rfl rfl ?_
    refine rz (.bool false) (by first | (simp [go_sem, sEv, sLook, nbeq, i64_w, -List.getD_eq_getElem?_getD, c22]; done) | (rw [c22]; simp [go_sem, sEv, sLook, nbeq, i64_w, -List.getD_eq_getElem?_getD]; done) | (simp [go_sem, sEv, sLook, nbeq, i64_w, -List.getD_eq_getElem?_getD] <;> omega) | (simp [go_sem, sEv, sLook, nbeq, i64_w, -List.getD_eq_getElem?_getD]; intro h_; exact absurd (by omega) h_)) ?_
    refine rv (.bool false) ?_
    refine rw_end ?_
    refine w_weaken (G' := [(4, .bool false), (5, .pointer (some ⟨g10, 0, none⟩)), (6, .bool false)]) ⟨rfl, rfl, rfl, trivial⟩ ?_
    refine w_blk ?_
    have hS_ : shapeK kk = some (7, 39, 1) := by rw [show kk = 2 by omega]; rfl
    have hF_ := fits_val hS_ nn
    try simp only [Int.emod_one, and_true] at hF_
    have hj_ : false = fitsN kk nn := Bool.eq_iff_iff.2 (by rw [hF_]; simp <;> omega)
    exact w_joined [(5, .pointer (some ⟨g10, 0, none⟩)), (6, .bool (fitsN kk nn))] ⟨rfl, (by rw [← hj_]; rfl), trivial⟩ ⟨rfl, rfl⟩
   ·
    have l24 : (7 ≤ ((nn : Nat) : Int)) := of_decide_eq_true c22
    refine rw_on (c := decide (7 ≤ ((nn : Nat) : Int))) rfl rfl rfl (by first | (rw [c22]; rfl) | simp [c22]) ?_
    refine rv (.int .i64 ((nn : Nat) : Int)) ?_
    refine rw_on (c := decide (7 ≤ ((nn : Nat) : Int))) rfl rfl rfl (by first | (rw [c22]; rfl) | simp [c22]) ?_
    refine rz (.bool (decide (((nn : Nat) : Int) ≤ 39))) (by simp [go_sem, sEv, sLook, nbeq, i64_w, -List.getD_eq_getElem?_getD]) ?_
    refine rz (.bool (decide (((nn : Nat) : Int) ≤ 39))) (by first | (simp [go_sem, sEv, sLook, nbeq, i64_w, -List.getD_eq_getElem?_getD, c22]; done) | (rw [c22]; simp [go_sem, sEv, sLook, nbeq, i64_w, -List.getD_eq_getElem?_getD]; done) | (simp [go_sem, sEv, sLook, nbeq, i64_w, -List.getD_eq_getElem?_getD] <;> omega) | (simp [go_sem, sEv, sLook, nbeq, i64_w, -List.getD_eq_getElem?_getD]; intro h_; exact absurd (by omega) h_)) ?_
    refine rv (.bool (decide (((nn : Nat) : Int) ≤ 39))) ?_
    refine rw_end ?_
    refine w_weaken (G' := [(4, .bool false), (5, .pointer (some ⟨g10, 0, none⟩)), (6, .bool (decide (((nn : Nat) : Int) ≤ 39)))]) ⟨rfl, rfl, rfl, trivial⟩ ?_
    refine w_blk ?_
    have hS_ : shapeK kk = some (7, 39, 1) := by rw [show kk = 2 by omega]; rfl
    have hF_ := fits_val hS_ nn
    try simp only [Int.emod_one, and_true] at hF_
    have hj_ : (decide (((nn : Nat) : Int) ≤ 39)) = fitsN kk nn := Bool.eq_iff_iff.2 (by rw [hF_]; simp <;> omega)
    exact w_joined [(5, .pointer (some ⟨g10, 0, none⟩)), (6, .bool (fitsN kk nn))] ⟨rfl, (by rw [← hj_]; rfl), trivial⟩ ⟨rfl, rfl⟩
  ·
   have l25 : ¬ kk = 2 := by simpa using c20
   refine w_seq ?_
   refine w_region ?_
   refine rz (.bool (kk == 3)) (by simp [go_sem, sEv, sLook, nbeq, i64_w, -List.getD_eq_getElem?_getD]) ?_
   refine rv (.bool (kk == 3)) ?_
   refine rw_end ?_
   refine w_cond rfl rfl (fun c26 => ?_) (fun c26 => ?_)
   ·
    have l27 : kk = 3 := by simpa using c26
    refine w_region ?_
    refine rv (.int .i64 ((nn : Nat) : Int)) ?_
    refine rz (.bool (decide (4 ≤ ((nn : Nat) : Int)))) (by simp [go_sem, sEv, sLook, nbeq, i64_w, -List.getD_eq_getElem?_getD]) ?_
    refine rv (.bool (decide (4 ≤ ((nn : Nat) : Int)))) ?_
    rcases bcase (decide (4 ≤ ((nn : Nat) : Int))) with c28 | c28
    ·
     have l29 : ¬ (4 ≤ ((nn : Nat) : Int)) := of_decide_eq_false c28
     refine rw_off (c := decide (4 ≤ ((nn : Nat) : Int))) rfl rfl rfl (by first | (rw [c28]; rfl) | simp [c28]) rfl rfl ?_
     refine rw_off (c := decide (4 ≤ ((nn : Nat) : Int))) rfl rfl rfl (by first | (rw [c28]; rfl) | simp [c28]) rfl rfl ?_
     refine rz (.bool false) (by first | (simp [go_sem, sEv, sLook, nbeq, i64_w, -List.getD_eq_getElem?_getD, c28]; done) | (rw [c28]; simp [go_sem, sEv, sLook, nbeq, i64_w, -List.getD_eq_getElem?_getD]; done) | (simp [go_sem, sEv, sLook, nbeq, i64_w, -List.getD_eq_getElem?_getD] <;> omega) | (simp [go_sem, sEv, sLook, nbeq, i64_w, -List.getD_eq_getElem?_getD]; intro h_; exact absurd (by omega) h_)) ?_
     refine rv (.bool false) ?_
     refine rw_end ?_
     refine w_weaken (G' := [(4, .bool false), (5, .pointer (some ⟨g10, 0, none⟩)), (6, .bool false)]) ⟨rfl, rfl, rfl, trivial⟩ ?_
     refine w_blk ?_
     have hS_ : shapeK kk = some (4, 36, 1) := by rw [show kk = 3 by omega]; rfl
     have hF_ := fits_val hS_ nn
     try simp only [Int.emod_one, and_true] at hF_
     have hj_ : false = fitsN kk nn := Bool.eq_iff_iff.2 (by rw [hF_]; simp <;> omega)
     exact w_joined [(5, .pointer (some ⟨g10, 0, none⟩)), (6, .bool (fitsN kk nn))] ⟨rfl, (by rw [← hj_]; rfl), trivial⟩ ⟨rfl, rfl⟩
    ·
     have l30 : (4 ≤ ((nn : Nat) : Int)) := of_decide_eq_true c28
     refine rw_on (c := decide (4 ≤ ((nn : Nat) : Int))) rfl rfl rfl (by first | (rw [c28]; rfl) | simp [c28]) ?_
     refine rv (.int .i64 ((nn : Nat) : Int)) ?_
     refine rw_on (c := decide (4 ≤ ((nn : Nat) : Int))) rfl rfl rfl (by first | (rw [c28]; rfl) | simp [c28]) ?_
     refine rz (.bool (decide (((nn : Nat) : Int) ≤ 36))) (by simp [go_sem, sEv, sLook, nbeq, i64_w, -List.getD_eq_getElem?_getD]) ?_
     refine rz (.bool (decide (((nn : Nat) : Int) ≤ 36))) (by first | (simp [go_sem, sEv, sLook, nbeq, i64_w, -List.getD_eq_getElem?_getD, c28]; done) | (rw [c28]; simp [go_sem, sEv, sLook, nbeq, i64_w, -List.getD_eq_getElem?_getD]; done) | (simp [go_sem, sEv, sLook, nbeq, i64_w, -List.getD_eq_getElem?_getD] <;> omega) | (simp [go_sem, sEv, sLook, nbeq, i64_w, -List.getD_eq_getElem?_getD]; intro h_; exact absurd (by omega) h_)) ?_
     refine rv (.bool (decide (((nn : Nat) : Int) ≤ 36))) ?_
     refine rw_end ?_
     refine w_weaken (G' := [(4, .bool false), (5, .pointer (some ⟨g10, 0, none⟩)), (6, .bool (decide (((nn : Nat) : Int) ≤ 36)))]) ⟨rfl, rfl, rfl, trivial⟩ ?_
     refine w_blk ?_
     have hS_ : shapeK kk = some (4, 36, 1) := by rw [show kk = 3 by omega]; rfl
     have hF_ := fits_val hS_ nn
     try simp only [Int.emod_one, and_true] at hF_
     have hj_ : (decide (((nn : Nat) : Int) ≤ 36)) = fitsN kk nn := Bool.eq_iff_iff.2 (by rw [hF_]; simp <;> omega)
     exact w_joined [(5, .pointer (some ⟨g10, 0, none⟩)), (6, .bool (fitsN kk nn))] ⟨rfl, (by rw [← hj_]; rfl), trivial⟩ ⟨rfl, rfl⟩
   ·
    have l31 : ¬ kk = 3 := by simpa using c26
    refine w_seq ?_
    refine w_region ?_
    refine rz (.bool (kk == 5)) (by simp [go_sem, sEv, sLook, nbeq, i64_w, -List.getD_eq_getElem?_getD]) ?_
    refine rv (.bool (kk == 5)) ?_
    refine rw_end ?_
    refine w_cond rfl rfl (fun c32 => ?_) (fun c32 => ?_)
    ·
     have l33 : kk = 5 := by simpa using c32
     refine w_region ?_
     refine rv (.int .i64 ((nn : Nat) : Int)) ?_
     refine rz (.bool (((nn : Nat) : Int) == 7)) (by simp [go_sem, sEv, sLook, nbeq, i64_w, -List.getD_eq_getElem?_getD]) ?_
     refine rv (.bool (((nn : Nat) : Int) == 7)) ?_
     refine rw_end ?_
     refine w_blk ?_
     have hS_ : shapeK kk = some (7, 7, 1) := by rw [show kk = 5 by omega]; rfl
     have hF_ := fits_val hS_ nn
     try simp only [Int.emod_one, and_true] at hF_
     have hj_ : (((nn : Nat) : Int) == 7) = fitsN kk nn := Bool.eq_iff_iff.2 (by rw [hF_]; simp <;> omega)
     exact w_joined [(5, .pointer (some ⟨g10, 0, none⟩)), (6, .bool (fitsN kk nn))] ⟨rfl, (by rw [← hj_]; rfl), trivial⟩ ⟨rfl, rfl⟩
    ·
     have l34 : ¬ kk = 5 := by simpa using c32
     refine w_seq ?_
     refine w_region ?_
     refine rz (.bool (kk == 6)) (by simp [go_sem, sEv, sLook, nbeq, i64_w, -List.getD_eq_getElem?_getD]) ?_
     refine rv (.bool (kk == 6)) ?_
     refine rw_end ?_
     refine w_cond rfl rfl (fun c35 => ?_) (fun c35 => ?_)
     ·
      have l36 : kk = 6 := by simpa using c35
      refine w_region ?_
      refine rv (.int .i64 ((nn : Nat) : Int)) ?_
      refine rz (.int .i64 (((nn : Nat) : Int) % 2)) (by simp [go_sem, sEv, sLook, nbeq, i64_w, -List.getD_eq_getElem?_getD]; first | done | (rw [Int.tmod_eq_emod_of_nonneg (by omega)]; first | done | exact wrap_id (by omega) (by omega) | (unfold wrap64; omega))) ?_
      refine rz (.bool ((((nn : Nat) : Int) % 2) == 1)) (by simp [go_sem, sEv, sLook, nbeq, i64_w, -List.getD_eq_getElem?_getD]) ?_
      refine rv (.bool ((((nn : Nat) : Int) % 2) == 1)) ?_
      rcases bcase ((((nn : Nat) : Int) % 2) == 1) with c37 | c37
      ·
       have l38 : ¬ (((nn : Nat) : Int) % 2) = 1 := by simpa using c37
       refine rw_off (c := ((((nn : Nat) : Int) % 2) == 1)) rfl rfl rfl (by first | (rw [c37]; rfl) | simp [c37]) rfl rfl ?_
       refine rw_off (c := ((((nn : Nat) : Int) % 2) == 1)) rfl rfl rfl (by first | (rw [c37]; rfl) | simp [c37]) rfl rfl ?_
       refine rz (.bool false) (by first | (simp [go_sem, sEv, sLook, nbeq, i64_w, -List.getD_eq_getElem?_getD, c37]; done) | (rw [c37]; simp [go_sem, sEv, sLook, nbeq, i64_w, -List.getD_eq_getElem?_getD]; done) | (simp [go_sem, sEv, sLook, nbeq, i64_w, -List.getD_eq_getElem?_getD] <;> omega) | (simp [go_sem, sEv, sLook, nbeq, i64_w, -List.getD_eq_getElem?_getD]; intro h_; exact absurd (by omega) h_)) ?_
       refine rv (.bool false) ?_
       refine rw_end ?_
       refine w_weaken (G' := [(4, .bool false), (5, .pointer (some ⟨g10, 0, none⟩)), (6, .bool false)]) ⟨rfl, rfl, rfl, trivial⟩ ?_
       refine w_blk ?_
       have hS_ : shapeK kk = some (1, 25, 2) := by rw [show kk = 6 by omega]; rfl
       have hF_ := fits_val hS_ nn
       try simp only [Int.emod_one, and_true] at hF_
       have hj_ : false = fitsN kk nn := Bool.eq_iff_iff.2 (by rw [hF_]; simp <;> omega)
       exact w_joined [(5, .pointer (some ⟨g10, 0, none⟩)), (6, .bool (fitsN kk nn))] ⟨rfl, (by rw [← hj_]; rfl), trivial⟩ ⟨rfl, rfl⟩
      ·
       have l39 : (((nn : Nat) : Int) % 2) = 1 := by simpa using c37
       refine rw_on (c := ((((nn : Nat) : Int) % 2) == 1)) rfl rfl rfl (by first | (rw [c37]; rfl) | simp [c37]) ?_
       refine rv (.int .i64 ((nn : Nat) : Int)) ?_
       refine rw_on (c := ((((nn : Nat) : Int) % 2) == 1)) rfl rfl rfl (by first | (rw [c37]; rfl) | simp [c37]) ?_
       refine rz (.bool (decide (((nn : Nat) : Int) ≤ 25))) (by simp [go_sem, sEv, sLook, nbeq, i64_w, -List.getD_eq_getElem?_getD]) ?_
       refine rz (.bool (decide (((nn : Nat) : Int) ≤ 25))) (by first | (simp [go_sem, sEv, sLook, nbeq, i64_w, -List.getD_eq_getElem?_getD, c37]; done) | (rw [c37]; simp [go_sem, sEv, sLook, nbeq, i64_w, -List.getD_eq_getElem?_getD]; done) | (simp [go_sem, sEv, sLook, nbeq, i64_w, -List.getD_eq_getElem?_getD] <;> omega) | (simp [go_sem, sEv, sLook, nbeq, i64_w, -List.getD_eq_getElem?_getD]; intro h_; exact absurd (by omega) h_)) ?_
       refine rv (.bool (decide (((nn : Nat) : Int) ≤ 25))) ?_
       refine rw_end ?_
       refine w_weaken (G' := [(4, .bool false), (5, .pointer (some ⟨g10, 0, none⟩)), (6, .bool (decide (((nn : Nat) : Int) ≤ 25)))]) ⟨rfl, rfl, rfl, trivial⟩ ?_
       refine w_blk ?_
       have hS_ : shapeK kk = some (1, 25, 2) := by rw [show kk = 6 by omega]; rfl
       have hF_ := fits_val hS_ nn
       try simp only [Int.emod_one, and_true] at hF_
       have hj_ : (decide (((nn : Nat) : Int) ≤ 25)) = fitsN kk nn := Bool.eq_iff_iff.2 (by rw [hF_]; simp <;> omega)
       exact w_joined [(5, .pointer (some ⟨g10, 0, none⟩)), (6, .bool (fitsN kk nn))] ⟨rfl, (by rw [← hj_]; rfl), trivial⟩ ⟨rfl, rfl⟩
     ·
      have l40 : ¬ kk = 6 := by simpa using c35
      refine w_seq ?_
      refine w_region ?_
      refine rz (.bool (kk == 7)) (by simp [go_sem, sEv, sLook, nbeq, i64_w, -List.getD_eq_getElem?_getD]) ?_
      refine rv (.bool (kk == 7)) ?_
      refine rw_end ?_
      refine w_cond rfl rfl (fun c41 => ?_) (fun c41 => ?_)
      ·
       have l42 : kk = 7 := by simpa using c41
       refine w_region ?_
       refine rv (.int .i64 ((nn : Nat) : Int)) ?_
       refine rz (.int .i64 (((nn : Nat) : Int) % 2)) (by simp [go_sem, sEv, sLook, nbeq, i64_w, -List.getD_eq_getElem?_getD]; first | done | (rw [Int.tmod_eq_emod_of_nonneg (by omega)]; first | done | exact wrap_id (by omega) (by omega) | (unfold wrap64; omega))) ?_
       refine rz (.bool ((((nn : Nat) : Int) % 2) == 0)) (by simp [go_sem, sEv, sLook, nbeq, i64_w, -List.getD_eq_getElem?_getD]) ?_
       refine rv (.bool ((((nn : Nat) : Int) % 2) == 0)) ?_
       rcases bcase ((((nn : Nat) : Int) % 2) == 0) with c43 | c43
       ·
        have l44 : ¬ (((nn : Nat) : Int) % 2) = 0 := by simpa using c43
        refine rw_off (c := ((((nn : Nat) : Int) % 2) == 0)) rfl rfl rfl (by first | (rw [c43]; rfl) | simp [c43]) rfl rfl ?_
        refine rw_off (c := ((((nn : Nat) : Int) % 2) == 0)) rfl rfl rfl (by first | (rw [c43]; rfl) | simp [c43]) rfl rfl ?_
        refine rz (.bool false) (by first | (simp [go_sem, sEv, sLook, nbeq, i64_w, -List.getD_eq_getElem?_getD, c43]; done) | (rw [c43]; simp [go_sem, sEv, sLook, nbeq, i64_w, -List.getD_eq_getElem?_getD]; done) | (simp [go_sem, sEv, sLook, nbeq, i64_w, -List.getD_eq_getElem?_getD] <;> omega) | (simp [go_sem, sEv, sLook, nbeq, i64_w, -List.getD_eq_getElem?_getD]; intro h_; exact absurd (by omega) h_)) ?_
        refine rv (.bool false) ?_
        refine rw_off (c := false) rfl rfl rfl rfl rfl rfl ?_
        refine rw_off (c := false) rfl rfl rfl rfl rfl rfl ?_
        refine rz (.bool false) (by simp [go_sem, sEv, sLook, nbeq, i64_w, -List.getD_eq_getElem?_getD]) ?_
        refine rv (.bool false) ?_
        refine rw_end ?_
        refine w_weaken (G' := [(4, .bool false), (5, .pointer (some ⟨g10, 0, none⟩)), (6, .bool false)]) ⟨rfl, rfl, rfl, trivial⟩ ?_
        refine w_blk ?_
        have hS_ : shapeK kk = some (2, 26, 2) := by rw [show kk = 7 by omega]; rfl
        have hF_ := fits_val hS_ nn
        try simp only [Int.emod_one, and_true] at hF_
        have hj_ : false = fitsN kk nn := Bool.eq_iff_iff.2 (by rw [hF_]; simp <;> omega)
        exact w_joined [(5, .pointer (some ⟨g10, 0, none⟩)), (6, .bool (fitsN kk nn))] ⟨rfl, (by rw [← hj_]; rfl), trivial⟩ ⟨rfl, rfl⟩
       ·
        have l45 : (((nn : Nat) : Int) % 2) = 0 := by simpa using c43
        refine rw_on (c := ((((nn : Nat) : Int) % 2) == 0)) rfl rfl rfl (by first | (rw [c43]; rfl) | simp [c43]) ?_
        refine rv (.int .i64 ((nn : Nat) : Int)) ?_
        refine rw_on (c := ((((nn : Nat) : Int) % 2) == 0)) rfl rfl rfl (by first | (rw [c43]; rfl) | simp [c43]) ?_
        refine rz (.bool (decide (2 ≤ ((nn : Nat) : Int)))) (by simp [go_sem, sEv, sLook, nbeq, i64_w, -List.getD_eq_getElem?_getD]) ?_
        refine rz (.bool (decide (2 ≤ ((nn : Nat) : Int)))) (by first | (simp [go_sem, sEv, sLook, nbeq, i64_w, -List.getD_eq_getElem?_getD, c43]; done) | (rw [c43]; simp [go_sem, sEv, sLook, nbeq, i64_w, -List.getD_eq_getElem?_getD]; done) | (simp [go_sem, sEv, sLook, nbeq, i64_w, -List.getD_eq_getElem?_getD] <;> omega) | (simp [go_sem, sEv, sLook, nbeq, i64_w, -List.getD_eq_getElem?_getD]; intro h_; exact absurd (by omega) h_)) ?_
        refine rv (.bool (decide (2 ≤ ((nn : Nat) : Int)))) ?_
        rcases bcase (decide (2 ≤ ((nn : Nat) : Int))) with c46 | c46
        ·
         have l47 : ¬ (2 ≤ ((nn : Nat) : Int)) := of_decide_eq_false c46
         refine rw_off (c := decide (2 ≤ ((nn : Nat) : Int))) rfl rfl rfl (by first | (rw [c46]; rfl) | simp [c46]) rfl rfl ?_
         refine rw_off (c := decide (2 ≤ ((nn : Nat) : Int))) rfl rfl rfl (by first | (rw [c46]; rfl) | simp [c46]) rfl rfl ?_
         refine rz (.bool false) (by first | (simp [go_sem, sEv, sLook, nbeq, i64_w, -List.getD_eq_getElem?_getD, c46]; done) | (rw [c46]; simp [go_sem, sEv, sLook, nbeq, i64_w, -List.getD_eq_getElem?_getD]; done) | (simp [go_sem, sEv, sLook, nbeq, i64_w, -List.getD_eq_getElem?_getD] <;> omega) | (simp [go_sem, sEv, sLook, nbeq, i64_w, -List.getD_eq_getElem?_getD]; intro h_; exact absurd (by omega) h_)) ?_
         refine rv (.bool false) ?_
         refine rw_end ?_
         refine w_weaken (G' := [(4, .bool false), (5, .pointer (some ⟨g10, 0, none⟩)), (6, .bool false)]) ⟨rfl, rfl, rfl, trivial⟩ ?_
         refine w_blk ?_
         have hS_ : shapeK kk = some (2, 26, 2) := by rw [show kk = 7 by omega]; rfl
         have hF_ := fits_val hS_ nn
         try simp only [Int.emod_one, and_true] at hF_
         have hj_ : false = fitsN kk nn := Bool.eq_iff_iff.2 (by rw [hF_]; simp <;> omega)
         exact w_joined [(5, .pointer (some ⟨g10, 0, none⟩)), (6, .bool (fitsN kk nn))] ⟨rfl, (by rw [← hj_]; rfl), trivial⟩ ⟨rfl, rfl⟩
        ·
         have l48 : (2 ≤ ((nn : Nat) : Int)) := of_decide_eq_true c46
         refine rw_on (c := decide (2 ≤ ((nn : Nat) : Int))) rfl rfl rfl (by first | (rw [c46]; rfl) | simp [c46]) ?_
         refine rv (.int .i64 ((nn : Nat) : Int)) ?_
         refine rw_on (c := decide (2 ≤ ((nn : Nat) : Int))) rfl rfl rfl (by first | (rw [c46]; rfl) | simp [c46]) ?_
         refine rz (.bool (decide (((nn : Nat) : Int) ≤ 26))) (by simp [go_sem, sEv, sLook, nbeq, i64_w, -List.getD_eq_getElem?_getD]) ?_
         refine rz (.bool (decide (((nn : Nat) : Int) ≤ 26))) (by first | (simp [go_sem, sEv, sLook, nbeq, i64_w, -List.getD_eq_getElem?_getD, c46]; done) | (rw [c46]; simp [go_sem, sEv, sLook, nbeq, i64_w, -List.getD_eq_getElem?_getD]; done) | (simp [go_sem, sEv, sLook, nbeq, i64_w, -List.getD_eq_getElem?_getD] <;> omega) | (simp [go_sem, sEv, sLook, nbeq, i64_w, -List.getD_eq_getElem?_getD]; intro h_; exact absurd (by omega) h_)) ?_
         refine rv (.bool (decide (((nn : Nat) : Int) ≤ 26))) ?_
         refine rw_end ?_
         refine w_weaken (G' := [(4, .bool false), (5, .pointer (some ⟨g10, 0, none⟩)), (6, .bool (decide (((nn : Nat) : Int) ≤ 26)))]) ⟨rfl, rfl, rfl, trivial⟩ ?_
         refine w_blk ?_
         have hS_ : shapeK kk = some (2, 26, 2) := by rw [show kk = 7 by omega]; rfl
         have hF_ := fits_val hS_ nn
         try simp only [Int.emod_one, and_true] at hF_
         have hj_ : (decide (((nn : Nat) : Int) ≤ 26)) = fitsN kk nn := Bool.eq_iff_iff.2 (by rw [hF_]; simp <;> omega)
         exact w_joined [(5, .pointer (some ⟨g10, 0, none⟩)), (6, .bool (fitsN kk nn))] ⟨rfl, (by rw [← hj_]; rfl), trivial⟩ ⟨rfl, rfl⟩
      ·
       have l49 : ¬ kk = 7 := by simpa using c41
       refine w_seq ?_
       refine w_region ?_
       refine rz (.bool (kk == 8)) (by simp [go_sem, sEv, sLook, nbeq, i64_w, -List.getD_eq_getElem?_getD]) ?_
       refine rv (.bool (kk == 8)) ?_
       refine rw_end ?_
       refine w_cond rfl rfl (fun c50 => ?_) (fun c50 => ?_)
       ·
        have l51 : kk = 8 := by simpa using c50
        refine w_region ?_
        refine rv (.int .i64 ((nn : Nat) : Int)) ?_
        refine rz (.bool (((nn : Nat) : Int) == 6)) (by simp [go_sem, sEv, sLook, nbeq, i64_w, -List.getD_eq_getElem?_getD]) ?_
        refine rv (.bool (((nn : Nat) : Int) == 6)) ?_
        refine rw_end ?_
        refine w_blk ?_
        have hS_ : shapeK kk = some (6, 6, 1) := by rw [show kk = 8 by omega]; rfl
        have hF_ := fits_val hS_ nn
        try simp only [Int.emod_one, and_true] at hF_
        have hj_ : (((nn : Nat) : Int) == 6) = fitsN kk nn := Bool.eq_iff_iff.2 (by rw [hF_]; simp <;> omega)
        exact w_joined [(5, .pointer (some ⟨g10, 0, none⟩)), (6, .bool (fitsN kk nn))] ⟨rfl, (by rw [← hj_]; rfl), trivial⟩ ⟨rfl, rfl⟩
       ·
        have l52 : ¬ kk = 8 := by simpa using c50
        refine w_skip ?_
        refine w_blk ?_
        have hS_ : shapeK kk = some (4, 4, 1) := by unfold shapeK; rw [if_pos (by omega)]
        have hF_ := fits_val hS_ nn
        try simp only [Int.emod_one, and_true] at hF_
        have hj_ : (((nn : Nat) : Int) == 4) = fitsN kk nn := Bool.eq_iff_iff.2 (by rw [hF_]; simp <;> omega)
        exact w_joined [(5, .pointer (some ⟨g10, 0, none⟩)), (6, .bool (fitsN kk nn))] ⟨rfl, (by rw [← hj_]; rfl), trivial⟩ ⟨rfl, rfl⟩
 ·
  rintro _ _ ⟨rfl, rfl⟩
  refine w_seq ?_
  refine w_region ?_
  refine rz (.agg #[.int .i64 kk, .int .i64 999, .int .i64 0, .slice (some ⟨g3, 0, none⟩) nn nn, .slice none 0 0, .slice none 0 0]) (by have eb_ := hk18; have e0_ := eb_.cellv (i := 0) (v := (.int .i64 kk : Value)) rfl; have e1_ := eb_.cellv (i := 1) (v := (.int .i64 999 : Value)) rfl; have e2_ := eb_.cellv (i := 2) (v := (.int .i64 0 : Value)) rfl; have e3_ := eb_.cellv (i := 3) (v := (.slice (some ⟨g3, 0, none⟩) nn nn : Value)) rfl; have e4_ := eb_.cellv (i := 4) (v := (.slice none 0 0 : Value)) rfl; have e5_ := eb_.cellv (i := 5) (v := (.slice none 0 0 : Value)) rfl; simp [go_sem, sEv, sLook, nbeq, i64_w, -List.getD_eq_getElem?_getD, e0_, e1_, e2_, e3_, e4_, e5_, Try.underlying26]) ?_
  rcases hf_ : fitsN kk nn with _ | _
  ·
   refine rw_call rfl rfl rfl rfl (f := 15) (args := #[.agg #[.int .i64 kk, .int .i64 999, .int .i64 0, .slice (some ⟨g3, 0, none⟩) nn nn, .slice none 0 0, .slice none 0 0]]) (by simp [go_sem, sEv, sLook, nbeq, i64_w, -List.getD_eq_getElem?_getD]) (kcheck_no w16 (some ⟨g3, 0, none⟩) nn kk nn (OwnK.Cn (d := (Kd.int .i64)) (own_keep (d := (Kd.int .i64)) (OwnK.on (d := (Kd.int .i64)) hO9 hb12) hk13 (by decide) hk17)) (Nat.le_refl _) (by omega) hf_) ?_
   rintro e_ w53 ⟨rfl, hb54⟩
   refine ⟨_, rfl, ?_⟩
   have hs_w53 := hb54.size
   refine rv (errT (some 2)) ?_
   refine rw_end ?_
   refine w_seq ?_
   refine w_region ?_
   refine rv (errT (some 2)) ?_
   refine rz (.bool ((some 2).isNone)) (run_as (guard_err_eq0 _ (some 2) _)) ?_
   refine rv (.bool false) ?_
   refine rz (.bool (((some 2).isNone) == false)) (by first | (simp [go_sem, sEv, sLook, nbeq, i64_w, -List.getD_eq_getElem?_getD]; done) | (simp [go_sem, sEv, sLook, nbeq, i64_w, -List.getD_eq_getElem?_getD] <;> cases h0_ : (some 2).isNone <;> rfl)) ?_
   refine rv (.bool (((some 2).isNone) == false)) ?_
   rcases bcase (((some 2).isNone) == false) with c55 | c55
   ·
    refine rw_off (c := (((some 2).isNone) == false)) rfl rfl rfl (by first | (rw [c55]; rfl) | simp [c55]) rfl rfl ?_
    refine rw_off (c := (((some 2).isNone) == false)) rfl rfl rfl (by first | (rw [c55]; rfl) | simp [c55]) rfl rfl ?_
    refine rw_offu rfl rfl rfl rfl rfl ?_
    refine rw_offu rfl rfl rfl rfl rfl ?_
    refine rw_offu rfl rfl rfl rfl rfl ?_
    refine rw_off (c := (((some 2).isNone) == false)) rfl rfl rfl (by first | (rw [c55]; rfl) | simp [c55]) rfl rfl ?_
    refine rz (.bool false) (by first | (simp [go_sem, sEv, sLook, nbeq, i64_w, -List.getD_eq_getElem?_getD, c55]; done) | (rw [c55]; simp [go_sem, sEv, sLook, nbeq, i64_w, -List.getD_eq_getElem?_getD]; done) | (simp [go_sem, sEv, sLook, nbeq, i64_w, -List.getD_eq_getElem?_getD] <;> omega) | (simp [go_sem, sEv, sLook, nbeq, i64_w, -List.getD_eq_getElem?_getD]; intro h_; exact absurd (by omega) h_)) ?_
    refine rv (.bool false) ?_
    refine rw_end ?_
    refine w_weaken (G' := [(4, .bool false)]) ⟨rfl, trivial⟩ ?_
    refine w_ret (post_ret1 rfl rfl ?_)
    exact ⟨by first | rfl | (exfalso; simp at c55; done) | simp_all, (chain (hk17.below (by omega) (chain (chain hb2 hb5) hb12)) hb54)⟩
   ·
    refine rw_on (c := (((some 2).isNone) == false)) rfl rfl rfl (by first | (rw [c55]; rfl) | simp [c55]) ?_
    refine rv (.bool false) ?_
    refine rw_on (c := (((some 2).isNone) == false)) rfl rfl rfl (by first | (rw [c55]; rfl) | simp [c55]) ?_
    refine rv (.bool false) ?_
    refine rw_on (c := false) rfl rfl rfl rfl ?_
    refine rv (errT (some 2)) ?_
    refine rw_on (c := false) rfl rfl rfl rfl ?_
    refine rz (errT (some 2)) (by simp [go_sem, sEv, sLook, nbeq, i64_w, -List.getD_eq_getElem?_getD, errT]) ?_
    refine rw_on (c := false) rfl rfl rfl rfl ?_
    refine rz (.bool true) (run_bool (run_as (guard_err_eql _ _ (some 2) 2 _)) (by decide)) ?_
    refine rw_on (c := (((some 2).isNone) == false)) rfl rfl rfl (by first | (rw [c55]; rfl) | simp [c55]) ?_
    refine rz (.bool true) (by simp [go_sem, sEv, sLook, nbeq, i64_w, -List.getD_eq_getElem?_getD]) ?_
    refine rz (.bool true) (by first | (simp [go_sem, sEv, sLook, nbeq, i64_w, -List.getD_eq_getElem?_getD, c55]; done) | (rw [c55]; simp [go_sem, sEv, sLook, nbeq, i64_w, -List.getD_eq_getElem?_getD]; done) | (simp [go_sem, sEv, sLook, nbeq, i64_w, -List.getD_eq_getElem?_getD] <;> omega) | (simp [go_sem, sEv, sLook, nbeq, i64_w, -List.getD_eq_getElem?_getD]; intro h_; exact absurd (by omega) h_)) ?_
    refine rv (.bool true) ?_
    refine rw_end ?_
    refine w_weaken (G' := [(4, .bool true)]) ⟨rfl, trivial⟩ ?_
    refine w_ret (post_ret1 rfl rfl ?_)
    exact ⟨by first | rfl | (exfalso; simp at c55; done) | simp_all, (chain (hk17.below (by omega) (chain (chain hb2 hb5) hb12)) hb54)⟩
  ·
   refine rw_call rfl rfl rfl rfl (f := 15) (args := #[.agg #[.int .i64 kk, .int .i64 999, .int .i64 0, .slice (some ⟨g3, 0, none⟩) nn nn, .slice none 0 0, .slice none 0 0]]) (by simp [go_sem, sEv, sLook, nbeq, i64_w, -List.getD_eq_getElem?_getD]) (kcheck_yes w16 (some ⟨g3, 0, none⟩) nn kk nn (OwnK.Cn (d := (Kd.int .i64)) (own_keep (d := (Kd.int .i64)) (OwnK.on (d := (Kd.int .i64)) hO9 hb12) hk13 (by decide) hk17)) (Nat.le_refl _) (by omega) hf_) ?_
   rintro e_ w56 ⟨rfl, hb57⟩
   refine ⟨_, rfl, ?_⟩
   have hs_w56 := hb57.size
   refine rv .nilIface ?_
   refine rw_end ?_
   refine w_seq ?_
   refine w_region ?_
   refine rv .nilIface ?_
   refine rz (.bool ((none : Option Int).isNone)) (run_as (guard_err_eq0 _ (none : Option Int) _)) ?_
   refine rv (.bool true) ?_
   refine rz (.bool (((none : Option Int).isNone) == true)) (by first | (simp [go_sem, sEv, sLook, nbeq, i64_w, -List.getD_eq_getElem?_getD]; done) | (simp [go_sem, sEv, sLook, nbeq, i64_w, -List.getD_eq_getElem?_getD] <;> cases h0_ : (none : Option Int).isNone <;> rfl)) ?_
   refine rv (.bool (((none : Option Int).isNone) == true)) ?_
   rcases bcase (((none : Option Int).isNone) == true) with c58 | c58
   ·
    refine rw_off (c := (((none : Option Int).isNone) == true)) rfl rfl rfl (by first | (rw [c58]; rfl) | simp [c58]) rfl rfl ?_
    refine rw_off (c := (((none : Option Int).isNone) == true)) rfl rfl rfl (by first | (rw [c58]; rfl) | simp [c58]) rfl rfl ?_
    refine rw_offu rfl rfl rfl rfl rfl ?_
    refine rw_offu rfl rfl rfl rfl rfl ?_
    refine rw_offu rfl rfl rfl rfl rfl ?_
    refine rw_off (c := (((none : Option Int).isNone) == true)) rfl rfl rfl (by first | (rw [c58]; rfl) | simp [c58]) rfl rfl ?_
    refine rz (.bool false) (by first | (simp [go_sem, sEv, sLook, nbeq, i64_w, -List.getD_eq_getElem?_getD, c58]; done) | (rw [c58]; simp [go_sem, sEv, sLook, nbeq, i64_w, -List.getD_eq_getElem?_getD]; done) | (simp [go_sem, sEv, sLook, nbeq, i64_w, -List.getD_eq_getElem?_getD] <;> omega) | (simp [go_sem, sEv, sLook, nbeq, i64_w, -List.getD_eq_getElem?_getD]; intro h_; exact absurd (by omega) h_)) ?_
    refine rv (.bool false) ?_
    refine rw_end ?_
    refine w_weaken (G' := [(4, .bool false)]) ⟨rfl, trivial⟩ ?_
    refine w_ret (post_ret1 rfl rfl ?_)
    exact ⟨by first | rfl | (exfalso; simp at c58; done) | simp_all, (chain (hk17.below (by omega) (chain (chain hb2 hb5) hb12)) hb57)⟩
   ·
    refine rw_on (c := (((none : Option Int).isNone) == true)) rfl rfl rfl (by first | (rw [c58]; rfl) | simp [c58]) ?_
    refine rv (.bool true) ?_
    refine rw_on (c := (((none : Option Int).isNone) == true)) rfl rfl rfl (by first | (rw [c58]; rfl) | simp [c58]) ?_
    refine rv (.bool true) ?_
    refine rw_off (c := true) rfl rfl rfl rfl rfl rfl ?_
    refine rw_off (c := true) rfl rfl rfl rfl rfl rfl ?_
    refine rw_off (c := true) rfl rfl rfl rfl rfl rfl ?_
    refine rw_on (c := (((none : Option Int).isNone) == true)) rfl rfl rfl (by first | (rw [c58]; rfl) | simp [c58]) ?_
    refine rz (.bool true) (by simp [go_sem, sEv, sLook, nbeq, i64_w, -List.getD_eq_getElem?_getD]) ?_
    refine rz (.bool true) (by first | (simp [go_sem, sEv, sLook, nbeq, i64_w, -List.getD_eq_getElem?_getD, c58]; done) | (rw [c58]; simp [go_sem, sEv, sLook, nbeq, i64_w, -List.getD_eq_getElem?_getD]; done) | (simp [go_sem, sEv, sLook, nbeq, i64_w, -List.getD_eq_getElem?_getD] <;> omega) | (simp [go_sem, sEv, sLook, nbeq, i64_w, -List.getD_eq_getElem?_getD]; intro h_; exact absurd (by omega) h_)) ?_
    refine rv (.bool true) ?_
    refine rw_end ?_
    refine w_weaken (G' := [(4, .bool true)]) ⟨rfl, trivial⟩ ?_
    refine w_ret (post_ret1 rfl rfl ?_)
    exact ⟨by first | rfl | (exfalso; simp at c58; done) | simp_all, (chain (hk17.below (by omega) (chain (chain hb2 hb5) hb12)) hb57)⟩
end Go.Proofs.Ytbbhdohjhipalaa.Ce
end
