/- One sample's cell; two cells joined: the walks. -/
import Derived.Test.YtheaipbnbnjlgaaCeEq
namespace Go.Proofs.Ytheaipbnbnjlgaa.Ce
open Go.RowKit Go.Proofs.YtheaipbnbnjlgaaW.PrintWords Go.Proofs.YtheaipbnbnjlgaaW.PrintLast Go.Proofs.YtheaipbnbnjlgaaW.PrintMore
open Go.Proofs.Ytheaipbnbnjlgaa.Flow
set_option linter.unusedVariables false
set_option linter.unusedSimpArgs false


theorem load_el {w : World} {ad : Addr} {k : Nat} {c : CL} (h : ∀ j u, (encC c)[j]? = some u → w.cell? (ad.add (k + j)) = some u) : (Instr.loadAt 31 (.pointer (some (ad.add k)))).run Try.prog w = .ok (.agg (carr c)) w := by
  have h1 := run_loadCells_list (P := Try.prog) w (ad.add k) (encC c) (fun j v hj => by rw [Addr.add_add]; exact h j v hj)
  rw [encC_len] at h1
  have ex : (carr c) = (encC c).toArray := rfl
  have ha : (isAgg 31).run Try.prog w = .ok true w := by kernel_rfl
  have hs : (sizeOf 31).run Try.prog w = .ok 74 w := by kernel_rfl
  unfold loadCells at h1
  rw [ex]
  simp only [Instr.loadAt, Instr.sureAddr, loadVar, Sem.run_bind, ha, hs, Result.andThen_ok, if_true, Sem.run_pure, loadCells, h1]
set_option maxHeartbeats 4000000 in
theorem unit_calls (w : World) :
    Calls Try.prog 14 #[] w fun e w' => e = .returned (.agg (carr CL.unit)) ∧ Below w.heap.size w w' := by
  refine calls_flow Try.func14 rfl 2 rfl (Nat.le_of_ble_eq_true rfl) [] ?_ ?_
  · intro t v h; exact args_look rfl t v h
  refine w_seq ?_
  refine w_region ?_
  refine rw_new (cs := carr CL.unit) (t := 31) (fun g => .pointer (some ⟨g, 0, none⟩)) rfl rfl rfl rfl (by kernel_rfl) ?_
  intro g1 w2 hg6 hz5 hb3 hk4
  have hs_w2 := hb3.size
  refine rw_end ?_
  refine w_seq ?_
  refine w_region ?_
  refine rw_val (v := .agg (carr CL.unit)) (w' := w2) rfl rfl rfl rfl (by kernel_rfl) ?_
  refine rw_seg (g := g1) (off := 0) (ty := 31) (p := .tmp 0) (x := .tmp 1) (v := .agg (carr CL.unit)) (cs' := carr CL.unit) rfl rfl rfl rfl rfl rfl hk4 (by show (sizeOf 31).run _ _ = .ok (carr _).size _; rw [carr_size]; kernel_rfl) (Nat.le_of_eq (by rw [Nat.zero_add]; exact (carr_size _).trans (carr_size _).symm)) (encC_one _) (seg_all CL.unit CL.unit) ?_
  intro w7 hk8 hb9
  have hs_w7 := hk8.size
  refine rw_end ?_
  refine w_ret (post_retc (v := .agg (carr CL.unit)) rfl rfl (load_cell (c := CL.unit) hb9) ?_)
  exact ⟨rfl, (hk8.below (by omega) hb3)⟩
set_option maxHeartbeats 4000000 in
theorem one_calls (w : World) (src seq kd t key v : Int) (hv : -9223372036854775808 ≤ v ∧ v ≤ 9223372036854775807) :
    Calls Try.prog 23 #[.int .i64 src, .agg #[.int .i64 seq, .int .i64 kd, .int .i64 t, .int .i64 key, .int .i64 v]] w fun e w' => e = .returned (.agg (carr (oneC src seq t v))) ∧ Below w.heap.size w w' := by
  refine calls_flow Try.func23 rfl 28 rfl (Nat.le_of_ble_eq_true rfl) [(0, .int .i64 src), (1, .agg #[.int .i64 seq, .int .i64 kd, .int .i64 t, .int .i64 key, .int .i64 v])] ?_ ?_
  · intro t v h; exact args_look rfl t v h
  refine w_seq ?_
  refine w_region ?_
  refine rw_new (cs := #[.int .i64 seq, .int .i64 kd, .int .i64 t, .int .i64 key, .int .i64 v]) (t := 44) (fun g => .pointer (some ⟨g, 0, none⟩)) rfl rfl rfl rfl (by simp [go_sem, sEv, sLook, nbeq, i64_w, -List.getD_eq_getElem?_getD]) ?_
  intro g1 w2 hg6 hz5 hb3 hk4
  have hs_w2 := hb3.size
  refine rw_new (cs := carr CL.unit) (t := 31) (fun g => .pointer (some ⟨g, 0, none⟩)) rfl rfl rfl rfl (by kernel_rfl) ?_
  intro g7 w8 hg12 hz11 hb9 hk10
  have hs_w8 := hb9.size
  refine rw_end ?_
  refine w_seq ?_
  refine w_drawk (M := [0, 1, 3, 0, 8, 0, 32, 0, 128, 0, 0, 1024, 0, 4096, 16256, 32767, 0, 131071]) (ss := [Is (.pointer (some ⟨g1, 4, none⟩)), Is (.int .i64 v), (Is (.agg #[.int .i64 (v / 9223372036854775808), .int .u64 (v % 18446744073709551616)])), Is (.pointer (some ⟨g1, 4, none⟩)), Is (.int .i64 v), Is (.pointer (some ⟨g1, 4, none⟩)), Is (.int .i64 v), Is (.pointer (some ⟨g1, 2, none⟩)), Is (.int .i64 t), Is (.int .i64 src), Is (.pointer (some ⟨g1, 0, none⟩)), Is (.int .i64 seq), Is (.pointer (some ⟨g1, 4, none⟩)), Is (.int .i64 v), Is (.agg #[.int .i64 t, .int .i64 src, .int .i64 seq, .int .i64 v]), Is (.agg (carr (⟨1, (v / 9223372036854775808), (v % 18446744073709551616), v, v, t, src, seq, v, (fun _ => 0)⟩ : CL))), BlkSpec w8.heap.size 31 (carr CL.unit)]) 17 rfl (by decide +kernel) ?_
  refine t_is (.pointer (some ⟨g1, 4, none⟩)) rfl rfl rfl rfl (fun W_ hW_ F_ => by simp [go_sem, sEv, sLook, nbeq, i64_w, -List.getD_eq_getElem?_getD, Try.underlying44]) ?_
  refine t_is (.int .i64 v) rfl rfl rfl rfl (fun W_ hW_ F_ => by have eb_ := ((hk4.on hb9).on (below_of_drew hW_)); have e0_ := eb_.cellv (i := 4) (v := (.int .i64 v : Value)) rfl; simp [go_sem, sEv, sLook, nbeq, i64_w, -List.getD_eq_getElem?_getD, e0_]) ?_
  refine t_call (f := 32) (args := #[.int .i64 v]) (Is (.agg #[.int .i64 (v / 9223372036854775808), .int .u64 (v % 18446744073709551616)])) rfl rfl rfl rfl (fun W_ => by simp [go_sem, sEv, sLook, nbeq, i64_w, -List.getD_eq_getElem?_getD]) (fun W_ hW_ F_ => ?_) ?_
  · refine (of_calls v W_).mono ?_
    rintro e_ w_ ⟨rfl, hb_⟩
    exact ⟨_, rfl, rfl, hb_⟩
  rintro _ rfl
  refine t_is (.pointer (some ⟨g1, 4, none⟩)) rfl rfl rfl rfl (fun W_ hW_ F_ => by simp [go_sem, sEv, sLook, nbeq, i64_w, -List.getD_eq_getElem?_getD, Try.underlying44]) ?_
  refine t_is (.int .i64 v) rfl rfl rfl rfl (fun W_ hW_ F_ => by have eb_ := ((hk4.on hb9).on (below_of_drew hW_)); have e0_ := eb_.cellv (i := 4) (v := (.int .i64 v : Value)) rfl; simp [go_sem, sEv, sLook, nbeq, i64_w, -List.getD_eq_getElem?_getD, e0_]) ?_
  refine t_is (.pointer (some ⟨g1, 4, none⟩)) rfl rfl rfl rfl (fun W_ hW_ F_ => by simp [go_sem, sEv, sLook, nbeq, i64_w, -List.getD_eq_getElem?_getD, Try.underlying44]) ?_
  refine t_is (.int .i64 v) rfl rfl rfl rfl (fun W_ hW_ F_ => by have eb_ := ((hk4.on hb9).on (below_of_drew hW_)); have e0_ := eb_.cellv (i := 4) (v := (.int .i64 v : Value)) rfl; simp [go_sem, sEv, sLook, nbeq, i64_w, -List.getD_eq_getElem?_getD, e0_]) ?_
  refine t_is (.pointer (some ⟨g1, 2, none⟩)) rfl rfl rfl rfl (fun W_ hW_ F_ => by simp [go_sem, sEv, sLook, nbeq, i64_w, -List.getD_eq_getElem?_getD, Try.underlying44]) ?_
  refine t_is (.int .i64 t) rfl rfl rfl rfl (fun W_ hW_ F_ => by have eb_ := ((hk4.on hb9).on (below_of_drew hW_)); have e0_ := eb_.cellv (i := 2) (v := (.int .i64 t : Value)) rfl; simp [go_sem, sEv, sLook, nbeq, i64_w, -List.getD_eq_getElem?_getD, e0_]) ?_
  refine t_is (.int .i64 src) rfl rfl rfl rfl (fun W_ hW_ F_ => rfl) ?_
  refine t_is (.pointer (some ⟨g1, 0, none⟩)) rfl rfl rfl rfl (fun W_ hW_ F_ => by simp [go_sem, sEv, sLook, nbeq, i64_w, -List.getD_eq_getElem?_getD, Try.underlying44]) ?_
  refine t_is (.int .i64 seq) rfl rfl rfl rfl (fun W_ hW_ F_ => by have eb_ := ((hk4.on hb9).on (below_of_drew hW_)); have e0_ := eb_.cellv (i := 0) (v := (.int .i64 seq : Value)) rfl; simp [go_sem, sEv, sLook, nbeq, i64_w, -List.getD_eq_getElem?_getD, e0_]) ?_
  refine t_is (.pointer (some ⟨g1, 4, none⟩)) rfl rfl rfl rfl (fun W_ hW_ F_ => by simp [go_sem, sEv, sLook, nbeq, i64_w, -List.getD_eq_getElem?_getD, Try.underlying44]) ?_
  refine t_is (.int .i64 v) rfl rfl rfl rfl (fun W_ hW_ F_ => by have eb_ := ((hk4.on hb9).on (below_of_drew hW_)); have e0_ := eb_.cellv (i := 4) (v := (.int .i64 v : Value)) rfl; simp [go_sem, sEv, sLook, nbeq, i64_w, -List.getD_eq_getElem?_getD, e0_]) ?_
  refine t_is (.agg #[.int .i64 t, .int .i64 src, .int .i64 seq, .int .i64 v]) rfl rfl rfl rfl (fun W_ hW_ F_ => by kernel_rfl) ?_
  refine t_is (.agg (carr (⟨1, (v / 9223372036854775808), (v % 18446744073709551616), v, v, t, src, seq, v, (fun _ => 0)⟩ : CL))) rfl rfl rfl rfl (fun W_ hW_ F_ => (by kernel_rfl)) ?_
  refine t_val (BlkSpec w8.heap.size 31 (carr CL.unit)) rfl rfl rfl rfl (fun W_ hW_ F_ => blk_gives _ _ _ (below_of_drew hW_).size (by kernel_rfl)) ?_
  rintro _ ⟨g13, rfl⟩
  refine t_tail ?_
  intro w16 hb17_ F18
  have hb17 := below_of_drew hb17_
  have hs_w16 := hb17.size
  obtain ⟨hge15, hk14⟩ := blk_fact (F18 16 _ _ rfl)
  have hlt_g13 := hk14.lt
  refine rw_seg (g := g13) (off := 0) (ty := 31) (p := .tmp 5) (x := .tmp 21) (v := .agg (carr (⟨1, (v / 9223372036854775808), (v % 18446744073709551616), v, v, t, src, seq, v, (fun _ => 0)⟩ : CL))) (cs' := carr (⟨1, (v / 9223372036854775808), (v % 18446744073709551616), v, v, t, src, seq, v, (fun _ => 0)⟩ : CL)) rfl rfl rfl rfl rfl rfl hk14 (by show (sizeOf 31).run _ _ = .ok (carr _).size _; rw [carr_size]; kernel_rfl) (Nat.le_of_eq (by rw [Nat.zero_add]; exact (carr_size _).trans (carr_size _).symm)) (encC_one _) (seg_all CL.unit (⟨1, (v / 9223372036854775808), (v % 18446744073709551616), v, v, t, src, seq, v, (fun _ => 0)⟩ : CL)) ?_
  intro w19 hk20 hb21
  have hs_w19 := hk20.size
  refine rw_end ?_
  refine w_weaken (G' := [(3, .pointer (some ⟨g1, 0, none⟩)), (4, .pointer (some ⟨g7, 0, none⟩)), (5, .pointer (some ⟨g13, 0, none⟩))]) ⟨rfl, rfl, rfl, trivial⟩ ?_
  refine w_seq ?_
  refine w_region ?_
  refine rw_val (v := .pointer (some ⟨g1, 4, none⟩)) (w' := w19) rfl rfl rfl rfl (by simp [go_sem, sEv, sLook, nbeq, i64_w, -List.getD_eq_getElem?_getD, Try.underlying44]) ?_
  refine rw_val (v := .int .i64 v) (w' := w19) rfl rfl rfl rfl (by have eb_ := (((hk4.on hb9).on hb17).keep hk20 (by omega)); have e0_ := eb_.cellv (i := 4) (v := (.int .i64 v : Value)) rfl; simp [go_sem, sEv, sLook, nbeq, i64_w, -List.getD_eq_getElem?_getD, e0_]) ?_
  refine rw_call rfl rfl rfl rfl (f := 33) (args := #[.int .i64 v]) (by simp [go_sem, sEv, sLook, nbeq, i64_w, -List.getD_eq_getElem?_getD]) (bits_calls v hv w19) ?_
  rintro e_ w22 ⟨rfl, hb23⟩
  refine ⟨_, rfl, ?_⟩
  have hs_w22 := hb23.size
  have hbl_ := blen_64 v hv
  refine rw_val (v := .pointer (some ⟨g13, 9, none⟩)) (w' := w22) rfl rfl rfl rfl (by simp [go_sem, sEv, sLook, nbeq, i64_w, -List.getD_eq_getElem?_getD, Try.underlying31]) ?_
  refine rw_val (v := .pointer (some ⟨g13, 9 + (blen v.natAbs), none⟩)) (w' := w22) rfl rfl rfl rfl (run_as (addr_hist (blen v.natAbs) (by omega) _)) ?_
  refine rw_seg (g := g13) (off := (9 + (blen v.natAbs))) (ty := 3) (p := .tmp 26) (x := .const (.int .i64 1)) (v := .int .i64 1) (cs' := carr (⟨1, (v / 9223372036854775808), (v % 18446744073709551616), v, v, t, src, seq, v, (updF (fun _ => 0) (blen v.natAbs) 1)⟩ : CL)) rfl rfl rfl rfl rfl rfl (hb21.on hb23) (by kernel_rfl) (by rw [carr_size]; simp [Value.cells] <;> omega) (by intro q hq; simp only [List.mem_cons, List.not_mem_nil, or_false, Value.cells] at hq; (first | (rcases hq with rfl | rfl | rfl | rfl <;> rfl) | (rcases hq with rfl | rfl <;> rfl) | (subst hq; rfl))) (seg_h (⟨1, (v / 9223372036854775808), (v % 18446744073709551616), v, v, t, src, seq, v, (fun _ => 0)⟩ : CL) (blen v.natAbs) (by omega) 1) ?_
  intro w24 hk25 hb26
  have hs_w24 := hk25.size
  refine rw_end ?_
  refine w_weaken (G' := [(4, .pointer (some ⟨g7, 0, none⟩)), (5, .pointer (some ⟨g13, 0, none⟩))]) ⟨rfl, rfl, trivial⟩ ?_
  refine w_seq ?_
  refine w_region ?_
  refine rw_val (v := .agg (carr (⟨1, (v / 9223372036854775808), (v % 18446744073709551616), v, v, t, src, seq, v, (updF (fun _ => 0) (blen v.natAbs) 1)⟩ : CL))) (w' := w24) rfl rfl rfl rfl (run_as (load_cell (c := (⟨1, (v / 9223372036854775808), (v % 18446744073709551616), v, v, t, src, seq, v, (updF (fun _ => 0) (blen v.natAbs) 1)⟩ : CL)) hb26)) ?_
  refine rw_seg (g := g7) (off := 0) (ty := 31) (p := .tmp 4) (x := .tmp 27) (v := .agg (carr (⟨1, (v / 9223372036854775808), (v % 18446744073709551616), v, v, t, src, seq, v, (updF (fun _ => 0) (blen v.natAbs) 1)⟩ : CL))) (cs' := carr (⟨1, (v / 9223372036854775808), (v % 18446744073709551616), v, v, t, src, seq, v, (updF (fun _ => 0) (blen v.natAbs) 1)⟩ : CL)) rfl rfl rfl rfl rfl rfl ((((hk10.on hb17).keep hk20 (by omega)).on hb23).keep hk25 (by omega)) (by show (sizeOf 31).run _ _ = .ok (carr _).size _; rw [carr_size]; kernel_rfl) (Nat.le_of_eq (by rw [Nat.zero_add]; exact (carr_size _).trans (carr_size _).symm)) (encC_one _) (seg_all CL.unit (⟨1, (v / 9223372036854775808), (v % 18446744073709551616), v, v, t, src, seq, v, (updF (fun _ => 0) (blen v.natAbs) 1)⟩ : CL)) ?_
  intro w27 hk28 hb29
  have hs_w27 := hk28.size
  refine rw_end ?_
  refine w_ret (post_retc (v := .agg (carr (⟨1, (v / 9223372036854775808), (v % 18446744073709551616), v, v, t, src, seq, v, (updF (fun _ => 0) (blen v.natAbs) 1)⟩ : CL))) rfl rfl (load_cell (c := (⟨1, (v / 9223372036854775808), (v % 18446744073709551616), v, v, t, src, seq, v, (updF (fun _ => 0) (blen v.natAbs) 1)⟩ : CL)) hb29) ?_)
  exact ⟨rfl, (hk28.below (by omega) (hk25.below (by omega) (chain (hk20.below (by omega) (chain (chain hb3 hb9) hb17)) hb23)))⟩
set_option maxHeartbeats 4000000 in
theorem two_calls (w : World) (a b : CL) (ha : 0 ≤ a.lo ∧ a.lo < 18446744073709551616) (hb0 : 0 ≤ b.lo ∧ b.lo < 18446744073709551616) :
    Calls Try.prog 24 #[.agg (carr a), .agg (carr b)] w fun e w' => e = .returned (.agg (carr (twoC a b))) ∧ Below w.heap.size w w' := by
  refine calls_flow Try.func24 rfl 55 rfl (Nat.le_of_ble_eq_true rfl) [(0, .agg (carr a)), (1, .agg (carr b))] ?_ ?_
  · intro t v h; exact args_look rfl t v h
  refine w_seq ?_
  refine w_region ?_
  refine rw_new (cs := carr a) (t := 31) (fun g => .pointer (some ⟨g, 0, none⟩)) rfl rfl rfl rfl (by simp [go_sem, sEv, sLook, nbeq, i64_w, -List.getD_eq_getElem?_getD]) ?_
  intro g1 w2 hg6 hz5 hb3 hk4
  have hs_w2 := hb3.size
  refine rw_new (cs := carr b) (t := 31) (fun g => .pointer (some ⟨g, 0, none⟩)) rfl rfl rfl rfl (by simp [go_sem, sEv, sLook, nbeq, i64_w, -List.getD_eq_getElem?_getD]) ?_
  intro g7 w8 hg12 hz11 hb9 hk10
  have hs_w8 := hb9.size
  refine rw_new (cs := carr CL.unit) (t := 31) (fun g => .pointer (some ⟨g, 0, none⟩)) rfl rfl rfl rfl (by kernel_rfl) ?_
  intro g13 w14 hg18 hz17 hb15 hk16
  have hs_w14 := hb15.size
  refine rw_end ?_
  refine w_seq ?_
  refine w_region ?_
  refine rw_val (v := .pointer (some ⟨g1, 0, none⟩)) (w' := w14) rfl rfl rfl rfl (by simp [go_sem, sEv, sLook, nbeq, i64_w, -List.getD_eq_getElem?_getD, Try.underlying31]) ?_
  refine rw_val (v := .int .i64 a.cnt) (w' := w14) rfl rfl rfl rfl (by have eb_ := ((hk4.on hb9).on hb15); have e0_ := eb_.cellv (v := .int .i64 a.cnt) (cA0 a); simp [go_sem, sEv, sLook, nbeq, i64_w, -List.getD_eq_getElem?_getD, e0_]) ?_
  refine rw_val (v := .pointer (some ⟨g7, 0, none⟩)) (w' := w14) rfl rfl rfl rfl (by simp [go_sem, sEv, sLook, nbeq, i64_w, -List.getD_eq_getElem?_getD, Try.underlying31]) ?_
  refine rw_val (v := .int .i64 b.cnt) (w' := w14) rfl rfl rfl rfl (by have eb_ := (hk10.on hb15); have e0_ := eb_.cellv (v := .int .i64 b.cnt) (cA0 b); simp [go_sem, sEv, sLook, nbeq, i64_w, -List.getD_eq_getElem?_getD, e0_]) ?_
  refine rw_val (v := .int .i64 (wrap64 (a.cnt + b.cnt))) (w' := w14) rfl rfl rfl rfl (by simp [go_sem, sEv, sLook, nbeq, i64_w, -List.getD_eq_getElem?_getD]) ?_
  refine rw_val (v := .pointer (some ⟨g1, 0, none⟩)) (w' := w14) rfl rfl rfl rfl (by simp [go_sem, sEv, sLook, nbeq, i64_w, -List.getD_eq_getElem?_getD, Try.underlying31]) ?_
  refine rw_seg (g := g1) (off := 0) (ty := 3) (p := .tmp 12) (x := .tmp 11) (v := .int .i64 (wrap64 (a.cnt + b.cnt))) (cs' := carr (⟨wrap64 (a.cnt + b.cnt), a.hi, a.lo, a.mn, a.mx, a.t, a.src, a.seq, a.v, a.h⟩ : CL)) rfl rfl rfl rfl rfl rfl ((hk4.on hb9).on hb15) (by kernel_rfl) (by rw [carr_size]; simp [Value.cells] <;> omega) (by intro q hq; simp only [List.mem_cons, List.not_mem_nil, or_false, Value.cells] at hq; (first | (rcases hq with rfl | rfl | rfl | rfl <;> rfl) | (rcases hq with rfl | rfl <;> rfl) | (subst hq; rfl))) (seg_cnt a (wrap64 (a.cnt + b.cnt))) ?_
  intro w19 hk20 hb21
  have hs_w19 := hk20.size
  refine rw_end ?_
  refine w_weaken (G' := [(2, .pointer (some ⟨g1, 0, none⟩)), (3, .pointer (some ⟨g7, 0, none⟩)), (4, .pointer (some ⟨g13, 0, none⟩))]) ⟨rfl, rfl, rfl, trivial⟩ ?_
  refine w_seq ?_
  refine w_region ?_
  refine rw_val (v := .pointer (some ⟨g1, 1, none⟩)) (w' := w19) rfl rfl rfl rfl (by simp [go_sem, sEv, sLook, nbeq, i64_w, -List.getD_eq_getElem?_getD, Try.underlying31]) ?_
  refine rw_val (v := .agg #[.int .i64 a.hi, .int .u64 a.lo]) (w' := w19) rfl rfl rfl rfl (by have eb_ := hb21; have e0_ := eb_.cellv (v := .int .i64 a.hi) (cA1 (⟨wrap64 (a.cnt + b.cnt), a.hi, a.lo, a.mn, a.mx, a.t, a.src, a.seq, a.v, a.h⟩ : CL)); have e1_ := eb_.cellv (v := .int .u64 a.lo) (cA2 (⟨wrap64 (a.cnt + b.cnt), a.hi, a.lo, a.mn, a.mx, a.t, a.src, a.seq, a.v, a.h⟩ : CL)); simp [go_sem, sEv, sLook, nbeq, i64_w, -List.getD_eq_getElem?_getD, e0_, e1_, Try.underlying26]) ?_
  refine rw_val (v := .pointer (some ⟨g7, 1, none⟩)) (w' := w19) rfl rfl rfl rfl (by simp [go_sem, sEv, sLook, nbeq, i64_w, -List.getD_eq_getElem?_getD, Try.underlying31]) ?_
  refine rw_val (v := .agg #[.int .i64 b.hi, .int .u64 b.lo]) (w' := w19) rfl rfl rfl rfl (by have eb_ := ((hk10.on hb15).keep hk20 (by omega)); have e0_ := eb_.cellv (v := .int .i64 b.hi) (cA1 b); have e1_ := eb_.cellv (v := .int .u64 b.lo) (cA2 b); simp [go_sem, sEv, sLook, nbeq, i64_w, -List.getD_eq_getElem?_getD, e0_, e1_, Try.underlying26]) ?_
  refine rw_call rfl rfl rfl rfl (f := 34) (args := #[.agg #[.int .i64 a.hi, .int .u64 a.lo], .agg #[.int .i64 b.hi, .int .u64 b.lo]]) (by simp [go_sem, sEv, sLook, nbeq, i64_w, -List.getD_eq_getElem?_getD]) (add_calls a.hi a.lo b.hi b.lo (by first | assumption | omega) (by first | assumption | omega) w19) ?_
  rintro e_ w22 ⟨rfl, hb23⟩
  refine ⟨_, rfl, ?_⟩
  have hs_w22 := hb23.size
  refine rw_val (v := .pointer (some ⟨g1, 1, none⟩)) (w' := w22) rfl rfl rfl rfl (by simp [go_sem, sEv, sLook, nbeq, i64_w, -List.getD_eq_getElem?_getD, Try.underlying31]) ?_
  refine rw_seg (g := g1) (off := 1) (ty := 26) (p := .tmp 18) (x := .tmp 17) (v := .agg #[.int .i64 (wrap64 (a.hi + b.hi + (a.lo + b.lo) / 18446744073709551616)), .int .u64 ((a.lo + b.lo) % 18446744073709551616)]) (cs' := carr (⟨wrap64 (a.cnt + b.cnt), (wrap64 (a.hi + b.hi + (a.lo + b.lo) / 18446744073709551616)), ((a.lo + b.lo) % 18446744073709551616), a.mn, a.mx, a.t, a.src, a.seq, a.v, a.h⟩ : CL)) rfl rfl rfl rfl rfl rfl (hb21.on hb23) (by kernel_rfl) (by rw [carr_size]; simp [Value.cells] <;> omega) (by intro q hq; simp only [List.mem_cons, List.not_mem_nil, or_false, Value.cells] at hq; (first | (rcases hq with rfl | rfl | rfl | rfl <;> rfl) | (rcases hq with rfl | rfl <;> rfl) | (subst hq; rfl))) (seg_sum (⟨wrap64 (a.cnt + b.cnt), a.hi, a.lo, a.mn, a.mx, a.t, a.src, a.seq, a.v, a.h⟩ : CL) (wrap64 (a.hi + b.hi + (a.lo + b.lo) / 18446744073709551616)) ((a.lo + b.lo) % 18446744073709551616)) ?_
  intro w24 hk25 hb26
  have hs_w24 := hk25.size
  refine rw_end ?_
  refine w_weaken (G' := [(2, .pointer (some ⟨g1, 0, none⟩)), (3, .pointer (some ⟨g7, 0, none⟩)), (4, .pointer (some ⟨g13, 0, none⟩))]) ⟨rfl, rfl, rfl, trivial⟩ ?_
  refine w_seq ?_
  refine w_drawm (M := [0, 1, 0, 4, 15, 0, 32, 0, 128, 480, 127, 1151, 4095, 8191]) (ss := [Is (.pointer (some ⟨g1, 3, none⟩)), Is (.int .i64 a.mn), Is (.pointer (some ⟨g7, 3, none⟩)), Is (.int .i64 b.mn), Is (.int .i64 (min a.mn b.mn)), Is (.pointer (some ⟨g1, 4, none⟩)), Is (.int .i64 a.mx), Is (.pointer (some ⟨g7, 4, none⟩)), Is (.int .i64 b.mx), Is (.int .i64 (max a.mx b.mx)), Is (.pointer (some ⟨g1, 3, none⟩)), Is undef]) (fun q => q = g1) 11 (fun W_ => Below w.heap.size w W_ ∧ Blk W_ g1 31 (carr (⟨wrap64 (a.cnt + b.cnt), (wrap64 (a.hi + b.hi + (a.lo + b.lo) / 18446744073709551616)), ((a.lo + b.lo) % 18446744073709551616), a.mn, a.mx, a.t, a.src, a.seq, a.v, a.h⟩ : CL))) (fun W_ => Below w.heap.size w W_ ∧ Blk W_ g1 31 (carr (⟨wrap64 (a.cnt + b.cnt), (wrap64 (a.hi + b.hi + (a.lo + b.lo) / 18446744073709551616)), ((a.lo + b.lo) % 18446744073709551616), (min a.mn b.mn), a.mx, a.t, a.src, a.seq, a.v, a.h⟩ : CL))) 12 rfl (by decide +kernel) (stab_cons stab_is (stab_cons stab_is (stab_cons stab_is (stab_cons stab_is (stab_cons stab_is (stab_cons stab_is (stab_cons stab_is (stab_cons stab_is (stab_cons stab_is (stab_cons stab_is (stab_cons stab_is (stab_cons stab_is stab_nil)))))))))))) (fun _ _ hb_ h_ => ⟨chain h_.1 hb_, h_.2.on hb_⟩) (fun _ _ hb_ h_ => ⟨chain h_.1 hb_, h_.2.on hb_⟩) ⟨chain (hk25.below (by omega) (chain (hk20.below (by omega) (chain (chain hb3 hb9) hb15)) hb23)) (below_drew _), (hb26.on (below_drew _))⟩ ?_
  refine u_is (by kernel_rfl) (.pointer (some ⟨g1, 3, none⟩)) rfl rfl rfl rfl (fun W_ hW_ h1_ F_ => by simp [go_sem, sEv, sLook, nbeq, i64_w, -List.getD_eq_getElem?_getD, Try.underlying31]) ?_
  refine u_is (by kernel_rfl) (.int .i64 a.mn) rfl rfl rfl rfl (fun W_ hW_ h1_ F_ => (by have eb_ := (h1_.2 (by kernel_rfl)).2; have e0_ := eb_.cellv (v := .int .i64 a.mn) (cA3 (⟨wrap64 (a.cnt + b.cnt), (wrap64 (a.hi + b.hi + (a.lo + b.lo) / 18446744073709551616)), ((a.lo + b.lo) % 18446744073709551616), a.mn, a.mx, a.t, a.src, a.seq, a.v, a.h⟩ : CL)); simp [go_sem, sEv, sLook, nbeq, i64_w, -List.getD_eq_getElem?_getD, e0_])) ?_
  refine u_is (by kernel_rfl) (.pointer (some ⟨g7, 3, none⟩)) rfl rfl rfl rfl (fun W_ hW_ h1_ F_ => by simp [go_sem, sEv, sLook, nbeq, i64_w, -List.getD_eq_getElem?_getD, Try.underlying31]) ?_
  refine u_is (by kernel_rfl) (.int .i64 b.mn) rfl rfl rfl rfl (fun W_ hW_ h1_ F_ => (by have eb_ := (Blk.kept ((((hk10.on hb15).keep hk20 (by omega)).on hb23).keep hk25 (by omega)) (drew_kept hW_) (by intro e_; have e2_ : g7 = g1 := e_; omega)); have e0_ := eb_.cellv (v := .int .i64 b.mn) (cA3 b); simp [go_sem, sEv, sLook, nbeq, i64_w, -List.getD_eq_getElem?_getD, e0_])) ?_
  refine u_is (by kernel_rfl) (.int .i64 (min a.mn b.mn)) rfl rfl rfl rfl (fun W_ hW_ h1_ F_ => (by simp [go_sem, sEv, sLook, nbeq, i64_w, -List.getD_eq_getElem?_getD, max2_int, min2_int, max_two, min_two]; (try (split <;> omega)))) ?_
  refine u_is (by kernel_rfl) (.pointer (some ⟨g1, 4, none⟩)) rfl rfl rfl rfl (fun W_ hW_ h1_ F_ => by simp [go_sem, sEv, sLook, nbeq, i64_w, -List.getD_eq_getElem?_getD, Try.underlying31]) ?_
  refine u_is (by kernel_rfl) (.int .i64 a.mx) rfl rfl rfl rfl (fun W_ hW_ h1_ F_ => (by have eb_ := (h1_.2 (by kernel_rfl)).2; have e0_ := eb_.cellv (v := .int .i64 a.mx) (cA4 (⟨wrap64 (a.cnt + b.cnt), (wrap64 (a.hi + b.hi + (a.lo + b.lo) / 18446744073709551616)), ((a.lo + b.lo) % 18446744073709551616), a.mn, a.mx, a.t, a.src, a.seq, a.v, a.h⟩ : CL)); simp [go_sem, sEv, sLook, nbeq, i64_w, -List.getD_eq_getElem?_getD, e0_])) ?_
  refine u_is (by kernel_rfl) (.pointer (some ⟨g7, 4, none⟩)) rfl rfl rfl rfl (fun W_ hW_ h1_ F_ => by simp [go_sem, sEv, sLook, nbeq, i64_w, -List.getD_eq_getElem?_getD, Try.underlying31]) ?_
  refine u_is (by kernel_rfl) (.int .i64 b.mx) rfl rfl rfl rfl (fun W_ hW_ h1_ F_ => (by have eb_ := (Blk.kept ((((hk10.on hb15).keep hk20 (by omega)).on hb23).keep hk25 (by omega)) (drew_kept hW_) (by intro e_; have e2_ : g7 = g1 := e_; omega)); have e0_ := eb_.cellv (v := .int .i64 b.mx) (cA4 b); simp [go_sem, sEv, sLook, nbeq, i64_w, -List.getD_eq_getElem?_getD, e0_])) ?_
  refine u_is (by kernel_rfl) (.int .i64 (max a.mx b.mx)) rfl rfl rfl rfl (fun W_ hW_ h1_ F_ => (by simp [go_sem, sEv, sLook, nbeq, i64_w, -List.getD_eq_getElem?_getD, max2_int, min2_int, max_two, min_two]; (try (split <;> omega)))) ?_
  refine u_is (by kernel_rfl) (.pointer (some ⟨g1, 3, none⟩)) rfl rfl rfl rfl (fun W_ hW_ h1_ F_ => by simp [go_sem, sEv, sLook, nbeq, i64_w, -List.getD_eq_getElem?_getD, Try.underlying31]) ?_
  refine u_store (by kernel_rfl) rfl rfl rfl (fun W_ hW_ h0_ F_ => ?_) ?_
  · have h2_ := store_seg (P := Try.prog) (ty := 3) (v := .int .i64 (min a.mn b.mn)) h0_.2 3 (by kernel_rfl) (by rw [carr_size]; show 3 + 1 ≤ 74; decide) (by intro q hq; simp only [List.mem_cons, List.not_mem_nil, or_false, Value.cells] at hq; subst hq; rfl)
    exact ⟨_, run_sk h2_, (setRow_keep _ _ _).kept, (setRow_keep _ _ _).below (by omega) h0_.1, by have h3_ := Blk.setRow h0_.2 (segd (carr (⟨wrap64 (a.cnt + b.cnt), (wrap64 (a.hi + b.hi + (a.lo + b.lo) / 18446744073709551616)), ((a.lo + b.lo) % 18446744073709551616), a.mn, a.mx, a.t, a.src, a.seq, a.v, a.h⟩ : CL)) 3 [.int .i64 (min a.mn b.mn)]); rw [seg_mn] at h3_; exact h3_⟩
  refine u_tail ?_
  intro w27 hK28_ h30 F29
  have hK28 := drew_kept hK28_
  have hs_w27 := hK28.1
  refine rw_val (v := .pointer (some ⟨g1, 4, none⟩)) (w' := w27) rfl rfl rfl rfl (by simp [go_sem, sEv, sLook, nbeq, i64_w, -List.getD_eq_getElem?_getD, Try.underlying31]) ?_
  refine rw_seg (g := g1) (off := 4) (ty := 3) (p := .tmp 30) (x := .tmp 28) (v := .int .i64 (max a.mx b.mx)) (cs' := carr (⟨wrap64 (a.cnt + b.cnt), (wrap64 (a.hi + b.hi + (a.lo + b.lo) / 18446744073709551616)), ((a.lo + b.lo) % 18446744073709551616), (min a.mn b.mn), (max a.mx b.mx), a.t, a.src, a.seq, a.v, a.h⟩ : CL)) rfl rfl rfl rfl rfl rfl h30.2 (by kernel_rfl) (by rw [carr_size]; simp [Value.cells] <;> omega) (by intro q hq; simp only [List.mem_cons, List.not_mem_nil, or_false, Value.cells] at hq; (first | (rcases hq with rfl | rfl | rfl | rfl <;> rfl) | (rcases hq with rfl | rfl <;> rfl) | (subst hq; rfl))) (seg_mx (⟨wrap64 (a.cnt + b.cnt), (wrap64 (a.hi + b.hi + (a.lo + b.lo) / 18446744073709551616)), ((a.lo + b.lo) % 18446744073709551616), (min a.mn b.mn), a.mx, a.t, a.src, a.seq, a.v, a.h⟩ : CL) (max a.mx b.mx)) ?_
  intro w31 hk32 hb33
  have hs_w31 := hk32.size
  refine rw_end ?_
  refine w_weaken (G' := [(2, .pointer (some ⟨g1, 0, none⟩)), (3, .pointer (some ⟨g7, 0, none⟩)), (4, .pointer (some ⟨g13, 0, none⟩))]) ⟨rfl, rfl, rfl, trivial⟩ ?_
  refine w_seq ?_
  refine w_seq ?_
  refine w_region ?_
  refine rw_val (v := .pointer (some ⟨g7, 5, none⟩)) (w' := w31) rfl rfl rfl rfl (by simp [go_sem, sEv, sLook, nbeq, i64_w, -List.getD_eq_getElem?_getD, Try.underlying31]) ?_
  refine rw_val (v := .agg #[.int .i64 b.t, .int .i64 b.src, .int .i64 b.seq, .int .i64 b.v]) (w' := w31) rfl rfl rfl rfl (by have eb_ := ((Blk.kept ((((hk10.on hb15).keep hk20 (by omega)).on hb23).keep hk25 (by omega)) hK28 (by intro e_; have e2_ : g7 = g1 := e_; omega)).keep hk32 (by omega)); have e0_ := eb_.cellv (v := .int .i64 b.t) (cA5 b); have e1_ := eb_.cellv (v := .int .i64 b.src) (cA6 b); have e2_ := eb_.cellv (v := .int .i64 b.seq) (cA7 b); have e3_ := eb_.cellv (v := .int .i64 b.v) (cA8 b); simp [go_sem, sEv, sLook, nbeq, i64_w, -List.getD_eq_getElem?_getD, e0_, e1_, e2_, e3_, Try.underlying28]) ?_
  refine rw_val (v := .pointer (some ⟨g1, 5, none⟩)) (w' := w31) rfl rfl rfl rfl (by simp [go_sem, sEv, sLook, nbeq, i64_w, -List.getD_eq_getElem?_getD, Try.underlying31]) ?_
  refine rw_val (v := .agg #[.int .i64 a.t, .int .i64 a.src, .int .i64 a.seq, .int .i64 a.v]) (w' := w31) rfl rfl rfl rfl (by have eb_ := hb33; have e0_ := eb_.cellv (v := .int .i64 a.t) (cA5 (⟨wrap64 (a.cnt + b.cnt), (wrap64 (a.hi + b.hi + (a.lo + b.lo) / 18446744073709551616)), ((a.lo + b.lo) % 18446744073709551616), (min a.mn b.mn), (max a.mx b.mx), a.t, a.src, a.seq, a.v, a.h⟩ : CL)); have e1_ := eb_.cellv (v := .int .i64 a.src) (cA6 (⟨wrap64 (a.cnt + b.cnt), (wrap64 (a.hi + b.hi + (a.lo + b.lo) / 18446744073709551616)), ((a.lo + b.lo) % 18446744073709551616), (min a.mn b.mn), (max a.mx b.mx), a.t, a.src, a.seq, a.v, a.h⟩ : CL)); have e2_ := eb_.cellv (v := .int .i64 a.seq) (cA7 (⟨wrap64 (a.cnt + b.cnt), (wrap64 (a.hi + b.hi + (a.lo + b.lo) / 18446744073709551616)), ((a.lo + b.lo) % 18446744073709551616), (min a.mn b.mn), (max a.mx b.mx), a.t, a.src, a.seq, a.v, a.h⟩ : CL)); have e3_ := eb_.cellv (v := .int .i64 a.v) (cA8 (⟨wrap64 (a.cnt + b.cnt), (wrap64 (a.hi + b.hi + (a.lo + b.lo) / 18446744073709551616)), ((a.lo + b.lo) % 18446744073709551616), (min a.mn b.mn), (max a.mx b.mx), a.t, a.src, a.seq, a.v, a.h⟩ : CL)); simp [go_sem, sEv, sLook, nbeq, i64_w, -List.getD_eq_getElem?_getD, e0_, e1_, e2_, e3_, Try.underlying28]) ?_
  refine rw_call rfl rfl rfl rfl (f := 16) (args := #[.agg #[.int .i64 b.t, .int .i64 b.src, .int .i64 b.seq, .int .i64 b.v], .agg #[.int .i64 a.t, .int .i64 a.src, .int .i64 a.seq, .int .i64 a.v]]) (by simp [go_sem, sEv, sLook, nbeq, i64_w, -List.getD_eq_getElem?_getD]) (later_calls b.t b.src b.seq b.v a.t a.src a.seq a.v w31) ?_
  rintro e_ w34 ⟨rfl, hb35⟩
  refine ⟨_, rfl, ?_⟩
  have hs_w34 := hb35.size
  refine rw_end ?_
  refine w_weaken (G' := [(2, .pointer (some ⟨g1, 0, none⟩)), (3, .pointer (some ⟨g7, 0, none⟩)), (4, .pointer (some ⟨g13, 0, none⟩)), (35, .bool (later b.t b.src b.seq b.v a.t a.src a.seq a.v))]) ⟨rfl, rfl, rfl, rfl, trivial⟩ ?_
  refine w_cond rfl rfl (fun cL => ?_) (fun cL => ?_)
  · refine w_region ?_
    refine rw_val (v := .pointer (some ⟨g7, 5, none⟩)) (w' := w34) rfl rfl rfl rfl (by simp [go_sem, sEv, sLook, nbeq, i64_w, -List.getD_eq_getElem?_getD, Try.underlying31]) ?_
    refine rw_val (v := .agg #[.int .i64 b.t, .int .i64 b.src, .int .i64 b.seq, .int .i64 b.v]) (w' := w34) rfl rfl rfl rfl (by have eb_ := (((Blk.kept ((((hk10.on hb15).keep hk20 (by omega)).on hb23).keep hk25 (by omega)) hK28 (by intro e_; have e2_ : g7 = g1 := e_; omega)).keep hk32 (by omega)).on hb35); have e0_ := eb_.cellv (v := .int .i64 b.t) (cA5 b); have e1_ := eb_.cellv (v := .int .i64 b.src) (cA6 b); have e2_ := eb_.cellv (v := .int .i64 b.seq) (cA7 b); have e3_ := eb_.cellv (v := .int .i64 b.v) (cA8 b); simp [go_sem, sEv, sLook, nbeq, i64_w, -List.getD_eq_getElem?_getD, e0_, e1_, e2_, e3_, Try.underlying28]) ?_
    refine rw_val (v := .pointer (some ⟨g1, 5, none⟩)) (w' := w34) rfl rfl rfl rfl (by simp [go_sem, sEv, sLook, nbeq, i64_w, -List.getD_eq_getElem?_getD, Try.underlying31]) ?_
    refine rw_seg (g := g1) (off := 5) (ty := 28) (p := .tmp 38) (x := .tmp 37) (v := .agg #[.int .i64 b.t, .int .i64 b.src, .int .i64 b.seq, .int .i64 b.v]) (cs' := carr (⟨wrap64 (a.cnt + b.cnt), (wrap64 (a.hi + b.hi + (a.lo + b.lo) / 18446744073709551616)), ((a.lo + b.lo) % 18446744073709551616), (min a.mn b.mn), (max a.mx b.mx), b.t, b.src, b.seq, b.v, a.h⟩ : CL)) rfl rfl rfl rfl rfl rfl (hb33.on hb35) (by kernel_rfl) (by rw [carr_size]; simp [Value.cells] <;> omega) (by intro q hq; simp only [List.mem_cons, List.not_mem_nil, or_false, Value.cells] at hq; (first | (rcases hq with rfl | rfl | rfl | rfl <;> rfl) | (rcases hq with rfl | rfl <;> rfl) | (subst hq; rfl))) (seg_last (⟨wrap64 (a.cnt + b.cnt), (wrap64 (a.hi + b.hi + (a.lo + b.lo) / 18446744073709551616)), ((a.lo + b.lo) % 18446744073709551616), (min a.mn b.mn), (max a.mx b.mx), a.t, a.src, a.seq, a.v, a.h⟩ : CL) b.t b.src b.seq b.v) ?_
    intro w36 hk37 hb38
    have hs_w36 := hk37.size
    refine rw_end ?_
    refine w_weaken (G' := [(2, .pointer (some ⟨g1, 0, none⟩)), (3, .pointer (some ⟨g7, 0, none⟩)), (4, .pointer (some ⟨g13, 0, none⟩))]) ⟨rfl, rfl, rfl, trivial⟩ ?_
    refine w_seq ?_
    refine w_seq ?_
    refine w_region ?_
    refine rw_val (v := .pointer (some ⟨g7, 9, none⟩)) (w' := w36) rfl rfl rfl rfl (by simp [go_sem, sEv, sLook, nbeq, i64_w, -List.getD_eq_getElem?_getD, Try.underlying31]) ?_
    refine rw_val (v := .agg (encH b.h).toArray) (w' := w36) rfl rfl rfl rfl (run_as (load_hist (c := b) ((((Blk.kept ((((hk10.on hb15).keep hk20 (by omega)).on hb23).keep hk25 (by omega)) hK28 (by intro e_; have e2_ : g7 = g1 := e_; omega)).keep hk32 (by omega)).on hb35).keep hk37 (by omega)))) ?_
    refine rw_val (v := .int .i64 0) (w' := w36) rfl rfl rfl rfl rfl ?_
    refine rw_end ?_
    refine w_block ?_
    refine w_loop (fun m_ G W_ => ∃ (j : Nat), j + m_ = 65 ∧ Below w.heap.size w W_ ∧ (Blk W_ g1 31 (carr (⟨wrap64 (a.cnt + b.cnt), (wrap64 (a.hi + b.hi + (a.lo + b.lo) / 18446744073709551616)), ((a.lo + b.lo) % 18446744073709551616), (min a.mn b.mn), (max a.mx b.mx), b.t, b.src, b.seq, b.v, (sumF a.h b.h j)⟩ : CL))) ∧ (Blk W_ g13 31 (carr CL.unit)) ∧ G = [(2, .pointer (some ⟨g1, 0, none⟩)), (4, .pointer (some ⟨g13, 0, none⟩)), (40, .agg (encH b.h).toArray), (41, .int .i64 ((j : Nat) : Int))]) 65 [(2, .pointer (some ⟨g1, 0, none⟩)), (4, .pointer (some ⟨g13, 0, none⟩)), (40, .agg (encH b.h).toArray), (41, .int .i64 0)] ⟨0, by omega, (hk37.below (by omega) (chain (hk32.below (by omega) h30.1) hb35)), (by rw [sumF_zero]; exact hb38), ((((Blk.kept (((hk16.keep hk20 (by omega)).on hb23).keep hk25 (by omega)) hK28 (by intro e_; have e2_ : g13 = g1 := e_; omega)).keep hk32 (by omega)).on hb35).keep hk37 (by omega)), rfl⟩ ⟨rfl, rfl, rfl, rfl, trivial⟩ ?_
    rintro m_ G w_L39 ⟨j, hp40, hB_L39, hf41, hf42, rfl⟩
    have hs_w_L39 := hB_L39.size
    refine w_seq ?_
    refine w_region ?_
    refine rw_val (v := .bool (decide (((j : Nat) : Int) < 65))) (w' := w_L39) rfl rfl rfl rfl (by simp [go_sem, sEv, sLook, nbeq, i64_w, -List.getD_eq_getElem?_getD]) ?_
    refine rw_end ?_
    refine w_seq ?_
    refine w_cond rfl rfl (fun cJ => ?_) (fun cJ => ?_)
    · have l43 : (((j : Nat) : Int) < 65) := of_decide_eq_true cJ
      refine w_skip ?_
      refine w_seq ?_
      refine w_block ?_
      refine w_seq ?_
      refine w_region ?_
      refine rw_val (v := .int .i64 ((j : Nat) : Int)) (w' := w_L39) rfl rfl rfl rfl rfl ?_
      refine rw_val (v := .int .i64 (atF b.h j)) (w' := w_L39) rfl rfl rfl rfl (run_as (index_at b.h j (by omega) _)) ?_
      refine rw_val (v := .int .i64 ((j : Nat) : Int)) (w' := w_L39) rfl rfl rfl rfl rfl ?_
      refine rw_val (v := .int .i64 (atF b.h j)) (w' := w_L39) rfl rfl rfl rfl rfl ?_
      refine rw_end ?_
      refine w_weaken (G' := [(2, .pointer (some ⟨g1, 0, none⟩)), (4, .pointer (some ⟨g13, 0, none⟩)), (5, .int .i64 ((j : Nat) : Int)), (6, .int .i64 (atF b.h j)), (40, .agg (encH b.h).toArray), (41, .int .i64 ((j : Nat) : Int))]) ⟨rfl, rfl, rfl, rfl, rfl, rfl, trivial⟩ ?_
      refine w_region ?_
      refine rw_val (v := .int .i64 ((j : Nat) : Int)) (w' := w_L39) rfl rfl rfl rfl rfl ?_
      refine rw_val (v := .pointer (some ⟨g1, 9, none⟩)) (w' := w_L39) rfl rfl rfl rfl (by simp [go_sem, sEv, sLook, nbeq, i64_w, -List.getD_eq_getElem?_getD, Try.underlying31]) ?_
      refine rw_val (v := .pointer (some ⟨g1, 9 + j, none⟩)) (w' := w_L39) rfl rfl rfl rfl (run_as (addr_hist j (by omega) _)) ?_
      refine rw_val (v := .int .i64 (atF (sumF a.h b.h j) j)) (w' := w_L39) rfl rfl rfl rfl (by have e0_ := (hf41).cellv (cHA (⟨wrap64 (a.cnt + b.cnt), (wrap64 (a.hi + b.hi + (a.lo + b.lo) / 18446744073709551616)), ((a.lo + b.lo) % 18446744073709551616), (min a.mn b.mn), (max a.mx b.mx), b.t, b.src, b.seq, b.v, (sumF a.h b.h j)⟩ : CL) j (by omega)); simp [go_sem, sEv, sLook, nbeq, i64_w, -List.getD_eq_getElem?_getD, e0_]) ?_
      refine rw_val (v := .int .i64 (atF b.h j)) (w' := w_L39) rfl rfl rfl rfl rfl ?_
      refine rw_val (v := .int .i64 (wrap64 ((atF (sumF a.h b.h j) j) + (atF b.h j)))) (w' := w_L39) rfl rfl rfl rfl (by simp [go_sem, sEv, sLook, nbeq, i64_w, -List.getD_eq_getElem?_getD]) ?_
      refine rw_val (v := .pointer (some ⟨g1, 9, none⟩)) (w' := w_L39) rfl rfl rfl rfl (by simp [go_sem, sEv, sLook, nbeq, i64_w, -List.getD_eq_getElem?_getD, Try.underlying31]) ?_
      refine rw_val (v := .pointer (some ⟨g1, 9 + j, none⟩)) (w' := w_L39) rfl rfl rfl rfl (run_as (addr_hist j (by omega) _)) ?_
      refine rw_seg (g := g1) (off := (9 + j)) (ty := 3) (p := .tmp 52) (x := .tmp 50) (v := .int .i64 (wrap64 ((atF (sumF a.h b.h j) j) + (atF b.h j)))) (cs' := carr (⟨wrap64 (a.cnt + b.cnt), (wrap64 (a.hi + b.hi + (a.lo + b.lo) / 18446744073709551616)), ((a.lo + b.lo) % 18446744073709551616), (min a.mn b.mn), (max a.mx b.mx), b.t, b.src, b.seq, b.v, (updF (sumF a.h b.h j) j (wrap64 ((atF (sumF a.h b.h j) j) + (atF b.h j))))⟩ : CL)) rfl rfl rfl rfl rfl rfl hf41 (by kernel_rfl) (by rw [carr_size]; simp [Value.cells] <;> omega) (by intro q hq; simp only [List.mem_cons, List.not_mem_nil, or_false, Value.cells] at hq; (first | (rcases hq with rfl | rfl | rfl | rfl <;> rfl) | (rcases hq with rfl | rfl <;> rfl) | (subst hq; rfl))) (seg_h (⟨wrap64 (a.cnt + b.cnt), (wrap64 (a.hi + b.hi + (a.lo + b.lo) / 18446744073709551616)), ((a.lo + b.lo) % 18446744073709551616), (min a.mn b.mn), (max a.mx b.mx), b.t, b.src, b.seq, b.v, (sumF a.h b.h j)⟩ : CL) j (by omega) (wrap64 ((atF (sumF a.h b.h j) j) + (atF b.h j)))) ?_
      intro w44 hk45 hb46
      have hs_w44 := hk45.size
      refine rw_end ?_
      refine w_weaken (G' := [(2, .pointer (some ⟨g1, 0, none⟩)), (4, .pointer (some ⟨g13, 0, none⟩)), (40, .agg (encH b.h).toArray), (41, .int .i64 ((j : Nat) : Int))]) ⟨rfl, rfl, rfl, rfl, trivial⟩ ?_
      refine w_blk ?_
      refine w_region ?_
      refine rw_val (v := .int .i64 ((j + 1 : Nat) : Int)) (w' := w44) rfl rfl rfl rfl (by simp [go_sem, sEv, sLook, nbeq, i64_w, -List.getD_eq_getElem?_getD]; exact wrap_id (by omega) (by omega)) ?_
      refine rw_val (v := .int .i64 ((j + 1 : Nat) : Int)) (w' := w44) rfl rfl rfl rfl rfl ?_
      refine rw_end ?_
      exact w_back (m_ - 1) [(2, .pointer (some ⟨g1, 0, none⟩)), (4, .pointer (some ⟨g13, 0, none⟩)), (40, .agg (encH b.h).toArray), (41, .int .i64 ((j + 1 : Nat) : Int))] (by omega) ⟨rfl, rfl, rfl, rfl, trivial⟩ ⟨(j + 1), by omega, (hk45.below (by omega) hB_L39), (by have h_ := hb46; rw [sumF_at, sumF_step _ _ _ (by omega)] at h_; exact h_), (hf42.keep hk45 (by omega)), rfl⟩
    · have l47 : ¬ (((j : Nat) : Int) < 65) := of_decide_eq_false cJ
      refine w_exit rfl ?_
      refine w_seq ?_
      refine w_region ?_
      refine rw_val (v := .agg (carr (⟨wrap64 (a.cnt + b.cnt), (wrap64 (a.hi + b.hi + (a.lo + b.lo) / 18446744073709551616)), ((a.lo + b.lo) % 18446744073709551616), (min a.mn b.mn), (max a.mx b.mx), b.t, b.src, b.seq, b.v, (sumF a.h b.h j)⟩ : CL))) (w' := w_L39) rfl rfl rfl rfl (run_as (load_cell (c := (⟨wrap64 (a.cnt + b.cnt), (wrap64 (a.hi + b.hi + (a.lo + b.lo) / 18446744073709551616)), ((a.lo + b.lo) % 18446744073709551616), (min a.mn b.mn), (max a.mx b.mx), b.t, b.src, b.seq, b.v, (sumF a.h b.h j)⟩ : CL)) hf41)) ?_
      refine rw_seg (g := g13) (off := 0) (ty := 31) (p := .tmp 4) (x := .tmp 54) (v := .agg (carr (⟨wrap64 (a.cnt + b.cnt), (wrap64 (a.hi + b.hi + (a.lo + b.lo) / 18446744073709551616)), ((a.lo + b.lo) % 18446744073709551616), (min a.mn b.mn), (max a.mx b.mx), b.t, b.src, b.seq, b.v, (sumF a.h b.h j)⟩ : CL))) (cs' := carr (⟨wrap64 (a.cnt + b.cnt), (wrap64 (a.hi + b.hi + (a.lo + b.lo) / 18446744073709551616)), ((a.lo + b.lo) % 18446744073709551616), (min a.mn b.mn), (max a.mx b.mx), b.t, b.src, b.seq, b.v, (sumF a.h b.h j)⟩ : CL)) rfl rfl rfl rfl rfl rfl hf42 (by show (sizeOf 31).run _ _ = .ok (carr _).size _; rw [carr_size]; kernel_rfl) (Nat.le_of_eq (by rw [Nat.zero_add]; exact (carr_size _).trans (carr_size _).symm)) (encC_one _) (seg_all CL.unit (⟨wrap64 (a.cnt + b.cnt), (wrap64 (a.hi + b.hi + (a.lo + b.lo) / 18446744073709551616)), ((a.lo + b.lo) % 18446744073709551616), (min a.mn b.mn), (max a.mx b.mx), b.t, b.src, b.seq, b.v, (sumF a.h b.h j)⟩ : CL)) ?_
      intro w48 hk49 hb50
      have hs_w48 := hk49.size
      refine rw_end ?_
      refine w_ret (post_retc (v := .agg (carr (⟨wrap64 (a.cnt + b.cnt), (wrap64 (a.hi + b.hi + (a.lo + b.lo) / 18446744073709551616)), ((a.lo + b.lo) % 18446744073709551616), (min a.mn b.mn), (max a.mx b.mx), b.t, b.src, b.seq, b.v, (sumF a.h b.h j)⟩ : CL))) rfl rfl (load_cell (c := (⟨wrap64 (a.cnt + b.cnt), (wrap64 (a.hi + b.hi + (a.lo + b.lo) / 18446744073709551616)), ((a.lo + b.lo) % 18446744073709551616), (min a.mn b.mn), (max a.mx b.mx), b.t, b.src, b.seq, b.v, (sumF a.h b.h j)⟩ : CL)) hb50) ?_)
      have ej_ : j = 65 := by omega
      have e1_ : twoC a b = (⟨wrap64 (a.cnt + b.cnt), (wrap64 (a.hi + b.hi + (a.lo + b.lo) / 18446744073709551616)), ((a.lo + b.lo) % 18446744073709551616), (min a.mn b.mn), (max a.mx b.mx), b.t, b.src, b.seq, b.v, (sumF a.h b.h j)⟩ : CL) := by unfold twoC laterC; rw [ej_, sumF_full]; simp [cL]
      rw [e1_]
      exact ⟨rfl, (hk49.below (by omega) hB_L39)⟩
  · refine w_skip ?_
    refine w_seq ?_
    refine w_seq ?_
    refine w_region ?_
    refine rw_val (v := .pointer (some ⟨g7, 9, none⟩)) (w' := w34) rfl rfl rfl rfl (by simp [go_sem, sEv, sLook, nbeq, i64_w, -List.getD_eq_getElem?_getD, Try.underlying31]) ?_
    refine rw_val (v := .agg (encH b.h).toArray) (w' := w34) rfl rfl rfl rfl (run_as (load_hist (c := b) (((Blk.kept ((((hk10.on hb15).keep hk20 (by omega)).on hb23).keep hk25 (by omega)) hK28 (by intro e_; have e2_ : g7 = g1 := e_; omega)).keep hk32 (by omega)).on hb35))) ?_
    refine rw_val (v := .int .i64 0) (w' := w34) rfl rfl rfl rfl rfl ?_
    refine rw_end ?_
    refine w_block ?_
    refine w_loop (fun m_ G W_ => ∃ (j : Nat), j + m_ = 65 ∧ Below w.heap.size w W_ ∧ (Blk W_ g1 31 (carr (⟨wrap64 (a.cnt + b.cnt), (wrap64 (a.hi + b.hi + (a.lo + b.lo) / 18446744073709551616)), ((a.lo + b.lo) % 18446744073709551616), (min a.mn b.mn), (max a.mx b.mx), a.t, a.src, a.seq, a.v, (sumF a.h b.h j)⟩ : CL))) ∧ (Blk W_ g13 31 (carr CL.unit)) ∧ G = [(2, .pointer (some ⟨g1, 0, none⟩)), (4, .pointer (some ⟨g13, 0, none⟩)), (40, .agg (encH b.h).toArray), (41, .int .i64 ((j : Nat) : Int))]) 65 [(2, .pointer (some ⟨g1, 0, none⟩)), (4, .pointer (some ⟨g13, 0, none⟩)), (40, .agg (encH b.h).toArray), (41, .int .i64 0)] ⟨0, by omega, (chain (hk32.below (by omega) h30.1) hb35), (by rw [sumF_zero]; exact (hb33.on hb35)), (((Blk.kept (((hk16.keep hk20 (by omega)).on hb23).keep hk25 (by omega)) hK28 (by intro e_; have e2_ : g13 = g1 := e_; omega)).keep hk32 (by omega)).on hb35), rfl⟩ ⟨rfl, rfl, rfl, rfl, trivial⟩ ?_
    rintro m_ G w_L51 ⟨j, hp52, hB_L51, hf53, hf54, rfl⟩
    have hs_w_L51 := hB_L51.size
    refine w_seq ?_
    refine w_region ?_
    refine rw_val (v := .bool (decide (((j : Nat) : Int) < 65))) (w' := w_L51) rfl rfl rfl rfl (by simp [go_sem, sEv, sLook, nbeq, i64_w, -List.getD_eq_getElem?_getD]) ?_
    refine rw_end ?_
    refine w_seq ?_
    refine w_cond rfl rfl (fun cJ => ?_) (fun cJ => ?_)
    · have l55 : (((j : Nat) : Int) < 65) := of_decide_eq_true cJ
      refine w_skip ?_
      refine w_seq ?_
      refine w_block ?_
      refine w_seq ?_
      refine w_region ?_
      refine rw_val (v := .int .i64 ((j : Nat) : Int)) (w' := w_L51) rfl rfl rfl rfl rfl ?_
      refine rw_val (v := .int .i64 (atF b.h j)) (w' := w_L51) rfl rfl rfl rfl (run_as (index_at b.h j (by omega) _)) ?_
      refine rw_val (v := .int .i64 ((j : Nat) : Int)) (w' := w_L51) rfl rfl rfl rfl rfl ?_
      refine rw_val (v := .int .i64 (atF b.h j)) (w' := w_L51) rfl rfl rfl rfl rfl ?_
      refine rw_end ?_
      refine w_weaken (G' := [(2, .pointer (some ⟨g1, 0, none⟩)), (4, .pointer (some ⟨g13, 0, none⟩)), (5, .int .i64 ((j : Nat) : Int)), (6, .int .i64 (atF b.h j)), (40, .agg (encH b.h).toArray), (41, .int .i64 ((j : Nat) : Int))]) ⟨rfl, rfl, rfl, rfl, rfl, rfl, trivial⟩ ?_
      refine w_region ?_
      refine rw_val (v := .int .i64 ((j : Nat) : Int)) (w' := w_L51) rfl rfl rfl rfl rfl ?_
      refine rw_val (v := .pointer (some ⟨g1, 9, none⟩)) (w' := w_L51) rfl rfl rfl rfl (by simp [go_sem, sEv, sLook, nbeq, i64_w, -List.getD_eq_getElem?_getD, Try.underlying31]) ?_
      refine rw_val (v := .pointer (some ⟨g1, 9 + j, none⟩)) (w' := w_L51) rfl rfl rfl rfl (run_as (addr_hist j (by omega) _)) ?_
      refine rw_val (v := .int .i64 (atF (sumF a.h b.h j) j)) (w' := w_L51) rfl rfl rfl rfl (by have e0_ := (hf53).cellv (cHA (⟨wrap64 (a.cnt + b.cnt), (wrap64 (a.hi + b.hi + (a.lo + b.lo) / 18446744073709551616)), ((a.lo + b.lo) % 18446744073709551616), (min a.mn b.mn), (max a.mx b.mx), a.t, a.src, a.seq, a.v, (sumF a.h b.h j)⟩ : CL) j (by omega)); simp [go_sem, sEv, sLook, nbeq, i64_w, -List.getD_eq_getElem?_getD, e0_]) ?_
      refine rw_val (v := .int .i64 (atF b.h j)) (w' := w_L51) rfl rfl rfl rfl rfl ?_
      refine rw_val (v := .int .i64 (wrap64 ((atF (sumF a.h b.h j) j) + (atF b.h j)))) (w' := w_L51) rfl rfl rfl rfl (by simp [go_sem, sEv, sLook, nbeq, i64_w, -List.getD_eq_getElem?_getD]) ?_
      refine rw_val (v := .pointer (some ⟨g1, 9, none⟩)) (w' := w_L51) rfl rfl rfl rfl (by simp [go_sem, sEv, sLook, nbeq, i64_w, -List.getD_eq_getElem?_getD, Try.underlying31]) ?_
      refine rw_val (v := .pointer (some ⟨g1, 9 + j, none⟩)) (w' := w_L51) rfl rfl rfl rfl (run_as (addr_hist j (by omega) _)) ?_
      refine rw_seg (g := g1) (off := (9 + j)) (ty := 3) (p := .tmp 52) (x := .tmp 50) (v := .int .i64 (wrap64 ((atF (sumF a.h b.h j) j) + (atF b.h j)))) (cs' := carr (⟨wrap64 (a.cnt + b.cnt), (wrap64 (a.hi + b.hi + (a.lo + b.lo) / 18446744073709551616)), ((a.lo + b.lo) % 18446744073709551616), (min a.mn b.mn), (max a.mx b.mx), a.t, a.src, a.seq, a.v, (updF (sumF a.h b.h j) j (wrap64 ((atF (sumF a.h b.h j) j) + (atF b.h j))))⟩ : CL)) rfl rfl rfl rfl rfl rfl hf53 (by kernel_rfl) (by rw [carr_size]; simp [Value.cells] <;> omega) (by intro q hq; simp only [List.mem_cons, List.not_mem_nil, or_false, Value.cells] at hq; (first | (rcases hq with rfl | rfl | rfl | rfl <;> rfl) | (rcases hq with rfl | rfl <;> rfl) | (subst hq; rfl))) (seg_h (⟨wrap64 (a.cnt + b.cnt), (wrap64 (a.hi + b.hi + (a.lo + b.lo) / 18446744073709551616)), ((a.lo + b.lo) % 18446744073709551616), (min a.mn b.mn), (max a.mx b.mx), a.t, a.src, a.seq, a.v, (sumF a.h b.h j)⟩ : CL) j (by omega) (wrap64 ((atF (sumF a.h b.h j) j) + (atF b.h j)))) ?_
      intro w56 hk57 hb58
      have hs_w56 := hk57.size
      refine rw_end ?_
      refine w_weaken (G' := [(2, .pointer (some ⟨g1, 0, none⟩)), (4, .pointer (some ⟨g13, 0, none⟩)), (40, .agg (encH b.h).toArray), (41, .int .i64 ((j : Nat) : Int))]) ⟨rfl, rfl, rfl, rfl, trivial⟩ ?_
      refine w_blk ?_
      refine w_region ?_
      refine rw_val (v := .int .i64 ((j + 1 : Nat) : Int)) (w' := w56) rfl rfl rfl rfl (by simp [go_sem, sEv, sLook, nbeq, i64_w, -List.getD_eq_getElem?_getD]; exact wrap_id (by omega) (by omega)) ?_
      refine rw_val (v := .int .i64 ((j + 1 : Nat) : Int)) (w' := w56) rfl rfl rfl rfl rfl ?_
      refine rw_end ?_
      exact w_back (m_ - 1) [(2, .pointer (some ⟨g1, 0, none⟩)), (4, .pointer (some ⟨g13, 0, none⟩)), (40, .agg (encH b.h).toArray), (41, .int .i64 ((j + 1 : Nat) : Int))] (by omega) ⟨rfl, rfl, rfl, rfl, trivial⟩ ⟨(j + 1), by omega, (hk57.below (by omega) hB_L51), (by have h_ := hb58; rw [sumF_at, sumF_step _ _ _ (by omega)] at h_; exact h_), (hf54.keep hk57 (by omega)), rfl⟩
    · have l59 : ¬ (((j : Nat) : Int) < 65) := of_decide_eq_false cJ
      refine w_exit rfl ?_
      refine w_seq ?_
      refine w_region ?_
      refine rw_val (v := .agg (carr (⟨wrap64 (a.cnt + b.cnt), (wrap64 (a.hi + b.hi + (a.lo + b.lo) / 18446744073709551616)), ((a.lo + b.lo) % 18446744073709551616), (min a.mn b.mn), (max a.mx b.mx), a.t, a.src, a.seq, a.v, (sumF a.h b.h j)⟩ : CL))) (w' := w_L51) rfl rfl rfl rfl (run_as (load_cell (c := (⟨wrap64 (a.cnt + b.cnt), (wrap64 (a.hi + b.hi + (a.lo + b.lo) / 18446744073709551616)), ((a.lo + b.lo) % 18446744073709551616), (min a.mn b.mn), (max a.mx b.mx), a.t, a.src, a.seq, a.v, (sumF a.h b.h j)⟩ : CL)) hf53)) ?_
      refine rw_seg (g := g13) (off := 0) (ty := 31) (p := .tmp 4) (x := .tmp 54) (v := .agg (carr (⟨wrap64 (a.cnt + b.cnt), (wrap64 (a.hi + b.hi + (a.lo + b.lo) / 18446744073709551616)), ((a.lo + b.lo) % 18446744073709551616), (min a.mn b.mn), (max a.mx b.mx), a.t, a.src, a.seq, a.v, (sumF a.h b.h j)⟩ : CL))) (cs' := carr (⟨wrap64 (a.cnt + b.cnt), (wrap64 (a.hi + b.hi + (a.lo + b.lo) / 18446744073709551616)), ((a.lo + b.lo) % 18446744073709551616), (min a.mn b.mn), (max a.mx b.mx), a.t, a.src, a.seq, a.v, (sumF a.h b.h j)⟩ : CL)) rfl rfl rfl rfl rfl rfl hf54 (by show (sizeOf 31).run _ _ = .ok (carr _).size _; rw [carr_size]; kernel_rfl) (Nat.le_of_eq (by rw [Nat.zero_add]; exact (carr_size _).trans (carr_size _).symm)) (encC_one _) (seg_all CL.unit (⟨wrap64 (a.cnt + b.cnt), (wrap64 (a.hi + b.hi + (a.lo + b.lo) / 18446744073709551616)), ((a.lo + b.lo) % 18446744073709551616), (min a.mn b.mn), (max a.mx b.mx), a.t, a.src, a.seq, a.v, (sumF a.h b.h j)⟩ : CL)) ?_
      intro w60 hk61 hb62
      have hs_w60 := hk61.size
      refine rw_end ?_
      refine w_ret (post_retc (v := .agg (carr (⟨wrap64 (a.cnt + b.cnt), (wrap64 (a.hi + b.hi + (a.lo + b.lo) / 18446744073709551616)), ((a.lo + b.lo) % 18446744073709551616), (min a.mn b.mn), (max a.mx b.mx), a.t, a.src, a.seq, a.v, (sumF a.h b.h j)⟩ : CL))) rfl rfl (load_cell (c := (⟨wrap64 (a.cnt + b.cnt), (wrap64 (a.hi + b.hi + (a.lo + b.lo) / 18446744073709551616)), ((a.lo + b.lo) % 18446744073709551616), (min a.mn b.mn), (max a.mx b.mx), a.t, a.src, a.seq, a.v, (sumF a.h b.h j)⟩ : CL)) hb62) ?_)
      have ej_ : j = 65 := by omega
      have e1_ : twoC a b = (⟨wrap64 (a.cnt + b.cnt), (wrap64 (a.hi + b.hi + (a.lo + b.lo) / 18446744073709551616)), ((a.lo + b.lo) % 18446744073709551616), (min a.mn b.mn), (max a.mx b.mx), a.t, a.src, a.seq, a.v, (sumF a.h b.h j)⟩ : CL) := by unfold twoC laterC; rw [ej_, sumF_full]; simp [cL]
      rw [e1_]
      exact ⟨rfl, (hk61.below (by omega) hB_L51)⟩
end Go.Proofs.Ytheaipbnbnjlgaa.Ce
