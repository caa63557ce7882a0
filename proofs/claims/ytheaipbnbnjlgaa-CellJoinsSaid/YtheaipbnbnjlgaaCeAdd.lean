/- The document's Add: the walk. -/
import Derived.Test.YtheaipbnbnjlgaaCeBytes
import Derived.Test.YtheaipbnbnjlgaaFlowD
namespace Go.Proofs.Ytheaipbnbnjlgaa.Ce
open Go.RowKit Go.Proofs.YtheaipbnbnjlgaaW.PrintWords Go.Proofs.YtheaipbnbnjlgaaW.PrintLast Go.Proofs.YtheaipbnbnjlgaaW.PrintMore
open Go.Proofs.Ytheaipbnbnjlgaa.Flow
set_option linter.unusedVariables false
set_option linter.unusedSimpArgs false


theorem wide_row (A0 : Option Addr) (c : Nat) (l : List Int) (hl : l.length = 16) (hb : Byt l) (w : World) (hC : Kd.C (Kd.int .i64) w A0 l.length l) (hc : 16 ≤ c) :
    Calls Try.prog 36 #[.slice A0 16 c] w fun e w' => e = .returned (.agg #[.int .i64 (wrap64 (val l / 18446744073709551616)), .int .u64 (val l % 18446744073709551616)]) ∧ Below w.heap.size w w' := by
  have h := estuaryref01_Wide.calls 9 A0 c l _ _ w hC (by omega) (wide_f 0 l hl hb)
  rw [hl] at h
  exact h
theorem add_val (ah al bh bl : Int) (hal : 0 ≤ al ∧ al < 18446744073709551616) (hbl : 0 ≤ bl ∧ bl < 18446744073709551616) :
    wrap64 (val (addc (wb ah al) (wb bh bl) 0) / 18446744073709551616) = wh ah al bh bl ∧ val (addc (wb ah al) (wb bh bl) 0) % 18446744073709551616 = wl al bl := by
  rw [addc16 _ _ (wb_len ah al) (wb_len bh bl), wb_val ah al hal, wb_val bh bl hbl, u64_wrap, u64_wrap]
  unfold wh wl wrap64
  omega
set_option maxHeartbeats 4000000 in
theorem radd_calls (ah al bh bl : Int) (hah : -9223372036854775808 ≤ ah ∧ ah ≤ 9223372036854775807) (hal : 0 ≤ al ∧ al < 18446744073709551616) (hbh : -9223372036854775808 ≤ bh ∧ bh ≤ 9223372036854775807) (hbl : 0 ≤ bl ∧ bl < 18446744073709551616) (w : World) :
    Calls Try.prog 25 #[.agg #[.int .i64 ah, .int .u64 al], .agg #[.int .i64 bh, .int .u64 bl]] w fun e w' => e = .returned (.agg #[.int .i64 (wh ah al bh bl), .int .u64 (wl al bl)]) ∧ Below w.heap.size w w' := by
  refine calls_flow Try.func25 rfl 38 rfl (Nat.le_of_ble_eq_true rfl) [(0, .agg #[.int .i64 ah, .int .u64 al]), (1, .agg #[.int .i64 bh, .int .u64 bl])] ?_ ?_
  · intro t v h; exact args_look rfl t v h
  refine w_seq ?_
  refine w_region ?_
  refine rw_new (cs := #[.int .i64 ah, .int .u64 al]) (t := 26) (fun g => .pointer (some ⟨g, 0, none⟩)) rfl rfl rfl rfl (by simp [go_sem, sEv, sLook, nbeq, i64_w]) ?_
  intro g1 w2 hg6 hz5 hb3 hk4
  have hs_w2 := hb3.size
  refine rw_new (cs := #[.int .i64 bh, .int .u64 bl]) (t := 26) (fun g => .pointer (some ⟨g, 0, none⟩)) rfl rfl rfl rfl (by simp [go_sem, sEv, sLook, nbeq, i64_w]) ?_
  intro g7 w8 hg12 hz11 hb9 hk10
  have hs_w8 := hb9.size
  refine rw_new (cs := #[.int .i64 0, .int .u64 0]) (t := 26) (fun g => .pointer (some ⟨g, 0, none⟩)) rfl rfl rfl rfl (by kernel_rfl) ?_
  intro g13 w14 hg18 hz17 hb15 hk16
  have hs_w14 := hb15.size
  refine rw_end ?_
  refine w_seq ?_
  refine w_region ?_
  refine rw_val (v := .agg #[.int .i64 ah, .int .u64 al]) (w' := w14) rfl rfl rfl rfl (by have eb_ := ((hk4.on hb9).on hb15); have e0_ := eb_.cellv (i := 0) (v := (.int .i64 ah : Value)) rfl; have e1_ := eb_.cellv (i := 1) (v := (.int .u64 al : Value)) rfl; simp [go_sem, sEv, sLook, nbeq, i64_w, e0_, e1_, Try.underlying26]) ?_
  refine rw_call rfl rfl rfl rfl (f := 35) (args := #[.agg #[.int .i64 ah, .int .u64 al]]) (by simp [go_sem, sEv, sLook, nbeq, i64_w]) (estuaryref01_Bytes.calls 18 ah al _ w14 (bytes_f 0 ah al (by first | assumption | omega))) ?_
  rintro e_ w19 ⟨v21, rfl, hR25, hb20⟩
  refine ⟨_, rfl, ?_⟩
  have hs_w19 := hb20.size
  obtain ⟨g22, cap23, cur24, rfl, hg26, hB27, hc28, hz29, hN30⟩ := row_block hR25 (fun h_ => by have := wb_len ah al; rw [h_] at this; cases this)
  have hlt_g22 := hB27.lt
  refine rw_val (v := .slice (some ⟨g22, 0, none⟩) ((wb ah al).length) cap23) (w' := w19) rfl rfl rfl rfl rfl ?_
  refine rw_end ?_
  refine w_seq ?_
  refine w_region ?_
  refine rw_val (v := .agg #[.int .i64 bh, .int .u64 bl]) (w' := w19) rfl rfl rfl rfl (by have eb_ := ((hk10.on hb15).on hb20); have e0_ := eb_.cellv (i := 0) (v := (.int .i64 bh : Value)) rfl; have e1_ := eb_.cellv (i := 1) (v := (.int .u64 bl : Value)) rfl; simp [go_sem, sEv, sLook, nbeq, i64_w, e0_, e1_, Try.underlying26]) ?_
  refine rw_call rfl rfl rfl rfl (f := 35) (args := #[.agg #[.int .i64 bh, .int .u64 bl]]) (by simp [go_sem, sEv, sLook, nbeq, i64_w]) (estuaryref01_Bytes.calls 18 bh bl _ w19 (bytes_f 0 bh bl (by first | assumption | omega))) ?_
  rintro e_ w31 ⟨v33, rfl, hR37, hb32⟩
  refine ⟨_, rfl, ?_⟩
  have hs_w31 := hb32.size
  obtain ⟨g34, cap35, cur36, rfl, hg38, hB39, hc40, hz41, hN42⟩ := row_block hR37 (fun h_ => by have := wb_len bh bl; rw [h_] at this; cases this)
  have hlt_g34 := hB39.lt
  refine rw_val (v := .slice (some ⟨g34, 0, none⟩) ((wb bh bl).length) cap35) (w' := w31) rfl rfl rfl rfl rfl ?_
  refine rw_end ?_
  refine w_seq ?_
  refine w_region ?_
  refine rw_val (v := .int .i64 0) (w' := w31) rfl rfl rfl rfl rfl ?_
  refine rw_end ?_
  refine w_seq ?_
  refine w_seq ?_
  refine w_region ?_
  refine rw_val (v := .int .i64 0) (w' := w31) rfl rfl rfl rfl rfl ?_
  refine rw_end ?_
  refine w_block ?_
  have hl1_ := wb_len ah al
  have hl2_ := wb_len bh bl
  rw [hl1_, hl2_]
  refine w_loop (fun m G W_ => ∃ (pre post ypre ypost : List Int) (c : Int) (cur : Array Value), G = [(4, .pointer (some ⟨g13, 0, none⟩)), (5, .slice (some ⟨g22, 0, none⟩) 16 cap23), (6, .slice (some ⟨g34, 0, none⟩) 16 cap35), (7, .int .i64 c), (8, .int .i64 (pre.length : Int))] ∧ Below w.heap.size w W_ ∧ Blk W_ g22 3 cur ∧ Blk W_ g34 3 cur36 ∧ Blk W_ g13 26 #[.int .i64 0, .int .u64 0] ∧ cur.size = cap23 ∧ Nums .i64 cur (pre ++ post) ∧ AInv ah al bh bl m pre post ypre ypost c) 16 [(4, .pointer (some ⟨g13, 0, none⟩)), (5, .slice (some ⟨g22, 0, none⟩) 16 cap23), (6, .slice (some ⟨g34, 0, none⟩) 16 cap35), (7, .int .i64 0), (8, .int .i64 0)] ⟨[], wb ah al, [], wb bh bl, 0, _, rfl, (chain (chain (chain (chain hb3 hb9) hb15) hb20) hb32), (hB27.on hb32), hB39, ((hk16.on hb20).on hb32), hz29, hN30, AInv.start ah al bh bl⟩ ⟨rfl, rfl, rfl, rfl, rfl, trivial⟩ ?_
  rintro m G w_ ⟨pre, post, ypre, ypost, c, cur, rfl, hBel, hX, hY, hZ, hsz, hNx, hinv⟩
  rcases m with _ | m
  · have hq : decide ((pre.length : Int) < 16) = false := by have := hinv.2.2.1; simp; omega
    refine w_seq ?_
    refine w_seq ?_
    refine w_region ?_
    refine rw_val (v := .int .i64 (pre.length : Int)) (w' := w_) rfl rfl rfl rfl rfl ?_
    refine rw_val (v := .bool (decide ((pre.length : Int) < 16))) (w' := w_) rfl rfl rfl rfl (by simp [go_sem, sEv, sLook, nbeq, i64_w]) ?_
    refine rw_end ?_
    refine w_cond_f rfl rfl hq ?_
    refine w_exit rfl ?_
    refine w_seq ?_
    refine w_region ?_
    refine rw_val (v := .slice (some ⟨g22, 0, none⟩) 16 cap23) (w' := w_) rfl rfl rfl rfl rfl ?_
    obtain rfl : post = [] := List.eq_nil_of_length_eq_zero hinv.1
    have hpre_ : pre = addc (wb ah al) (wb bh bl) 0 := by have := hinv.2.2.2.2.2.2.2.2; simpa [addc] using this
    rw [List.append_nil, hpre_] at hNx
    have hl3_ : (addc (wb ah al) (wb bh bl) 0).length = 16 := by rw [addc_len _ _ _ (by rw [wb_len, wb_len]), wb_len]
    refine rw_call rfl rfl rfl rfl (f := 36) (args := #[.slice (some ⟨g22, 0, none⟩) 16 cap23]) (by simp [go_sem, sEv, sLook, nbeq, i64_w]) (wide_row (some ⟨g22, 0, none⟩) cap23 (addc (wb ah al) (wb bh bl) 0) hl3_ (addc_byt _ _ _) w_ (hNx.C hX (by omega)) (by have := hc28; rw [wb_len] at this; exact this)) ?_
    rintro e_ w43 ⟨rfl, hb44⟩
    refine ⟨_, rfl, ?_⟩
    have hs_w43 := hb44.size
    have hb48 := (hZ.on hb44)
    refine rw_store (g := g13) (i := 0) (l := [.int .i64 (wrap64 (val (addc (wb ah al) (wb bh bl) 0) / 18446744073709551616)), .int .u64 (val (addc (wb ah al) (wb bh bl) 0) % 18446744073709551616)]) (cs' := #[.int .i64 (wrap64 (val (addc (wb ah al) (wb bh bl) 0) / 18446744073709551616)), .int .u64 (val (addc (wb ah al) (wb bh bl) 0) % 18446744073709551616)]) rfl rfl rfl hb48 rfl (by have e0_ := hb48.cellv (i := 0) (v := (.int .i64 0 : Value)) rfl; have f0_ := hb48.frozen 0; have e1_ := hb48.cellv (i := 1) (v := (.int .u64 0 : Value)) rfl; have f1_ := hb48.frozen 1; simp [go_sem, sEv, sLook, nbeq, i64_w, putCells, e0_, f0_, e1_, f1_, Try.underlying26]) ?_
    intro w45 hk46 hk47
    have hs_w45 := hk46.size
    refine rw_end ?_
    refine w_ret (post_retc (v := .agg #[.int .i64 (wrap64 (val (addc (wb ah al) (wb bh bl) 0) / 18446744073709551616)), .int .u64 (val (addc (wb ah al) (wb bh bl) 0) % 18446744073709551616)]) rfl rfl (by have eb_ := hk47; have e0_ := eb_.cellv (i := 0) (v := (.int .i64 (wrap64 (val (addc (wb ah al) (wb bh bl) 0) / 18446744073709551616)) : Value)) rfl; have e1_ := eb_.cellv (i := 1) (v := (.int .u64 (val (addc (wb ah al) (wb bh bl) 0) % 18446744073709551616) : Value)) rfl; simp [go_sem, e0_, e1_, Try.underlying26]) ?_)
    have hav_ := add_val ah al bh bl hal hbl
    exact ⟨by rw [hav_.1, hav_.2], (hk46.below (by omega) (chain hBel hb44))⟩
  · have hq : decide ((pre.length : Int) < 16) = true := by have := hinv.2.2.1; simp; omega
    obtain ⟨x, r, rfl⟩ : ∃ x r, post = x :: r := by cases post with | nil => exact absurd hinv.1 (by simp) | cons x r => exact ⟨x, r, rfl⟩
    obtain ⟨y, t, rfl⟩ : ∃ y t, ypost = y :: t := by cases ypost with | nil => exact absurd hinv.2.1 (by simp) | cons x r => exact ⟨x, r, rfl⟩
    have hx0 : cur[pre.length]? = some (.int .i64 x) := by have := hNx pre.length (by simp); simpa using this
    have hy0 : cur36[pre.length]? = some (.int .i64 y) := by have h4_ := hinv.2.2.2.1; have h8_ := hinv.2.2.2.2.2.2.2.1; have := hN42 pre.length (by rw [wb_len]; simp at hq; omega); rw [← h8_, ← h4_] at this; simpa [h4_] using this
    have hi1_ := hinv.1
    have hi3_ := hinv.2.2.1
    simp only [List.length_cons] at hi1_
    have hlt16 : (pre.length : Int) < 16 := by simpa using hq
    have hbx := hinv.2.2.2.2.1 x (by simp)
    have hby := hinv.2.2.2.2.2.1 y (by simp)
    have hbc := hinv.2.2.2.2.2.2.1
    refine w_seq ?_
    refine w_seq ?_
    refine w_region ?_
    refine rw_val (v := .int .i64 (pre.length : Int)) (w' := w_) rfl rfl rfl rfl rfl ?_
    refine rw_val (v := .bool (decide ((pre.length : Int) < 16))) (w' := w_) rfl rfl rfl rfl (by simp [go_sem, sEv, sLook, nbeq, i64_w]) ?_
    refine rw_end ?_
    refine w_cond_t rfl rfl hq ?_
    refine w_skip ?_
    refine w_seq ?_
    refine w_block ?_
    refine w_seq ?_
    refine w_draw (M := [0, 0, 3, 7, 0, 0, 48, 112, 255, 0, 1023, 2047]) (ss := [Is (.slice (some ⟨g22, 0, none⟩) 16 cap23), Is (.int .i64 (pre.length : Int)), Is (.pointer (some ⟨g22, pre.length, none⟩)), Is (.int .i64 x), Is (.slice (some ⟨g34, 0, none⟩) 16 cap35), Is (.int .i64 (pre.length : Int)), Is (.pointer (some ⟨g34, pre.length, none⟩)), Is (.int .i64 y), Is (.int .i64 (x + y)), Is (.int .i64 c), Is (.int .i64 (x + y + c)), Is (.int .i64 (x + y + c))]) rfl (by decide +kernel) ?_
    refine t_is (.slice (some ⟨g22, 0, none⟩) 16 cap23) rfl rfl rfl rfl (fun W_ hW_ F_ => rfl) ?_
    refine t_is (.int .i64 (pre.length : Int)) rfl rfl rfl rfl (fun W_ hW_ F_ => rfl) ?_
    refine t_is (.pointer (some ⟨g22, pre.length, none⟩)) rfl rfl rfl rfl (fun W_ hW_ F_ => by simp [go_sem, sEv, sLook, nbeq, i64_w, Try.underlying38, add_plain, hlt16]) ?_
    refine t_is (.int .i64 x) rfl rfl rfl rfl (fun W_ hW_ F_ => by have e0_ := (hX.on (below_of_drew hW_)).cellv hx0; simp [go_sem, sEv, sLook, nbeq, i64_w, e0_]) ?_
    refine t_is (.slice (some ⟨g34, 0, none⟩) 16 cap35) rfl rfl rfl rfl (fun W_ hW_ F_ => rfl) ?_
    refine t_is (.int .i64 (pre.length : Int)) rfl rfl rfl rfl (fun W_ hW_ F_ => rfl) ?_
    refine t_is (.pointer (some ⟨g34, pre.length, none⟩)) rfl rfl rfl rfl (fun W_ hW_ F_ => by simp [go_sem, sEv, sLook, nbeq, i64_w, Try.underlying38, add_plain, hlt16]) ?_
    refine t_is (.int .i64 y) rfl rfl rfl rfl (fun W_ hW_ F_ => by have e0_ := (hY.on (below_of_drew hW_)).cellv hy0; simp [go_sem, sEv, sLook, nbeq, i64_w, e0_]) ?_
    refine t_is (.int .i64 (x + y)) rfl rfl rfl rfl (fun W_ hW_ F_ => by simp [go_sem, sEv, sLook, nbeq, i64_w]; exact wrap_id (by omega) (by omega)) ?_
    refine t_is (.int .i64 c) rfl rfl rfl rfl (fun W_ hW_ F_ => rfl) ?_
    refine t_is (.int .i64 (x + y + c)) rfl rfl rfl rfl (fun W_ hW_ F_ => by simp [go_sem, sEv, sLook, nbeq, i64_w]; exact wrap_id (by omega) (by omega)) ?_
    refine t_is (.int .i64 (x + y + c)) rfl rfl rfl rfl (fun W_ hW_ F_ => rfl) ?_
    refine t_end ?_
    intro w49 hb50_ F51
    have hb50 := below_of_drew hb50_
    have hs_w49 := hb50.size
    refine w_weaken (G' := [(4, .pointer (some ⟨g13, 0, none⟩)), (5, .slice (some ⟨g22, 0, none⟩) 16 cap23), (6, .slice (some ⟨g34, 0, none⟩) 16 cap35), (7, .int .i64 c), (8, .int .i64 (pre.length : Int)), (9, .int .i64 (x + y + c))]) ⟨rfl, rfl, rfl, rfl, rfl, rfl, trivial⟩ ?_
    refine w_seq ?_
    refine w_region ?_
    refine rw_val (v := .slice (some ⟨g22, 0, none⟩) 16 cap23) (w' := w49) rfl rfl rfl rfl rfl ?_
    refine rw_val (v := .int .i64 (pre.length : Int)) (w' := w49) rfl rfl rfl rfl rfl ?_
    refine rw_val (v := .int .i64 (x + y + c)) (w' := w49) rfl rfl rfl rfl rfl ?_
    refine rw_val (v := .int .i64 ((x + y + c) % 256)) (w' := w49) rfl rfl rfl rfl (by simp [go_sem, sEv, sLook, nbeq, i64_w]; exact Int.tmod_eq_emod_of_nonneg (by omega)) ?_
    refine rw_val (v := .pointer (some ⟨g22, pre.length, none⟩)) (w' := w49) rfl rfl rfl rfl (by simp [go_sem, sEv, sLook, nbeq, i64_w, Try.underlying38, add_plain, hlt16]) ?_
    have hb55 := (hX.on hb50)
    refine rw_store (g := g22) (i := pre.length) (l := [.int .i64 ((x + y + c) % 256)]) (cs' := cur.setIfInBounds pre.length (.int .i64 ((x + y + c) % 256))) rfl rfl rfl hb55 rfl (by have e0_ := hb55.cellv hx0; have f0_ := hb55.frozen pre.length; simp [go_sem, sEv, sLook, nbeq, i64_w, putCells, e0_, f0_]) ?_
    intro w52 hk53 hk54
    have hs_w52 := hk53.size
    refine rw_end ?_
    refine w_weaken (G' := [(4, .pointer (some ⟨g13, 0, none⟩)), (5, .slice (some ⟨g22, 0, none⟩) 16 cap23), (6, .slice (some ⟨g34, 0, none⟩) 16 cap35), (7, .int .i64 c), (8, .int .i64 (pre.length : Int)), (9, .int .i64 (x + y + c))]) ⟨rfl, rfl, rfl, rfl, rfl, rfl, trivial⟩ ?_
    refine w_region ?_
    refine rw_val (v := .int .i64 (x + y + c)) (w' := w52) rfl rfl rfl rfl rfl ?_
    refine rw_val (v := .int .i64 ((x + y + c) / 256)) (w' := w52) rfl rfl rfl rfl (by simp [go_sem, sEv, sLook, nbeq, i64_w]; rw [Int.tdiv_eq_ediv_of_nonneg (by omega)]; exact wrap_id (by omega) (by omega)) ?_
    refine rw_val (v := .int .i64 ((x + y + c) / 256)) (w' := w52) rfl rfl rfl rfl rfl ?_
    refine rw_end ?_
    refine w_blk ?_
    refine w_region ?_
    refine rw_val (v := .int .i64 (pre.length : Int)) (w' := w52) rfl rfl rfl rfl rfl ?_
    refine rw_val (v := .int .i64 ((pre.length : Int) + 1)) (w' := w52) rfl rfl rfl rfl (by simp [go_sem, sEv, sLook, nbeq, i64_w]; exact wrap_id (by omega) (by omega)) ?_
    refine rw_val (v := .int .i64 ((pre.length : Int) + 1)) (w' := w52) rfl rfl rfl rfl rfl ?_
    refine rw_end ?_
    exact w_back m [(4, .pointer (some ⟨g13, 0, none⟩)), (5, .slice (some ⟨g22, 0, none⟩) 16 cap23), (6, .slice (some ⟨g34, 0, none⟩) 16 cap35), (7, .int .i64 ((x + y + c) / 256)), (8, .int .i64 ((pre.length : Int) + 1))] (by omega) ⟨rfl, rfl, rfl, rfl, rfl, trivial⟩ ⟨pre ++ [(x + y + c) % 256], r, ypre ++ [y], t, (x + y + c) / 256, _, by simp, (hk53.below (by omega) (chain hBel hb50)), hk54, ((hY.on hb50).keep hk53 (by omega)), ((hZ.on hb50).keep hk53 (by omega)), by simpa using hsz, by have := hNx.set (by rw [hsz]; simp; omega) pre.length ((x + y + c) % 256); simpa using this, hinv.step⟩
end Go.Proofs.Ytheaipbnbnjlgaa.Ce
