/- A law's own walk: DypLaw. -/
import Derived.Test.YtiiljpaedelhlaaQP5
section
namespace Go.Proofs.Ytiiljpaedelhlaa.Tp
open Go.RowKit Go.Proofs.YtiiljpaedelhlaaW.PrintWords Go.Proofs.YtiiljpaedelhlaaW.PrintLast Go.Proofs.YtiiljpaedelhlaaW.PrintMore
open Go.Proofs.Ytiiljpaedelhlaa.Flow
open Go.Proofs.Ytiiljpaedelhlaa.PDiaryPlays (SplitR Bytes frameB frameE FC wholeP frameB_len frameB_bytes FC_cons errN refsplit_calls)
set_option linter.unusedVariables false
set_option linter.unusedSimpArgs false
set_option maxHeartbeats 60000000 in
theorem walkPlays (w : World) (A1 : Option Addr) (c1 : Nat) (sc : List (Int × List Int × List (List Int) × Int)) (hsc : (Kd.pair (Kd.int .i64) (Kd.pair (Kd.slice 5 (Kd.int .u8)) (Kd.pair (Kd.slice 32 (Kd.slice 5 (Kd.int .u8))) (Kd.int .i64)))).C w A1 sc.length sc) (hcs : sc.length ≤ c1) (hln : sc.length ≤ 140737488355328) (hlr : ∀ o ∈ sc, o.2.1.length ≤ 140737488355328 ∧ o.2.2.1.length ≤ 6000000000000 ∧ ∀ p ∈ o.2.2.1, p.length ≤ 140737488355328) (hby : ∀ o ∈ sc, Bytes o.2.1 ∧ ∀ p ∈ o.2.2.1, Bytes p) (hnn : ∀ o ∈ sc, o.2.2.2 ≤ 9223372036854775807) :
    Calls Try.prog 8 #[.slice A1 sc.length c1] w fun e w' => e = .returned (.bool true) ∧ Below w.heap.size w w' := by
  refine calls_flow Try.func8 rfl 231 rfl (Nat.le_of_ble_eq_true rfl) [(0, .slice A1 sc.length c1)] ?_ ?_
  · intro t v h; exact args_look rfl t v h
  refine w_seq ?_
  refine w_region ?_
  refine rw_val (v := .bool false) (w' := w) rfl rfl rfl rfl rfl ?_
  refine rw_end ?_
  refine w_seq ?_
  refine w_seq ?_
  refine w_region ?_
  refine rw_call rfl rfl rfl rfl (f := 9) (args := #[]) (by simp [go_sem, sEv, sLook, nbeq, i64_w, -List.getD_eq_getElem?_getD]) (alive_calls w) ?_
  rintro e_ w1 ⟨rfl, hb2⟩
  refine ⟨_, rfl, ?_⟩
  have hs_w1 := hb2.size
  refine rw_val (v := .bool false) (w' := w1) rfl rfl rfl rfl (by simp [go_sem, sEv, sLook, nbeq, i64_w, -List.getD_eq_getElem?_getD]) ?_
  refine rw_end ?_
  refine w_cond_f rfl rfl rfl ?_
  refine w_skip ?_
  refine w_seq ?_
  refine w_seq ?_
  refine w_region ?_
  refine rw_val (v := .slice A1 sc.length c1) (w' := w1) rfl rfl rfl rfl rfl ?_
  refine rw_call rfl rfl rfl rfl (f := 25) (args := #[.slice A1 sc.length c1]) (by simp [go_sem, sEv, sLook, nbeq, i64_w, -List.getD_eq_getElem?_getD]) (long_calls w1 A1 c1 sc (Kd.C_below hsc hb2) hcs hln hlr) ?_
  rintro e_ w3 ⟨bl, rfl, hlg, hb4⟩
  refine ⟨_, rfl, ?_⟩
  have hs_w3 := hb4.size
  refine rw_end ?_
  refine w_cond rfl rfl (fun cB => ?_) (fun cB => ?_)
  · refine w_seq ?_
    refine w_region ?_
    refine rw_val (v := .bool true) (w' := w3) rfl rfl rfl rfl rfl ?_
    refine rw_end ?_
    refine w_ret (post_ret1 rfl rfl ?_)
    exact ⟨rfl, (chain hb2 hb4)⟩
  · refine w_skip ?_
    refine w_seq ?_
    refine w_region ?_
    have hlg_ := hlg cB
    refine rw_call rfl rfl rfl rfl (f := 10) (args := #[]) (by simp [go_sem, sEv, sLook, nbeq, i64_w, -List.getD_eq_getElem?_getD]) (new_T w3) ?_
    rintro e_ w5 ⟨g, rfl, hT6, hs7⟩
    refine ⟨_, rfl, ?_⟩
    obtain ⟨tb0, hTa_, _⟩ := (show TapeAt w w5 g w5.heap.size (fun _ => False) TS.start from new_on (chain hb2 hb4) hT6).toB
    have hz_w5 := hTa_.size
    have hg0_ := hTa_.size.1
    refine rw_val (v := .agg #[.string (⟨#[]⟩ : ByteArray), .string (⟨#[]⟩ : ByteArray), .int .i64 0, .bool false, .bool false, .int .i64 0, .int .i64 0, .bool false]) (w' := w5) rfl rfl rfl rfl (by kernel_rfl) ?_
    refine rw_new (cs := #[.string (⟨#[]⟩ : ByteArray), .string (⟨#[]⟩ : ByteArray), .int .i64 0, .bool false, .bool false, .int .i64 0, .int .i64 0, .bool false]) (t := 59) (fun g => .pointer (some ⟨g, 0, none⟩)) rfl rfl rfl rfl (by simp [go_sem, sEv, sLook, nbeq, i64_w, -List.getD_eq_getElem?_getD]) ?_
    intro u w8 hg11 hz10 hb9 hku_
    have hs_w8 := hb9.size
    have hku : Blk w8 u 59 (rcells ⟨[], [], 0, false, false, 0, 0, false⟩) := hku_
    have hu0a_ : w.heap.size ≤ u := by omega
    refine rw_val (v := .pointer (some ⟨g, 0, none⟩)) (w' := w8) rfl rfl rfl rfl rfl ?_
    refine rw_val (v := .pointer (some ⟨u, 0, none⟩)) (w' := w8) rfl rfl rfl rfl rfl ?_
    refine rw_end ?_
    refine w_weaken (G' := [(0, .slice A1 sc.length c1), (2, .bool false), (3, .pointer (some ⟨g, 0, none⟩)), (4, .pointer (some ⟨u, 0, none⟩))]) ⟨rfl, rfl, rfl, rfl, trivial⟩ ?_
    refine w_seq ?_
    refine w_region ?_
    refine rw_val (v := .pointer (some ⟨g, 0, none⟩)) (w' := w8) rfl rfl rfl rfl rfl ?_
    obtain ⟨nu1_, nu2_⟩ := TapeB.ne (hTa_.on hb9) hku (by decide) (by decide)
    refine rw_call rfl rfl rfl rfl (f := 11) (args := #[.pointer (some ⟨g, 0, none⟩)]) (by simp [go_sem, sEv, sLook, nbeq, i64_w, -List.getD_eq_getElem?_getD]) (openB0 w w8 g tb0 (hTa_.on hb9)) ?_
    rintro e_ w12 ⟨gd0, tb1, Ao_, co_, rfl, hKb_, hQb_, hTb_, hgd0a_, hbd0_⟩
    refine ⟨_, rfl, ?_⟩
    have hub_ := Blk.keptT hku hKb_ (fun e_ => nu1_ e_)
    have hz_w12 := hTb_.size
    have hs_w12 := hKb_.1
    refine rw_val (v := .tuple #[.pointer (some ⟨gd0, 0, none⟩), .slice Ao_ 0 co_, errT none]) (w' := w12) rfl rfl rfl rfl rfl ?_
    refine rw_val (v := .pointer (some ⟨gd0, 0, none⟩)) (w' := w12) rfl rfl rfl rfl (by simp [go_sem, sEv, sLook, nbeq, i64_w, -List.getD_eq_getElem?_getD]) ?_
    refine rw_val (v := .slice Ao_ 0 co_) (w' := w12) rfl rfl rfl rfl (by simp [go_sem, sEv, sLook, nbeq, i64_w, -List.getD_eq_getElem?_getD]) ?_
    refine rw_val (v := errT none) (w' := w12) rfl rfl rfl rfl (by simp [go_sem, sEv, sLook, nbeq, i64_w, -List.getD_eq_getElem?_getD]) ?_
    refine rw_val (v := .pointer (some ⟨gd0, 0, none⟩)) (w' := w12) rfl rfl rfl rfl rfl ?_
    refine rw_val (v := .slice Ao_ 0 co_) (w' := w12) rfl rfl rfl rfl rfl ?_
    refine rw_val (v := errT none) (w' := w12) rfl rfl rfl rfl rfl ?_
    refine rw_end ?_
    refine w_weaken (G' := [(0, .slice A1 sc.length c1), (2, .bool false), (3, .pointer (some ⟨g, 0, none⟩)), (4, .pointer (some ⟨u, 0, none⟩)), (5, .pointer (some ⟨gd0, 0, none⟩)), (7, errT none)]) ⟨rfl, rfl, rfl, rfl, rfl, rfl, trivial⟩ ?_
    refine w_seq ?_
    refine w_region ?_
    refine rw_val (v := .pointer (some ⟨u, 0, none⟩)) (w' := w12) rfl rfl rfl rfl rfl ?_
    obtain ⟨nu3_, nu4_⟩ := TapeB.ne hTb_ hub_ (by decide) (by decide)
    have nu5_ := blk_ne hbd0_ hub_ (by decide)
    refine rw_call rfl rfl rfl rfl (f := 26) (args := #[.pointer (some ⟨u, 0, none⟩)]) (by simp [go_sem, sEv, sLook, nbeq, i64_w, -List.getD_eq_getElem?_getD]) (ropenS (s := TS.start) (r := (⟨[], [], 0, false, false, 0, 0, false⟩ : RS)) (k := 0) (out := []) (n := 0) hTb_.below hub_ hu0a_ Both.start (by decide) (fun _ => SplitR.none _ (by decide)) rfl rfl) ?_
    rintro e_ w13 ⟨md0, rfl, hmd0a_, hKc_, hQc_, hRc_⟩
    refine ⟨_, rfl, ?_⟩
    have hTc_ := TapeB.kept hTb_ hKc_ hQc_ (fun q_ e_ => by have e2_ : q_ = u := e_; omega) (fun e_ => nu3_ e_.symm) (fun e_ => nu4_ e_.symm)
    have hbd1_ := Blk.keptT hbd0_ hKc_ (fun e_ => nu5_ e_)
    have hz_w13 := hTc_.size
    have hs_w13 := hKc_.1
    refine rw_val (v := .tuple #[.pointer (some ⟨md0, 0, none⟩), .int .i64 0]) (w' := w13) rfl rfl rfl rfl rfl ?_
    refine rw_val (v := .pointer (some ⟨md0, 0, none⟩)) (w' := w13) rfl rfl rfl rfl (by simp [go_sem, sEv, sLook, nbeq, i64_w, -List.getD_eq_getElem?_getD]) ?_
    refine rw_val (v := .int .i64 0) (w' := w13) rfl rfl rfl rfl (by simp [go_sem, sEv, sLook, nbeq, i64_w, -List.getD_eq_getElem?_getD]) ?_
    refine rw_val (v := .pointer (some ⟨md0, 0, none⟩)) (w' := w13) rfl rfl rfl rfl rfl ?_
    refine rw_val (v := .int .i64 0) (w' := w13) rfl rfl rfl rfl rfl ?_
    refine rw_end ?_
    refine w_weaken (G' := [(0, .slice A1 sc.length c1), (2, .bool false), (3, .pointer (some ⟨g, 0, none⟩)), (4, .pointer (some ⟨u, 0, none⟩)), (5, .pointer (some ⟨gd0, 0, none⟩)), (7, errT none), (8, .pointer (some ⟨md0, 0, none⟩))]) ⟨rfl, rfl, rfl, rfl, rfl, rfl, rfl, trivial⟩ ?_
    refine w_seq ?_
    refine w_seq ?_
    refine w_region ?_
    refine rw_val (v := errT none) (w' := w13) rfl rfl rfl rfl rfl ?_
    refine rw_val (v := .bool ((none : Option Int).isSome)) (w' := w13) rfl rfl rfl rfl (run_as (guard_err_neq _ (none : Option Int) _)) ?_
    refine rw_val (v := .bool ((none : Option Int).isSome)) (w' := w13) rfl rfl rfl rfl rfl ?_
    have hq14 : ((none : Option Int).isSome) = false := by rfl
    refine rw_on (c := (none : Option Int).isSome) rfl rfl rfl (by first | (rw [hq14]; rfl) | simp [hq14]) ?_
    refine rw_val (v := .pointer (some ⟨gd0, 0, none⟩)) (w' := w13) rfl rfl rfl rfl rfl ?_
    refine rw_on (c := (none : Option Int).isSome) rfl rfl rfl (by first | (rw [hq14]; rfl) | simp [hq14]) ?_
    refine rw_val (v := .bool false) (w' := w13) rfl rfl rfl rfl (run_as (run_ptr_eql (e := 80) (by kernel_rfl) _ _)) ?_
    refine rw_val (v := .bool false) (w' := w13) rfl rfl rfl rfl (by first | (simp [go_sem, sEv, sLook, nbeq, i64_w, -List.getD_eq_getElem?_getD, hq14]; done) | (rw [hq14]; simp [go_sem, sEv, sLook, nbeq, i64_w, -List.getD_eq_getElem?_getD]; done) | (simp [go_sem, sEv, sLook, nbeq, i64_w, -List.getD_eq_getElem?_getD] <;> omega) | (simp [go_sem, sEv, sLook, nbeq, i64_w, -List.getD_eq_getElem?_getD]; intro h_; exact absurd (by omega) h_)) ?_
    refine rw_end ?_
    refine w_weaken (G' := [(0, .slice A1 sc.length c1), (2, .bool false), (3, .pointer (some ⟨g, 0, none⟩)), (4, .pointer (some ⟨u, 0, none⟩)), (5, .pointer (some ⟨gd0, 0, none⟩)), (7, errT none), (8, .pointer (some ⟨md0, 0, none⟩)), (38, .bool false)]) ⟨rfl, rfl, rfl, rfl, rfl, rfl, rfl, rfl, trivial⟩ ?_
    refine w_cond_f rfl rfl rfl ?_
    refine w_skip ?_
    refine w_seq ?_
    refine w_seq ?_
    refine w_region ?_
    refine rw_val (v := .slice A1 sc.length c1) (w' := w13) rfl rfl rfl rfl rfl ?_
    refine rw_val (v := .int .i64 ((sc.length : Nat) : Int)) (w' := w13) rfl rfl rfl rfl (by simp [go_sem, sEv, sLook, nbeq, i64_w, -List.getD_eq_getElem?_getD]) ?_
    refine rw_val (v := .int .i64 0) (w' := w13) rfl rfl rfl rfl rfl ?_
    refine rw_end ?_
    refine w_block ?_
    refine w_loop (fun m_ G W_ => ∃ (j tb : Nat) (s : TS) (r : RS) (dv mv : Option Addr), j + m_ = sc.length ∧ LI w W_ g u (3 * ((j : Nat) : Int)) tb s r dv mv ∧ G = [(3, .pointer (some ⟨g, 0, none⟩)), (4, .pointer (some ⟨u, 0, none⟩)), (5, .pointer dv), (8, .pointer mv), (39, .slice A1 sc.length c1), (40, .int .i64 ((sc.length : Nat) : Int)), (41, .int .i64 ((j : Nat) : Int))]) sc.length [(3, .pointer (some ⟨g, 0, none⟩)), (4, .pointer (some ⟨u, 0, none⟩)), (5, .pointer (some ⟨gd0, 0, none⟩)), (8, .pointer (some ⟨md0, 0, none⟩)), (39, .slice A1 sc.length c1), (40, .int .i64 ((sc.length : Nat) : Int)), (41, .int .i64 ((0 : Nat) : Int))] ⟨0, tb1, TS.start, (⟨[], [], 0, false, false, 0, 0, false⟩ : RS), some ⟨gd0, 0, none⟩, some ⟨md0, 0, none⟩, by omega, ⟨hTc_, Both.mono Both.start (by omega), .inr ⟨gd0, md0, 0, 0, [], rfl, rfl, ⟨rfl, rfl, (fun p hp => by cases hp), (fun p hp => by cases hp), by decide⟩, hbd1_, hgd0a_, RDAt.mono hRc_ (fun _ _ => trivial)⟩⟩, rfl⟩ ⟨rfl, rfl, rfl, rfl, rfl, rfl, rfl, trivial⟩ ?_
    rintro m_ G wL ⟨j, tb, s, r, dv, mv, hj_, ⟨hT_, hBo_, hP_⟩, rfl⟩
    have hB_ := hT_.below
    have hs_wL := hB_.size
    have hz_ := hT_.size
    obtain ⟨hU_, hu0_⟩ := hP_.ublk
    have hlu_ := hU_.lt
    have hst_ := hBo_.st
    have hst0_ := hBo_.ok.steps.1
    have hro_ := hBo_.ro
    have hrs_ := hBo_.rel.st
    have hrn_ := hro_.len
    refine w_seq ?_
    refine w_region ?_
    refine rw_val (v := .bool (decide (((j : Nat) : Int) < ((sc.length : Nat) : Int)))) (w' := wL) rfl rfl rfl rfl (by simp [go_sem, sEv, sLook, nbeq, i64_w, -List.getD_eq_getElem?_getD]) ?_
    refine rw_end ?_
    refine w_seq ?_
    refine w_cond rfl rfl (fun cJ => ?_) (fun cJ => ?_)
    · have l15 : (((j : Nat) : Int) < ((sc.length : Nat) : Int)) := of_decide_eq_true cJ
      refine w_skip ?_
      refine w_seq ?_
      refine w_block ?_
      refine w_seq ?_
      refine w_region ?_
      obtain ⟨ad16, hA17, kd, row, rows, nn, A19, c20, A21, c22, hel27, hle23, hC24, hle25, hC26, hc18⟩ := ops_at hsc j (by first | omega | decide)
      subst hA17
      have he28 : w.cell? (ad16.add (j * 4)) = some (.int .i64 kd) := cell_0 (hc18 0 _ rfl)
      have he29 : w.cell? ⟨(ad16.add (j * 4)).block, (ad16.add (j * 4)).off + 1, none⟩ = some (.slice A19 row.length c20) := cell_j (hc18 1 _ rfl)
      have he30 : w.cell? ⟨(ad16.add (j * 4)).block, (ad16.add (j * 4)).off + 2, none⟩ = some (.slice A21 rows.length c22) := cell_j (hc18 2 _ rfl)
      have he31 : w.cell? ⟨(ad16.add (j * 4)).block, (ad16.add (j * 4)).off + 3, none⟩ = some (.int .i64 nn) := cell_j (hc18 3 _ rfl)
      refine rw_val (v := .pointer (some (ad16.add (j * 4)))) (w' := wL) rfl rfl rfl rfl (run_as (run_at_k (P := Try.prog) (e := 64) (sz := 4) (by kernel_rfl) (by kernel_rfl) j (by first | omega | decide) _)) ?_
      refine rw_val (v := .agg #[.int .i64 kd, .slice A19 row.length c20, .slice A21 rows.length c22, .int .i64 nn]) (w' := wL) rfl rfl rfl rfl (by have e0_ := cellOn he28 hT_.below; have e1_ := cellOn he29 hT_.below; have e2_ := cellOn he30 hT_.below; have e3_ := cellOn he31 hT_.below; simp [go_sem, sEv, sLook, nbeq, i64_w, -List.getD_eq_getElem?_getD, e0_, e1_, e2_, e3_, Try.underlying64]) ?_
      refine rw_new (cs := #[.int .i64 0, .slice none 0 0, .slice none 0 0, .int .i64 0]) (t := 64) (fun g => .pointer (some ⟨g, 0, none⟩)) rfl rfl rfl rfl (by kernel_rfl) ?_
      intro g32 w33 hg37 hz36 hb34 hk35
      have hs_w33 := hb34.size
      have hb41 := hk35
      refine rw_store (g := g32) (i := 0) (l := [.int .i64 kd, .slice A19 row.length c20, .slice A21 rows.length c22, .int .i64 nn]) (cs' := #[.int .i64 kd, .slice A19 row.length c20, .slice A21 rows.length c22, .int .i64 nn]) rfl rfl rfl hb41 rfl (by have e0_ := hb41.cellv (i := 0) (v := (.int .i64 0 : Value)) rfl; have f0_ := hb41.frozen 0; have e1_ := hb41.cellv (i := 1) (v := (.slice none 0 0 : Value)) rfl; have f1_ := hb41.frozen 1; have e2_ := hb41.cellv (i := 2) (v := (.slice none 0 0 : Value)) rfl; have f2_ := hb41.frozen 2; have e3_ := hb41.cellv (i := 3) (v := (.int .i64 0 : Value)) rfl; have f3_ := hb41.frozen 3; simp [go_sem, sEv, sLook, nbeq, i64_w, -List.getD_eq_getElem?_getD, putCells, e0_, f0_, e1_, f1_, e2_, f2_, e3_, f3_, Try.underlying64]) ?_
      intro w38 hk39 hk40
      have hK42 := Grow.keptS (S := fun q => q = g32) (kept_refl _ _) (Grow.ofK hk39) (.inl rfl)
      have hT43 := TapeB.kept (hT_.on hb34) hK42 ⟨hk39.os, hk39.tape, hk39.output⟩ (fun q_ e_ => by have e2_ : q_ = g32 := e_; omega) (fun e_ => by have e2_ : g = g32 := e_; omega) (fun e_ => by have e2_ : tb = g32 := e_; omega)
      have hP44 : Phs w w38 g u s r dv mv := Phs.kept (hP_.on hb34) hK42 (fun k_ e_ cs_ t_ hc_ => by have e2_ : k_ = g32 := e_; subst e2_; have h3_ := (hk35).symm.trans hc_; injection h3_ with h3_; injection h3_ with _ h3_; rw [← h3_]; decide) rfl
      have hs_w38 := hk39.size
      refine rw_end ?_
      refine w_weaken (G' := [(3, .pointer (some ⟨g, 0, none⟩)), (4, .pointer (some ⟨u, 0, none⟩)), (5, .pointer dv), (8, .pointer mv), (11, .pointer (some ⟨g32, 0, none⟩)), (39, .slice (some ad16) sc.length c1), (40, .int .i64 ((sc.length : Nat) : Int)), (41, .int .i64 ((j : Nat) : Int))]) ⟨rfl, rfl, rfl, rfl, rfl, rfl, rfl, rfl, trivial⟩ ?_
      refine w_seq ?_
      refine w_region ?_
      have hm_ := hel27 ▸ mem_getD sc j ((0, [], [], 0) : Int × List Int × List (List Int) × Int) (by omega)
      have hrl0_ : row.length ≤ 20000 := hlg_ _ hm_
      have hl_ := hlr _ hm_
      have hrw1_ : rows.length ≤ 6000000000000 := hl_.2.1
      have hrw2_ : ∀ p ∈ rows, p.length ≤ 140737488355328 := hl_.2.2
      have hb0_ : Bytes row := (hby _ hm_).1
      have hb1_ : ∀ p ∈ rows, Bytes p := (hby _ hm_).2
      have hnn_ : nn ≤ 9223372036854775807 := hnn _ hm_
      have hge_ := (hk40).lt
      refine rw_val (v := .pointer (some ⟨g32, 1, none⟩)) (w' := w38) rfl rfl rfl rfl (by simp [go_sem, sEv, sLook, nbeq, i64_w, -List.getD_eq_getElem?_getD, Try.underlying64]) ?_
      refine rw_val (v := .slice A19 row.length c20) (w' := w38) rfl rfl rfl rfl (by have eb_ := hk40; have e0_ := eb_.cellv (i := 1) (v := (.slice A19 row.length c20 : Value)) rfl; simp [go_sem, sEv, sLook, nbeq, i64_w, -List.getD_eq_getElem?_getD, e0_, Try.underlying32]) ?_
      refine rw_call rfl rfl rfl rfl (f := 27) (args := #[.slice A19 row.length c20]) (by simp [go_sem, sEv, sLook, nbeq, i64_w, -List.getD_eq_getElem?_getD]) (copyB w38 A19 c20 row (Kd.C_below hC24 (hk39.below (by omega) (chain hT_.below hb34))) hle23 (by omega)) ?_
      rintro e_ w45 ⟨gc, csc, cc, rfl, hgcl_, hgc_, hN46, hcc_, hcs_, hB47⟩
      refine ⟨_, rfl, ?_⟩
      have hs_w45 := hB47.size
      have hgcs_ := hgc_.lt
      refine rw_val (v := .slice (some ⟨gc, 0, none⟩) row.length cc) (w' := w45) rfl rfl rfl rfl rfl ?_
      refine rw_end ?_
      refine w_weaken (G' := [(3, .pointer (some ⟨g, 0, none⟩)), (4, .pointer (some ⟨u, 0, none⟩)), (5, .pointer dv), (8, .pointer mv), (11, .pointer (some ⟨g32, 0, none⟩)), (12, .slice (some ⟨gc, 0, none⟩) row.length cc), (39, .slice (some ad16) sc.length c1), (40, .int .i64 ((sc.length : Nat) : Int)), (41, .int .i64 ((j : Nat) : Int))]) ⟨rfl, rfl, rfl, rfl, rfl, rfl, rfl, rfl, rfl, trivial⟩ ?_
      refine w_seq ?_
      refine w_seq ?_
      refine w_region ?_
      refine rw_val (v := .pointer (some ⟨g32, 0, none⟩)) (w' := w45) rfl rfl rfl rfl (by simp [go_sem, sEv, sLook, nbeq, i64_w, -List.getD_eq_getElem?_getD, Try.underlying64]) ?_
      refine rw_val (v := .int .i64 kd) (w' := w45) rfl rfl rfl rfl (by have eb_ := (hk40.on hB47); have e0_ := eb_.cellv (i := 0) (v := (.int .i64 kd : Value)) rfl; simp [go_sem, sEv, sLook, nbeq, i64_w, -List.getD_eq_getElem?_getD, e0_]) ?_
      refine rw_end ?_
      refine w_join (fun G W_ => ∃ (tb : Nat) (s : TS) (r : RS) (dv mv : Option Addr), LI w W_ g u (3 * ((j + 1 : Nat) : Int)) tb s r dv mv ∧ G = [(3, .pointer (some ⟨g, 0, none⟩)), (4, .pointer (some ⟨u, 0, none⟩)), (5, .pointer dv), (8, .pointer mv), (39, .slice (some ad16) sc.length c1), (40, .int .i64 ((sc.length : Nat) : Int)), (41, .int .i64 ((j : Nat) : Int))]) ?_ ?_
      · refine w_block ?_
        refine w_seq ?_
        refine w_seq ?_
        refine w_region ?_
        refine rw_val (v := .bool (kd == 0)) (w' := w45) rfl rfl rfl rfl (by simp [go_sem, sEv, sLook, nbeq, i64_w, -List.getD_eq_getElem?_getD]) ?_
        refine rw_val (v := .bool (kd == 0)) (w' := w45) rfl rfl rfl rfl rfl ?_
        refine rw_end ?_
        refine w_cond rfl rfl (fun cK0 => ?_) (fun cK0 => ?_)
        · have l48 : kd = 0 := by simpa using cK0
          refine w_skip ?_
          refine w_cond_t rfl rfl cK0 ?_
          refine w_seq ?_
          refine w_seq ?_
          rcases (hP44.on hB47) with ⟨rfl, rfl, hUn_, _⟩ | ⟨gd, md, rr, bb, rs, rfl, rfl, hDI_, hbd_, hgd0_, hR_⟩
          · refine w_region ?_
            refine rw_val (v := .pointer none) (w' := w45) rfl rfl rfl rfl rfl ?_
            refine rw_val (v := .bool true) (w' := w45) rfl rfl rfl rfl (run_as (run_ptr_eql (e := 71) (by kernel_rfl) _ _)) ?_
            refine rw_end ?_
            refine w_cond_t rfl rfl rfl ?_
            refine w_seq ?_
            refine w_seq ?_
            refine w_region ?_
            refine rw_val (v := .pointer none) (w' := w45) rfl rfl rfl rfl rfl ?_
            refine rw_val (v := .bool false) (w' := w45) rfl rfl rfl rfl (run_as (run_ptr_neq (e := 80) (by kernel_rfl) _ _)) ?_
            refine rw_end ?_
            refine w_cond_f rfl rfl rfl ?_
            refine w_skip ?_
            refine w_exit rfl ?_
            refine w_region ?_
            refine rw_val (v := .int .i64 ((j + 1 : Nat) : Int)) (w' := w45) rfl rfl rfl rfl (by simp [go_sem, sEv, sLook, nbeq, i64_w, -List.getD_eq_getElem?_getD]; exact wrap_id (by omega) (by omega)) ?_
            refine rw_val (v := .int .i64 ((j + 1 : Nat) : Int)) (w' := w45) rfl rfl rfl rfl rfl ?_
            refine rw_end ?_
            exact w_back (m_ - 1) [(3, .pointer (some ⟨g, 0, none⟩)), (4, .pointer (some ⟨u, 0, none⟩)), (5, .pointer none), (8, .pointer none), (39, .slice (some ad16) sc.length c1), (40, .int .i64 ((sc.length : Nat) : Int)), (41, .int .i64 ((j + 1 : Nat) : Int))] (by omega) ⟨rfl, rfl, rfl, rfl, rfl, rfl, rfl, trivial⟩ ⟨j + 1, _, _, _, _, _, by omega, ⟨(hT43.on hB47), Both.mono hBo_ (by omega), (.inl ⟨rfl, rfl, (((hU_.on hb34).keep hk39 (by omega)).on hB47), hu0_⟩)⟩, rfl⟩
          · have hl1_ := hbd_.lt
            obtain ⟨hub_, _, hmd0_, AR, cR, hbm_, hrr_⟩ := hR_
            have hR_ : RDAt w w45 (fun _ => True) u md r rs := ⟨hub_, hu0_, hmd0_, AR, cR, hbm_, hrr_⟩
            have hl2_ := hbm_.lt
            have hlen_ := hDI_.len hBo_.ok
            have hrl_ := rows_le rs hDI_.all
            have hrr1_ : rr = ((rs.length : Nat) : Int) := hDI_.r
            have hbb1_ : bb = (((FC rs).length : Nat) : Int) := hDI_.b
            have hlen1_ := hlen_.1
            refine w_region ?_
            refine rw_val (v := .pointer (some ⟨md, 0, none⟩)) (w' := w45) rfl rfl rfl rfl rfl ?_
            refine rw_val (v := .bool false) (w' := w45) rfl rfl rfl rfl (run_as (run_ptr_eql (e := 71) (by kernel_rfl) _ _)) ?_
            refine rw_end ?_
            refine w_cond_f rfl rfl rfl ?_
            refine w_skip ?_
            refine w_seq ?_
            refine w_seq ?_
            have hop_ := Both.add (D := (⟨s, rr, bb⟩ : DS)) (k := 3 * ((j : Nat) : Int)) hBo_ hDI_ hb0_ (by omega)
            have hT9_ := (hT43.on hB47)
            have hG9_ : Blk w45 gd 80 (dcells g rr bb) := hbd_
            have hR9_ := hR_
            have hE9_ := (hk40.on hB47)
            have hC9_ := hgc_
            have hN_ := nums5 hT9_ hG9_ hgd0_ hR9_
            have hY9_ := rd_okY hT9_ hG9_ hR9_
            obtain ⟨⟨b1_, b2_, b3_, b4_, b5_⟩, ⟨l1_, l2_, l3_, l4_, l5_⟩, ⟨n1_, n2_, n3_, n4_, n5_, n6_, n7_, n8_, n9_⟩⟩ := hN_
            obtain ⟨e1_, e2_⟩ := hT9_.ne hE9_ (by decide) (by decide)
            have e3_ := blk_ne hE9_ hG9_ (by decide)
            have e4_ := blk_ne hE9_ hR9_.1 (by decide)
            have c4_ := blk_ne hC9_ hR9_.1 (by decide)
            obtain ⟨_, _, _, _, _, hM9_, _⟩ := hR9_
            have e5_ := blk_ne hE9_ hM9_ (by decide)
            have c3_ := blk_ne hC9_ hG9_ (by decide)
            have c5_ := blk_ne hC9_ hM9_ (by decide)
            have hN_ := nums5 hT9_ hG9_ hgd0_ hR_
            refine w_drawo (M := [0, 1, 3, 7, 15, 15, 63, 127, 15, 15, 527, 1551, 4095, 8191, 16383, 32767, 65535, 131071, 262143, 524287, 1048575, 1048575, 3145727, 8388607, 16777215, 1048575, 1048575, 68157439, 234881023, 536870911, 1073741823, 2147483647, 4294967295, 8589934591, 17179869183, 17179869183, 51539607551, 137438953471, 274877906943, 549755813887]) (ss := [Is (.pointer (some ⟨g32, 0, none⟩)), Is (.int .i64 kd), Is (.bool (kd == 0)), Is (.bool (kd == 0)), Is (.pointer (some ⟨gd, 0, none⟩)), Is (.slice (some ⟨gc, 0, none⟩) row.length cc), Is (errT ((⟨s, rr, bb⟩ : DS).addE row)), Is (.int .i64 (numT ((⟨s, rr, bb⟩ : DS).addE row))), Is (.pointer (some ⟨md, 0, none⟩)), Is (.pointer (some ⟨g32, 1, none⟩)), Is (.slice A19 row.length c20), Is (.string (strOfNums row)), Is (.int .i64 (r.addE row)), Is (.bool ((numT ((⟨s, rr, bb⟩ : DS).addE row)) != (r.addE row))), Is (.bool ((numT ((⟨s, rr, bb⟩ : DS).addE row)) != (r.addE row))), Is (.bool ((numT ((⟨s, rr, bb⟩ : DS).addE row)) != (r.addE row))), Is (.pointer (some ⟨g32, 0, none⟩)), Is (.int .i64 kd), Is (.bool (kd == 1)), Is (.bool (kd == 1)), Is undef, Is undef, Is undef, Is undef, Is undef, Is undef, Is undef, Is undef, Is undef, Is undef, Is undef, Is (.bool false), Is (.bool false), Is (.bool false), Is (.slice (some ⟨gc, 0, none⟩) row.length cc), Is (.pointer (some ⟨g32, 1, none⟩)), Is (.slice A19 row.length c20)]) (two 6 12 (MX w w45 g tb gd (⟨s, rr, bb⟩ : DS) ((⟨s, rr, bb⟩ : DS).add row)) (MY w g tb gd u md r (r.addS row) rs (if (r.addE row) == 0 then rs ++ [row] else rs))) 37 rfl (by decide +kernel) (two_cases (P := fun j _ => j < 37) (by decide) (by decide)) (two_st (show StabX _ 6 _ from ⟨stab_is, ⟨stab_is, ⟨stab_is, ⟨stab_is, ⟨stab_is, ⟨stab_is, (stab_cons stab_is (stab_cons stab_is (stab_cons stab_is (stab_cons stab_is (stab_cons stab_is (stab_cons stab_is (stab_cons stab_is (stab_cons stab_is (stab_cons stab_is (stab_cons stab_is (stab_cons stab_is (stab_cons stab_is (stab_cons stab_is (stab_cons stab_is (stab_cons stab_is (stab_cons stab_is (stab_cons stab_is (stab_cons stab_is (stab_cons stab_is (stab_cons stab_is (stab_cons stab_is (stab_cons stab_is (stab_cons stab_is (stab_cons stab_is (stab_cons stab_is (stab_cons stab_is (stab_cons stab_is (stab_cons stab_is (stab_cons stab_is (stab_cons stab_is stab_nil))))))))))))))))))))))))))))))⟩⟩⟩⟩⟩⟩) (show StabX _ 12 _ from ⟨stab_is, ⟨stab_is, ⟨stab_is, ⟨stab_is, ⟨stab_is, ⟨stab_is, ⟨stab_is, ⟨stab_is, ⟨stab_is, ⟨stab_is, ⟨stab_is, ⟨stab_is, (stab_cons stab_is (stab_cons stab_is (stab_cons stab_is (stab_cons stab_is (stab_cons stab_is (stab_cons stab_is (stab_cons stab_is (stab_cons stab_is (stab_cons stab_is (stab_cons stab_is (stab_cons stab_is (stab_cons stab_is (stab_cons stab_is (stab_cons stab_is (stab_cons stab_is (stab_cons stab_is (stab_cons stab_is (stab_cons stab_is (stab_cons stab_is (stab_cons stab_is (stab_cons stab_is (stab_cons stab_is (stab_cons stab_is (stab_cons stab_is stab_nil))))))))))))))))))))))))⟩⟩⟩⟩⟩⟩⟩⟩⟩⟩⟩⟩)) XY_on (XY_ff hN_) (XY_0 hT9_ hG9_ hY9_) ?_
            refine v_is (by kernel_rfl) (.pointer (some ⟨g32, 0, none⟩)) rfl rfl rfl rfl (fun W_ hW_ h1_ F_ => by simp [go_sem, sEv, sLook, nbeq, i64_w, -List.getD_eq_getElem?_getD, Try.underlying64]) ?_
            refine v_is (by kernel_rfl) (.int .i64 kd) rfl rfl rfl rfl (fun W_ hW_ h1_ F_ => by have eb_ := (Blk.kept hE9_ (drew_kept hW_) (fun hs_ => by rcases mu_XY hs_ with h_ | h_ | h_ | h_ | h_ <;> omega)); have e0_ := eb_.cellv (i := 0) (v := (.int .i64 kd : Value)) rfl; simp [go_sem, sEv, sLook, nbeq, i64_w, -List.getD_eq_getElem?_getD, e0_]) ?_
            refine v_is (by kernel_rfl) (.bool (kd == 0)) rfl rfl rfl rfl (fun W_ hW_ h1_ F_ => by simp [go_sem, sEv, sLook, nbeq, i64_w, -List.getD_eq_getElem?_getD]) ?_
            refine v_is (by kernel_rfl) (.bool (kd == 0)) rfl rfl rfl rfl (fun W_ hW_ h1_ F_ => rfl) ?_
            refine v_gis (by kernel_rfl) (c := (kd == 0)) (.pointer (some ⟨gd, 0, none⟩)) rfl rfl rfl (by first | (rw [cK0]; rfl) | simp [cK0]) rfl rfl rfl (fun W_ hW_ h1_ F_ => rfl) ?_
            refine v_gis (by kernel_rfl) (c := (kd == 0)) (.slice (some ⟨gc, 0, none⟩) row.length cc) rfl rfl rfl (by first | (rw [cK0]; rfl) | simp [cK0]) rfl rfl rfl (fun W_ hW_ h1_ F_ => rfl) ?_
            refine v_gmut (x := (MX w w45 g tb gd (⟨s, rr, bb⟩ : DS) ((⟨s, rr, bb⟩ : DS).add row))) (by kernel_rfl) (c := (kd == 0)) (Is (errT ((⟨s, rr, bb⟩ : DS).addE row))) (f := 12) (args := #[.pointer (some ⟨gd, 0, none⟩), .slice (some ⟨gc, 0, none⟩) row.length cc]) rfl rfl rfl (by first | (rw [cK0]; rfl) | simp [cK0]) rfl rfl rfl (fun W_ => by simp [go_sem, sEv, sLook, nbeq, i64_w, -List.getD_eq_getElem?_getD]) (fun W_ hW_ h0_ F_ => ?_) ?_
            · have hs0_ := (drew_kept hW_).1
              refine (addB w W_ g gd tb (⟨s, rr, bb⟩ : DS) h0_.1 h0_.2 hgd0_ hBo_.ok (by show s.steps ≤ 999999999999990; omega) (by show rr ≥ -1000000000000000 ∧ rr ≤ 1000000000000000; omega) (by show bb ≥ -1000000000000000 ∧ bb ≤ 1000000000000000; omega) (some ⟨gc, 0, none⟩) cc row (nums_C hN46 (Blk.kept hC9_ (drew_kept hW_) (fun hs_ => by rcases mu_XY hs_ with h_ | h_ | h_ | h_ | h_ <;> omega)) (by omega)) (Nat.le_of_add_right_le hcc_) (by omega)).mono ?_
              rintro e_ w_ ⟨rfl, hk_, hq_, tb_, ht_, hb_, ho_⟩
              exact ⟨_, rfl, rfl, hk_, ⟨tb_, ht_, hb_, by omega⟩, hq_⟩
            rintro _ rfl
            refine v_gcall (by kernel_rfl) (c := (kd == 0)) (Is (.int .i64 (numT ((⟨s, rr, bb⟩ : DS).addE row)))) (f := 23) (args := #[errT ((⟨s, rr, bb⟩ : DS).addE row)]) rfl rfl rfl (by first | (rw [cK0]; rfl) | simp [cK0]) rfl rfl rfl (fun W_ => by simp [go_sem, sEv, sLook, nbeq, i64_w, -List.getD_eq_getElem?_getD]) (fun W_ hW_ h1_ F_ => (num_T ((⟨s, rr, bb⟩ : DS).addE row) (addE_ne _ _) W_).mono (fun e_ w_ h_ => ⟨_, h_.1, rfl, h_.2⟩)) ?_
            rintro _ rfl
            refine v_gis (by kernel_rfl) (c := (kd == 0)) (.pointer (some ⟨md, 0, none⟩)) rfl rfl rfl (by first | (rw [cK0]; rfl) | simp [cK0]) rfl rfl rfl (fun W_ hW_ h1_ F_ => rfl) ?_
            refine v_gis (by kernel_rfl) (c := (kd == 0)) (.pointer (some ⟨g32, 1, none⟩)) rfl rfl rfl (by first | (rw [cK0]; rfl) | simp [cK0]) rfl rfl rfl (fun W_ hW_ h1_ F_ => by simp [go_sem, sEv, sLook, nbeq, i64_w, -List.getD_eq_getElem?_getD, Try.underlying64]) ?_
            refine v_gis (by kernel_rfl) (c := (kd == 0)) (.slice A19 row.length c20) rfl rfl rfl (by first | (rw [cK0]; rfl) | simp [cK0]) rfl rfl rfl (fun W_ hW_ h1_ F_ => by have eb_ := (Blk.kept hE9_ (drew_kept hW_) (fun hs_ => by rcases mu_XY hs_ with h_ | h_ | h_ | h_ | h_ <;> omega)); have e0_ := eb_.cellv (i := 1) (v := (.slice A19 row.length c20 : Value)) rfl; simp [go_sem, sEv, sLook, nbeq, i64_w, -List.getD_eq_getElem?_getD, e0_, Try.underlying32]) ?_
            refine v_gis (by kernel_rfl) (c := (kd == 0)) (.string (strOfNums row)) rfl rfl rfl (by first | (rw [cK0]; rfl) | simp [cK0]) rfl rfl rfl (fun W_ hW_ h1_ F_ => run_as (run_str_of (P := Try.prog) (e := 5) (by kernel_rfl) (by kernel_rfl) (by kernel_rfl) (Kd.C_below hC24 (((h1_ 12 _ rfl (Nat.ne_of_beq_eq_false (by kernel_rfl))).2 (by kernel_rfl)).1)))) ?_
            refine v_gmut (x := (MY w g tb gd u md r (r.addS row) rs (if (r.addE row) == 0 then rs ++ [row] else rs))) (by kernel_rfl) (c := (kd == 0)) (Is (.int .i64 (r.addE row))) (f := 28) (args := #[.pointer (some ⟨md, 0, none⟩), .string (strOfNums row)]) rfl rfl rfl (by first | (rw [cK0]; rfl) | simp [cK0]) rfl rfl rfl (fun W_ => by simp [go_sem, sEv, sLook, nbeq, i64_w, -List.getD_eq_getElem?_getD]) (fun W_ hW_ h0_ F_ => ?_) ?_
            · have hs0_ := (drew_kept hW_).1
              refine (radd_calls W_ w h0_.1 u md _ (fun q_ h_ => ⟨by omega, by omega, by omega, by omega, by omega⟩) (fun q_ h_ => ⟨h_.2.2.2.1, h_.2.2.2.2⟩) r rs h0_.2 hro_ (by omega) row hb0_ (by omega) (by omega)).mono ?_
              rintro e_ w_ ⟨rfl, hk_, hq_, hr_⟩
              exact ⟨_, rfl, rfl, hk_, hr_, hq_⟩
            rintro _ rfl
            refine v_gis (by kernel_rfl) (c := (kd == 0)) (.bool ((numT ((⟨s, rr, bb⟩ : DS).addE row)) != (r.addE row))) rfl rfl rfl (by first | (rw [cK0]; rfl) | simp [cK0]) rfl rfl rfl (fun W_ hW_ h1_ F_ => by simp [go_sem, sEv, sLook, nbeq, i64_w, -List.getD_eq_getElem?_getD]) ?_
            refine v_is (by kernel_rfl) (.bool ((numT ((⟨s, rr, bb⟩ : DS).addE row)) != (r.addE row))) rfl rfl rfl rfl (fun W_ hW_ h1_ F_ => by first | (simp [go_sem, sEv, sLook, nbeq, i64_w, -List.getD_eq_getElem?_getD, cK0]; done) | (rw [cK0]; simp [go_sem, sEv, sLook, nbeq, i64_w, -List.getD_eq_getElem?_getD]; done) | (simp [go_sem, sEv, sLook, nbeq, i64_w, -List.getD_eq_getElem?_getD] <;> omega) | (simp [go_sem, sEv, sLook, nbeq, i64_w, -List.getD_eq_getElem?_getD]; intro h_; exact absurd (by omega) h_)) ?_
            refine v_is (by kernel_rfl) (.bool ((numT ((⟨s, rr, bb⟩ : DS).addE row)) != (r.addE row))) rfl rfl rfl rfl (fun W_ hW_ h1_ F_ => rfl) ?_
            have hq49 : ((numT ((⟨s, rr, bb⟩ : DS).addE row)) != (r.addE row)) = false := by rw [hop_.1]; simp
            refine v_gis (by kernel_rfl) (c := ((numT ((⟨s, rr, bb⟩ : DS).addE row)) != (r.addE row))) (.pointer (some ⟨g32, 0, none⟩)) rfl rfl rfl (by first | (rw [hq49]; rfl) | simp [hq49]) rfl rfl rfl (fun W_ hW_ h1_ F_ => by simp [go_sem, sEv, sLook, nbeq, i64_w, -List.getD_eq_getElem?_getD, Try.underlying64]) ?_
            refine v_gis (by kernel_rfl) (c := ((numT ((⟨s, rr, bb⟩ : DS).addE row)) != (r.addE row))) (.int .i64 kd) rfl rfl rfl (by first | (rw [hq49]; rfl) | simp [hq49]) rfl rfl rfl (fun W_ hW_ h1_ F_ => by have eb_ := (Blk.kept hE9_ (drew_kept hW_) (fun hs_ => by rcases mu_XY hs_ with h_ | h_ | h_ | h_ | h_ <;> omega)); have e0_ := eb_.cellv (i := 0) (v := (.int .i64 kd : Value)) rfl; simp [go_sem, sEv, sLook, nbeq, i64_w, -List.getD_eq_getElem?_getD, e0_]) ?_
            refine v_gis (by kernel_rfl) (c := ((numT ((⟨s, rr, bb⟩ : DS).addE row)) != (r.addE row))) (.bool (kd == 1)) rfl rfl rfl (by first | (rw [hq49]; rfl) | simp [hq49]) rfl rfl rfl (fun W_ hW_ h1_ F_ => by simp [go_sem, sEv, sLook, nbeq, i64_w, -List.getD_eq_getElem?_getD]) ?_
            refine v_gis (by kernel_rfl) (c := ((numT ((⟨s, rr, bb⟩ : DS).addE row)) != (r.addE row))) (.bool (kd == 1)) rfl rfl rfl (by first | (rw [hq49]; rfl) | simp [hq49]) rfl rfl rfl (fun W_ hW_ h1_ F_ => rfl) ?_
            have hq50 : (kd == 1) = false := by rw [show kd = 0 by simpa using cK0]; rfl
            refine v_off (by kernel_rfl) (c := (kd == 1)) rfl rfl rfl (by first | (rw [hq50]; rfl) | simp [hq50]) rfl rfl ?_
            refine v_off (by kernel_rfl) (c := (kd == 1)) rfl rfl rfl (by first | (rw [hq50]; rfl) | simp [hq50]) rfl rfl ?_
            refine v_off (by kernel_rfl) (c := (kd == 1)) rfl rfl rfl (by first | (rw [hq50]; rfl) | simp [hq50]) rfl rfl ?_
            refine v_off (by kernel_rfl) (c := (kd == 1)) rfl rfl rfl (by first | (rw [hq50]; rfl) | simp [hq50]) rfl rfl ?_
            refine v_off (by kernel_rfl) (c := (kd == 1)) rfl rfl rfl (by first | (rw [hq50]; rfl) | simp [hq50]) rfl rfl ?_
            refine v_off (by kernel_rfl) (c := (kd == 1)) rfl rfl rfl (by first | (rw [hq50]; rfl) | simp [hq50]) rfl rfl ?_
            refine v_off (by kernel_rfl) (c := (kd == 1)) rfl rfl rfl (by first | (rw [hq50]; rfl) | simp [hq50]) rfl rfl ?_
            refine v_off (by kernel_rfl) (c := (kd == 1)) rfl rfl rfl (by first | (rw [hq50]; rfl) | simp [hq50]) rfl rfl ?_
            refine v_off (by kernel_rfl) (c := (kd == 1)) rfl rfl rfl (by first | (rw [hq50]; rfl) | simp [hq50]) rfl rfl ?_
            refine v_off (by kernel_rfl) (c := (kd == 1)) rfl rfl rfl (by first | (rw [hq50]; rfl) | simp [hq50]) rfl rfl ?_
            refine v_off (by kernel_rfl) (c := (kd == 1)) rfl rfl rfl (by first | (rw [hq50]; rfl) | simp [hq50]) rfl rfl ?_
            refine v_gis (by kernel_rfl) (c := ((numT ((⟨s, rr, bb⟩ : DS).addE row)) != (r.addE row))) (.bool false) rfl rfl rfl (by first | (rw [hq49]; rfl) | simp [hq49]) rfl rfl rfl (fun W_ hW_ h1_ F_ => by first | (simp [go_sem, sEv, sLook, nbeq, i64_w, -List.getD_eq_getElem?_getD, hq50]; done) | (rw [hq50]; simp [go_sem, sEv, sLook, nbeq, i64_w, -List.getD_eq_getElem?_getD]; done) | (simp [go_sem, sEv, sLook, nbeq, i64_w, -List.getD_eq_getElem?_getD] <;> omega) | (simp [go_sem, sEv, sLook, nbeq, i64_w, -List.getD_eq_getElem?_getD]; intro h_; exact absurd (by omega) h_)) ?_
            refine v_is (by kernel_rfl) (.bool false) rfl rfl rfl rfl (fun W_ hW_ h1_ F_ => by first | (simp [go_sem, sEv, sLook, nbeq, i64_w, -List.getD_eq_getElem?_getD, hq49]; done) | (rw [hq49]; simp [go_sem, sEv, sLook, nbeq, i64_w, -List.getD_eq_getElem?_getD]; done) | (simp [go_sem, sEv, sLook, nbeq, i64_w, -List.getD_eq_getElem?_getD] <;> omega) | (simp [go_sem, sEv, sLook, nbeq, i64_w, -List.getD_eq_getElem?_getD]; intro h_; exact absurd (by omega) h_)) ?_
            refine v_is (by kernel_rfl) (.bool false) rfl rfl rfl rfl (fun W_ hW_ h1_ F_ => rfl) ?_
            refine v_gis (by kernel_rfl) (c := false) (.slice (some ⟨gc, 0, none⟩) row.length cc) rfl rfl rfl rfl rfl rfl rfl (fun W_ hW_ h1_ F_ => rfl) ?_
            refine v_gis (by kernel_rfl) (c := false) (.pointer (some ⟨g32, 1, none⟩)) rfl rfl rfl rfl rfl rfl rfl (fun W_ hW_ h1_ F_ => by simp [go_sem, sEv, sLook, nbeq, i64_w, -List.getD_eq_getElem?_getD, Try.underlying64]) ?_
            refine v_gis (by kernel_rfl) (c := false) (.slice A19 row.length c20) rfl rfl rfl rfl rfl rfl rfl (fun W_ hW_ h1_ F_ => by have eb_ := (Blk.kept hE9_ (drew_kept hW_) (fun hs_ => by rcases mu_XY hs_ with h_ | h_ | h_ | h_ | h_ <;> omega)); have e0_ := eb_.cellv (i := 1) (v := (.slice A19 row.length c20 : Value)) rfl; simp [go_sem, sEv, sLook, nbeq, i64_w, -List.getD_eq_getElem?_getD, e0_, Try.underlying32]) ?_
            refine v_tail ?_
            intro w51 hK52_ h53 F54
            have hK52 := drew_kept hK52_
            have hs_w51 := hK52.1
            obtain ⟨tb9, hTx_, hGx_, htx_⟩ := h53 6 _ rfl
            have hRx_ : RDAt w w51 (okY g tb gd u md) u md (r.addS row) (if (r.addE row) == 0 then rs ++ [row] else rs) := h53 12 _ rfl
            clear F54 h53
            have hEx_ := Blk.kept hE9_ hK52 (fun hs_ => by rcases mu_XY hs_ with h_ | h_ | h_ | h_ | h_ <;> omega)
            have hCx_ := Blk.kept hC9_ hK52 (fun hs_ => by rcases mu_XY hs_ with h_ | h_ | h_ | h_ | h_ <;> omega)
            have hz_w51 := hTx_.size
            rw [hop_.1, numT_zero (addE_ne _ _)] at hRx_
            have hRz_ : RDAt w w51 (fun _ => True) u md (r.addS row) (addR (⟨s, rr, bb⟩ : DS) rs row) := hRx_.mono (fun _ _ => trivial)
            refine rw_on (c := false) rfl rfl rfl rfl ?_
            refine rw_call rfl rfl rfl rfl (f := 30) (args := #[.slice (some ⟨gc, 0, none⟩) row.length cc, .slice A19 row.length c20]) (by simp [go_sem, sEv, sLook, nbeq, i64_w, -List.getD_eq_getElem?_getD]) (keptB w51 gc csc cc c20 A19 row hCx_ hN46 hcc_ (Kd.C_below hC24 hTx_.below) hle23 (by omega)) ?_
            rintro e_ w55 ⟨rfl, hb56⟩
            refine ⟨_, rfl, ?_⟩
            have hs_w55 := hb56.size
            refine rw_on (c := false) rfl rfl rfl rfl ?_
            refine rw_val (v := .bool false) (w' := w55) rfl rfl rfl rfl (by simp [go_sem, sEv, sLook, nbeq, i64_w, -List.getD_eq_getElem?_getD]) ?_
            refine rw_val (v := .bool false) (w' := w55) rfl rfl rfl rfl (by simp [go_sem, sEv, sLook, nbeq, i64_w, -List.getD_eq_getElem?_getD]) ?_
            refine rw_end ?_
            refine w_weaken (G' := [(3, .pointer (some ⟨g, 0, none⟩)), (4, .pointer (some ⟨u, 0, none⟩)), (5, .pointer (some ⟨gd, 0, none⟩)), (8, .pointer (some ⟨md, 0, none⟩)), (12, .slice (some ⟨gc, 0, none⟩) row.length cc), (39, .slice (some ad16) sc.length c1), (40, .int .i64 ((sc.length : Nat) : Int)), (41, .int .i64 ((j : Nat) : Int)), (150, .bool false)]) ⟨rfl, rfl, rfl, rfl, rfl, rfl, rfl, rfl, rfl, trivial⟩ ?_
            refine w_cond_f rfl rfl rfl ?_
            refine w_skip ?_
            refine w_region ?_
            refine rw_val (v := .slice (some ⟨gc, 0, none⟩) row.length cc) (w' := w55) rfl rfl rfl rfl rfl ?_
            obtain ⟨hTp_, hBp_, hPp_⟩ : LI w w55 g u (3 * ((j + 1 : Nat) : Int)) _ _ _ (some ⟨gd, 0, none⟩) (some ⟨md, 0, none⟩) := ⟨(hTx_.on hb56), Both.mono hop_.2.1 (by omega), (.inr ⟨gd, md, _, _, _, rfl, rfl, hop_.2.2, (hGx_.on hb56), hgd0_, (hRz_.on hb56)⟩)⟩
            refine rw_call rfl rfl rfl rfl (f := 31) (args := #[.slice (some ⟨gc, 0, none⟩) row.length cc]) (by simp [go_sem, sEv, sLook, nbeq, i64_w, -List.getD_eq_getElem?_getD]) (overB w55 gc cc csc row (hCx_.on hb56) (nums_left hN46) (by omega) (by omega)) ?_
            rintro e_ w57 ⟨rfl, hG58⟩
            refine ⟨.tuple #[], rfl, ?_⟩
            have hs_w57 := hG58.size
            have hKo_ := Grow.keptS (S := fun q => q = gc) (kept_refl _ _) hG58 (.inl rfl)
            have hTo_ := TapeB.kept hTp_ hKo_ ⟨hG58.os, hG58.tape, hG58.output⟩ (fun q_ e_ => by have e2_ : q_ = gc := e_; omega) (fun e_ => by have e2_ : g = gc := e_; omega) (fun e_ => by have e2_ : tb9 = gc := e_; omega)
            have hPo_ := Phs.kept hPp_ hKo_ (fun k_ e_ cs_ t_ hc_ => by have e2_ : k_ = gc := e_; subst e2_; have h3_ := ((hCx_.on hb56)).symm.trans hc_; injection h3_ with h3_; injection h3_ with _ h3_; rw [← h3_]; decide) (s' := _) rfl
            refine rw_end ?_
            refine w_blk ?_
            exact w_joined [(3, .pointer (some ⟨g, 0, none⟩)), (4, .pointer (some ⟨u, 0, none⟩)), (5, .pointer (some ⟨gd, 0, none⟩)), (8, .pointer (some ⟨md, 0, none⟩)), (39, .slice (some ad16) sc.length c1), (40, .int .i64 ((sc.length : Nat) : Int)), (41, .int .i64 ((j : Nat) : Int))] ⟨rfl, rfl, rfl, rfl, rfl, rfl, rfl, trivial⟩ ⟨_, _, _, _, _, ⟨hTo_, Both.mono hop_.2.1 (by omega), hPo_⟩, rfl⟩
        · have l59 : ¬ kd = 0 := by simpa using cK0
          refine w_region ?_
          refine rw_val (v := .bool (kd == 1)) (w' := w45) rfl rfl rfl rfl (by simp [go_sem, sEv, sLook, nbeq, i64_w, -List.getD_eq_getElem?_getD]) ?_
          refine rw_val (v := .bool (kd == 1)) (w' := w45) rfl rfl rfl rfl rfl ?_
          refine rw_end ?_
          refine w_cond rfl rfl (fun cK1 => ?_) (fun cK1 => ?_)
          · have l60 : kd = 1 := by simpa using cK1
            refine w_seq ?_
            refine w_seq ?_
            rcases (hP44.on hB47) with ⟨rfl, rfl, hUn_, _⟩ | ⟨gd, md, rr, bb, rs, rfl, rfl, hDI_, hbd_, hgd0_, hR_⟩
            · refine w_region ?_
              refine rw_val (v := .pointer none) (w' := w45) rfl rfl rfl rfl rfl ?_
              refine rw_val (v := .bool true) (w' := w45) rfl rfl rfl rfl (run_as (run_ptr_eql (e := 71) (by kernel_rfl) _ _)) ?_
              refine rw_end ?_
              refine w_cond_t rfl rfl rfl ?_
              refine w_seq ?_
              refine w_seq ?_
              refine w_region ?_
              refine rw_val (v := .pointer none) (w' := w45) rfl rfl rfl rfl rfl ?_
              refine rw_val (v := .bool false) (w' := w45) rfl rfl rfl rfl (run_as (run_ptr_neq (e := 80) (by kernel_rfl) _ _)) ?_
              refine rw_end ?_
              refine w_cond_f rfl rfl rfl ?_
              refine w_skip ?_
              refine w_exit rfl ?_
              refine w_region ?_
              refine rw_val (v := .int .i64 ((j + 1 : Nat) : Int)) (w' := w45) rfl rfl rfl rfl (by simp [go_sem, sEv, sLook, nbeq, i64_w, -List.getD_eq_getElem?_getD]; exact wrap_id (by omega) (by omega)) ?_
              refine rw_val (v := .int .i64 ((j + 1 : Nat) : Int)) (w' := w45) rfl rfl rfl rfl rfl ?_
              refine rw_end ?_
              exact w_back (m_ - 1) [(3, .pointer (some ⟨g, 0, none⟩)), (4, .pointer (some ⟨u, 0, none⟩)), (5, .pointer none), (8, .pointer none), (39, .slice (some ad16) sc.length c1), (40, .int .i64 ((sc.length : Nat) : Int)), (41, .int .i64 ((j + 1 : Nat) : Int))] (by omega) ⟨rfl, rfl, rfl, rfl, rfl, rfl, rfl, trivial⟩ ⟨j + 1, _, _, _, _, _, by omega, ⟨(hT43.on hB47), Both.mono hBo_ (by omega), (.inl ⟨rfl, rfl, (((hU_.on hb34).keep hk39 (by omega)).on hB47), hu0_⟩)⟩, rfl⟩
            · have hl1_ := hbd_.lt
              obtain ⟨hub_, _, hmd0_, AR, cR, hbm_, hrr_⟩ := hR_
              have hR_ : RDAt w w45 (fun _ => True) u md r rs := ⟨hub_, hu0_, hmd0_, AR, cR, hbm_, hrr_⟩
              have hl2_ := hbm_.lt
              have hlen_ := hDI_.len hBo_.ok
              have hrl_ := rows_le rs hDI_.all
              have hrr1_ : rr = ((rs.length : Nat) : Int) := hDI_.r
              have hbb1_ : bb = (((FC rs).length : Nat) : Int) := hDI_.b
              have hlen1_ := hlen_.1
              refine w_region ?_
              refine rw_val (v := .pointer (some ⟨md, 0, none⟩)) (w' := w45) rfl rfl rfl rfl rfl ?_
              refine rw_val (v := .bool false) (w' := w45) rfl rfl rfl rfl (run_as (run_ptr_eql (e := 71) (by kernel_rfl) _ _)) ?_
              refine rw_end ?_
              refine w_cond_f rfl rfl rfl ?_
              refine w_skip ?_
              refine w_seq ?_
              refine w_seq ?_
              have hop_ := Both.rw (D := (⟨s, rr, bb⟩ : DS)) (k := 3 * ((j : Nat) : Int)) hBo_ hDI_ hb1_ (by omega)
              have hT9_ := (hT43.on hB47)
              have hG9_ : Blk w45 gd 80 (dcells g rr bb) := hbd_
              have hR9_ := hR_
              have hE9_ := (hk40.on hB47)
              have hC9_ := hgc_
              have hN_ := nums5 hT9_ hG9_ hgd0_ hR9_
              have hY9_ := rd_okY hT9_ hG9_ hR9_
              obtain ⟨⟨b1_, b2_, b3_, b4_, b5_⟩, ⟨l1_, l2_, l3_, l4_, l5_⟩, ⟨n1_, n2_, n3_, n4_, n5_, n6_, n7_, n8_, n9_⟩⟩ := hN_
              obtain ⟨e1_, e2_⟩ := hT9_.ne hE9_ (by decide) (by decide)
              have e3_ := blk_ne hE9_ hG9_ (by decide)
              have e4_ := blk_ne hE9_ hR9_.1 (by decide)
              have c4_ := blk_ne hC9_ hR9_.1 (by decide)
              obtain ⟨_, _, _, _, _, hM9_, _⟩ := hR9_
              have e5_ := blk_ne hE9_ hM9_ (by decide)
              have c3_ := blk_ne hC9_ hG9_ (by decide)
              have c5_ := blk_ne hC9_ hM9_ (by decide)
              have hN_ := nums5 hT9_ hG9_ hgd0_ hR_
              refine w_drawo (M := [0, 1, 3, 7, 15, 15, 63, 127, 15, 15, 527, 1551, 4095, 8191, 16383, 32767, 65535, 131071, 262143, 524287, 1048575, 1048575, 3145727, 8388607, 16777215, 1048575, 1048575, 68157439, 234881023, 536870911, 1073741823, 2147483647, 4294967295, 8589934591, 17179869183, 17179869183, 51539607551, 137438953471, 274877906943, 549755813887]) (ss := [Is (.pointer (some ⟨g32, 0, none⟩)), Is (.int .i64 kd), Is (.bool (kd == 0)), Is (.bool (kd == 0)), Is undef, Is undef, Is undef, Is undef, Is undef, Is undef, Is undef, Is undef, Is undef, Is undef, Is (.bool false), Is (.bool false), Is (.pointer (some ⟨g32, 0, none⟩)), Is (.int .i64 kd), Is (.bool (kd == 1)), Is (.bool (kd == 1)), Is (.pointer (some ⟨gd, 0, none⟩)), Is (.pointer (some ⟨g32, 2, none⟩)), Is (.slice A21 rows.length c22), Is (errT ((⟨s, rr, bb⟩ : DS).rwE rows)), Is (.int .i64 (numT ((⟨s, rr, bb⟩ : DS).rwE rows))), Is (.pointer (some ⟨md, 0, none⟩)), Is (.pointer (some ⟨g32, 2, none⟩)), Is (.slice A21 rows.length c22), (OwnKSpec kSL 9 w45.heap.size w45.heap.size rows), Is (.int .i64 (r.rwE rows)), Is (.bool ((numT ((⟨s, rr, bb⟩ : DS).rwE rows)) != (r.rwE rows))), Is (.bool ((numT ((⟨s, rr, bb⟩ : DS).rwE rows)) != (r.rwE rows))), Is (.bool ((numT ((⟨s, rr, bb⟩ : DS).rwE rows)) != (r.rwE rows))), Is (.bool ((numT ((⟨s, rr, bb⟩ : DS).rwE rows)) != (r.rwE rows))), Is (.slice (some ⟨gc, 0, none⟩) row.length cc), Is (.pointer (some ⟨g32, 1, none⟩)), Is (.slice A19 row.length c20)]) (two 23 29 (MX w w45 g tb gd (⟨s, rr, bb⟩ : DS) ((⟨s, rr, bb⟩ : DS).rw rows)) (MY w g tb gd u md r (r.rwS rows) rs (if (r.rwE rows) == 0 then rows else rs))) 37 rfl (by decide +kernel) (two_cases (P := fun j _ => j < 37) (by decide) (by decide)) (two_st (show StabX _ 23 _ from ⟨stab_is, ⟨stab_is, ⟨stab_is, ⟨stab_is, ⟨stab_is, ⟨stab_is, ⟨stab_is, ⟨stab_is, ⟨stab_is, ⟨stab_is, ⟨stab_is, ⟨stab_is, ⟨stab_is, ⟨stab_is, ⟨stab_is, ⟨stab_is, ⟨stab_is, ⟨stab_is, ⟨stab_is, ⟨stab_is, ⟨stab_is, ⟨stab_is, ⟨stab_is, (stab_cons stab_is (stab_cons stab_is (stab_cons stab_is (stab_cons stab_is (stab_cons (stab_own (fun q_ h_ hs_ => by rcases hs_ with e_ | e_ | e_ <;> omega)) (stab_cons stab_is (stab_cons stab_is (stab_cons stab_is (stab_cons stab_is (stab_cons stab_is (stab_cons stab_is (stab_cons stab_is (stab_cons stab_is stab_nil)))))))))))))⟩⟩⟩⟩⟩⟩⟩⟩⟩⟩⟩⟩⟩⟩⟩⟩⟩⟩⟩⟩⟩⟩⟩) (show StabX _ 29 _ from ⟨stab_is, ⟨stab_is, ⟨stab_is, ⟨stab_is, ⟨stab_is, ⟨stab_is, ⟨stab_is, ⟨stab_is, ⟨stab_is, ⟨stab_is, ⟨stab_is, ⟨stab_is, ⟨stab_is, ⟨stab_is, ⟨stab_is, ⟨stab_is, ⟨stab_is, ⟨stab_is, ⟨stab_is, ⟨stab_is, ⟨stab_is, ⟨stab_is, ⟨stab_is, ⟨stab_is, ⟨stab_is, ⟨stab_is, ⟨stab_is, ⟨stab_is, ⟨(stab_own (fun q_ h_ hs_ => by rcases hs_ with e_ | e_ <;> omega)), (stab_cons stab_is (stab_cons stab_is (stab_cons stab_is (stab_cons stab_is (stab_cons stab_is (stab_cons stab_is (stab_cons stab_is stab_nil)))))))⟩⟩⟩⟩⟩⟩⟩⟩⟩⟩⟩⟩⟩⟩⟩⟩⟩⟩⟩⟩⟩⟩⟩⟩⟩⟩⟩⟩⟩)) XY_on (XY_ff hN_) (XY_0 hT9_ hG9_ hY9_) ?_
              refine v_is (by kernel_rfl) (.pointer (some ⟨g32, 0, none⟩)) rfl rfl rfl rfl (fun W_ hW_ h1_ F_ => by simp [go_sem, sEv, sLook, nbeq, i64_w, -List.getD_eq_getElem?_getD, Try.underlying64]) ?_
              refine v_is (by kernel_rfl) (.int .i64 kd) rfl rfl rfl rfl (fun W_ hW_ h1_ F_ => by have eb_ := (Blk.kept hE9_ (drew_kept hW_) (fun hs_ => by rcases mu_XY hs_ with h_ | h_ | h_ | h_ | h_ <;> omega)); have e0_ := eb_.cellv (i := 0) (v := (.int .i64 kd : Value)) rfl; simp [go_sem, sEv, sLook, nbeq, i64_w, -List.getD_eq_getElem?_getD, e0_]) ?_
              refine v_is (by kernel_rfl) (.bool (kd == 0)) rfl rfl rfl rfl (fun W_ hW_ h1_ F_ => by simp [go_sem, sEv, sLook, nbeq, i64_w, -List.getD_eq_getElem?_getD]) ?_
              refine v_is (by kernel_rfl) (.bool (kd == 0)) rfl rfl rfl rfl (fun W_ hW_ h1_ F_ => rfl) ?_
              refine v_off (by kernel_rfl) (c := (kd == 0)) rfl rfl rfl (by first | (rw [cK0]; rfl) | simp [cK0]) rfl rfl ?_
              refine v_off (by kernel_rfl) (c := (kd == 0)) rfl rfl rfl (by first | (rw [cK0]; rfl) | simp [cK0]) rfl rfl ?_
              refine v_off (by kernel_rfl) (c := (kd == 0)) rfl rfl rfl (by first | (rw [cK0]; rfl) | simp [cK0]) rfl rfl ?_
              refine v_off (by kernel_rfl) (c := (kd == 0)) rfl rfl rfl (by first | (rw [cK0]; rfl) | simp [cK0]) rfl rfl ?_
              refine v_off (by kernel_rfl) (c := (kd == 0)) rfl rfl rfl (by first | (rw [cK0]; rfl) | simp [cK0]) rfl rfl ?_
              refine v_off (by kernel_rfl) (c := (kd == 0)) rfl rfl rfl (by first | (rw [cK0]; rfl) | simp [cK0]) rfl rfl ?_
              refine v_off (by kernel_rfl) (c := (kd == 0)) rfl rfl rfl (by first | (rw [cK0]; rfl) | simp [cK0]) rfl rfl ?_
              refine v_off (by kernel_rfl) (c := (kd == 0)) rfl rfl rfl (by first | (rw [cK0]; rfl) | simp [cK0]) rfl rfl ?_
              refine v_off (by kernel_rfl) (c := (kd == 0)) rfl rfl rfl (by first | (rw [cK0]; rfl) | simp [cK0]) rfl rfl ?_
              refine v_off (by kernel_rfl) (c := (kd == 0)) rfl rfl rfl (by first | (rw [cK0]; rfl) | simp [cK0]) rfl rfl ?_
              refine v_is (by kernel_rfl) (.bool false) rfl rfl rfl rfl (fun W_ hW_ h1_ F_ => by first | (simp [go_sem, sEv, sLook, nbeq, i64_w, -List.getD_eq_getElem?_getD, cK0]; done) | (rw [cK0]; simp [go_sem, sEv, sLook, nbeq, i64_w, -List.getD_eq_getElem?_getD]; done) | (simp [go_sem, sEv, sLook, nbeq, i64_w, -List.getD_eq_getElem?_getD] <;> omega) | (simp [go_sem, sEv, sLook, nbeq, i64_w, -List.getD_eq_getElem?_getD]; intro h_; exact absurd (by omega) h_)) ?_
              refine v_is (by kernel_rfl) (.bool false) rfl rfl rfl rfl (fun W_ hW_ h1_ F_ => rfl) ?_
              refine v_gis (by kernel_rfl) (c := false) (.pointer (some ⟨g32, 0, none⟩)) rfl rfl rfl rfl rfl rfl rfl (fun W_ hW_ h1_ F_ => by simp [go_sem, sEv, sLook, nbeq, i64_w, -List.getD_eq_getElem?_getD, Try.underlying64]) ?_
              refine v_gis (by kernel_rfl) (c := false) (.int .i64 kd) rfl rfl rfl rfl rfl rfl rfl (fun W_ hW_ h1_ F_ => by have eb_ := (Blk.kept hE9_ (drew_kept hW_) (fun hs_ => by rcases mu_XY hs_ with h_ | h_ | h_ | h_ | h_ <;> omega)); have e0_ := eb_.cellv (i := 0) (v := (.int .i64 kd : Value)) rfl; simp [go_sem, sEv, sLook, nbeq, i64_w, -List.getD_eq_getElem?_getD, e0_]) ?_
              refine v_gis (by kernel_rfl) (c := false) (.bool (kd == 1)) rfl rfl rfl rfl rfl rfl rfl (fun W_ hW_ h1_ F_ => by simp [go_sem, sEv, sLook, nbeq, i64_w, -List.getD_eq_getElem?_getD]) ?_
              refine v_gis (by kernel_rfl) (c := false) (.bool (kd == 1)) rfl rfl rfl rfl rfl rfl rfl (fun W_ hW_ h1_ F_ => rfl) ?_
              refine v_gis (by kernel_rfl) (c := (kd == 1)) (.pointer (some ⟨gd, 0, none⟩)) rfl rfl rfl (by first | (rw [cK1]; rfl) | simp [cK1]) rfl rfl rfl (fun W_ hW_ h1_ F_ => rfl) ?_
              refine v_gis (by kernel_rfl) (c := (kd == 1)) (.pointer (some ⟨g32, 2, none⟩)) rfl rfl rfl (by first | (rw [cK1]; rfl) | simp [cK1]) rfl rfl rfl (fun W_ hW_ h1_ F_ => by simp [go_sem, sEv, sLook, nbeq, i64_w, -List.getD_eq_getElem?_getD, Try.underlying64]) ?_
              refine v_gis (by kernel_rfl) (c := (kd == 1)) (.slice A21 rows.length c22) rfl rfl rfl (by first | (rw [cK1]; rfl) | simp [cK1]) rfl rfl rfl (fun W_ hW_ h1_ F_ => by have eb_ := (Blk.kept hE9_ (drew_kept hW_) (fun hs_ => by rcases mu_XY hs_ with h_ | h_ | h_ | h_ | h_ <;> omega)); have e0_ := eb_.cellv (i := 2) (v := (.slice A21 rows.length c22 : Value)) rfl; simp [go_sem, sEv, sLook, nbeq, i64_w, -List.getD_eq_getElem?_getD, e0_, Try.underlying22]) ?_
              refine v_gmut (x := (MX w w45 g tb gd (⟨s, rr, bb⟩ : DS) ((⟨s, rr, bb⟩ : DS).rw rows))) (by kernel_rfl) (c := (kd == 1)) (Is (errT ((⟨s, rr, bb⟩ : DS).rwE rows))) (f := 21) (args := #[.pointer (some ⟨gd, 0, none⟩), .slice A21 rows.length c22]) rfl rfl rfl (by first | (rw [cK1]; rfl) | simp [cK1]) rfl rfl rfl (fun W_ => by simp [go_sem, sEv, sLook, nbeq, i64_w, -List.getD_eq_getElem?_getD]) (fun W_ hW_ h0_ F_ => ?_) ?_
              · have hs0_ := (drew_kept hW_).1
                refine (rwB w W_ g gd tb (⟨s, rr, bb⟩ : DS) h0_.1 h0_.2 hgd0_ hBo_.ok A21 c22 rows (Kd.C_below hC26 (TapeB.below h0_.1)) hle25 hrw1_ hrw2_).mono ?_
                rintro e_ w_ ⟨rfl, hk_, hq_, tb_, ht_, hb_, ho_⟩
                exact ⟨_, rfl, rfl, hk_, ⟨tb_, ht_, hb_, by omega⟩, hq_⟩
              rintro _ rfl
              refine v_gcall (by kernel_rfl) (c := (kd == 1)) (Is (.int .i64 (numT ((⟨s, rr, bb⟩ : DS).rwE rows)))) (f := 23) (args := #[errT ((⟨s, rr, bb⟩ : DS).rwE rows)]) rfl rfl rfl (by first | (rw [cK1]; rfl) | simp [cK1]) rfl rfl rfl (fun W_ => by simp [go_sem, sEv, sLook, nbeq, i64_w, -List.getD_eq_getElem?_getD]) (fun W_ hW_ h1_ F_ => (num_T ((⟨s, rr, bb⟩ : DS).rwE rows) (rwE_ne _ _) W_).mono (fun e_ w_ h_ => ⟨_, h_.1, rfl, h_.2⟩)) ?_
              rintro _ rfl
              refine v_gis (by kernel_rfl) (c := (kd == 1)) (.pointer (some ⟨md, 0, none⟩)) rfl rfl rfl (by first | (rw [cK1]; rfl) | simp [cK1]) rfl rfl rfl (fun W_ hW_ h1_ F_ => rfl) ?_
              refine v_gis (by kernel_rfl) (c := (kd == 1)) (.pointer (some ⟨g32, 2, none⟩)) rfl rfl rfl (by first | (rw [cK1]; rfl) | simp [cK1]) rfl rfl rfl (fun W_ hW_ h1_ F_ => by simp [go_sem, sEv, sLook, nbeq, i64_w, -List.getD_eq_getElem?_getD, Try.underlying64]) ?_
              refine v_gis (by kernel_rfl) (c := (kd == 1)) (.slice A21 rows.length c22) rfl rfl rfl (by first | (rw [cK1]; rfl) | simp [cK1]) rfl rfl rfl (fun W_ hW_ h1_ F_ => by have eb_ := (Blk.kept hE9_ (drew_kept hW_) (fun hs_ => by rcases mu_XY hs_ with h_ | h_ | h_ | h_ | h_ <;> omega)); have e0_ := eb_.cellv (i := 2) (v := (.slice A21 rows.length c22 : Value)) rfl; simp [go_sem, sEv, sLook, nbeq, i64_w, -List.getD_eq_getElem?_getD, e0_, Try.underlying22]) ?_
              refine v_gcall (by kernel_rfl) (c := (kd == 1)) (OwnKSpec kSL 9 w45.heap.size w45.heap.size rows) (f := 14) (args := #[.slice A21 rows.length c22]) rfl rfl rfl (by first | (rw [cK1]; rfl) | simp [cK1]) rfl rfl rfl (fun W_ => by simp [go_sem, sEv, sLook, nbeq, i64_w, -List.getD_eq_getElem?_getD]) (fun W_ hW_ h1_ F_ => ?_) ?_
              · have hs0_ := (drew_kept hW_).1
                refine (texts_L W_ A21 c22 rows (Kd.C_below hC26 (((h1_ 29 _ rfl (Nat.ne_of_beq_eq_false (by kernel_rfl))).2 (by kernel_rfl)).1)) hle25 hrw1_).mono ?_
                rintro e_ w_ ⟨A_, c_, rfl, hO_, hb_⟩
                exact ⟨_, rfl, ⟨A_, c_, rfl, OwnK.mono (d := kSL) (OwnK.lower (d := kSL) hO_ (by omega)) (by omega)⟩, hb_⟩
              rintro _ ⟨A61, c62, rfl, hle63⟩
              refine v_gmut (x := (MY w g tb gd u md r (r.rwS rows) rs (if (r.rwE rows) == 0 then rows else rs))) (by kernel_rfl) (c := (kd == 1)) (Is (.int .i64 (r.rwE rows))) (f := 29) (args := #[.pointer (some ⟨md, 0, none⟩), .slice A61 rows.length c62]) rfl rfl rfl (by first | (rw [cK1]; rfl) | simp [cK1]) rfl rfl rfl (fun W_ => by simp [go_sem, sEv, sLook, nbeq, i64_w, -List.getD_eq_getElem?_getD]) (fun W_ hW_ h0_ F_ => ?_) ?_
              · have hs0_ := (drew_kept hW_).1
                refine (rrw_calls W_ w h0_.1 u md _ (fun q_ h_ => ⟨by omega, by omega, by omega, by omega, by omega⟩) (fun q_ h_ => ⟨h_.2.2.2.1, h_.2.2.2.2⟩) r rs h0_.2 hro_ (by omega) A61 c62 rows (OwnK.C (d := kSL) (ownk_fact (F_ 28 (OwnKSpec kSL 9 w45.heap.size w45.heap.size rows) (.slice A61 rows.length c62) (by kernel_rfl) (by kernel_rfl)))) (fun W2_ hk2_ => OwnK.C (OwnK.step (d := kSL) (ownk_fact (F_ 28 (OwnKSpec kSL 9 w45.heap.size w45.heap.size rows) (.slice A61 rows.length c62) (by kernel_rfl) (by kernel_rfl))) (fun q_ hq_ hlt_ => hk2_.2 q_ hlt_ (fun e_ => by omega)))) (OwnK.cap (d := kSL) (ownk_fact (F_ 28 (OwnKSpec kSL 9 w45.heap.size w45.heap.size rows) (.slice A61 rows.length c62) (by kernel_rfl) (by kernel_rfl)))) hb1_ hrw2_ hrw1_).mono ?_
                rintro e_ w_ ⟨rfl, hk_, hq_, hr_⟩
                exact ⟨_, rfl, rfl, hk_, hr_, hq_⟩
              rintro _ rfl
              refine v_gis (by kernel_rfl) (c := (kd == 1)) (.bool ((numT ((⟨s, rr, bb⟩ : DS).rwE rows)) != (r.rwE rows))) rfl rfl rfl (by first | (rw [cK1]; rfl) | simp [cK1]) rfl rfl rfl (fun W_ hW_ h1_ F_ => by simp [go_sem, sEv, sLook, nbeq, i64_w, -List.getD_eq_getElem?_getD]) ?_
              refine v_gis (by kernel_rfl) (c := false) (.bool ((numT ((⟨s, rr, bb⟩ : DS).rwE rows)) != (r.rwE rows))) rfl rfl rfl rfl rfl rfl rfl (fun W_ hW_ h1_ F_ => by first | (simp [go_sem, sEv, sLook, nbeq, i64_w, -List.getD_eq_getElem?_getD, cK1]; done) | (rw [cK1]; simp [go_sem, sEv, sLook, nbeq, i64_w, -List.getD_eq_getElem?_getD]; done) | (simp [go_sem, sEv, sLook, nbeq, i64_w, -List.getD_eq_getElem?_getD] <;> omega) | (simp [go_sem, sEv, sLook, nbeq, i64_w, -List.getD_eq_getElem?_getD]; intro h_; exact absurd (by omega) h_)) ?_
              refine v_is (by kernel_rfl) (.bool ((numT ((⟨s, rr, bb⟩ : DS).rwE rows)) != (r.rwE rows))) rfl rfl rfl rfl (fun W_ hW_ h1_ F_ => by simp [go_sem, sEv, sLook, nbeq, i64_w, -List.getD_eq_getElem?_getD]) ?_
              refine v_is (by kernel_rfl) (.bool ((numT ((⟨s, rr, bb⟩ : DS).rwE rows)) != (r.rwE rows))) rfl rfl rfl rfl (fun W_ hW_ h1_ F_ => rfl) ?_
              have hq64 : ((numT ((⟨s, rr, bb⟩ : DS).rwE rows)) != (r.rwE rows)) = false := by rw [hop_.1]; simp
              refine v_gis (by kernel_rfl) (c := ((numT ((⟨s, rr, bb⟩ : DS).rwE rows)) != (r.rwE rows))) (.slice (some ⟨gc, 0, none⟩) row.length cc) rfl rfl rfl (by first | (rw [hq64]; rfl) | simp [hq64]) rfl rfl rfl (fun W_ hW_ h1_ F_ => rfl) ?_
              refine v_gis (by kernel_rfl) (c := ((numT ((⟨s, rr, bb⟩ : DS).rwE rows)) != (r.rwE rows))) (.pointer (some ⟨g32, 1, none⟩)) rfl rfl rfl (by first | (rw [hq64]; rfl) | simp [hq64]) rfl rfl rfl (fun W_ hW_ h1_ F_ => by simp [go_sem, sEv, sLook, nbeq, i64_w, -List.getD_eq_getElem?_getD, Try.underlying64]) ?_
              refine v_gis (by kernel_rfl) (c := ((numT ((⟨s, rr, bb⟩ : DS).rwE rows)) != (r.rwE rows))) (.slice A19 row.length c20) rfl rfl rfl (by first | (rw [hq64]; rfl) | simp [hq64]) rfl rfl rfl (fun W_ hW_ h1_ F_ => by have eb_ := (Blk.kept hE9_ (drew_kept hW_) (fun hs_ => by rcases mu_XY hs_ with h_ | h_ | h_ | h_ | h_ <;> omega)); have e0_ := eb_.cellv (i := 1) (v := (.slice A19 row.length c20 : Value)) rfl; simp [go_sem, sEv, sLook, nbeq, i64_w, -List.getD_eq_getElem?_getD, e0_, Try.underlying32]) ?_
              refine v_tail ?_
              intro w65 hK66_ h67 F68
              have hK66 := drew_kept hK66_
              have hs_w65 := hK66.1
              obtain ⟨tb9, hTx_, hGx_, htx_⟩ := h67 23 _ rfl
              have hRx_ : RDAt w w65 (okY g tb gd u md) u md (r.rwS rows) (if (r.rwE rows) == 0 then rows else rs) := h67 29 _ rfl
              clear F68 h67
              have hEx_ := Blk.kept hE9_ hK66 (fun hs_ => by rcases mu_XY hs_ with h_ | h_ | h_ | h_ | h_ <;> omega)
              have hCx_ := Blk.kept hC9_ hK66 (fun hs_ => by rcases mu_XY hs_ with h_ | h_ | h_ | h_ | h_ <;> omega)
              have hz_w65 := hTx_.size
              rw [hop_.1, numT_zero (rwE_ne _ _)] at hRx_
              have hRz_ : RDAt w w65 (fun _ => True) u md (r.rwS rows) (rwR (⟨s, rr, bb⟩ : DS) rs rows) := hRx_.mono (fun _ _ => trivial)
              refine rw_on (c := ((numT ((⟨s, rr, bb⟩ : DS).rwE rows)) != (r.rwE rows))) rfl rfl rfl (by first | (rw [hq64]; rfl) | simp [hq64]) ?_
              refine rw_call rfl rfl rfl rfl (f := 30) (args := #[.slice (some ⟨gc, 0, none⟩) row.length cc, .slice A19 row.length c20]) (by simp [go_sem, sEv, sLook, nbeq, i64_w, -List.getD_eq_getElem?_getD]) (keptB w65 gc csc cc c20 A19 row hCx_ hN46 hcc_ (Kd.C_below hC24 hTx_.below) hle23 (by omega)) ?_
              rintro e_ w69 ⟨rfl, hb70⟩
              refine ⟨_, rfl, ?_⟩
              have hs_w69 := hb70.size
              refine rw_on (c := ((numT ((⟨s, rr, bb⟩ : DS).rwE rows)) != (r.rwE rows))) rfl rfl rfl (by first | (rw [hq64]; rfl) | simp [hq64]) ?_
              refine rw_val (v := .bool false) (w' := w69) rfl rfl rfl rfl (by simp [go_sem, sEv, sLook, nbeq, i64_w, -List.getD_eq_getElem?_getD]) ?_
              refine rw_val (v := .bool false) (w' := w69) rfl rfl rfl rfl (by first | (simp [go_sem, sEv, sLook, nbeq, i64_w, -List.getD_eq_getElem?_getD, hq64]; done) | (rw [hq64]; simp [go_sem, sEv, sLook, nbeq, i64_w, -List.getD_eq_getElem?_getD]; done) | (simp [go_sem, sEv, sLook, nbeq, i64_w, -List.getD_eq_getElem?_getD] <;> omega) | (simp [go_sem, sEv, sLook, nbeq, i64_w, -List.getD_eq_getElem?_getD]; intro h_; exact absurd (by omega) h_)) ?_
              refine rw_end ?_
              refine w_weaken (G' := [(3, .pointer (some ⟨g, 0, none⟩)), (4, .pointer (some ⟨u, 0, none⟩)), (5, .pointer (some ⟨gd, 0, none⟩)), (8, .pointer (some ⟨md, 0, none⟩)), (12, .slice (some ⟨gc, 0, none⟩) row.length cc), (39, .slice (some ad16) sc.length c1), (40, .int .i64 ((sc.length : Nat) : Int)), (41, .int .i64 ((j : Nat) : Int)), (150, .bool false)]) ⟨rfl, rfl, rfl, rfl, rfl, rfl, rfl, rfl, rfl, trivial⟩ ?_
              refine w_cond_f rfl rfl rfl ?_
              refine w_skip ?_
              refine w_region ?_
              refine rw_val (v := .slice (some ⟨gc, 0, none⟩) row.length cc) (w' := w69) rfl rfl rfl rfl rfl ?_
              obtain ⟨hTp_, hBp_, hPp_⟩ : LI w w69 g u (3 * ((j + 1 : Nat) : Int)) _ _ _ (some ⟨gd, 0, none⟩) (some ⟨md, 0, none⟩) := ⟨(hTx_.on hb70), Both.mono hop_.2.1 (by omega), (.inr ⟨gd, md, _, _, _, rfl, rfl, hop_.2.2, (hGx_.on hb70), hgd0_, (hRz_.on hb70)⟩)⟩
              refine rw_call rfl rfl rfl rfl (f := 31) (args := #[.slice (some ⟨gc, 0, none⟩) row.length cc]) (by simp [go_sem, sEv, sLook, nbeq, i64_w, -List.getD_eq_getElem?_getD]) (overB w69 gc cc csc row (hCx_.on hb70) (nums_left hN46) (by omega) (by omega)) ?_
              rintro e_ w71 ⟨rfl, hG72⟩
              refine ⟨.tuple #[], rfl, ?_⟩
              have hs_w71 := hG72.size
              have hKo_ := Grow.keptS (S := fun q => q = gc) (kept_refl _ _) hG72 (.inl rfl)
              have hTo_ := TapeB.kept hTp_ hKo_ ⟨hG72.os, hG72.tape, hG72.output⟩ (fun q_ e_ => by have e2_ : q_ = gc := e_; omega) (fun e_ => by have e2_ : g = gc := e_; omega) (fun e_ => by have e2_ : tb9 = gc := e_; omega)
              have hPo_ := Phs.kept hPp_ hKo_ (fun k_ e_ cs_ t_ hc_ => by have e2_ : k_ = gc := e_; subst e2_; have h3_ := ((hCx_.on hb70)).symm.trans hc_; injection h3_ with h3_; injection h3_ with _ h3_; rw [← h3_]; decide) (s' := _) rfl
              refine rw_end ?_
              refine w_blk ?_
              exact w_joined [(3, .pointer (some ⟨g, 0, none⟩)), (4, .pointer (some ⟨u, 0, none⟩)), (5, .pointer (some ⟨gd, 0, none⟩)), (8, .pointer (some ⟨md, 0, none⟩)), (39, .slice (some ad16) sc.length c1), (40, .int .i64 ((sc.length : Nat) : Int)), (41, .int .i64 ((j : Nat) : Int))] ⟨rfl, rfl, rfl, rfl, rfl, rfl, rfl, trivial⟩ ⟨_, _, _, _, _, ⟨hTo_, Both.mono hop_.2.1 (by omega), hPo_⟩, rfl⟩
          · have l73 : ¬ kd = 1 := by simpa using cK1
            refine w_seq ?_
            refine w_region ?_
            refine rw_val (v := .bool (kd == 2)) (w' := w45) rfl rfl rfl rfl (by simp [go_sem, sEv, sLook, nbeq, i64_w, -List.getD_eq_getElem?_getD]) ?_
            refine rw_val (v := .bool (kd == 2)) (w' := w45) rfl rfl rfl rfl rfl ?_
            refine rw_end ?_
            refine w_cond rfl rfl (fun cK2 => ?_) (fun cK2 => ?_)
            · have l74 : kd = 2 := by simpa using cK2
              refine w_seq ?_
              refine w_region ?_
              refine rw_val (v := .pointer (some ⟨g32, 3, none⟩)) (w' := w45) rfl rfl rfl rfl (by simp [go_sem, sEv, sLook, nbeq, i64_w, -List.getD_eq_getElem?_getD, Try.underlying64]) ?_
              refine rw_val (v := .int .i64 nn) (w' := w45) rfl rfl rfl rfl (by have eb_ := (hk40.on hB47); have e0_ := eb_.cellv (i := 3) (v := (.int .i64 nn : Value)) rfl; simp [go_sem, sEv, sLook, nbeq, i64_w, -List.getD_eq_getElem?_getD, e0_]) ?_
              refine rw_val (v := .bool (decide (0 ≤ nn))) (w' := w45) rfl rfl rfl rfl (by simp [go_sem, sEv, sLook, nbeq, i64_w, -List.getD_eq_getElem?_getD]) ?_
              refine rw_end ?_
              refine w_cond rfl rfl (fun cN => ?_) (fun cN => ?_)
              · have l75 : (0 ≤ nn) := of_decide_eq_true cN
                refine w_seq ?_
                refine w_region ?_
                refine rw_val (v := .pointer (some ⟨g, 0, none⟩)) (w' := w45) rfl rfl rfl rfl rfl ?_
                refine rw_val (v := .pointer (some ⟨g32, 3, none⟩)) (w' := w45) rfl rfl rfl rfl (by simp [go_sem, sEv, sLook, nbeq, i64_w, -List.getD_eq_getElem?_getD, Try.underlying64]) ?_
                refine rw_val (v := .int .i64 nn) (w' := w45) rfl rfl rfl rfl (by have eb_ := (hk40.on hB47); have e0_ := eb_.cellv (i := 3) (v := (.int .i64 nn : Value)) rfl; simp [go_sem, sEv, sLook, nbeq, i64_w, -List.getD_eq_getElem?_getD, e0_]) ?_
                obtain ⟨he821, he822⟩ := TapeB.ne (hT43.on hB47) (hk40.on hB47) (by decide) (by decide)
                refine rw_call rfl rfl rfl rfl (f := 19) (args := #[.pointer (some ⟨g, 0, none⟩), .int .i64 nn]) (by simp [go_sem, sEv, sLook, nbeq, i64_w, -List.getD_eq_getElem?_getD]) (callB (hT43.on hB47) (fun m_ hm_ => (arm_T w w45 g m_ (XB w45 g tb) (fun q_ h_ => h_.1) s hm_ hBo_.ok nn (by rw [decide_eq_false_iff_not]; omega)))) ?_
                rintro e_ w76 ⟨rfl, hK77, hQ78, tb81, hT79, hto80⟩
                refine ⟨errT none, rfl, ?_⟩
                have he82 := Blk.keptT (hk40.on hB47) hK77 (fun e_ => by omega)
                have hz_w76 := hT79.size
                have hs_w76 := hK77.1
                have hP83 : Phs w w76 g u ({ s with ps := true, pl := nn } : TS) r dv mv := Phs.tape (hP44.on hB47) (hT43.on hB47) hK77 rfl
                refine rw_end ?_
                refine w_weaken (G' := [(3, .pointer (some ⟨g, 0, none⟩)), (4, .pointer (some ⟨u, 0, none⟩)), (5, .pointer dv), (8, .pointer mv), (11, .pointer (some ⟨g32, 0, none⟩)), (39, .slice (some ad16) sc.length c1), (40, .int .i64 ((sc.length : Nat) : Int)), (41, .int .i64 ((j : Nat) : Int))]) ⟨rfl, rfl, rfl, rfl, rfl, rfl, rfl, rfl, trivial⟩ ?_
                have e3_ := blk_ne he82 (hP83.ublk).1 (by decide)
                refine w_drawm (M := [0, 0, 0, 4, 1, 17, 49, 127, 255, 511]) (ss := [Is (.pointer (some ⟨u, 0, none⟩)), Is (.pointer (some ⟨u, 0, none⟩)), Is (.pointer (some ⟨g32, 3, none⟩)), Is (.int .i64 nn), Is (.pointer (some ⟨u, 0, none⟩)), Is (.pointer (some ⟨u, 3, none⟩)), Is undef]) (fun q => q = u) 6 (fun W_ => Grow u w76 W_ ∧ Blk W_ u 59 #[.string (strOfNums r.S), .string (strOfNums r.R), .int .i64 r.st, .bool r.a, .bool r.b, .int .i64 r.l, .int .i64 r.u, .bool r.d]) (fun W_ => Grow u w76 W_ ∧ Blk W_ u 59 #[.string (strOfNums r.S), .string (strOfNums r.R), .int .i64 r.st, .bool true, .bool r.b, .int .i64 r.l, .int .i64 r.u, .bool r.d]) 7 rfl (by decide +kernel) (stab_cons stab_is (stab_cons stab_is (stab_cons stab_is (stab_cons stab_is (stab_cons stab_is (stab_cons stab_is (stab_cons stab_is stab_nil))))))) (fun _ _ hb_ h_ => ⟨h_.1.trans (Grow.ofB hb_), h_.2.on hb_⟩) (fun _ _ hb_ h_ => ⟨h_.1.trans (Grow.ofB hb_), h_.2.on hb_⟩) ⟨(Grow.ofB (below_drew _)), ((hP83.ublk).1.on (below_drew _))⟩ ?_
                refine u_is (by kernel_rfl) (.pointer (some ⟨u, 0, none⟩)) rfl rfl rfl rfl (fun W_ hW_ h1_ F_ => rfl) ?_
                refine u_is (by kernel_rfl) (.pointer (some ⟨u, 0, none⟩)) rfl rfl rfl rfl (fun W_ hW_ h1_ F_ => rfl) ?_
                refine u_is (by kernel_rfl) (.pointer (some ⟨g32, 3, none⟩)) rfl rfl rfl rfl (fun W_ hW_ h1_ F_ => by simp [go_sem, sEv, sLook, nbeq, i64_w, -List.getD_eq_getElem?_getD, Try.underlying64]) ?_
                refine u_is (by kernel_rfl) (.int .i64 nn) rfl rfl rfl rfl (fun W_ hW_ h1_ F_ => by have eb_ := (Blk.kept he82 (drew_kept hW_) (fun e_ => by omega)); have e0_ := eb_.cellv (i := 3) (v := (.int .i64 nn : Value)) rfl; simp [go_sem, sEv, sLook, nbeq, i64_w, -List.getD_eq_getElem?_getD, e0_]) ?_
                refine u_is (by kernel_rfl) (.pointer (some ⟨u, 0, none⟩)) rfl rfl rfl rfl (fun W_ hW_ h1_ F_ => by simp [go_sem, sEv, sLook, nbeq, i64_w, -List.getD_eq_getElem?_getD]) ?_
                refine u_is (by kernel_rfl) (.pointer (some ⟨u, 3, none⟩)) rfl rfl rfl rfl (fun W_ hW_ h1_ F_ => by simp [go_sem, sEv, sLook, nbeq, i64_w, -List.getD_eq_getElem?_getD, Try.underlying59]) ?_
                refine u_store (by kernel_rfl) rfl rfl rfl (fun W_ hW_ h0_ F_ => ?_) ?_
                · obtain ⟨hg0_, hb0_⟩ := h0_
                  have e0_ := hb0_.cellv (i := 3) (v := (.bool r.a : Value)) rfl
                  have f0_ := hb0_.frozen 3
                  exact ⟨putCells W_ u 3 [.bool true], (by simp [go_sem, sEv, sLook, nbeq, i64_w, -List.getD_eq_getElem?_getD, putCells, e0_, f0_]), (putCells_keep _ _ _).kept, hg0_.trans (Grow.ofK (putCells_keep _ _ _)), putCells_blk _ _ hb0_⟩
                refine u_tail ?_
                intro w84 hK85_ h87 F86
                have hK85 := drew_kept hK85_
                have hs_w84 := hK85.1
                obtain ⟨hG88, hb89⟩ := h87
                refine rw_val (v := .pointer (some ⟨u, 0, none⟩)) (w' := w84) rfl rfl rfl rfl (by simp [go_sem, sEv, sLook, nbeq, i64_w, -List.getD_eq_getElem?_getD]) ?_
                refine rw_val (v := .pointer (some ⟨u, 5, none⟩)) (w' := w84) rfl rfl rfl rfl (by simp [go_sem, sEv, sLook, nbeq, i64_w, -List.getD_eq_getElem?_getD, Try.underlying59]) ?_
                have hb93 := hb89
                refine rw_store (g := u) (i := 5) (l := [.int .i64 nn]) (cs' := #[.string (strOfNums r.S), .string (strOfNums r.R), .int .i64 r.st, .bool true, .bool r.b, .int .i64 nn, .int .i64 r.u, .bool r.d]) rfl rfl rfl hb93 rfl (by have e0_ := hb93.cellv (i := 5) (v := (.int .i64 r.l : Value)) rfl; have f0_ := hb93.frozen 5; simp [go_sem, sEv, sLook, nbeq, i64_w, -List.getD_eq_getElem?_getD, putCells, e0_, f0_]) ?_
                intro w90 hk91 hk92
                have hs_w90 := hk91.size
                refine rw_end ?_
                refine w_weaken (G' := [(3, .pointer (some ⟨g, 0, none⟩)), (4, .pointer (some ⟨u, 0, none⟩)), (5, .pointer dv), (8, .pointer mv), (39, .slice (some ad16) sc.length c1), (40, .int .i64 ((sc.length : Nat) : Int)), (41, .int .i64 ((j : Nat) : Int))]) ⟨rfl, rfl, rfl, rfl, rfl, rfl, rfl, trivial⟩ ?_
                refine w_blk ?_
                obtain ⟨nv1_, nv2_⟩ := TapeB.ne hT79 (hP83.ublk).1 (by decide) (by decide)
                have hKs_ : Kept _ w90 (fun q => q = u) := (Grow.keptS (Grow.keptS (kept_refl _ _) hG88 (.inl rfl)) (Grow.ofK hk91) (.inl rfl))
                have hGs_ := (((Grow.refl u _).trans hG88).trans (Grow.ofK hk91))
                have hTs_ := TapeB.kept hT79 hKs_ ⟨hGs_.os, hGs_.tape, hGs_.output⟩ (fun q_ e_ => by have e2_ : q_ = u := e_; omega) (fun e_ => nv1_ e_.symm) (fun e_ => nv2_ e_.symm)
                have hPs_ := Phs.doc (r' := ({ r with a := true, l := nn } : RS)) hP83 hKs_ hk92
                exact w_joined [(3, .pointer (some ⟨g, 0, none⟩)), (4, .pointer (some ⟨u, 0, none⟩)), (5, .pointer dv), (8, .pointer mv), (39, .slice (some ad16) sc.length c1), (40, .int .i64 ((sc.length : Nat) : Int)), (41, .int .i64 ((j : Nat) : Int))] ⟨rfl, rfl, rfl, rfl, rfl, rfl, rfl, trivial⟩ ⟨_, _, _, _, _, ⟨hTs_, Both.mono (hBo_.arm nn (by omega) (by omega)) (by omega), hPs_⟩, rfl⟩
              · have l94 : ¬ (0 ≤ nn) := of_decide_eq_false cN
                refine w_skip ?_
                refine w_blk ?_
                exact w_joined [(3, .pointer (some ⟨g, 0, none⟩)), (4, .pointer (some ⟨u, 0, none⟩)), (5, .pointer dv), (8, .pointer mv), (39, .slice (some ad16) sc.length c1), (40, .int .i64 ((sc.length : Nat) : Int)), (41, .int .i64 ((j : Nat) : Int))] ⟨rfl, rfl, rfl, rfl, rfl, rfl, rfl, trivial⟩ ⟨_, _, _, _, _, ⟨(hT43.on hB47), Both.mono hBo_ (by omega), (hP44.on hB47)⟩, rfl⟩
            · have l95 : ¬ kd = 2 := by simpa using cK2
              refine w_seq ?_
              refine w_region ?_
              refine rw_val (v := .bool (kd == 3)) (w' := w45) rfl rfl rfl rfl (by simp [go_sem, sEv, sLook, nbeq, i64_w, -List.getD_eq_getElem?_getD]) ?_
              refine rw_val (v := .bool (kd == 3)) (w' := w45) rfl rfl rfl rfl rfl ?_
              refine rw_end ?_
              refine w_cond rfl rfl (fun cK3 => ?_) (fun cK3 => ?_)
              · have l96 : kd = 3 := by simpa using cK3
                refine w_seq ?_
                refine w_region ?_
                refine rw_val (v := .pointer (some ⟨g32, 3, none⟩)) (w' := w45) rfl rfl rfl rfl (by simp [go_sem, sEv, sLook, nbeq, i64_w, -List.getD_eq_getElem?_getD, Try.underlying64]) ?_
                refine rw_val (v := .int .i64 nn) (w' := w45) rfl rfl rfl rfl (by have eb_ := (hk40.on hB47); have e0_ := eb_.cellv (i := 3) (v := (.int .i64 nn : Value)) rfl; simp [go_sem, sEv, sLook, nbeq, i64_w, -List.getD_eq_getElem?_getD, e0_]) ?_
                refine rw_val (v := .bool (decide (0 ≤ nn))) (w' := w45) rfl rfl rfl rfl (by simp [go_sem, sEv, sLook, nbeq, i64_w, -List.getD_eq_getElem?_getD]) ?_
                refine rw_end ?_
                refine w_cond rfl rfl (fun cN => ?_) (fun cN => ?_)
                · have l97 : (0 ≤ nn) := of_decide_eq_true cN
                  refine w_seq ?_
                  refine w_region ?_
                  refine rw_val (v := .pointer (some ⟨g, 0, none⟩)) (w' := w45) rfl rfl rfl rfl rfl ?_
                  refine rw_val (v := .pointer (some ⟨g32, 3, none⟩)) (w' := w45) rfl rfl rfl rfl (by simp [go_sem, sEv, sLook, nbeq, i64_w, -List.getD_eq_getElem?_getD, Try.underlying64]) ?_
                  refine rw_val (v := .int .i64 nn) (w' := w45) rfl rfl rfl rfl (by have eb_ := (hk40.on hB47); have e0_ := eb_.cellv (i := 3) (v := (.int .i64 nn : Value)) rfl; simp [go_sem, sEv, sLook, nbeq, i64_w, -List.getD_eq_getElem?_getD, e0_]) ?_
                  obtain ⟨he1041, he1042⟩ := TapeB.ne (hT43.on hB47) (hk40.on hB47) (by decide) (by decide)
                  refine rw_call rfl rfl rfl rfl (f := 20) (args := #[.pointer (some ⟨g, 0, none⟩), .int .i64 nn]) (by simp [go_sem, sEv, sLook, nbeq, i64_w, -List.getD_eq_getElem?_getD]) (callB (hT43.on hB47) (fun m_ hm_ => (fail_T w w45 g m_ (XB w45 g tb) (fun q_ h_ => h_.1) s hm_ hBo_.ok nn (by rw [decide_eq_false_iff_not]; omega)))) ?_
                  rintro e_ w98 ⟨rfl, hK99, hQ100, tb103, hT101, hto102⟩
                  refine ⟨errT none, rfl, ?_⟩
                  have he104 := Blk.keptT (hk40.on hB47) hK99 (fun e_ => by omega)
                  have hz_w98 := hT101.size
                  have hs_w98 := hK99.1
                  have hP105 : Phs w w98 g u ({ s with fs := true, fl := nn } : TS) r dv mv := Phs.tape (hP44.on hB47) (hT43.on hB47) hK99 rfl
                  refine rw_end ?_
                  refine w_weaken (G' := [(3, .pointer (some ⟨g, 0, none⟩)), (4, .pointer (some ⟨u, 0, none⟩)), (5, .pointer dv), (8, .pointer mv), (11, .pointer (some ⟨g32, 0, none⟩)), (39, .slice (some ad16) sc.length c1), (40, .int .i64 ((sc.length : Nat) : Int)), (41, .int .i64 ((j : Nat) : Int))]) ⟨rfl, rfl, rfl, rfl, rfl, rfl, rfl, rfl, trivial⟩ ?_
                  have e3_ := blk_ne he104 (hP105.ublk).1 (by decide)
                  refine w_drawm (M := [0, 0, 0, 4, 1, 17, 49, 127, 255, 511]) (ss := [Is (.pointer (some ⟨u, 0, none⟩)), Is (.pointer (some ⟨u, 0, none⟩)), Is (.pointer (some ⟨g32, 3, none⟩)), Is (.int .i64 nn), Is (.pointer (some ⟨u, 0, none⟩)), Is (.pointer (some ⟨u, 4, none⟩)), Is undef]) (fun q => q = u) 6 (fun W_ => Grow u w98 W_ ∧ Blk W_ u 59 #[.string (strOfNums r.S), .string (strOfNums r.R), .int .i64 r.st, .bool r.a, .bool r.b, .int .i64 r.l, .int .i64 r.u, .bool r.d]) (fun W_ => Grow u w98 W_ ∧ Blk W_ u 59 #[.string (strOfNums r.S), .string (strOfNums r.R), .int .i64 r.st, .bool r.a, .bool true, .int .i64 r.l, .int .i64 r.u, .bool r.d]) 7 rfl (by decide +kernel) (stab_cons stab_is (stab_cons stab_is (stab_cons stab_is (stab_cons stab_is (stab_cons stab_is (stab_cons stab_is (stab_cons stab_is stab_nil))))))) (fun _ _ hb_ h_ => ⟨h_.1.trans (Grow.ofB hb_), h_.2.on hb_⟩) (fun _ _ hb_ h_ => ⟨h_.1.trans (Grow.ofB hb_), h_.2.on hb_⟩) ⟨(Grow.ofB (below_drew _)), ((hP105.ublk).1.on (below_drew _))⟩ ?_
                  refine u_is (by kernel_rfl) (.pointer (some ⟨u, 0, none⟩)) rfl rfl rfl rfl (fun W_ hW_ h1_ F_ => rfl) ?_
                  refine u_is (by kernel_rfl) (.pointer (some ⟨u, 0, none⟩)) rfl rfl rfl rfl (fun W_ hW_ h1_ F_ => rfl) ?_
                  refine u_is (by kernel_rfl) (.pointer (some ⟨g32, 3, none⟩)) rfl rfl rfl rfl (fun W_ hW_ h1_ F_ => by simp [go_sem, sEv, sLook, nbeq, i64_w, -List.getD_eq_getElem?_getD, Try.underlying64]) ?_
                  refine u_is (by kernel_rfl) (.int .i64 nn) rfl rfl rfl rfl (fun W_ hW_ h1_ F_ => by have eb_ := (Blk.kept he104 (drew_kept hW_) (fun e_ => by omega)); have e0_ := eb_.cellv (i := 3) (v := (.int .i64 nn : Value)) rfl; simp [go_sem, sEv, sLook, nbeq, i64_w, -List.getD_eq_getElem?_getD, e0_]) ?_
                  refine u_is (by kernel_rfl) (.pointer (some ⟨u, 0, none⟩)) rfl rfl rfl rfl (fun W_ hW_ h1_ F_ => by simp [go_sem, sEv, sLook, nbeq, i64_w, -List.getD_eq_getElem?_getD]) ?_
                  refine u_is (by kernel_rfl) (.pointer (some ⟨u, 4, none⟩)) rfl rfl rfl rfl (fun W_ hW_ h1_ F_ => by simp [go_sem, sEv, sLook, nbeq, i64_w, -List.getD_eq_getElem?_getD, Try.underlying59]) ?_
                  refine u_store (by kernel_rfl) rfl rfl rfl (fun W_ hW_ h0_ F_ => ?_) ?_
                  · obtain ⟨hg0_, hb0_⟩ := h0_
                    have e0_ := hb0_.cellv (i := 4) (v := (.bool r.b : Value)) rfl
                    have f0_ := hb0_.frozen 4
                    exact ⟨putCells W_ u 4 [.bool true], (by simp [go_sem, sEv, sLook, nbeq, i64_w, -List.getD_eq_getElem?_getD, putCells, e0_, f0_]), (putCells_keep _ _ _).kept, hg0_.trans (Grow.ofK (putCells_keep _ _ _)), putCells_blk _ _ hb0_⟩
                  refine u_tail ?_
                  intro w106 hK107_ h109 F108
                  have hK107 := drew_kept hK107_
                  have hs_w106 := hK107.1
                  obtain ⟨hG110, hb111⟩ := h109
                  refine rw_val (v := .pointer (some ⟨u, 0, none⟩)) (w' := w106) rfl rfl rfl rfl (by simp [go_sem, sEv, sLook, nbeq, i64_w, -List.getD_eq_getElem?_getD]) ?_
                  refine rw_val (v := .pointer (some ⟨u, 6, none⟩)) (w' := w106) rfl rfl rfl rfl (by simp [go_sem, sEv, sLook, nbeq, i64_w, -List.getD_eq_getElem?_getD, Try.underlying59]) ?_
                  have hb115 := hb111
                  refine rw_store (g := u) (i := 6) (l := [.int .i64 nn]) (cs' := #[.string (strOfNums r.S), .string (strOfNums r.R), .int .i64 r.st, .bool r.a, .bool true, .int .i64 r.l, .int .i64 nn, .bool r.d]) rfl rfl rfl hb115 rfl (by have e0_ := hb115.cellv (i := 6) (v := (.int .i64 r.u : Value)) rfl; have f0_ := hb115.frozen 6; simp [go_sem, sEv, sLook, nbeq, i64_w, -List.getD_eq_getElem?_getD, putCells, e0_, f0_]) ?_
                  intro w112 hk113 hk114
                  have hs_w112 := hk113.size
                  refine rw_end ?_
                  refine w_weaken (G' := [(3, .pointer (some ⟨g, 0, none⟩)), (4, .pointer (some ⟨u, 0, none⟩)), (5, .pointer dv), (8, .pointer mv), (39, .slice (some ad16) sc.length c1), (40, .int .i64 ((sc.length : Nat) : Int)), (41, .int .i64 ((j : Nat) : Int))]) ⟨rfl, rfl, rfl, rfl, rfl, rfl, rfl, trivial⟩ ?_
                  refine w_blk ?_
                  obtain ⟨nv1_, nv2_⟩ := TapeB.ne hT101 (hP105.ublk).1 (by decide) (by decide)
                  have hKs_ : Kept _ w112 (fun q => q = u) := (Grow.keptS (Grow.keptS (kept_refl _ _) hG110 (.inl rfl)) (Grow.ofK hk113) (.inl rfl))
                  have hGs_ := (((Grow.refl u _).trans hG110).trans (Grow.ofK hk113))
                  have hTs_ := TapeB.kept hT101 hKs_ ⟨hGs_.os, hGs_.tape, hGs_.output⟩ (fun q_ e_ => by have e2_ : q_ = u := e_; omega) (fun e_ => nv1_ e_.symm) (fun e_ => nv2_ e_.symm)
                  have hPs_ := Phs.doc (r' := ({ r with b := true, u := nn } : RS)) hP105 hKs_ hk114
                  exact w_joined [(3, .pointer (some ⟨g, 0, none⟩)), (4, .pointer (some ⟨u, 0, none⟩)), (5, .pointer dv), (8, .pointer mv), (39, .slice (some ad16) sc.length c1), (40, .int .i64 ((sc.length : Nat) : Int)), (41, .int .i64 ((j : Nat) : Int))] ⟨rfl, rfl, rfl, rfl, rfl, rfl, rfl, trivial⟩ ⟨_, _, _, _, _, ⟨hTs_, Both.mono (hBo_.fail nn (by omega) (by omega)) (by omega), hPs_⟩, rfl⟩
                · have l116 : ¬ (0 ≤ nn) := of_decide_eq_false cN
                  refine w_skip ?_
                  refine w_blk ?_
                  exact w_joined [(3, .pointer (some ⟨g, 0, none⟩)), (4, .pointer (some ⟨u, 0, none⟩)), (5, .pointer dv), (8, .pointer mv), (39, .slice (some ad16) sc.length c1), (40, .int .i64 ((sc.length : Nat) : Int)), (41, .int .i64 ((j : Nat) : Int))] ⟨rfl, rfl, rfl, rfl, rfl, rfl, rfl, trivial⟩ ⟨_, _, _, _, _, ⟨(hT43.on hB47), Both.mono hBo_ (by omega), (hP44.on hB47)⟩, rfl⟩
              · have l117 : ¬ kd = 3 := by simpa using cK3
                refine w_seq ?_
                refine w_seq ?_
                refine w_region ?_
                refine rw_val (v := .pointer (some ⟨g32, 0, none⟩)) (w' := w45) rfl rfl rfl rfl (by simp [go_sem, sEv, sLook, nbeq, i64_w, -List.getD_eq_getElem?_getD, Try.underlying64]) ?_
                refine rw_val (v := .int .i64 kd) (w' := w45) rfl rfl rfl rfl (by have eb_ := (hk40.on hB47); have e0_ := eb_.cellv (i := 0) (v := (.int .i64 kd : Value)) rfl; simp [go_sem, sEv, sLook, nbeq, i64_w, -List.getD_eq_getElem?_getD, e0_]) ?_
                refine rw_val (v := .bool (kd == 4)) (w' := w45) rfl rfl rfl rfl (by simp [go_sem, sEv, sLook, nbeq, i64_w, -List.getD_eq_getElem?_getD]) ?_
                refine rw_end ?_
                refine w_cond rfl rfl (fun cK4 => ?_) (fun cK4 => ?_)
                · have l118 : kd = 4 := by simpa using cK4
                  refine w_seq ?_
                  refine w_region ?_
                  refine rw_val (v := .pointer (some ⟨g, 0, none⟩)) (w' := w45) rfl rfl rfl rfl rfl ?_
                  refine rw_val (v := .pointer (some ⟨g32, 3, none⟩)) (w' := w45) rfl rfl rfl rfl (by simp [go_sem, sEv, sLook, nbeq, i64_w, -List.getD_eq_getElem?_getD, Try.underlying64]) ?_
                  refine rw_val (v := .int .i64 nn) (w' := w45) rfl rfl rfl rfl (by have eb_ := (hk40.on hB47); have e0_ := eb_.cellv (i := 3) (v := (.int .i64 nn : Value)) rfl; simp [go_sem, sEv, sLook, nbeq, i64_w, -List.getD_eq_getElem?_getD, e0_]) ?_
                  obtain ⟨he1251, he1252⟩ := TapeB.ne (hT43.on hB47) (hk40.on hB47) (by decide) (by decide)
                  obtain ⟨hP1261, hP1262⟩ := TapeB.ne (hT43.on hB47) (((hU_.on hb34).keep hk39 (by omega)).on hB47) (by decide) (by decide)
                  refine rw_call rfl rfl rfl rfl (f := 22) (args := #[.pointer (some ⟨g, 0, none⟩), .int .i64 nn]) (by simp [go_sem, sEv, sLook, nbeq, i64_w, -List.getD_eq_getElem?_getD]) (callB (hT43.on hB47) (fun m_ hm_ => (crash_T w w45 g m_ (XB w45 g tb) (fun q_ h_ => h_.1) s hm_ hBo_.ok nn))) ?_
                  rintro e_ w119 ⟨rfl, hK120, hQ121, tb124, hT122, hto123⟩
                  refine ⟨.tuple #[], rfl, ?_⟩
                  have he125 := Blk.keptT (hk40.on hB47) hK120 (fun e_ => by omega)
                  have hz_w119 := hT122.size
                  have hs_w119 := hK120.1
                  have hP126 := Blk.keptT (((hU_.on hb34).keep hk39 (by omega)).on hB47) hK120 (fun e_ => by omega)
                  refine rw_end ?_
                  refine w_weaken (G' := [(3, .pointer (some ⟨g, 0, none⟩)), (4, .pointer (some ⟨u, 0, none⟩)), (5, .pointer dv), (8, .pointer mv), (11, .pointer (some ⟨g32, 0, none⟩)), (39, .slice (some ad16) sc.length c1), (40, .int .i64 ((sc.length : Nat) : Int)), (41, .int .i64 ((j : Nat) : Int))]) ⟨rfl, rfl, rfl, rfl, rfl, rfl, rfl, rfl, trivial⟩ ?_
                  refine w_region ?_
                  refine rw_val (v := .pointer (some ⟨u, 0, none⟩)) (w' := w119) rfl rfl rfl rfl rfl ?_
                  refine rw_val (v := .pointer (some ⟨g32, 3, none⟩)) (w' := w119) rfl rfl rfl rfl (by simp [go_sem, sEv, sLook, nbeq, i64_w, -List.getD_eq_getElem?_getD, Try.underlying64]) ?_
                  refine rw_val (v := .int .i64 nn) (w' := w119) rfl rfl rfl rfl (by have eb_ := he125; have e0_ := eb_.cellv (i := 3) (v := (.int .i64 nn : Value)) rfl; simp [go_sem, sEv, sLook, nbeq, i64_w, -List.getD_eq_getElem?_getD, e0_]) ?_
                  obtain ⟨hT1301, hT1302⟩ := TapeB.ne hT122 hP126 (by decide) (by decide)
                  refine rw_call rfl rfl rfl rfl (f := 32) (args := #[.pointer (some ⟨u, 0, none⟩), .int .i64 nn]) (by simp [go_sem, sEv, sLook, nbeq, i64_w, -List.getD_eq_getElem?_getD]) (rcrash w119 u r ⟨hro_.st.1, by omega⟩ hro_.l hro_.u hro_.len nn hP126) ?_
                  rintro e_ w127 ⟨rfl, hG128, hb129⟩
                  refine ⟨.tuple #[], rfl, ?_⟩
                  have hs_w127 := hG128.size
                  have hK131 := Grow.keptS (S := fun q => q = u) (kept_refl _ _) hG128 (.inl rfl)
                  have hT130 := TapeB.kept hT122 hK131 ⟨hG128.os, hG128.tape, hG128.output⟩ (fun q_ e_ => by have e2_ : q_ = u := e_; omega) (fun e_ => hT1301 e_.symm) (fun e_ => hT1302 e_.symm)
                  refine rw_end ?_
                  refine w_weaken (G' := [(3, .pointer (some ⟨g, 0, none⟩)), (4, .pointer (some ⟨u, 0, none⟩)), (5, .pointer dv), (8, .pointer mv), (39, .slice (some ad16) sc.length c1), (40, .int .i64 ((sc.length : Nat) : Int)), (41, .int .i64 ((j : Nat) : Int))]) ⟨rfl, rfl, rfl, rfl, rfl, rfl, rfl, trivial⟩ ?_
                  refine w_seq ?_
                  refine w_region ?_
                  refine rw_val (v := .slice none 0 0) (w' := w127) rfl rfl rfl rfl rfl ?_
                  refine rw_end ?_
                  refine w_seq ?_
                  refine w_region ?_
                  refine rw_val (v := .int .i64 0) (w' := w127) rfl rfl rfl rfl rfl ?_
                  refine rw_end ?_
                  refine w_seq ?_
                  refine w_region ?_
                  refine rw_val (v := .pointer (some ⟨g, 0, none⟩)) (w' := w127) rfl rfl rfl rfl rfl ?_
                  have hBq_ := (hBo_.crash nn)
                  obtain ⟨nq1_, nq2_⟩ := TapeB.ne hT130 hb129 (by decide) (by decide)
                  have hq0_ := hBq_.st
                  refine rw_call rfl rfl rfl rfl (f := 11) (args := #[.pointer (some ⟨g, 0, none⟩)]) (by simp [go_sem, sEv, sLook, nbeq, i64_w, -List.getD_eq_getElem?_getD]) (openB w w127 g tb124 (s.crash nn) hT130 hBq_.ok hBq_.by_) ?_
                  rintro e_ w132 ⟨out, n, tb8, hS_, hK8_, hQ8_, hT8_, hto8_, hOE_⟩
                  have hs_w132 := hK8_.1
                  have hU8_ := Blk.keptT hb129 hK8_ (fun e_ => nq1_ e_)
                  have hz_w132 := hT8_.size
                  rcases hOE_ with ⟨c8, hc8_, rfl⟩ | ⟨hn8_, hd8_, gd, z8, A8, c8, rfl, hgd0_, hbd8_, hS8_, hz1_, hz2_⟩
                  · refine ⟨_, rfl, ?_⟩
                    refine rw_val (v := .tuple #[.pointer none, .slice none 0 0, errT (some c8)]) (w' := w132) rfl rfl rfl rfl rfl ?_
                    refine rw_val (v := .pointer none) (w' := w132) rfl rfl rfl rfl (by simp [go_sem, sEv, sLook, nbeq, i64_w, -List.getD_eq_getElem?_getD]) ?_
                    refine rw_val (v := .slice none 0 0) (w' := w132) rfl rfl rfl rfl (by simp [go_sem, sEv, sLook, nbeq, i64_w, -List.getD_eq_getElem?_getD]) ?_
                    refine rw_val (v := errT (some c8)) (w' := w132) rfl rfl rfl rfl (by simp [go_sem, sEv, sLook, nbeq, i64_w, -List.getD_eq_getElem?_getD]) ?_
                    refine rw_val (v := .pointer none) (w' := w132) rfl rfl rfl rfl rfl ?_
                    refine rw_val (v := .slice none 0 0) (w' := w132) rfl rfl rfl rfl rfl ?_
                    refine rw_val (v := errT (some c8)) (w' := w132) rfl rfl rfl rfl rfl ?_
                    refine rw_end ?_
                    refine w_weaken (G' := [(3, .pointer (some ⟨g, 0, none⟩)), (4, .pointer (some ⟨u, 0, none⟩)), (5, .pointer none), (7, errT (some c8)), (8, .pointer mv), (13, .slice none 0 0), (14, .int .i64 0), (39, .slice (some ad16) sc.length c1), (40, .int .i64 ((sc.length : Nat) : Int)), (41, .int .i64 ((j : Nat) : Int))]) ⟨rfl, rfl, rfl, rfl, rfl, rfl, rfl, rfl, rfl, rfl, trivial⟩ ?_
                    refine w_seq ?_
                    refine w_region ?_
                    refine rw_val (v := .pointer (some ⟨u, 0, none⟩)) (w' := w132) rfl rfl rfl rfl rfl ?_
                    obtain ⟨nr1_, nr2_⟩ := TapeB.ne hT8_ hU8_ (by decide) (by decide)
                    refine rw_call rfl rfl rfl rfl (f := 26) (args := #[.pointer (some ⟨u, 0, none⟩)]) (by simp [go_sem, sEv, sLook, nbeq, i64_w, -List.getD_eq_getElem?_getD]) (ropenF hT8_.below hU8_ hu0_ hBq_ (by omega) hS_ hc8_) ?_
                    rintro e_ w133 ⟨rfl, hKr_, hQr_, hUr_⟩
                    refine ⟨_, rfl, ?_⟩
                    have hTr_ := TapeB.kept hT8_ hKr_ hQr_ (fun q_ e_ => by have e2_ : q_ = u := e_; omega) (fun e_ => nr1_ e_.symm) (fun e_ => nr2_ e_.symm)
                    have hs_w133 := hKr_.1
                    refine rw_val (v := .tuple #[.pointer none, .int .i64 (numT (some c8))]) (w' := w133) rfl rfl rfl rfl rfl ?_
                    refine rw_val (v := .pointer none) (w' := w133) rfl rfl rfl rfl (by simp [go_sem, sEv, sLook, nbeq, i64_w, -List.getD_eq_getElem?_getD]) ?_
                    refine rw_val (v := .int .i64 (numT (some c8))) (w' := w133) rfl rfl rfl rfl (by simp [go_sem, sEv, sLook, nbeq, i64_w, -List.getD_eq_getElem?_getD]) ?_
                    refine rw_val (v := .pointer none) (w' := w133) rfl rfl rfl rfl rfl ?_
                    refine rw_val (v := .int .i64 (numT (some c8))) (w' := w133) rfl rfl rfl rfl rfl ?_
                    refine rw_end ?_
                    refine w_weaken (G' := [(3, .pointer (some ⟨g, 0, none⟩)), (4, .pointer (some ⟨u, 0, none⟩)), (5, .pointer none), (7, errT (some c8)), (8, .pointer none), (13, .slice none 0 0), (14, .int .i64 (numT (some c8))), (39, .slice (some ad16) sc.length c1), (40, .int .i64 ((sc.length : Nat) : Int)), (41, .int .i64 ((j : Nat) : Int))]) ⟨rfl, rfl, rfl, rfl, rfl, rfl, rfl, rfl, rfl, rfl, trivial⟩ ?_
                    refine w_seq ?_
                    refine w_seq ?_
                    refine w_region ?_
                    refine rw_val (v := errT (some c8)) (w' := w133) rfl rfl rfl rfl rfl ?_
                    have nz8_ : (some c8 : Option Int) ≠ some 0 := fun h_ => openE_ne _ _ (hc8_.trans h_)
                    refine rw_call rfl rfl rfl rfl (f := 23) (args := #[errT (some c8)]) (by simp [go_sem, sEv, sLook, nbeq, i64_w, -List.getD_eq_getElem?_getD]) (num_T (some c8) nz8_ w133) ?_
                    rintro e_ w134 ⟨rfl, hb135⟩
                    refine ⟨_, rfl, ?_⟩
                    have hs_w134 := hb135.size
                    refine rw_val (v := .int .i64 (numT (some c8))) (w' := w134) rfl rfl rfl rfl rfl ?_
                    refine rw_val (v := .bool false) (w' := w134) rfl rfl rfl rfl (by simp [go_sem, sEv, sLook, nbeq, i64_w, -List.getD_eq_getElem?_getD]) ?_
                    refine rw_val (v := .bool false) (w' := w134) rfl rfl rfl rfl rfl ?_
                    refine rw_on (c := false) rfl rfl rfl rfl ?_
                    refine rw_val (v := .int .i64 (numT (some c8))) (w' := w134) rfl rfl rfl rfl rfl ?_
                    refine rw_on (c := false) rfl rfl rfl rfl ?_
                    refine rw_val (v := .bool ((numT (some c8)) == 0)) (w' := w134) rfl rfl rfl rfl (by simp [go_sem, sEv, sLook, nbeq, i64_w, -List.getD_eq_getElem?_getD]) ?_
                    refine rw_on (c := false) rfl rfl rfl rfl ?_
                    refine rw_val (v := .bool ((numT (some c8)) == 0)) (w' := w134) rfl rfl rfl rfl rfl ?_
                    have hq136 : ((numT (some c8)) == 0) = false := by rw [numT_zero nz8_]; rfl
                    refine rw_off (c := ((numT (some c8)) == 0)) rfl rfl rfl (by first | (rw [hq136]; rfl) | simp [hq136]) rfl rfl ?_
                    refine rw_off (c := ((numT (some c8)) == 0)) rfl rfl rfl (by first | (rw [hq136]; rfl) | simp [hq136]) rfl rfl ?_
                    refine rw_off (c := ((numT (some c8)) == 0)) rfl rfl rfl (by first | (rw [hq136]; rfl) | simp [hq136]) rfl rfl ?_
                    refine rw_off (c := ((numT (some c8)) == 0)) rfl rfl rfl (by first | (rw [hq136]; rfl) | simp [hq136]) rfl rfl ?_
                    refine rw_off (c := ((numT (some c8)) == 0)) rfl rfl rfl (by first | (rw [hq136]; rfl) | simp [hq136]) rfl rfl ?_
                    refine rw_off (c := ((numT (some c8)) == 0)) rfl rfl rfl (by first | (rw [hq136]; rfl) | simp [hq136]) rfl rfl ?_
                    refine rw_off (c := ((numT (some c8)) == 0)) rfl rfl rfl (by first | (rw [hq136]; rfl) | simp [hq136]) rfl rfl ?_
                    refine rw_on (c := false) rfl rfl rfl rfl ?_
                    refine rw_val (v := .bool false) (w' := w134) rfl rfl rfl rfl (by first | (simp [go_sem, sEv, sLook, nbeq, i64_w, -List.getD_eq_getElem?_getD, hq136]; done) | (rw [hq136]; simp [go_sem, sEv, sLook, nbeq, i64_w, -List.getD_eq_getElem?_getD]; done) | (simp [go_sem, sEv, sLook, nbeq, i64_w, -List.getD_eq_getElem?_getD] <;> omega) | (simp [go_sem, sEv, sLook, nbeq, i64_w, -List.getD_eq_getElem?_getD]; intro h_; exact absurd (by omega) h_)) ?_
                    refine rw_val (v := .bool false) (w' := w134) rfl rfl rfl rfl (by simp [go_sem, sEv, sLook, nbeq, i64_w, -List.getD_eq_getElem?_getD]) ?_
                    refine rw_val (v := .bool false) (w' := w134) rfl rfl rfl rfl rfl ?_
                    refine rw_on (c := false) rfl rfl rfl rfl ?_
                    refine rw_val (v := .int .i64 (numT (some c8))) (w' := w134) rfl rfl rfl rfl rfl ?_
                    refine rw_on (c := false) rfl rfl rfl rfl ?_
                    refine rw_val (v := .bool ((numT (some c8)) != 0)) (w' := w134) rfl rfl rfl rfl (by simp [go_sem, sEv, sLook, nbeq, i64_w, -List.getD_eq_getElem?_getD]) ?_
                    refine rw_on (c := false) rfl rfl rfl rfl ?_
                    refine rw_val (v := .bool ((numT (some c8)) != 0)) (w' := w134) rfl rfl rfl rfl rfl ?_
                    have hq137 : ((numT (some c8)) != 0) = true := by have h_ : (numT (some c8) == 0) = false := (by rw [numT_zero nz8_]; rfl); simpa using h_
                    refine rw_on (c := ((numT (some c8)) != 0)) rfl rfl rfl (by first | (rw [hq137]; rfl) | simp [hq137]) ?_
                    refine rw_val (v := .slice none 0 0) (w' := w134) rfl rfl rfl rfl rfl ?_
                    refine rw_on (c := ((numT (some c8)) != 0)) rfl rfl rfl (by first | (rw [hq137]; rfl) | simp [hq137]) ?_
                    refine rw_val (v := .int .i64 0) (w' := w134) rfl rfl rfl rfl (by simp [go_sem, sEv, sLook, nbeq, i64_w, -List.getD_eq_getElem?_getD]) ?_
                    refine rw_on (c := ((numT (some c8)) != 0)) rfl rfl rfl (by first | (rw [hq137]; rfl) | simp [hq137]) ?_
                    refine rw_val (v := .bool false) (w' := w134) rfl rfl rfl rfl (by simp [go_sem, sEv, sLook, nbeq, i64_w, -List.getD_eq_getElem?_getD]) ?_
                    refine rw_on (c := ((numT (some c8)) != 0)) rfl rfl rfl (by first | (rw [hq137]; rfl) | simp [hq137]) ?_
                    refine rw_val (v := .bool false) (w' := w134) rfl rfl rfl rfl rfl ?_
                    refine rw_on (c := false) rfl rfl rfl rfl ?_
                    refine rw_val (v := .pointer none) (w' := w134) rfl rfl rfl rfl rfl ?_
                    refine rw_on (c := false) rfl rfl rfl rfl ?_
                    refine rw_val (v := .bool false) (w' := w134) rfl rfl rfl rfl (run_as (run_ptr_neq (e := 80) (by kernel_rfl) _ _)) ?_
                    refine rw_on (c := ((numT (some c8)) != 0)) rfl rfl rfl (by first | (rw [hq137]; rfl) | simp [hq137]) ?_
                    refine rw_val (v := .bool false) (w' := w134) rfl rfl rfl rfl (by simp [go_sem, sEv, sLook, nbeq, i64_w, -List.getD_eq_getElem?_getD]) ?_
                    refine rw_on (c := false) rfl rfl rfl rfl ?_
                    refine rw_val (v := .bool false) (w' := w134) rfl rfl rfl rfl (by first | (simp [go_sem, sEv, sLook, nbeq, i64_w, -List.getD_eq_getElem?_getD, hq137]; done) | (rw [hq137]; simp [go_sem, sEv, sLook, nbeq, i64_w, -List.getD_eq_getElem?_getD]; done) | (simp [go_sem, sEv, sLook, nbeq, i64_w, -List.getD_eq_getElem?_getD] <;> omega) | (simp [go_sem, sEv, sLook, nbeq, i64_w, -List.getD_eq_getElem?_getD]; intro h_; exact absurd (by omega) h_)) ?_
                    refine rw_val (v := .bool false) (w' := w134) rfl rfl rfl rfl (by simp [go_sem, sEv, sLook, nbeq, i64_w, -List.getD_eq_getElem?_getD]) ?_
                    refine rw_end ?_
                    refine w_weaken (G' := [(3, .pointer (some ⟨g, 0, none⟩)), (4, .pointer (some ⟨u, 0, none⟩)), (5, .pointer none), (8, .pointer none), (13, .slice none 0 0), (39, .slice (some ad16) sc.length c1), (40, .int .i64 ((sc.length : Nat) : Int)), (41, .int .i64 ((j : Nat) : Int)), (101, .bool false)]) ⟨rfl, rfl, rfl, rfl, rfl, rfl, rfl, rfl, rfl, trivial⟩ ?_
                    refine w_cond_f rfl rfl rfl ?_
                    refine w_skip ?_
                    refine w_region ?_
                    refine rw_val (v := .slice none 0 0) (w' := w134) rfl rfl rfl rfl rfl ?_
                    refine rw_call rfl rfl rfl rfl (f := 33) (args := #[.slice none 0 0]) (by simp [go_sem, sEv, sLook, nbeq, i64_w, -List.getD_eq_getElem?_getD]) (apart_0 w134 none 0) ?_
                    rintro e_ w138 ⟨rfl, hb139⟩
                    refine ⟨_, rfl, ?_⟩
                    have hs_w138 := hb139.size
                    refine rw_end ?_
                    refine w_blk ?_
                    exact w_joined [(3, .pointer (some ⟨g, 0, none⟩)), (4, .pointer (some ⟨u, 0, none⟩)), (5, .pointer none), (8, .pointer none), (39, .slice (some ad16) sc.length c1), (40, .int .i64 ((sc.length : Nat) : Int)), (41, .int .i64 ((j : Nat) : Int))] ⟨rfl, rfl, rfl, rfl, rfl, rfl, rfl, trivial⟩ ⟨_, _, _, _, _, ⟨((hTr_.on hb135).on hb139), Both.mono ((hBq_.open (by omega) n).2) (by omega), (.inl ⟨rfl, rfl, ((hUr_.on hb135).on hb139), hu0_⟩)⟩, rfl⟩
                  · refine ⟨_, rfl, ?_⟩
                    have hl8_ := hbd8_.lt
                    refine rw_val (v := .tuple #[.pointer (some ⟨gd, 0, none⟩), .slice A8 out.length c8, errT none]) (w' := w132) rfl rfl rfl rfl rfl ?_
                    refine rw_val (v := .pointer (some ⟨gd, 0, none⟩)) (w' := w132) rfl rfl rfl rfl (by simp [go_sem, sEv, sLook, nbeq, i64_w, -List.getD_eq_getElem?_getD]) ?_
                    refine rw_val (v := .slice A8 out.length c8) (w' := w132) rfl rfl rfl rfl (by simp [go_sem, sEv, sLook, nbeq, i64_w, -List.getD_eq_getElem?_getD]) ?_
                    refine rw_val (v := errT none) (w' := w132) rfl rfl rfl rfl (by simp [go_sem, sEv, sLook, nbeq, i64_w, -List.getD_eq_getElem?_getD]) ?_
                    refine rw_val (v := .pointer (some ⟨gd, 0, none⟩)) (w' := w132) rfl rfl rfl rfl rfl ?_
                    refine rw_val (v := .slice A8 out.length c8) (w' := w132) rfl rfl rfl rfl rfl ?_
                    refine rw_val (v := errT none) (w' := w132) rfl rfl rfl rfl rfl ?_
                    refine rw_end ?_
                    refine w_weaken (G' := [(3, .pointer (some ⟨g, 0, none⟩)), (4, .pointer (some ⟨u, 0, none⟩)), (5, .pointer (some ⟨gd, 0, none⟩)), (7, errT none), (8, .pointer mv), (13, .slice A8 out.length c8), (14, .int .i64 0), (39, .slice (some ad16) sc.length c1), (40, .int .i64 ((sc.length : Nat) : Int)), (41, .int .i64 ((j : Nat) : Int))]) ⟨rfl, rfl, rfl, rfl, rfl, rfl, rfl, rfl, rfl, rfl, trivial⟩ ?_
                    refine w_seq ?_
                    refine w_region ?_
                    refine rw_val (v := .pointer (some ⟨u, 0, none⟩)) (w' := w132) rfl rfl rfl rfl rfl ?_
                    obtain ⟨nr1_, nr2_⟩ := TapeB.ne hT8_ hU8_ (by decide) (by decide)
                    have nr3_ := blk_ne hbd8_ hU8_ (by decide)
                    refine rw_call rfl rfl rfl rfl (f := 26) (args := #[.pointer (some ⟨u, 0, none⟩)]) (by simp [go_sem, sEv, sLook, nbeq, i64_w, -List.getD_eq_getElem?_getD]) (ropenS hT8_.below hU8_ hu0_ hBq_ (by omega) hS_ hd8_ hn8_) ?_
                    rintro e_ w140 ⟨md, rfl, hmd8_, hKr_, hQr_, hRr_⟩
                    refine ⟨_, rfl, ?_⟩
                    have hTr_ := TapeB.kept hT8_ hKr_ hQr_ (fun q_ e_ => by have e2_ : q_ = u := e_; omega) (fun e_ => nr1_ e_.symm) (fun e_ => nr2_ e_.symm)
                    have hGr_ := Blk.keptT hbd8_ hKr_ (fun e_ => nr3_ e_)
                    have hSr_ := Kd.S_step hS8_ (fun q_ hq_ hlt_ => hKr_.2 q_ hlt_ (fun e_ => by have e2_ : q_ = u := e_; have h2_ := hq_.1; omega))
                    have hs_w140 := hKr_.1
                    obtain ⟨hbr1_, _, _, AR, cR, hbr2_, hbr3_⟩ := hRr_
                    have hRr_ : RDAt w w140 (fun q => w132.heap.size ≤ q) u md ((r.crash nn).openS n) out := ⟨hbr1_, hu0_, by omega, AR, cR, hbr2_, hbr3_⟩
                    refine rw_val (v := .tuple #[.pointer (some ⟨md, 0, none⟩), .int .i64 0]) (w' := w140) rfl rfl rfl rfl rfl ?_
                    refine rw_val (v := .pointer (some ⟨md, 0, none⟩)) (w' := w140) rfl rfl rfl rfl (by simp [go_sem, sEv, sLook, nbeq, i64_w, -List.getD_eq_getElem?_getD]) ?_
                    refine rw_val (v := .int .i64 0) (w' := w140) rfl rfl rfl rfl (by simp [go_sem, sEv, sLook, nbeq, i64_w, -List.getD_eq_getElem?_getD]) ?_
                    refine rw_val (v := .pointer (some ⟨md, 0, none⟩)) (w' := w140) rfl rfl rfl rfl rfl ?_
                    refine rw_val (v := .int .i64 0) (w' := w140) rfl rfl rfl rfl rfl ?_
                    refine rw_end ?_
                    refine w_weaken (G' := [(3, .pointer (some ⟨g, 0, none⟩)), (4, .pointer (some ⟨u, 0, none⟩)), (5, .pointer (some ⟨gd, 0, none⟩)), (7, errT none), (8, .pointer (some ⟨md, 0, none⟩)), (13, .slice A8 out.length c8), (14, .int .i64 0), (39, .slice (some ad16) sc.length c1), (40, .int .i64 ((sc.length : Nat) : Int)), (41, .int .i64 ((j : Nat) : Int))]) ⟨rfl, rfl, rfl, rfl, rfl, rfl, rfl, rfl, rfl, rfl, trivial⟩ ?_
                    refine w_seq ?_
                    refine w_seq ?_
                    refine w_region ?_
                    refine rw_val (v := errT none) (w' := w140) rfl rfl rfl rfl rfl ?_
                    refine rw_call rfl rfl rfl rfl (f := 23) (args := #[errT none]) (by simp [go_sem, sEv, sLook, nbeq, i64_w, -List.getD_eq_getElem?_getD]) (num_T none (by simp) w140) ?_
                    rintro e_ w141 ⟨rfl, hb142⟩
                    refine ⟨.int .i64 0, rfl, ?_⟩
                    have hs_w141 := hb142.size
                    refine rw_val (v := .int .i64 0) (w' := w141) rfl rfl rfl rfl rfl ?_
                    refine rw_val (v := .bool false) (w' := w141) rfl rfl rfl rfl (by simp [go_sem, sEv, sLook, nbeq, i64_w, -List.getD_eq_getElem?_getD]) ?_
                    refine rw_val (v := .bool false) (w' := w141) rfl rfl rfl rfl rfl ?_
                    refine rw_on (c := false) rfl rfl rfl rfl ?_
                    refine rw_val (v := .int .i64 0) (w' := w141) rfl rfl rfl rfl rfl ?_
                    refine rw_on (c := false) rfl rfl rfl rfl ?_
                    refine rw_val (v := .bool true) (w' := w141) rfl rfl rfl rfl (by simp [go_sem, sEv, sLook, nbeq, i64_w, -List.getD_eq_getElem?_getD]) ?_
                    refine rw_on (c := false) rfl rfl rfl rfl ?_
                    refine rw_val (v := .bool true) (w' := w141) rfl rfl rfl rfl rfl ?_
                    refine rw_on (c := true) rfl rfl rfl rfl ?_
                    refine rw_val (v := .slice A8 out.length c8) (w' := w141) rfl rfl rfl rfl rfl ?_
                    refine rw_on (c := true) rfl rfl rfl rfl ?_
                    refine rw_val (v := .pointer (some ⟨md, 0, none⟩)) (w' := w141) rfl rfl rfl rfl rfl ?_
                    refine rw_on (c := true) rfl rfl rfl rfl ?_
                    refine rw_val (v := .pointer (some ⟨md, 0, none⟩)) (w' := w141) rfl rfl rfl rfl (by simp [go_sem, sEv, sLook, nbeq, i64_w, -List.getD_eq_getElem?_getD]) ?_
                    refine rw_on (c := true) rfl rfl rfl rfl ?_
                    refine rw_val (v := .pointer (some ⟨md, 1, none⟩)) (w' := w141) rfl rfl rfl rfl (by simp [go_sem, sEv, sLook, nbeq, i64_w, -List.getD_eq_getElem?_getD, Try.underlying71]) ?_
                    refine rw_on (c := true) rfl rfl rfl rfl ?_
                    refine rw_val (v := .slice AR out.length cR) (w' := w141) rfl rfl rfl rfl (by have eb_ := (hbr2_.on hb142); have e0_ := eb_.cellv (i := 1) (v := (.slice AR out.length cR : Value)) rfl; simp [go_sem, sEv, sLook, nbeq, i64_w, -List.getD_eq_getElem?_getD, e0_, Try.underlying35]) ?_
                    refine rw_on (c := true) rfl rfl rfl rfl ?_
                    have hsl8_ := splitR_all (hS_ hd8_) hBq_.by_
                    have hsm8_ := rows_le out hsl8_.2.2.1
                    have hsn8_ : (FC out).length ≤ 1048576 := by have h_ := hBq_.ok.len; rw [hsl8_.2.1, List.length_take]; omega
                    refine rw_call rfl rfl rfl rfl (f := 13) (args := #[.slice A8 out.length c8, .slice AR out.length cR]) (by simp [go_sem, sEv, sLook, nbeq, i64_w, -List.getD_eq_getElem?_getD]) (same_L w141 A8 AR c8 cR out (OwnK.C (d := (Kd.slice 5 (Kd.int .u8))) (OwnK.on (d := (Kd.slice 5 (Kd.int .u8))) (Kd.S_R (Kd.S_mono hSr_ (fun q_ h_ => h_.1))) hb142)) (OwnK.cap (d := (Kd.slice 5 (Kd.int .u8))) (OwnK.on (d := (Kd.slice 5 (Kd.int .u8))) (Kd.S_R (Kd.S_mono hSr_ (fun q_ h_ => h_.1))) hb142)) (Kd.C_below (Kd.R_reads' hbr3_).2.2 hb142) (Kd.R_reads' hbr3_).2.1 (by omega)) ?_
                    rintro e_ w143 ⟨rfl, hb144⟩
                    refine ⟨_, rfl, ?_⟩
                    have hs_w143 := hb144.size
                    refine rw_on (c := true) rfl rfl rfl rfl ?_
                    refine rw_val (v := .bool false) (w' := w143) rfl rfl rfl rfl (by simp [go_sem, sEv, sLook, nbeq, i64_w, -List.getD_eq_getElem?_getD]) ?_
                    refine rw_on (c := false) rfl rfl rfl rfl ?_
                    refine rw_val (v := .bool false) (w' := w143) rfl rfl rfl rfl (by simp [go_sem, sEv, sLook, nbeq, i64_w, -List.getD_eq_getElem?_getD]) ?_
                    refine rw_val (v := .bool false) (w' := w143) rfl rfl rfl rfl (by simp [go_sem, sEv, sLook, nbeq, i64_w, -List.getD_eq_getElem?_getD]) ?_
                    refine rw_val (v := .bool false) (w' := w143) rfl rfl rfl rfl rfl ?_
                    refine rw_on (c := false) rfl rfl rfl rfl ?_
                    refine rw_val (v := .int .i64 0) (w' := w143) rfl rfl rfl rfl rfl ?_
                    refine rw_on (c := false) rfl rfl rfl rfl ?_
                    refine rw_val (v := .bool false) (w' := w143) rfl rfl rfl rfl (by simp [go_sem, sEv, sLook, nbeq, i64_w, -List.getD_eq_getElem?_getD]) ?_
                    refine rw_on (c := false) rfl rfl rfl rfl ?_
                    refine rw_val (v := .bool false) (w' := w143) rfl rfl rfl rfl rfl ?_
                    refine rw_off (c := false) rfl rfl rfl rfl rfl rfl ?_
                    refine rw_off (c := false) rfl rfl rfl rfl rfl rfl ?_
                    refine rw_off (c := false) rfl rfl rfl rfl rfl rfl ?_
                    refine rw_off (c := false) rfl rfl rfl rfl rfl rfl ?_
                    refine rw_offu rfl rfl rfl rfl rfl ?_
                    refine rw_offu rfl rfl rfl rfl rfl ?_
                    refine rw_off (c := false) rfl rfl rfl rfl rfl rfl ?_
                    refine rw_on (c := false) rfl rfl rfl rfl ?_
                    refine rw_val (v := .bool false) (w' := w143) rfl rfl rfl rfl (by simp [go_sem, sEv, sLook, nbeq, i64_w, -List.getD_eq_getElem?_getD]) ?_
                    refine rw_val (v := .bool false) (w' := w143) rfl rfl rfl rfl (by simp [go_sem, sEv, sLook, nbeq, i64_w, -List.getD_eq_getElem?_getD]) ?_
                    refine rw_end ?_
                    refine w_weaken (G' := [(3, .pointer (some ⟨g, 0, none⟩)), (4, .pointer (some ⟨u, 0, none⟩)), (5, .pointer (some ⟨gd, 0, none⟩)), (8, .pointer (some ⟨md, 0, none⟩)), (13, .slice A8 out.length c8), (39, .slice (some ad16) sc.length c1), (40, .int .i64 ((sc.length : Nat) : Int)), (41, .int .i64 ((j : Nat) : Int)), (101, .bool false)]) ⟨rfl, rfl, rfl, rfl, rfl, rfl, rfl, rfl, rfl, trivial⟩ ?_
                    refine w_cond_f rfl rfl rfl ?_
                    refine w_skip ?_
                    refine w_region ?_
                    refine rw_val (v := .slice A8 out.length c8) (w' := w143) rfl rfl rfl rfl rfl ?_
                    refine rw_call rfl rfl rfl rfl (f := 33) (args := #[.slice A8 out.length c8]) (by simp [go_sem, sEv, sLook, nbeq, i64_w, -List.getD_eq_getElem?_getD]) (apartB (lo := w127.heap.size) (z := z8) (chain (chain hTr_.below hb142) hb144) (Kd.S_lower (Kd.S_below hSr_ (chain hb142 hb144)) (by omega)) (by omega) (fun x hx => by have h_ := hsl8_.2.2.1 x hx; omega)) ?_
                    rintro e_ w145 ⟨rfl, hb146, hKz_⟩
                    refine ⟨_, rfl, ?_⟩
                    have hQz_ := qt_of (chain (chain hTr_.below hb142) hb144) hb146
                    have hTz_ := TapeB.kept ((hTr_.on hb142).on hb144) hKz_ hQz_ (fun q_ e_ => by omega) (fun e_ => by omega) (fun e_ => hz1_ e_)
                    have hGz_ := Blk.keptT ((hGr_.on hb142).on hb144) hKz_ (fun e_ => by omega)
                    have hRz_ := (RDAt.kept ((hRr_.on hb142).on hb144) hKz_ (fun e_ => by omega) (fun e_ => by omega) (fun q_ h_ e_ => by omega)).mono (fun _ _ => trivial)
                    refine rw_end ?_
                    refine w_blk ?_
                    exact w_joined [(3, .pointer (some ⟨g, 0, none⟩)), (4, .pointer (some ⟨u, 0, none⟩)), (5, .pointer (some ⟨gd, 0, none⟩)), (8, .pointer (some ⟨md, 0, none⟩)), (39, .slice (some ad16) sc.length c1), (40, .int .i64 ((sc.length : Nat) : Int)), (41, .int .i64 ((j : Nat) : Int))] ⟨rfl, rfl, rfl, rfl, rfl, rfl, rfl, trivial⟩ ⟨_, _, _, _, _, ⟨hTz_, Both.mono ((hBq_.open (by omega) n).2) (by omega), (.inr ⟨gd, md, _, _, _, rfl, rfl, (open_DI hBq_.ok hBq_.all hBq_.by_ (hS_ hd8_) hn8_ hd8_), hGz_, hgd0_, hRz_⟩)⟩, rfl⟩
                · have l147 : ¬ kd = 4 := by simpa using cK4
                  refine w_skip ?_
                  refine w_seq ?_
                  refine w_region ?_
                  refine rw_val (v := .slice none 0 0) (w' := w45) rfl rfl rfl rfl rfl ?_
                  refine rw_end ?_
                  refine w_seq ?_
                  refine w_region ?_
                  refine rw_val (v := .int .i64 0) (w' := w45) rfl rfl rfl rfl rfl ?_
                  refine rw_end ?_
                  refine w_seq ?_
                  refine w_region ?_
                  refine rw_val (v := .pointer (some ⟨g, 0, none⟩)) (w' := w45) rfl rfl rfl rfl rfl ?_
                  have hBq_ := hBo_
                  obtain ⟨nq1_, nq2_⟩ := TapeB.ne (hT43.on hB47) (((hU_.on hb34).keep hk39 (by omega)).on hB47) (by decide) (by decide)
                  have hq0_ := hBq_.st
                  refine rw_call rfl rfl rfl rfl (f := 11) (args := #[.pointer (some ⟨g, 0, none⟩)]) (by simp [go_sem, sEv, sLook, nbeq, i64_w, -List.getD_eq_getElem?_getD]) (openB w w45 g tb s (hT43.on hB47) hBq_.ok hBq_.by_) ?_
                  rintro e_ w148 ⟨out, n, tb8, hS_, hK8_, hQ8_, hT8_, hto8_, hOE_⟩
                  have hs_w148 := hK8_.1
                  have hU8_ := Blk.keptT (((hU_.on hb34).keep hk39 (by omega)).on hB47) hK8_ (fun e_ => nq1_ e_)
                  have hz_w148 := hT8_.size
                  rcases hOE_ with ⟨c8, hc8_, rfl⟩ | ⟨hn8_, hd8_, gd, z8, A8, c8, rfl, hgd0_, hbd8_, hS8_, hz1_, hz2_⟩
                  · refine ⟨_, rfl, ?_⟩
                    refine rw_val (v := .tuple #[.pointer none, .slice none 0 0, errT (some c8)]) (w' := w148) rfl rfl rfl rfl rfl ?_
                    refine rw_val (v := .pointer none) (w' := w148) rfl rfl rfl rfl (by simp [go_sem, sEv, sLook, nbeq, i64_w, -List.getD_eq_getElem?_getD]) ?_
                    refine rw_val (v := .slice none 0 0) (w' := w148) rfl rfl rfl rfl (by simp [go_sem, sEv, sLook, nbeq, i64_w, -List.getD_eq_getElem?_getD]) ?_
                    refine rw_val (v := errT (some c8)) (w' := w148) rfl rfl rfl rfl (by simp [go_sem, sEv, sLook, nbeq, i64_w, -List.getD_eq_getElem?_getD]) ?_
                    refine rw_val (v := .pointer none) (w' := w148) rfl rfl rfl rfl rfl ?_
                    refine rw_val (v := .slice none 0 0) (w' := w148) rfl rfl rfl rfl rfl ?_
                    refine rw_val (v := errT (some c8)) (w' := w148) rfl rfl rfl rfl rfl ?_
                    refine rw_end ?_
                    refine w_weaken (G' := [(3, .pointer (some ⟨g, 0, none⟩)), (4, .pointer (some ⟨u, 0, none⟩)), (5, .pointer none), (7, errT (some c8)), (8, .pointer mv), (13, .slice none 0 0), (14, .int .i64 0), (39, .slice (some ad16) sc.length c1), (40, .int .i64 ((sc.length : Nat) : Int)), (41, .int .i64 ((j : Nat) : Int))]) ⟨rfl, rfl, rfl, rfl, rfl, rfl, rfl, rfl, rfl, rfl, trivial⟩ ?_
                    refine w_seq ?_
                    refine w_region ?_
                    refine rw_val (v := .pointer (some ⟨u, 0, none⟩)) (w' := w148) rfl rfl rfl rfl rfl ?_
                    obtain ⟨nr1_, nr2_⟩ := TapeB.ne hT8_ hU8_ (by decide) (by decide)
                    refine rw_call rfl rfl rfl rfl (f := 26) (args := #[.pointer (some ⟨u, 0, none⟩)]) (by simp [go_sem, sEv, sLook, nbeq, i64_w, -List.getD_eq_getElem?_getD]) (ropenF hT8_.below hU8_ hu0_ hBq_ (by omega) hS_ hc8_) ?_
                    rintro e_ w149 ⟨rfl, hKr_, hQr_, hUr_⟩
                    refine ⟨_, rfl, ?_⟩
                    have hTr_ := TapeB.kept hT8_ hKr_ hQr_ (fun q_ e_ => by have e2_ : q_ = u := e_; omega) (fun e_ => nr1_ e_.symm) (fun e_ => nr2_ e_.symm)
                    have hs_w149 := hKr_.1
                    refine rw_val (v := .tuple #[.pointer none, .int .i64 (numT (some c8))]) (w' := w149) rfl rfl rfl rfl rfl ?_
                    refine rw_val (v := .pointer none) (w' := w149) rfl rfl rfl rfl (by simp [go_sem, sEv, sLook, nbeq, i64_w, -List.getD_eq_getElem?_getD]) ?_
                    refine rw_val (v := .int .i64 (numT (some c8))) (w' := w149) rfl rfl rfl rfl (by simp [go_sem, sEv, sLook, nbeq, i64_w, -List.getD_eq_getElem?_getD]) ?_
                    refine rw_val (v := .pointer none) (w' := w149) rfl rfl rfl rfl rfl ?_
                    refine rw_val (v := .int .i64 (numT (some c8))) (w' := w149) rfl rfl rfl rfl rfl ?_
                    refine rw_end ?_
                    refine w_weaken (G' := [(3, .pointer (some ⟨g, 0, none⟩)), (4, .pointer (some ⟨u, 0, none⟩)), (5, .pointer none), (7, errT (some c8)), (8, .pointer none), (13, .slice none 0 0), (14, .int .i64 (numT (some c8))), (39, .slice (some ad16) sc.length c1), (40, .int .i64 ((sc.length : Nat) : Int)), (41, .int .i64 ((j : Nat) : Int))]) ⟨rfl, rfl, rfl, rfl, rfl, rfl, rfl, rfl, rfl, rfl, trivial⟩ ?_
                    refine w_seq ?_
                    refine w_seq ?_
                    refine w_region ?_
                    refine rw_val (v := errT (some c8)) (w' := w149) rfl rfl rfl rfl rfl ?_
                    have nz8_ : (some c8 : Option Int) ≠ some 0 := fun h_ => openE_ne _ _ (hc8_.trans h_)
                    refine rw_call rfl rfl rfl rfl (f := 23) (args := #[errT (some c8)]) (by simp [go_sem, sEv, sLook, nbeq, i64_w, -List.getD_eq_getElem?_getD]) (num_T (some c8) nz8_ w149) ?_
                    rintro e_ w150 ⟨rfl, hb151⟩
                    refine ⟨_, rfl, ?_⟩
                    have hs_w150 := hb151.size
                    refine rw_val (v := .int .i64 (numT (some c8))) (w' := w150) rfl rfl rfl rfl rfl ?_
                    refine rw_val (v := .bool false) (w' := w150) rfl rfl rfl rfl (by simp [go_sem, sEv, sLook, nbeq, i64_w, -List.getD_eq_getElem?_getD]) ?_
                    refine rw_val (v := .bool false) (w' := w150) rfl rfl rfl rfl rfl ?_
                    refine rw_on (c := false) rfl rfl rfl rfl ?_
                    refine rw_val (v := .int .i64 (numT (some c8))) (w' := w150) rfl rfl rfl rfl rfl ?_
                    refine rw_on (c := false) rfl rfl rfl rfl ?_
                    refine rw_val (v := .bool ((numT (some c8)) == 0)) (w' := w150) rfl rfl rfl rfl (by simp [go_sem, sEv, sLook, nbeq, i64_w, -List.getD_eq_getElem?_getD]) ?_
                    refine rw_on (c := false) rfl rfl rfl rfl ?_
                    refine rw_val (v := .bool ((numT (some c8)) == 0)) (w' := w150) rfl rfl rfl rfl rfl ?_
                    have hq152 : ((numT (some c8)) == 0) = false := by rw [numT_zero nz8_]; rfl
                    refine rw_off (c := ((numT (some c8)) == 0)) rfl rfl rfl (by first | (rw [hq152]; rfl) | simp [hq152]) rfl rfl ?_
                    refine rw_off (c := ((numT (some c8)) == 0)) rfl rfl rfl (by first | (rw [hq152]; rfl) | simp [hq152]) rfl rfl ?_
                    refine rw_off (c := ((numT (some c8)) == 0)) rfl rfl rfl (by first | (rw [hq152]; rfl) | simp [hq152]) rfl rfl ?_
                    refine rw_off (c := ((numT (some c8)) == 0)) rfl rfl rfl (by first | (rw [hq152]; rfl) | simp [hq152]) rfl rfl ?_
                    refine rw_off (c := ((numT (some c8)) == 0)) rfl rfl rfl (by first | (rw [hq152]; rfl) | simp [hq152]) rfl rfl ?_
                    refine rw_off (c := ((numT (some c8)) == 0)) rfl rfl rfl (by first | (rw [hq152]; rfl) | simp [hq152]) rfl rfl ?_
                    refine rw_off (c := ((numT (some c8)) == 0)) rfl rfl rfl (by first | (rw [hq152]; rfl) | simp [hq152]) rfl rfl ?_
                    refine rw_on (c := false) rfl rfl rfl rfl ?_
                    refine rw_val (v := .bool false) (w' := w150) rfl rfl rfl rfl (by first | (simp [go_sem, sEv, sLook, nbeq, i64_w, -List.getD_eq_getElem?_getD, hq152]; done) | (rw [hq152]; simp [go_sem, sEv, sLook, nbeq, i64_w, -List.getD_eq_getElem?_getD]; done) | (simp [go_sem, sEv, sLook, nbeq, i64_w, -List.getD_eq_getElem?_getD] <;> omega) | (simp [go_sem, sEv, sLook, nbeq, i64_w, -List.getD_eq_getElem?_getD]; intro h_; exact absurd (by omega) h_)) ?_
                    refine rw_val (v := .bool false) (w' := w150) rfl rfl rfl rfl (by simp [go_sem, sEv, sLook, nbeq, i64_w, -List.getD_eq_getElem?_getD]) ?_
                    refine rw_val (v := .bool false) (w' := w150) rfl rfl rfl rfl rfl ?_
                    refine rw_on (c := false) rfl rfl rfl rfl ?_
                    refine rw_val (v := .int .i64 (numT (some c8))) (w' := w150) rfl rfl rfl rfl rfl ?_
                    refine rw_on (c := false) rfl rfl rfl rfl ?_
                    refine rw_val (v := .bool ((numT (some c8)) != 0)) (w' := w150) rfl rfl rfl rfl (by simp [go_sem, sEv, sLook, nbeq, i64_w, -List.getD_eq_getElem?_getD]) ?_
                    refine rw_on (c := false) rfl rfl rfl rfl ?_
                    refine rw_val (v := .bool ((numT (some c8)) != 0)) (w' := w150) rfl rfl rfl rfl rfl ?_
                    have hq153 : ((numT (some c8)) != 0) = true := by have h_ : (numT (some c8) == 0) = false := (by rw [numT_zero nz8_]; rfl); simpa using h_
                    refine rw_on (c := ((numT (some c8)) != 0)) rfl rfl rfl (by first | (rw [hq153]; rfl) | simp [hq153]) ?_
                    refine rw_val (v := .slice none 0 0) (w' := w150) rfl rfl rfl rfl rfl ?_
                    refine rw_on (c := ((numT (some c8)) != 0)) rfl rfl rfl (by first | (rw [hq153]; rfl) | simp [hq153]) ?_
                    refine rw_val (v := .int .i64 0) (w' := w150) rfl rfl rfl rfl (by simp [go_sem, sEv, sLook, nbeq, i64_w, -List.getD_eq_getElem?_getD]) ?_
                    refine rw_on (c := ((numT (some c8)) != 0)) rfl rfl rfl (by first | (rw [hq153]; rfl) | simp [hq153]) ?_
                    refine rw_val (v := .bool false) (w' := w150) rfl rfl rfl rfl (by simp [go_sem, sEv, sLook, nbeq, i64_w, -List.getD_eq_getElem?_getD]) ?_
                    refine rw_on (c := ((numT (some c8)) != 0)) rfl rfl rfl (by first | (rw [hq153]; rfl) | simp [hq153]) ?_
                    refine rw_val (v := .bool false) (w' := w150) rfl rfl rfl rfl rfl ?_
                    refine rw_on (c := false) rfl rfl rfl rfl ?_
                    refine rw_val (v := .pointer none) (w' := w150) rfl rfl rfl rfl rfl ?_
                    refine rw_on (c := false) rfl rfl rfl rfl ?_
                    refine rw_val (v := .bool false) (w' := w150) rfl rfl rfl rfl (run_as (run_ptr_neq (e := 80) (by kernel_rfl) _ _)) ?_
                    refine rw_on (c := ((numT (some c8)) != 0)) rfl rfl rfl (by first | (rw [hq153]; rfl) | simp [hq153]) ?_
                    refine rw_val (v := .bool false) (w' := w150) rfl rfl rfl rfl (by simp [go_sem, sEv, sLook, nbeq, i64_w, -List.getD_eq_getElem?_getD]) ?_
                    refine rw_on (c := false) rfl rfl rfl rfl ?_
                    refine rw_val (v := .bool false) (w' := w150) rfl rfl rfl rfl (by first | (simp [go_sem, sEv, sLook, nbeq, i64_w, -List.getD_eq_getElem?_getD, hq153]; done) | (rw [hq153]; simp [go_sem, sEv, sLook, nbeq, i64_w, -List.getD_eq_getElem?_getD]; done) | (simp [go_sem, sEv, sLook, nbeq, i64_w, -List.getD_eq_getElem?_getD] <;> omega) | (simp [go_sem, sEv, sLook, nbeq, i64_w, -List.getD_eq_getElem?_getD]; intro h_; exact absurd (by omega) h_)) ?_
                    refine rw_val (v := .bool false) (w' := w150) rfl rfl rfl rfl (by simp [go_sem, sEv, sLook, nbeq, i64_w, -List.getD_eq_getElem?_getD]) ?_
                    refine rw_end ?_
                    refine w_weaken (G' := [(3, .pointer (some ⟨g, 0, none⟩)), (4, .pointer (some ⟨u, 0, none⟩)), (5, .pointer none), (8, .pointer none), (13, .slice none 0 0), (39, .slice (some ad16) sc.length c1), (40, .int .i64 ((sc.length : Nat) : Int)), (41, .int .i64 ((j : Nat) : Int)), (101, .bool false)]) ⟨rfl, rfl, rfl, rfl, rfl, rfl, rfl, rfl, rfl, trivial⟩ ?_
                    refine w_cond_f rfl rfl rfl ?_
                    refine w_skip ?_
                    refine w_region ?_
                    refine rw_val (v := .slice none 0 0) (w' := w150) rfl rfl rfl rfl rfl ?_
                    refine rw_call rfl rfl rfl rfl (f := 33) (args := #[.slice none 0 0]) (by simp [go_sem, sEv, sLook, nbeq, i64_w, -List.getD_eq_getElem?_getD]) (apart_0 w150 none 0) ?_
                    rintro e_ w154 ⟨rfl, hb155⟩
                    refine ⟨_, rfl, ?_⟩
                    have hs_w154 := hb155.size
                    refine rw_end ?_
                    refine w_blk ?_
                    exact w_joined [(3, .pointer (some ⟨g, 0, none⟩)), (4, .pointer (some ⟨u, 0, none⟩)), (5, .pointer none), (8, .pointer none), (39, .slice (some ad16) sc.length c1), (40, .int .i64 ((sc.length : Nat) : Int)), (41, .int .i64 ((j : Nat) : Int))] ⟨rfl, rfl, rfl, rfl, rfl, rfl, rfl, trivial⟩ ⟨_, _, _, _, _, ⟨((hTr_.on hb151).on hb155), Both.mono ((hBq_.open (by omega) n).2) (by omega), (.inl ⟨rfl, rfl, ((hUr_.on hb151).on hb155), hu0_⟩)⟩, rfl⟩
                  · refine ⟨_, rfl, ?_⟩
                    have hl8_ := hbd8_.lt
                    refine rw_val (v := .tuple #[.pointer (some ⟨gd, 0, none⟩), .slice A8 out.length c8, errT none]) (w' := w148) rfl rfl rfl rfl rfl ?_
                    refine rw_val (v := .pointer (some ⟨gd, 0, none⟩)) (w' := w148) rfl rfl rfl rfl (by simp [go_sem, sEv, sLook, nbeq, i64_w, -List.getD_eq_getElem?_getD]) ?_
                    refine rw_val (v := .slice A8 out.length c8) (w' := w148) rfl rfl rfl rfl (by simp [go_sem, sEv, sLook, nbeq, i64_w, -List.getD_eq_getElem?_getD]) ?_
                    refine rw_val (v := errT none) (w' := w148) rfl rfl rfl rfl (by simp [go_sem, sEv, sLook, nbeq, i64_w, -List.getD_eq_getElem?_getD]) ?_
                    refine rw_val (v := .pointer (some ⟨gd, 0, none⟩)) (w' := w148) rfl rfl rfl rfl rfl ?_
                    refine rw_val (v := .slice A8 out.length c8) (w' := w148) rfl rfl rfl rfl rfl ?_
                    refine rw_val (v := errT none) (w' := w148) rfl rfl rfl rfl rfl ?_
                    refine rw_end ?_
                    refine w_weaken (G' := [(3, .pointer (some ⟨g, 0, none⟩)), (4, .pointer (some ⟨u, 0, none⟩)), (5, .pointer (some ⟨gd, 0, none⟩)), (7, errT none), (8, .pointer mv), (13, .slice A8 out.length c8), (14, .int .i64 0), (39, .slice (some ad16) sc.length c1), (40, .int .i64 ((sc.length : Nat) : Int)), (41, .int .i64 ((j : Nat) : Int))]) ⟨rfl, rfl, rfl, rfl, rfl, rfl, rfl, rfl, rfl, rfl, trivial⟩ ?_
                    refine w_seq ?_
                    refine w_region ?_
                    refine rw_val (v := .pointer (some ⟨u, 0, none⟩)) (w' := w148) rfl rfl rfl rfl rfl ?_
                    obtain ⟨nr1_, nr2_⟩ := TapeB.ne hT8_ hU8_ (by decide) (by decide)
                    have nr3_ := blk_ne hbd8_ hU8_ (by decide)
                    refine rw_call rfl rfl rfl rfl (f := 26) (args := #[.pointer (some ⟨u, 0, none⟩)]) (by simp [go_sem, sEv, sLook, nbeq, i64_w, -List.getD_eq_getElem?_getD]) (ropenS hT8_.below hU8_ hu0_ hBq_ (by omega) hS_ hd8_ hn8_) ?_
                    rintro e_ w156 ⟨md, rfl, hmd8_, hKr_, hQr_, hRr_⟩
                    refine ⟨_, rfl, ?_⟩
                    have hTr_ := TapeB.kept hT8_ hKr_ hQr_ (fun q_ e_ => by have e2_ : q_ = u := e_; omega) (fun e_ => nr1_ e_.symm) (fun e_ => nr2_ e_.symm)
                    have hGr_ := Blk.keptT hbd8_ hKr_ (fun e_ => nr3_ e_)
                    have hSr_ := Kd.S_step hS8_ (fun q_ hq_ hlt_ => hKr_.2 q_ hlt_ (fun e_ => by have e2_ : q_ = u := e_; have h2_ := hq_.1; omega))
                    have hs_w156 := hKr_.1
                    obtain ⟨hbr1_, _, _, AR, cR, hbr2_, hbr3_⟩ := hRr_
                    have hRr_ : RDAt w w156 (fun q => w148.heap.size ≤ q) u md (r.openS n) out := ⟨hbr1_, hu0_, by omega, AR, cR, hbr2_, hbr3_⟩
                    refine rw_val (v := .tuple #[.pointer (some ⟨md, 0, none⟩), .int .i64 0]) (w' := w156) rfl rfl rfl rfl rfl ?_
                    refine rw_val (v := .pointer (some ⟨md, 0, none⟩)) (w' := w156) rfl rfl rfl rfl (by simp [go_sem, sEv, sLook, nbeq, i64_w, -List.getD_eq_getElem?_getD]) ?_
                    refine rw_val (v := .int .i64 0) (w' := w156) rfl rfl rfl rfl (by simp [go_sem, sEv, sLook, nbeq, i64_w, -List.getD_eq_getElem?_getD]) ?_
                    refine rw_val (v := .pointer (some ⟨md, 0, none⟩)) (w' := w156) rfl rfl rfl rfl rfl ?_
                    refine rw_val (v := .int .i64 0) (w' := w156) rfl rfl rfl rfl rfl ?_
                    refine rw_end ?_
                    refine w_weaken (G' := [(3, .pointer (some ⟨g, 0, none⟩)), (4, .pointer (some ⟨u, 0, none⟩)), (5, .pointer (some ⟨gd, 0, none⟩)), (7, errT none), (8, .pointer (some ⟨md, 0, none⟩)), (13, .slice A8 out.length c8), (14, .int .i64 0), (39, .slice (some ad16) sc.length c1), (40, .int .i64 ((sc.length : Nat) : Int)), (41, .int .i64 ((j : Nat) : Int))]) ⟨rfl, rfl, rfl, rfl, rfl, rfl, rfl, rfl, rfl, rfl, trivial⟩ ?_
                    refine w_seq ?_
                    refine w_seq ?_
                    refine w_region ?_
                    refine rw_val (v := errT none) (w' := w156) rfl rfl rfl rfl rfl ?_
                    refine rw_call rfl rfl rfl rfl (f := 23) (args := #[errT none]) (by simp [go_sem, sEv, sLook, nbeq, i64_w, -List.getD_eq_getElem?_getD]) (num_T none (by simp) w156) ?_
                    rintro e_ w157 ⟨rfl, hb158⟩
                    refine ⟨.int .i64 0, rfl, ?_⟩
                    have hs_w157 := hb158.size
                    refine rw_val (v := .int .i64 0) (w' := w157) rfl rfl rfl rfl rfl ?_
                    refine rw_val (v := .bool false) (w' := w157) rfl rfl rfl rfl (by simp [go_sem, sEv, sLook, nbeq, i64_w, -List.getD_eq_getElem?_getD]) ?_
                    refine rw_val (v := .bool false) (w' := w157) rfl rfl rfl rfl rfl ?_
                    refine rw_on (c := false) rfl rfl rfl rfl ?_
                    refine rw_val (v := .int .i64 0) (w' := w157) rfl rfl rfl rfl rfl ?_
                    refine rw_on (c := false) rfl rfl rfl rfl ?_
                    refine rw_val (v := .bool true) (w' := w157) rfl rfl rfl rfl (by simp [go_sem, sEv, sLook, nbeq, i64_w, -List.getD_eq_getElem?_getD]) ?_
                    refine rw_on (c := false) rfl rfl rfl rfl ?_
                    refine rw_val (v := .bool true) (w' := w157) rfl rfl rfl rfl rfl ?_
                    refine rw_on (c := true) rfl rfl rfl rfl ?_
                    refine rw_val (v := .slice A8 out.length c8) (w' := w157) rfl rfl rfl rfl rfl ?_
                    refine rw_on (c := true) rfl rfl rfl rfl ?_
                    refine rw_val (v := .pointer (some ⟨md, 0, none⟩)) (w' := w157) rfl rfl rfl rfl rfl ?_
                    refine rw_on (c := true) rfl rfl rfl rfl ?_
                    refine rw_val (v := .pointer (some ⟨md, 0, none⟩)) (w' := w157) rfl rfl rfl rfl (by simp [go_sem, sEv, sLook, nbeq, i64_w, -List.getD_eq_getElem?_getD]) ?_
                    refine rw_on (c := true) rfl rfl rfl rfl ?_
                    refine rw_val (v := .pointer (some ⟨md, 1, none⟩)) (w' := w157) rfl rfl rfl rfl (by simp [go_sem, sEv, sLook, nbeq, i64_w, -List.getD_eq_getElem?_getD, Try.underlying71]) ?_
                    refine rw_on (c := true) rfl rfl rfl rfl ?_
                    refine rw_val (v := .slice AR out.length cR) (w' := w157) rfl rfl rfl rfl (by have eb_ := (hbr2_.on hb158); have e0_ := eb_.cellv (i := 1) (v := (.slice AR out.length cR : Value)) rfl; simp [go_sem, sEv, sLook, nbeq, i64_w, -List.getD_eq_getElem?_getD, e0_, Try.underlying35]) ?_
                    refine rw_on (c := true) rfl rfl rfl rfl ?_
                    have hsl8_ := splitR_all (hS_ hd8_) hBq_.by_
                    have hsm8_ := rows_le out hsl8_.2.2.1
                    have hsn8_ : (FC out).length ≤ 1048576 := by have h_ := hBq_.ok.len; rw [hsl8_.2.1, List.length_take]; omega
                    refine rw_call rfl rfl rfl rfl (f := 13) (args := #[.slice A8 out.length c8, .slice AR out.length cR]) (by simp [go_sem, sEv, sLook, nbeq, i64_w, -List.getD_eq_getElem?_getD]) (same_L w157 A8 AR c8 cR out (OwnK.C (d := (Kd.slice 5 (Kd.int .u8))) (OwnK.on (d := (Kd.slice 5 (Kd.int .u8))) (Kd.S_R (Kd.S_mono hSr_ (fun q_ h_ => h_.1))) hb158)) (OwnK.cap (d := (Kd.slice 5 (Kd.int .u8))) (OwnK.on (d := (Kd.slice 5 (Kd.int .u8))) (Kd.S_R (Kd.S_mono hSr_ (fun q_ h_ => h_.1))) hb158)) (Kd.C_below (Kd.R_reads' hbr3_).2.2 hb158) (Kd.R_reads' hbr3_).2.1 (by omega)) ?_
                    rintro e_ w159 ⟨rfl, hb160⟩
                    refine ⟨_, rfl, ?_⟩
                    have hs_w159 := hb160.size
                    refine rw_on (c := true) rfl rfl rfl rfl ?_
                    refine rw_val (v := .bool false) (w' := w159) rfl rfl rfl rfl (by simp [go_sem, sEv, sLook, nbeq, i64_w, -List.getD_eq_getElem?_getD]) ?_
                    refine rw_on (c := false) rfl rfl rfl rfl ?_
                    refine rw_val (v := .bool false) (w' := w159) rfl rfl rfl rfl (by simp [go_sem, sEv, sLook, nbeq, i64_w, -List.getD_eq_getElem?_getD]) ?_
                    refine rw_val (v := .bool false) (w' := w159) rfl rfl rfl rfl (by simp [go_sem, sEv, sLook, nbeq, i64_w, -List.getD_eq_getElem?_getD]) ?_
                    refine rw_val (v := .bool false) (w' := w159) rfl rfl rfl rfl rfl ?_
                    refine rw_on (c := false) rfl rfl rfl rfl ?_
                    refine rw_val (v := .int .i64 0) (w' := w159) rfl rfl rfl rfl rfl ?_
                    refine rw_on (c := false) rfl rfl rfl rfl ?_
                    refine rw_val (v := .bool false) (w' := w159) rfl rfl rfl rfl (by simp [go_sem, sEv, sLook, nbeq, i64_w, -List.getD_eq_getElem?_getD]) ?_
                    refine rw_on (c := false) rfl rfl rfl rfl ?_
                    refine rw_val (v := .bool false) (w' := w159) rfl rfl rfl rfl rfl ?_
                    refine rw_off (c := false) rfl rfl rfl rfl rfl rfl ?_
                    refine rw_off (c := false) rfl rfl rfl rfl rfl rfl ?_
                    refine rw_off (c := false) rfl rfl rfl rfl rfl rfl ?_
                    refine rw_off (c := false) rfl rfl rfl rfl rfl rfl ?_
                    refine rw_offu rfl rfl rfl rfl rfl ?_
                    refine rw_offu rfl rfl rfl rfl rfl ?_
                    refine rw_off (c := false) rfl rfl rfl rfl rfl rfl ?_
                    refine rw_on (c := false) rfl rfl rfl rfl ?_
                    refine rw_val (v := .bool false) (w' := w159) rfl rfl rfl rfl (by simp [go_sem, sEv, sLook, nbeq, i64_w, -List.getD_eq_getElem?_getD]) ?_
                    refine rw_val (v := .bool false) (w' := w159) rfl rfl rfl rfl (by simp [go_sem, sEv, sLook, nbeq, i64_w, -List.getD_eq_getElem?_getD]) ?_
                    refine rw_end ?_
                    refine w_weaken (G' := [(3, .pointer (some ⟨g, 0, none⟩)), (4, .pointer (some ⟨u, 0, none⟩)), (5, .pointer (some ⟨gd, 0, none⟩)), (8, .pointer (some ⟨md, 0, none⟩)), (13, .slice A8 out.length c8), (39, .slice (some ad16) sc.length c1), (40, .int .i64 ((sc.length : Nat) : Int)), (41, .int .i64 ((j : Nat) : Int)), (101, .bool false)]) ⟨rfl, rfl, rfl, rfl, rfl, rfl, rfl, rfl, rfl, trivial⟩ ?_
                    refine w_cond_f rfl rfl rfl ?_
                    refine w_skip ?_
                    refine w_region ?_
                    refine rw_val (v := .slice A8 out.length c8) (w' := w159) rfl rfl rfl rfl rfl ?_
                    refine rw_call rfl rfl rfl rfl (f := 33) (args := #[.slice A8 out.length c8]) (by simp [go_sem, sEv, sLook, nbeq, i64_w, -List.getD_eq_getElem?_getD]) (apartB (lo := w45.heap.size) (z := z8) (chain (chain hTr_.below hb158) hb160) (Kd.S_lower (Kd.S_below hSr_ (chain hb158 hb160)) (by omega)) (by omega) (fun x hx => by have h_ := hsl8_.2.2.1 x hx; omega)) ?_
                    rintro e_ w161 ⟨rfl, hb162, hKz_⟩
                    refine ⟨_, rfl, ?_⟩
                    have hQz_ := qt_of (chain (chain hTr_.below hb158) hb160) hb162
                    have hTz_ := TapeB.kept ((hTr_.on hb158).on hb160) hKz_ hQz_ (fun q_ e_ => by omega) (fun e_ => by omega) (fun e_ => hz1_ e_)
                    have hGz_ := Blk.keptT ((hGr_.on hb158).on hb160) hKz_ (fun e_ => by omega)
                    have hRz_ := (RDAt.kept ((hRr_.on hb158).on hb160) hKz_ (fun e_ => by omega) (fun e_ => by omega) (fun q_ h_ e_ => by omega)).mono (fun _ _ => trivial)
                    refine rw_end ?_
                    refine w_blk ?_
                    exact w_joined [(3, .pointer (some ⟨g, 0, none⟩)), (4, .pointer (some ⟨u, 0, none⟩)), (5, .pointer (some ⟨gd, 0, none⟩)), (8, .pointer (some ⟨md, 0, none⟩)), (39, .slice (some ad16) sc.length c1), (40, .int .i64 ((sc.length : Nat) : Int)), (41, .int .i64 ((j : Nat) : Int))] ⟨rfl, rfl, rfl, rfl, rfl, rfl, rfl, trivial⟩ ⟨_, _, _, _, _, ⟨hTz_, Both.mono ((hBq_.open (by omega) n).2) (by omega), (.inr ⟨gd, md, _, _, _, rfl, rfl, (open_DI hBq_.ok hBq_.all hBq_.by_ (hS_ hd8_) hn8_ hd8_), hGz_, hgd0_, hRz_⟩)⟩, rfl⟩
      · rintro _ wJ ⟨tb, s, r, dv, mv, ⟨hT_, hBo_, hP_⟩, rfl⟩
        have hB_ := hT_.below
        have hs_wJ := hB_.size
        have hz_ := hT_.size
        obtain ⟨hU_, hu0_⟩ := hP_.ublk
        have hlu_ := hU_.lt
        have hst_ := hBo_.st
        have hst0_ := hBo_.ok.steps.1
        have hro_ := hBo_.ro
        have hrs_ := hBo_.rel.st
        have hrn_ := hro_.len
        rcases hP_ with ⟨rfl, rfl, hUn_, _⟩ | ⟨gd, md, rr, bb, rs, rfl, rfl, hDI_, hbd_, hgd0_, hR_⟩
        · refine w_seq ?_
          refine w_drawk (M := [0, 1, 3, 7, 15, 7, 39, 103, 231, 487, 1023, 2047, 4095, 8191, 4095, 32767, 65535, 131071, 262143, 524287, 1048575, 2097151, 4194303, 1048575, 9437183, 26214399, 59768831, 1048575, 135266303, 403701759, 940572671, 2140143615, 4294967295, 8589934591, 17179869183, 34359738367, 68719476735, 34359738367, 171798691839, 446676598783, 996432412671, 2199023255551, 4398046511103]) (ss := [Is (.pointer none), Is (.bool false), Is (.bool false), Is undef, Is undef, Is undef, Is undef, Is undef, Is undef, Is undef, Is undef, Is undef, Is undef, Is undef, Is undef, Is undef, Is undef, Is undef, Is (.bool false), Is (.bool false), Is (.pointer (some ⟨g, 0, none⟩)), (OwnKSpec (Kd.int .u8) 5 wJ.heap.size wJ.heap.size s.xs), Is (.string (strOfNums s.xs)), Is (.pointer (some ⟨u, 0, none⟩)), Is (.pointer (some ⟨u, 0, none⟩)), Is (.pointer (some ⟨u, 0, none⟩)), Is (.string (strOfNums r.S)), Is (.pointer (some ⟨u, 0, none⟩)), Is (.pointer (some ⟨u, 0, none⟩)), Is (.pointer (some ⟨u, 1, none⟩)), Is (.string (strOfNums r.R)), Is (.string (strOfNums (r.S ++ r.R))), Is (.bool (!decide (strOfNums s.xs = strOfNums (r.S ++ r.R)))), Is (.bool (!decide (strOfNums s.xs = strOfNums (r.S ++ r.R)))), Is (.bool (!decide (strOfNums s.xs = strOfNums (r.S ++ r.R)))), Is (.pointer (some ⟨g, 0, none⟩)), (Is (.int .i64 s.steps)), Is (.pointer (some ⟨u, 0, none⟩)), Is (.pointer (some ⟨u, 0, none⟩)), Is (.pointer (some ⟨u, 2, none⟩)), Is (.int .i64 r.st)]) 41 rfl (by decide +kernel) ?_
          refine t_is (.pointer none) rfl rfl rfl rfl (fun W_ hW_ F_ => rfl) ?_
          refine t_is (.bool false) rfl rfl rfl rfl (fun W_ hW_ F_ => (run_as (run_ptr_neq (e := 71) (by kernel_rfl) _ _))) ?_
          refine t_is (.bool false) rfl rfl rfl rfl (fun W_ hW_ F_ => rfl) ?_
          refine t_off (c := false) rfl rfl rfl rfl rfl rfl ?_
          refine t_off (c := false) rfl rfl rfl rfl rfl rfl ?_
          refine t_off (c := false) rfl rfl rfl rfl rfl rfl ?_
          refine t_off (c := false) rfl rfl rfl rfl rfl rfl ?_
          refine t_off (c := false) rfl rfl rfl rfl rfl rfl ?_
          refine t_off (c := false) rfl rfl rfl rfl rfl rfl ?_
          refine t_off (c := false) rfl rfl rfl rfl rfl rfl ?_
          refine t_off (c := false) rfl rfl rfl rfl rfl rfl ?_
          refine t_off (c := false) rfl rfl rfl rfl rfl rfl ?_
          refine t_offu rfl rfl rfl rfl rfl ?_
          refine t_offu rfl rfl rfl rfl rfl ?_
          refine t_offu rfl rfl rfl rfl rfl ?_
          refine t_offu rfl rfl rfl rfl rfl ?_
          refine t_offu rfl rfl rfl rfl rfl ?_
          refine t_off (c := false) rfl rfl rfl rfl rfl rfl ?_
          refine t_is (.bool false) rfl rfl rfl rfl (fun W_ hW_ F_ => by simp [go_sem, sEv, sLook, nbeq, i64_w, -List.getD_eq_getElem?_getD]) ?_
          refine t_is (.bool false) rfl rfl rfl rfl (fun W_ hW_ F_ => rfl) ?_
          refine t_gis (c := false) (.pointer (some ⟨g, 0, none⟩)) rfl rfl rfl rfl rfl rfl rfl (fun W_ hW_ F_ => rfl) ?_
          refine t_gcall (c := false) (f := 17) (args := #[.pointer (some ⟨g, 0, none⟩)]) (OwnKSpec (Kd.int .u8) 5 wJ.heap.size wJ.heap.size s.xs) rfl rfl rfl rfl rfl rfl rfl (fun W_ => by simp [go_sem, sEv, sLook, nbeq, i64_w, -List.getD_eq_getElem?_getD]) (fun W_ hW_ F_ => ?_) ?_
          · have hs_ := (below_of_drew hW_).size
            refine (readB w W_ g tb s (hT_.on (below_of_drew hW_)) hBo_.ok).mono ?_
            rintro e_ w_ ⟨A_, c_, rfl, hO_, hb_⟩
            exact ⟨_, rfl, ⟨A_, c_, rfl, OwnK.mono (OwnK.lower hO_ (by omega)) (by omega)⟩, hb_⟩
          rintro _ ⟨A163, c164, rfl, hle165⟩
          refine t_gis (c := false) (.string (strOfNums s.xs)) rfl rfl rfl rfl rfl rfl rfl (fun W_ hW_ F_ => (by have hO_ := ownk_fact (F_ 21 (OwnKSpec (Kd.int .u8) 5 wJ.heap.size wJ.heap.size s.xs) (.slice A163 s.xs.length c164) (by kernel_rfl) (by kernel_rfl)); exact run_as (run_str_of (P := Try.prog) (e := 5) (by kernel_rfl) (by kernel_rfl) (by kernel_rfl) (OwnK.C (d := (Kd.int .u8)) hO_)))) ?_
          refine t_gis (c := false) (.pointer (some ⟨u, 0, none⟩)) rfl rfl rfl rfl rfl rfl rfl (fun W_ hW_ F_ => rfl) ?_
          refine t_gis (c := false) (.pointer (some ⟨u, 0, none⟩)) rfl rfl rfl rfl rfl rfl rfl (fun W_ hW_ F_ => by simp [go_sem, sEv, sLook, nbeq, i64_w, -List.getD_eq_getElem?_getD]) ?_
          refine t_gis (c := false) (.pointer (some ⟨u, 0, none⟩)) rfl rfl rfl rfl rfl rfl rfl (fun W_ hW_ F_ => by simp [go_sem, sEv, sLook, nbeq, i64_w, -List.getD_eq_getElem?_getD, Try.underlying59]) ?_
          refine t_gis (c := false) (.string (strOfNums r.S)) rfl rfl rfl rfl rfl rfl rfl (fun W_ hW_ F_ => by have eb_ := (hU_.on (below_of_drew hW_)); have e0_ := eb_.cellv (i := 0) (v := (.string (strOfNums r.S) : Value)) rfl; simp [go_sem, sEv, sLook, nbeq, i64_w, -List.getD_eq_getElem?_getD, e0_]) ?_
          refine t_gis (c := false) (.pointer (some ⟨u, 0, none⟩)) rfl rfl rfl rfl rfl rfl rfl (fun W_ hW_ F_ => rfl) ?_
          refine t_gis (c := false) (.pointer (some ⟨u, 0, none⟩)) rfl rfl rfl rfl rfl rfl rfl (fun W_ hW_ F_ => by simp [go_sem, sEv, sLook, nbeq, i64_w, -List.getD_eq_getElem?_getD]) ?_
          refine t_gis (c := false) (.pointer (some ⟨u, 1, none⟩)) rfl rfl rfl rfl rfl rfl rfl (fun W_ hW_ F_ => by simp [go_sem, sEv, sLook, nbeq, i64_w, -List.getD_eq_getElem?_getD, Try.underlying59]) ?_
          refine t_gis (c := false) (.string (strOfNums r.R)) rfl rfl rfl rfl rfl rfl rfl (fun W_ hW_ F_ => by have eb_ := (hU_.on (below_of_drew hW_)); have e0_ := eb_.cellv (i := 1) (v := (.string (strOfNums r.R) : Value)) rfl; simp [go_sem, sEv, sLook, nbeq, i64_w, -List.getD_eq_getElem?_getD, e0_]) ?_
          refine t_gis (c := false) (.string (strOfNums (r.S ++ r.R))) rfl rfl rfl rfl rfl rfl rfl (fun W_ hW_ F_ => (run_as (run_str_add (t := 9) r.S r.R (by omega) _))) ?_
          refine t_gis (c := false) (.bool (!decide (strOfNums s.xs = strOfNums (r.S ++ r.R)))) rfl rfl rfl rfl rfl rfl rfl (fun W_ hW_ F_ => (run_as (run_str_neq 9 _ _ _))) ?_
          refine t_is (.bool (!decide (strOfNums s.xs = strOfNums (r.S ++ r.R)))) rfl rfl rfl rfl (fun W_ hW_ F_ => by simp [go_sem, sEv, sLook, nbeq, i64_w, -List.getD_eq_getElem?_getD]) ?_
          refine t_is (.bool (!decide (strOfNums s.xs = strOfNums (r.S ++ r.R)))) rfl rfl rfl rfl (fun W_ hW_ F_ => rfl) ?_
          have hq167 : (!decide (strOfNums s.xs = strOfNums (r.S ++ r.R))) = false := by rw [hBo_.rel.all]; simp
          refine t_gis (c := !decide (strOfNums s.xs = strOfNums (r.S ++ r.R))) (.pointer (some ⟨g, 0, none⟩)) rfl rfl rfl (by first | (rw [hq167]; rfl) | simp [hq167]) rfl rfl rfl (fun W_ hW_ F_ => rfl) ?_
          refine t_gcall (c := !decide (strOfNums s.xs = strOfNums (r.S ++ r.R))) (f := 24) (args := #[.pointer (some ⟨g, 0, none⟩)]) (Is (.int .i64 s.steps)) rfl rfl rfl (by first | (rw [hq167]; rfl) | simp [hq167]) rfl rfl rfl (fun W_ => by simp [go_sem, sEv, sLook, nbeq, i64_w, -List.getD_eq_getElem?_getD]) (fun W_ hW_ F_ => ?_) ?_
          · refine (stepsB w W_ g tb s (hT_.on (below_of_drew hW_)) hBo_.ok).mono ?_
            rintro e_ w_ ⟨rfl, hd_⟩
            exact ⟨_, rfl, rfl, hd_⟩
          rintro _ rfl
          refine t_gis (c := !decide (strOfNums s.xs = strOfNums (r.S ++ r.R))) (.pointer (some ⟨u, 0, none⟩)) rfl rfl rfl (by first | (rw [hq167]; rfl) | simp [hq167]) rfl rfl rfl (fun W_ hW_ F_ => rfl) ?_
          refine t_gis (c := !decide (strOfNums s.xs = strOfNums (r.S ++ r.R))) (.pointer (some ⟨u, 0, none⟩)) rfl rfl rfl (by first | (rw [hq167]; rfl) | simp [hq167]) rfl rfl rfl (fun W_ hW_ F_ => by simp [go_sem, sEv, sLook, nbeq, i64_w, -List.getD_eq_getElem?_getD]) ?_
          refine t_gis (c := !decide (strOfNums s.xs = strOfNums (r.S ++ r.R))) (.pointer (some ⟨u, 2, none⟩)) rfl rfl rfl (by first | (rw [hq167]; rfl) | simp [hq167]) rfl rfl rfl (fun W_ hW_ F_ => by simp [go_sem, sEv, sLook, nbeq, i64_w, -List.getD_eq_getElem?_getD, Try.underlying59]) ?_
          refine t_gis (c := !decide (strOfNums s.xs = strOfNums (r.S ++ r.R))) (.int .i64 r.st) rfl rfl rfl (by first | (rw [hq167]; rfl) | simp [hq167]) rfl rfl rfl (fun W_ hW_ F_ => by have eb_ := (hU_.on (below_of_drew hW_)); have e0_ := eb_.cellv (i := 2) (v := (.int .i64 r.st : Value)) rfl; simp [go_sem, sEv, sLook, nbeq, i64_w, -List.getD_eq_getElem?_getD, e0_]) ?_
          refine t_tail ?_
          intro w168 hb169_ F170
          have hb169 := below_of_drew hb169_
          have hs_w168 := hb169.size
          have hO166 : OwnK (Kd.int .u8) 5 w168 w.heap.size wJ.heap.size A163 s.xs.length c164 s.xs := OwnK.lower (ownk_fact (F170 21 (OwnKSpec (Kd.int .u8) 5 wJ.heap.size wJ.heap.size s.xs) (.slice A163 s.xs.length c164) (by kernel_rfl))) (by omega)
          refine rw_on (c := !decide (strOfNums s.xs = strOfNums (r.S ++ r.R))) rfl rfl rfl (by first | (rw [hq167]; rfl) | simp [hq167]) ?_
          refine rw_val (v := .bool (s.steps != r.st)) (w' := w168) rfl rfl rfl rfl (by simp [go_sem, sEv, sLook, nbeq, i64_w, -List.getD_eq_getElem?_getD]) ?_
          refine rw_val (v := .bool (s.steps != r.st)) (w' := w168) rfl rfl rfl rfl (by first | (simp [go_sem, sEv, sLook, nbeq, i64_w, -List.getD_eq_getElem?_getD, hq167]; done) | (rw [hq167]; simp [go_sem, sEv, sLook, nbeq, i64_w, -List.getD_eq_getElem?_getD]; done) | (simp [go_sem, sEv, sLook, nbeq, i64_w, -List.getD_eq_getElem?_getD] <;> omega) | (simp [go_sem, sEv, sLook, nbeq, i64_w, -List.getD_eq_getElem?_getD]; intro h_; exact absurd (by omega) h_)) ?_
          refine rw_end ?_
          refine w_weaken (G' := [(3, .pointer (some ⟨g, 0, none⟩)), (4, .pointer (some ⟨u, 0, none⟩)), (5, .pointer none), (8, .pointer none), (39, .slice (some ad16) sc.length c1), (40, .int .i64 ((sc.length : Nat) : Int)), (41, .int .i64 ((j : Nat) : Int)), (229, .bool (s.steps != r.st))]) ⟨rfl, rfl, rfl, rfl, rfl, rfl, rfl, rfl, trivial⟩ ?_
          have hq171 : (s.steps != r.st) = false := by rw [hBo_.rel.st]; simp
          refine w_cond_f rfl rfl hq171 ?_
          refine w_skip ?_
          refine w_blk ?_
          refine w_region ?_
          refine rw_val (v := .int .i64 ((j + 1 : Nat) : Int)) (w' := w168) rfl rfl rfl rfl (by simp [go_sem, sEv, sLook, nbeq, i64_w, -List.getD_eq_getElem?_getD]; exact wrap_id (by omega) (by omega)) ?_
          refine rw_val (v := .int .i64 ((j + 1 : Nat) : Int)) (w' := w168) rfl rfl rfl rfl rfl ?_
          refine rw_end ?_
          exact w_back (m_ - 1) [(3, .pointer (some ⟨g, 0, none⟩)), (4, .pointer (some ⟨u, 0, none⟩)), (5, .pointer none), (8, .pointer none), (39, .slice (some ad16) sc.length c1), (40, .int .i64 ((sc.length : Nat) : Int)), (41, .int .i64 ((j + 1 : Nat) : Int))] (by omega) ⟨rfl, rfl, rfl, rfl, rfl, rfl, rfl, trivial⟩ ⟨j + 1, _, _, _, _, _, by omega, ⟨(hT_.on hb169), Both.mono hBo_ (by omega), (.inl ⟨rfl, rfl, (hU_.on hb169), hu0_⟩)⟩, rfl⟩
        · have hl1_ := hbd_.lt
          obtain ⟨hub_, _, hmd0_, AR, cR, hbm_, hrr_⟩ := hR_
          have hR_ : RDAt w wJ (fun _ => True) u md r rs := ⟨hub_, hu0_, hmd0_, AR, cR, hbm_, hrr_⟩
          have hl2_ := hbm_.lt
          have hlen_ := hDI_.len hBo_.ok
          have hrl_ := rows_le rs hDI_.all
          have hrr1_ : rr = ((rs.length : Nat) : Int) := hDI_.r
          have hbb1_ : bb = (((FC rs).length : Nat) : Int) := hDI_.b
          have hlen1_ := hlen_.1
          refine w_seq ?_
          have hRt_ : RDAt w wJ (fun q => q ≠ u ∧ q ≠ md) u md r rs := (RDAt.typed hR_).mono (fun q_ h_ => by obtain ⟨_, cs_, hq_⟩ := h_; exact ⟨blk_ne hq_ hub_ (by decide), blk_ne hq_ hbm_ (by decide)⟩)
          refine w_drawk (M := [0, 1, 3, 7, 15, 7, 39, 103, 231, 487, 1023, 2047, 4095, 8191, 4095, 32767, 65535, 131071, 262143, 524287, 1048575, 2097151, 4194303, 1048575, 9437183, 26214399, 59768831, 1048575, 135266303, 403701759, 940572671, 2140143615, 4294967295, 8589934591, 17179869183, 34359738367, 68719476735, 34359738367, 171798691839, 446676598783, 996432412671, 2199023255551, 4398046511103]) (ss := [Is (.pointer (some ⟨md, 0, none⟩)), Is (.bool true), Is (.bool true), Is (.pointer (some ⟨gd, 0, none⟩)), (Is (.int .i64 rr)), Is (.pointer (some ⟨md, 0, none⟩)), Is (.pointer (some ⟨md, 0, none⟩)), Is (.pointer (some ⟨md, 1, none⟩)), Is (.slice AR rs.length cR), Is (.int .i64 ((rs.length : Nat) : Int)), Is (.bool (rr != ((rs.length : Nat) : Int))), Is (.bool (rr != ((rs.length : Nat) : Int))), Is (.pointer (some ⟨gd, 0, none⟩)), (Is (.int .i64 bb)), Is (.pointer (some ⟨md, 0, none⟩)), (Is (.int .i64 (((frX rs).length : Nat) : Int))), Is (.bool (bb != (((frX rs).length : Nat) : Int))), Is (.bool (bb != (((frX rs).length : Nat) : Int))), Is (.bool (bb != (((frX rs).length : Nat) : Int))), Is (.bool (bb != (((frX rs).length : Nat) : Int))), Is (.pointer (some ⟨g, 0, none⟩)), (OwnKSpec (Kd.int .u8) 5 wJ.heap.size wJ.heap.size s.xs), Is (.string (strOfNums s.xs)), Is (.pointer (some ⟨u, 0, none⟩)), Is (.pointer (some ⟨u, 0, none⟩)), Is (.pointer (some ⟨u, 0, none⟩)), Is (.string (strOfNums r.S)), Is (.pointer (some ⟨u, 0, none⟩)), Is (.pointer (some ⟨u, 0, none⟩)), Is (.pointer (some ⟨u, 1, none⟩)), Is (.string (strOfNums r.R)), Is (.string (strOfNums (r.S ++ r.R))), Is (.bool (!decide (strOfNums s.xs = strOfNums (r.S ++ r.R)))), Is (.bool (!decide (strOfNums s.xs = strOfNums (r.S ++ r.R)))), Is (.bool (!decide (strOfNums s.xs = strOfNums (r.S ++ r.R)))), Is (.pointer (some ⟨g, 0, none⟩)), (Is (.int .i64 s.steps)), Is (.pointer (some ⟨u, 0, none⟩)), Is (.pointer (some ⟨u, 0, none⟩)), Is (.pointer (some ⟨u, 2, none⟩)), Is (.int .i64 r.st)]) 41 rfl (by decide +kernel) ?_
          refine t_is (.pointer (some ⟨md, 0, none⟩)) rfl rfl rfl rfl (fun W_ hW_ F_ => rfl) ?_
          refine t_is (.bool true) rfl rfl rfl rfl (fun W_ hW_ F_ => (run_as (run_ptr_neq (e := 71) (by kernel_rfl) _ _))) ?_
          refine t_is (.bool true) rfl rfl rfl rfl (fun W_ hW_ F_ => rfl) ?_
          refine t_gis (c := true) (.pointer (some ⟨gd, 0, none⟩)) rfl rfl rfl rfl rfl rfl rfl (fun W_ hW_ F_ => rfl) ?_
          refine t_gcall (c := true) (f := 15) (args := #[.pointer (some ⟨gd, 0, none⟩)]) (Is (.int .i64 rr)) rfl rfl rfl rfl rfl rfl rfl (fun W_ => by simp [go_sem, sEv, sLook, nbeq, i64_w, -List.getD_eq_getElem?_getD]) (fun W_ hW_ F_ => ?_) ?_
          · refine (len_B W_ g gd rr bb (hbd_.on (below_of_drew hW_))).mono ?_
            rintro e_ w_ ⟨rfl, hd_⟩
            exact ⟨_, rfl, rfl, hd_⟩
          rintro _ rfl
          refine t_gis (c := true) (.pointer (some ⟨md, 0, none⟩)) rfl rfl rfl rfl rfl rfl rfl (fun W_ hW_ F_ => rfl) ?_
          refine t_gis (c := true) (.pointer (some ⟨md, 0, none⟩)) rfl rfl rfl rfl rfl rfl rfl (fun W_ hW_ F_ => by simp [go_sem, sEv, sLook, nbeq, i64_w, -List.getD_eq_getElem?_getD]) ?_
          refine t_gis (c := true) (.pointer (some ⟨md, 1, none⟩)) rfl rfl rfl rfl rfl rfl rfl (fun W_ hW_ F_ => by simp [go_sem, sEv, sLook, nbeq, i64_w, -List.getD_eq_getElem?_getD, Try.underlying71]) ?_
          refine t_gis (c := true) (.slice AR rs.length cR) rfl rfl rfl rfl rfl rfl rfl (fun W_ hW_ F_ => by have eb_ := (hbm_.on (below_of_drew hW_)); have e0_ := eb_.cellv (i := 1) (v := (.slice AR rs.length cR : Value)) rfl; simp [go_sem, sEv, sLook, nbeq, i64_w, -List.getD_eq_getElem?_getD, e0_, Try.underlying35]) ?_
          refine t_gis (c := true) (.int .i64 ((rs.length : Nat) : Int)) rfl rfl rfl rfl rfl rfl rfl (fun W_ hW_ F_ => (by simp [go_sem, sEv, sLook, nbeq, i64_w, -List.getD_eq_getElem?_getD])) ?_
          refine t_gis (c := true) (.bool (rr != ((rs.length : Nat) : Int))) rfl rfl rfl rfl rfl rfl rfl (fun W_ hW_ F_ => by simp [go_sem, sEv, sLook, nbeq, i64_w, -List.getD_eq_getElem?_getD]) ?_
          refine t_gis (c := true) (.bool (rr != ((rs.length : Nat) : Int))) rfl rfl rfl rfl rfl rfl rfl (fun W_ hW_ F_ => rfl) ?_
          have hq172 : (rr != ((rs.length : Nat) : Int)) = false := by rw [hrr1_]; simp
          refine t_gis (c := (rr != ((rs.length : Nat) : Int))) (.pointer (some ⟨gd, 0, none⟩)) rfl rfl rfl (by first | (rw [hq172]; rfl) | simp [hq172]) rfl rfl rfl (fun W_ hW_ F_ => rfl) ?_
          refine t_gcall (c := (rr != ((rs.length : Nat) : Int))) (f := 16) (args := #[.pointer (some ⟨gd, 0, none⟩)]) (Is (.int .i64 bb)) rfl rfl rfl (by first | (rw [hq172]; rfl) | simp [hq172]) rfl rfl rfl (fun W_ => by simp [go_sem, sEv, sLook, nbeq, i64_w, -List.getD_eq_getElem?_getD]) (fun W_ hW_ F_ => ?_) ?_
          · refine (bytes_B W_ g gd rr bb (hbd_.on (below_of_drew hW_))).mono ?_
            rintro e_ w_ ⟨rfl, hd_⟩
            exact ⟨_, rfl, rfl, hd_⟩
          rintro _ rfl
          refine t_gis (c := (rr != ((rs.length : Nat) : Int))) (.pointer (some ⟨md, 0, none⟩)) rfl rfl rfl (by first | (rw [hq172]; rfl) | simp [hq172]) rfl rfl rfl (fun W_ hW_ F_ => rfl) ?_
          refine t_gcall (c := (rr != ((rs.length : Nat) : Int))) (f := 34) (args := #[.pointer (some ⟨md, 0, none⟩)]) (Is (.int .i64 (((frX rs).length : Nat) : Int))) rfl rfl rfl (by first | (rw [hq172]; rfl) | simp [hq172]) rfl rfl rfl (fun W_ => by simp [go_sem, sEv, sLook, nbeq, i64_w, -List.getD_eq_getElem?_getD]) (fun W_ hW_ F_ => ?_) ?_
          · refine (rbytes_calls W_ w (chain hT_.below (below_of_drew hW_)) u md (fun q => q ≠ u ∧ q ≠ md) (fun q_ h_ => by have h2_ := (below_of_drew hW_).size; omega) (fun q_ h_ => h_) r rs (hRt_.on (below_of_drew hW_)) hro_ (by omega) hDI_.by_ (fun p hp => Nat.le_trans (hDI_.all p hp) (by decide)) (by omega)).mono ?_
            rintro e_ w_ ⟨rfl, hd_⟩
            exact ⟨_, rfl, rfl, hd_⟩
          rintro _ rfl
          refine t_gis (c := (rr != ((rs.length : Nat) : Int))) (.bool (bb != (((frX rs).length : Nat) : Int))) rfl rfl rfl (by first | (rw [hq172]; rfl) | simp [hq172]) rfl rfl rfl (fun W_ hW_ F_ => by simp [go_sem, sEv, sLook, nbeq, i64_w, -List.getD_eq_getElem?_getD]) ?_
          refine t_gis (c := true) (.bool (bb != (((frX rs).length : Nat) : Int))) rfl rfl rfl rfl rfl rfl rfl (fun W_ hW_ F_ => by first | (simp [go_sem, sEv, sLook, nbeq, i64_w, -List.getD_eq_getElem?_getD, hq172]; done) | (rw [hq172]; simp [go_sem, sEv, sLook, nbeq, i64_w, -List.getD_eq_getElem?_getD]; done) | (simp [go_sem, sEv, sLook, nbeq, i64_w, -List.getD_eq_getElem?_getD] <;> omega) | (simp [go_sem, sEv, sLook, nbeq, i64_w, -List.getD_eq_getElem?_getD]; intro h_; exact absurd (by omega) h_)) ?_
          refine t_is (.bool (bb != (((frX rs).length : Nat) : Int))) rfl rfl rfl rfl (fun W_ hW_ F_ => by simp [go_sem, sEv, sLook, nbeq, i64_w, -List.getD_eq_getElem?_getD]) ?_
          refine t_is (.bool (bb != (((frX rs).length : Nat) : Int))) rfl rfl rfl rfl (fun W_ hW_ F_ => rfl) ?_
          have hq173 : (bb != (((frX rs).length : Nat) : Int)) = false := by rw [hbb1_, (fr_fit hlen_.2).1]; simp
          refine t_gis (c := (bb != (((frX rs).length : Nat) : Int))) (.pointer (some ⟨g, 0, none⟩)) rfl rfl rfl (by first | (rw [hq173]; rfl) | simp [hq173]) rfl rfl rfl (fun W_ hW_ F_ => rfl) ?_
          refine t_gcall (c := (bb != (((frX rs).length : Nat) : Int))) (f := 17) (args := #[.pointer (some ⟨g, 0, none⟩)]) (OwnKSpec (Kd.int .u8) 5 wJ.heap.size wJ.heap.size s.xs) rfl rfl rfl (by first | (rw [hq173]; rfl) | simp [hq173]) rfl rfl rfl (fun W_ => by simp [go_sem, sEv, sLook, nbeq, i64_w, -List.getD_eq_getElem?_getD]) (fun W_ hW_ F_ => ?_) ?_
          · have hs_ := (below_of_drew hW_).size
            refine (readB w W_ g tb s (hT_.on (below_of_drew hW_)) hBo_.ok).mono ?_
            rintro e_ w_ ⟨A_, c_, rfl, hO_, hb_⟩
            exact ⟨_, rfl, ⟨A_, c_, rfl, OwnK.mono (OwnK.lower hO_ (by omega)) (by omega)⟩, hb_⟩
          rintro _ ⟨A174, c175, rfl, hle176⟩
          refine t_gis (c := (bb != (((frX rs).length : Nat) : Int))) (.string (strOfNums s.xs)) rfl rfl rfl (by first | (rw [hq173]; rfl) | simp [hq173]) rfl rfl rfl (fun W_ hW_ F_ => (by have hO_ := ownk_fact (F_ 21 (OwnKSpec (Kd.int .u8) 5 wJ.heap.size wJ.heap.size s.xs) (.slice A174 s.xs.length c175) (by kernel_rfl) (by kernel_rfl)); exact run_as (run_str_of (P := Try.prog) (e := 5) (by kernel_rfl) (by kernel_rfl) (by kernel_rfl) (OwnK.C (d := (Kd.int .u8)) hO_)))) ?_
          refine t_gis (c := (bb != (((frX rs).length : Nat) : Int))) (.pointer (some ⟨u, 0, none⟩)) rfl rfl rfl (by first | (rw [hq173]; rfl) | simp [hq173]) rfl rfl rfl (fun W_ hW_ F_ => rfl) ?_
          refine t_gis (c := (bb != (((frX rs).length : Nat) : Int))) (.pointer (some ⟨u, 0, none⟩)) rfl rfl rfl (by first | (rw [hq173]; rfl) | simp [hq173]) rfl rfl rfl (fun W_ hW_ F_ => by simp [go_sem, sEv, sLook, nbeq, i64_w, -List.getD_eq_getElem?_getD]) ?_
          refine t_gis (c := (bb != (((frX rs).length : Nat) : Int))) (.pointer (some ⟨u, 0, none⟩)) rfl rfl rfl (by first | (rw [hq173]; rfl) | simp [hq173]) rfl rfl rfl (fun W_ hW_ F_ => by simp [go_sem, sEv, sLook, nbeq, i64_w, -List.getD_eq_getElem?_getD, Try.underlying59]) ?_
          refine t_gis (c := (bb != (((frX rs).length : Nat) : Int))) (.string (strOfNums r.S)) rfl rfl rfl (by first | (rw [hq173]; rfl) | simp [hq173]) rfl rfl rfl (fun W_ hW_ F_ => by have eb_ := (hU_.on (below_of_drew hW_)); have e0_ := eb_.cellv (i := 0) (v := (.string (strOfNums r.S) : Value)) rfl; simp [go_sem, sEv, sLook, nbeq, i64_w, -List.getD_eq_getElem?_getD, e0_]) ?_
          refine t_gis (c := (bb != (((frX rs).length : Nat) : Int))) (.pointer (some ⟨u, 0, none⟩)) rfl rfl rfl (by first | (rw [hq173]; rfl) | simp [hq173]) rfl rfl rfl (fun W_ hW_ F_ => rfl) ?_
          refine t_gis (c := (bb != (((frX rs).length : Nat) : Int))) (.pointer (some ⟨u, 0, none⟩)) rfl rfl rfl (by first | (rw [hq173]; rfl) | simp [hq173]) rfl rfl rfl (fun W_ hW_ F_ => by simp [go_sem, sEv, sLook, nbeq, i64_w, -List.getD_eq_getElem?_getD]) ?_
          refine t_gis (c := (bb != (((frX rs).length : Nat) : Int))) (.pointer (some ⟨u, 1, none⟩)) rfl rfl rfl (by first | (rw [hq173]; rfl) | simp [hq173]) rfl rfl rfl (fun W_ hW_ F_ => by simp [go_sem, sEv, sLook, nbeq, i64_w, -List.getD_eq_getElem?_getD, Try.underlying59]) ?_
          refine t_gis (c := (bb != (((frX rs).length : Nat) : Int))) (.string (strOfNums r.R)) rfl rfl rfl (by first | (rw [hq173]; rfl) | simp [hq173]) rfl rfl rfl (fun W_ hW_ F_ => by have eb_ := (hU_.on (below_of_drew hW_)); have e0_ := eb_.cellv (i := 1) (v := (.string (strOfNums r.R) : Value)) rfl; simp [go_sem, sEv, sLook, nbeq, i64_w, -List.getD_eq_getElem?_getD, e0_]) ?_
          refine t_gis (c := (bb != (((frX rs).length : Nat) : Int))) (.string (strOfNums (r.S ++ r.R))) rfl rfl rfl (by first | (rw [hq173]; rfl) | simp [hq173]) rfl rfl rfl (fun W_ hW_ F_ => (run_as (run_str_add (t := 9) r.S r.R (by omega) _))) ?_
          refine t_gis (c := (bb != (((frX rs).length : Nat) : Int))) (.bool (!decide (strOfNums s.xs = strOfNums (r.S ++ r.R)))) rfl rfl rfl (by first | (rw [hq173]; rfl) | simp [hq173]) rfl rfl rfl (fun W_ hW_ F_ => (run_as (run_str_neq 9 _ _ _))) ?_
          refine t_is (.bool (!decide (strOfNums s.xs = strOfNums (r.S ++ r.R)))) rfl rfl rfl rfl (fun W_ hW_ F_ => by first | (simp [go_sem, sEv, sLook, nbeq, i64_w, -List.getD_eq_getElem?_getD, hq173]; done) | (rw [hq173]; simp [go_sem, sEv, sLook, nbeq, i64_w, -List.getD_eq_getElem?_getD]; done) | (simp [go_sem, sEv, sLook, nbeq, i64_w, -List.getD_eq_getElem?_getD] <;> omega) | (simp [go_sem, sEv, sLook, nbeq, i64_w, -List.getD_eq_getElem?_getD]; intro h_; exact absurd (by omega) h_)) ?_
          refine t_is (.bool (!decide (strOfNums s.xs = strOfNums (r.S ++ r.R)))) rfl rfl rfl rfl (fun W_ hW_ F_ => rfl) ?_
          have hq178 : (!decide (strOfNums s.xs = strOfNums (r.S ++ r.R))) = false := by rw [hBo_.rel.all]; simp
          refine t_gis (c := !decide (strOfNums s.xs = strOfNums (r.S ++ r.R))) (.pointer (some ⟨g, 0, none⟩)) rfl rfl rfl (by first | (rw [hq178]; rfl) | simp [hq178]) rfl rfl rfl (fun W_ hW_ F_ => rfl) ?_
          refine t_gcall (c := !decide (strOfNums s.xs = strOfNums (r.S ++ r.R))) (f := 24) (args := #[.pointer (some ⟨g, 0, none⟩)]) (Is (.int .i64 s.steps)) rfl rfl rfl (by first | (rw [hq178]; rfl) | simp [hq178]) rfl rfl rfl (fun W_ => by simp [go_sem, sEv, sLook, nbeq, i64_w, -List.getD_eq_getElem?_getD]) (fun W_ hW_ F_ => ?_) ?_
          · refine (stepsB w W_ g tb s (hT_.on (below_of_drew hW_)) hBo_.ok).mono ?_
            rintro e_ w_ ⟨rfl, hd_⟩
            exact ⟨_, rfl, rfl, hd_⟩
          rintro _ rfl
          refine t_gis (c := !decide (strOfNums s.xs = strOfNums (r.S ++ r.R))) (.pointer (some ⟨u, 0, none⟩)) rfl rfl rfl (by first | (rw [hq178]; rfl) | simp [hq178]) rfl rfl rfl (fun W_ hW_ F_ => rfl) ?_
          refine t_gis (c := !decide (strOfNums s.xs = strOfNums (r.S ++ r.R))) (.pointer (some ⟨u, 0, none⟩)) rfl rfl rfl (by first | (rw [hq178]; rfl) | simp [hq178]) rfl rfl rfl (fun W_ hW_ F_ => by simp [go_sem, sEv, sLook, nbeq, i64_w, -List.getD_eq_getElem?_getD]) ?_
          refine t_gis (c := !decide (strOfNums s.xs = strOfNums (r.S ++ r.R))) (.pointer (some ⟨u, 2, none⟩)) rfl rfl rfl (by first | (rw [hq178]; rfl) | simp [hq178]) rfl rfl rfl (fun W_ hW_ F_ => by simp [go_sem, sEv, sLook, nbeq, i64_w, -List.getD_eq_getElem?_getD, Try.underlying59]) ?_
          refine t_gis (c := !decide (strOfNums s.xs = strOfNums (r.S ++ r.R))) (.int .i64 r.st) rfl rfl rfl (by first | (rw [hq178]; rfl) | simp [hq178]) rfl rfl rfl (fun W_ hW_ F_ => by have eb_ := (hU_.on (below_of_drew hW_)); have e0_ := eb_.cellv (i := 2) (v := (.int .i64 r.st : Value)) rfl; simp [go_sem, sEv, sLook, nbeq, i64_w, -List.getD_eq_getElem?_getD, e0_]) ?_
          refine t_tail ?_
          intro w179 hb180_ F181
          have hb180 := below_of_drew hb180_
          have hs_w179 := hb180.size
          have hO177 : OwnK (Kd.int .u8) 5 w179 w.heap.size wJ.heap.size A174 s.xs.length c175 s.xs := OwnK.lower (ownk_fact (F181 21 (OwnKSpec (Kd.int .u8) 5 wJ.heap.size wJ.heap.size s.xs) (.slice A174 s.xs.length c175) (by kernel_rfl))) (by omega)
          refine rw_on (c := !decide (strOfNums s.xs = strOfNums (r.S ++ r.R))) rfl rfl rfl (by first | (rw [hq178]; rfl) | simp [hq178]) ?_
          refine rw_val (v := .bool (s.steps != r.st)) (w' := w179) rfl rfl rfl rfl (by simp [go_sem, sEv, sLook, nbeq, i64_w, -List.getD_eq_getElem?_getD]) ?_
          refine rw_val (v := .bool (s.steps != r.st)) (w' := w179) rfl rfl rfl rfl (by first | (simp [go_sem, sEv, sLook, nbeq, i64_w, -List.getD_eq_getElem?_getD, hq178]; done) | (rw [hq178]; simp [go_sem, sEv, sLook, nbeq, i64_w, -List.getD_eq_getElem?_getD]; done) | (simp [go_sem, sEv, sLook, nbeq, i64_w, -List.getD_eq_getElem?_getD] <;> omega) | (simp [go_sem, sEv, sLook, nbeq, i64_w, -List.getD_eq_getElem?_getD]; intro h_; exact absurd (by omega) h_)) ?_
          refine rw_end ?_
          refine w_weaken (G' := [(3, .pointer (some ⟨g, 0, none⟩)), (4, .pointer (some ⟨u, 0, none⟩)), (5, .pointer (some ⟨gd, 0, none⟩)), (8, .pointer (some ⟨md, 0, none⟩)), (39, .slice (some ad16) sc.length c1), (40, .int .i64 ((sc.length : Nat) : Int)), (41, .int .i64 ((j : Nat) : Int)), (229, .bool (s.steps != r.st))]) ⟨rfl, rfl, rfl, rfl, rfl, rfl, rfl, rfl, trivial⟩ ?_
          have hq182 : (s.steps != r.st) = false := by rw [hBo_.rel.st]; simp
          refine w_cond_f rfl rfl hq182 ?_
          refine w_skip ?_
          refine w_blk ?_
          refine w_region ?_
          refine rw_val (v := .int .i64 ((j + 1 : Nat) : Int)) (w' := w179) rfl rfl rfl rfl (by simp [go_sem, sEv, sLook, nbeq, i64_w, -List.getD_eq_getElem?_getD]; exact wrap_id (by omega) (by omega)) ?_
          refine rw_val (v := .int .i64 ((j + 1 : Nat) : Int)) (w' := w179) rfl rfl rfl rfl rfl ?_
          refine rw_end ?_
          exact w_back (m_ - 1) [(3, .pointer (some ⟨g, 0, none⟩)), (4, .pointer (some ⟨u, 0, none⟩)), (5, .pointer (some ⟨gd, 0, none⟩)), (8, .pointer (some ⟨md, 0, none⟩)), (39, .slice (some ad16) sc.length c1), (40, .int .i64 ((sc.length : Nat) : Int)), (41, .int .i64 ((j + 1 : Nat) : Int))] (by omega) ⟨rfl, rfl, rfl, rfl, rfl, rfl, rfl, trivial⟩ ⟨j + 1, _, _, _, _, _, by omega, ⟨(hT_.on hb180), Both.mono hBo_ (by omega), (.inr ⟨gd, md, _, _, _, rfl, rfl, hDI_, (hbd_.on hb180), hgd0_, (hR_.on hb180)⟩)⟩, rfl⟩
    · have l183 : ¬ (((j : Nat) : Int) < ((sc.length : Nat) : Int)) := of_decide_eq_false cJ
      refine w_exit rfl ?_
      refine w_seq ?_
      refine w_region ?_
      refine rw_val (v := .bool true) (w' := wL) rfl rfl rfl rfl rfl ?_
      refine rw_end ?_
      refine w_ret (post_ret1 rfl rfl ?_)
      exact ⟨rfl, hT_.below⟩
end Go.Proofs.Ytiiljpaedelhlaa.Tp
end
