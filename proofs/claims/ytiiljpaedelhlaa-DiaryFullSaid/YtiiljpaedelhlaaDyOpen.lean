/- Open: the walk. -/
import Derived.Test.YtiiljpaedelhlaaDyBase
namespace Go.Proofs.Ytiiljpaedelhlaa.Tp
open Go.RowKit Go.Proofs.YtiiljpaedelhlaaW.PrintWords Go.Proofs.YtiiljpaedelhlaaW.PrintLast Go.Proofs.YtiiljpaedelhlaaW.PrintMore
open Go.Proofs.Ytiiljpaedelhlaa.Flow
open Go.Proofs.Ytiiljpaedelhlaa.PDiaryPlays (SplitR Bytes frameB frameE FC wholeP errW wrap_calls split_calls frameB_len frameB_bytes)
set_option linter.unusedVariables false
set_option linter.unusedSimpArgs false

set_option maxHeartbeats 4000000 in
theorem len_B (w : World) (g gd : Nat) (r b : Int) (hb : Blk w gd 80 (dcells g r b)) :
    Calls Try.prog 15 #[.pointer (some ⟨gd, 0, none⟩)] w fun e w' => e = .returned (.int .i64 r) ∧ Below w.heap.size w w' := by
  refine calls_flow Try.func15 rfl 9 rfl (Nat.le_of_ble_eq_true rfl) [(0, .pointer (some ⟨gd, 0, none⟩))] ?_ ?_
  · intro t v h; exact args_look rfl t v h
  refine w_seq ?_
  refine w_region ?_
  refine rw_val (v := .int .i64 0) (w' := w) rfl rfl rfl rfl rfl ?_
  refine rw_end ?_
  refine w_seq ?_
  refine w_seq ?_
  refine w_region ?_
  refine rw_val (v := .pointer (some ⟨gd, 0, none⟩)) (w' := w) rfl rfl rfl rfl rfl ?_
  refine rw_val (v := .bool false) (w' := w) rfl rfl rfl rfl (run_as (run_ptr_eql (e := 80) (by kernel_rfl) _ _)) ?_
  refine rw_end ?_
  refine w_cond_f rfl rfl rfl ?_
  refine w_skip ?_
  refine w_seq ?_
  refine w_region ?_
  refine rw_val (v := .pointer (some ⟨gd, 0, none⟩)) (w' := w) rfl rfl rfl rfl rfl ?_
  refine rw_val (v := .pointer (some ⟨gd, 0, none⟩)) (w' := w) rfl rfl rfl rfl (by simp [go_sem, sEv, sLook, nbeq, i64_w, -List.getD_eq_getElem?_getD]) ?_
  refine rw_val (v := .pointer (some ⟨gd, 1, none⟩)) (w' := w) rfl rfl rfl rfl (by simp [go_sem, sEv, sLook, nbeq, i64_w, -List.getD_eq_getElem?_getD, Try.underlying80]) ?_
  refine rw_val (v := .int .i64 r) (w' := w) rfl rfl rfl rfl (by have eb_ := hb; have e0_ := eb_.cellv (i := 1) (v := (.int .i64 r : Value)) rfl; simp [go_sem, sEv, sLook, nbeq, i64_w, -List.getD_eq_getElem?_getD, e0_]) ?_
  refine rw_val (v := .int .i64 r) (w' := w) rfl rfl rfl rfl rfl ?_
  refine rw_end ?_
  refine w_weaken (G' := [(2, .int .i64 r)]) ⟨rfl, trivial⟩ ?_
  refine w_ret (post_ret1 rfl rfl ?_)
  exact ⟨rfl, (Below.refl _ _)⟩
set_option maxHeartbeats 4000000 in
theorem len_N (w : World) :
    Calls Try.prog 15 #[.pointer none] w fun e w' => e = .returned (.int .i64 0) ∧ Below w.heap.size w w' := by
  refine calls_flow Try.func15 rfl 9 rfl (Nat.le_of_ble_eq_true rfl) [(0, .pointer none)] ?_ ?_
  · intro t v h; exact args_look rfl t v h
  refine w_seq ?_
  refine w_region ?_
  refine rw_val (v := .int .i64 0) (w' := w) rfl rfl rfl rfl rfl ?_
  refine rw_end ?_
  refine w_seq ?_
  refine w_seq ?_
  refine w_region ?_
  refine rw_val (v := .pointer none) (w' := w) rfl rfl rfl rfl rfl ?_
  refine rw_val (v := .bool true) (w' := w) rfl rfl rfl rfl (run_as (run_ptr_eql (e := 80) (by kernel_rfl) _ _)) ?_
  refine rw_end ?_
  refine w_cond_t rfl rfl rfl ?_
  refine w_seq ?_
  refine w_region ?_
  refine rw_val (v := .int .i64 0) (w' := w) rfl rfl rfl rfl rfl ?_
  refine rw_end ?_
  refine w_ret (post_ret1 rfl rfl ?_)
  exact ⟨rfl, (Below.refl _ _)⟩
set_option maxHeartbeats 4000000 in
theorem bytes_B (w : World) (g gd : Nat) (r b : Int) (hb : Blk w gd 80 (dcells g r b)) :
    Calls Try.prog 16 #[.pointer (some ⟨gd, 0, none⟩)] w fun e w' => e = .returned (.int .i64 b) ∧ Below w.heap.size w w' := by
  refine calls_flow Try.func16 rfl 9 rfl (Nat.le_of_ble_eq_true rfl) [(0, .pointer (some ⟨gd, 0, none⟩))] ?_ ?_
  · intro t v h; exact args_look rfl t v h
  refine w_seq ?_
  refine w_region ?_
  refine rw_val (v := .int .i64 0) (w' := w) rfl rfl rfl rfl rfl ?_
  refine rw_end ?_
  refine w_seq ?_
  refine w_seq ?_
  refine w_region ?_
  refine rw_val (v := .pointer (some ⟨gd, 0, none⟩)) (w' := w) rfl rfl rfl rfl rfl ?_
  refine rw_val (v := .bool false) (w' := w) rfl rfl rfl rfl (run_as (run_ptr_eql (e := 80) (by kernel_rfl) _ _)) ?_
  refine rw_end ?_
  refine w_cond_f rfl rfl rfl ?_
  refine w_skip ?_
  refine w_seq ?_
  refine w_region ?_
  refine rw_val (v := .pointer (some ⟨gd, 0, none⟩)) (w' := w) rfl rfl rfl rfl rfl ?_
  refine rw_val (v := .pointer (some ⟨gd, 0, none⟩)) (w' := w) rfl rfl rfl rfl (by simp [go_sem, sEv, sLook, nbeq, i64_w, -List.getD_eq_getElem?_getD]) ?_
  refine rw_val (v := .pointer (some ⟨gd, 2, none⟩)) (w' := w) rfl rfl rfl rfl (by simp [go_sem, sEv, sLook, nbeq, i64_w, -List.getD_eq_getElem?_getD, Try.underlying80]) ?_
  refine rw_val (v := .int .i64 b) (w' := w) rfl rfl rfl rfl (by have eb_ := hb; have e0_ := eb_.cellv (i := 2) (v := (.int .i64 b : Value)) rfl; simp [go_sem, sEv, sLook, nbeq, i64_w, -List.getD_eq_getElem?_getD, e0_]) ?_
  refine rw_val (v := .int .i64 b) (w' := w) rfl rfl rfl rfl rfl ?_
  refine rw_end ?_
  refine w_weaken (G' := [(2, .int .i64 b)]) ⟨rfl, trivial⟩ ?_
  refine w_ret (post_ret1 rfl rfl ?_)
  exact ⟨rfl, (Below.refl _ _)⟩
set_option maxHeartbeats 4000000 in
theorem bytes_N (w : World) :
    Calls Try.prog 16 #[.pointer none] w fun e w' => e = .returned (.int .i64 0) ∧ Below w.heap.size w w' := by
  refine calls_flow Try.func16 rfl 9 rfl (Nat.le_of_ble_eq_true rfl) [(0, .pointer none)] ?_ ?_
  · intro t v h; exact args_look rfl t v h
  refine w_seq ?_
  refine w_region ?_
  refine rw_val (v := .int .i64 0) (w' := w) rfl rfl rfl rfl rfl ?_
  refine rw_end ?_
  refine w_seq ?_
  refine w_seq ?_
  refine w_region ?_
  refine rw_val (v := .pointer none) (w' := w) rfl rfl rfl rfl rfl ?_
  refine rw_val (v := .bool true) (w' := w) rfl rfl rfl rfl (run_as (run_ptr_eql (e := 80) (by kernel_rfl) _ _)) ?_
  refine rw_end ?_
  refine w_cond_t rfl rfl rfl ?_
  refine w_seq ?_
  refine w_region ?_
  refine rw_val (v := .int .i64 0) (w' := w) rfl rfl rfl rfl rfl ?_
  refine rw_end ?_
  refine w_ret (post_ret1 rfl rfl ?_)
  exact ⟨rfl, (Below.refl _ _)⟩

theorem sync_ok {s : TS} (h : s.Ok) (h9 : s.steps ≤ 999999999) : s.sync.Ok ∧ s.sync.steps ≤ s.steps + 1 := by
  obtain ⟨a, b, c, d, e⟩ := h
  have p1 := duel_ok s.ps s.pl b
  have p2 := duel_ok s.fs s.fl c
  unfold TS.sync TS.next
  split <;> split <;> (try split) <;> (try split) <;> exact ⟨⟨by (try simp only); omega, by first | exact b | exact p1, by first | exact c | exact p2 | ((try simp only); omega), by (try simp only); omega, e⟩, by (try simp only); omega⟩
theorem next_ok {s : TS} (h : s.Ok) (h9 : s.steps ≤ 999999999) : s.next.Ok ∧ s.next.steps ≤ s.steps + 1 := by
  obtain ⟨a, b, c, d, e⟩ := h
  have p1 := duel_ok s.ps s.pl b
  have p2 := duel_ok s.fs s.fl c
  unfold TS.next
  split <;> (try split) <;> (try split) <;> exact ⟨⟨by (try simp only); omega, by first | exact b | exact p1, by first | exact c | exact p2 | ((try simp only); omega), by (try simp only); omega, e⟩, by (try simp only); omega⟩
theorem app_ok {s : TS} (ys : List Int) (h : s.Ok) (h9 : s.steps ≤ 999999999) : (s.app ys).Ok ∧ (s.app ys).steps ≤ s.steps + 1 := by
  have hn := next_ok h h9
  obtain ⟨⟨a, b, c, d, e⟩, f⟩ := hn
  have e1 := s.next_xs
  have e2 := s.next_sure
  have h4 := h.sure
  have h5 := h.len
  unfold TS.app
  split
  · exact ⟨h, by omega⟩
  · split
    · exact ⟨⟨a, b, c, d, e⟩, f⟩
    · exact ⟨⟨a, b, c, by simp only [List.length_append]; omega, by simp only [List.length_append]; omega⟩, f⟩
theorem rep_ok {s : TS} (ys : List Int) (h : s.Ok) (h9 : s.steps ≤ 999999999) : (s.rep ys).Ok ∧ (s.rep ys).steps ≤ s.steps + 1 := by
  have hn := next_ok h h9
  obtain ⟨⟨a, b, c, d, e⟩, f⟩ := hn
  unfold TS.rep
  split
  · exact ⟨h, by omega⟩
  · split
    · exact ⟨⟨a, b, c, d, e⟩, f⟩
    · exact ⟨⟨a, b, c, by (try simp only); omega, by (try simp only); omega⟩, f⟩

theorem append_one (w0 w : World) (g m : Nat) (x : Nat → Prop) (hx : ∀ q, x q → q < w.heap.size) (s : TS) (hT : TapeAt w0 w g m x s) (hok : s.Ok) (P0 : Option Addr) (p : List Int) (pc : Nat) (hP : ∀ W_, Kept w W_ (fun k => k = g ∨ (g < k ∧ k < m ∧ ¬ x k)) → (Kd.slice 5 (Kd.int .u8)).C W_ P0 [p].length [p]) (hl : p.length ≤ 140737488355328) : Calls Try.prog 39 #[.pointer (some ⟨g, 0, none⟩), .slice P0 1 pc] w fun e w' => e = .returned (errT (s.appE p)) ∧ TapeAt w0 w' g w'.heap.size x (s.app p) ∧ w.heap.size ≤ w'.heap.size ∧ (∀ q, x q → q ≠ g → w'.heap[q]? = w.heap[q]?) := by
  have h := append_T w0 w g m x hx s hT hok P0 [p] pc hP (by simp) (by intro q hq; rw [List.mem_singleton.1 hq]; exact hl)
  have e1 : ([p] : List (List Int)).flatten = p := by simp
  rw [e1] at h
  exact h
theorem frameB_short (row : List Int) : (frameB row).length ≤ 16384 := by
  by_cases h : row.length ≤ 16376
  · rw [frameB_len row h]; omega
  · unfold frameB
    rw [if_pos (by omega)]
    simp
set_option maxHeartbeats 4000000 in
theorem add_D (w0 w : World) (g gd m : Nat) (x : Nat → Prop) (hx : ∀ q, x q → q < w.heap.size) (D : DS) (hD : DiaryAt w0 w g gd m x D) (hok : D.s.Ok) (h9 : D.s.steps ≤ 999999990) (hr0 : -1000000000 ≤ D.r ∧ D.r ≤ 1000000000) (hb0 : -1000000000 ≤ D.b ∧ D.b ≤ 1000000000) (A1 : Option Addr) (c1 : Nat) (row : List Int) (hr : (Kd.int .u8).C w A1 row.length row) (hc1 : row.length ≤ c1) (hl : row.length ≤ 140737488355328) :
    Calls Try.prog 12 #[.pointer (some ⟨gd, 0, none⟩), .slice A1 row.length c1] w fun e w' => e = .returned (errT (D.addE row)) ∧ ∃ m', DiaryAt w0 w' g gd m' x (D.add row) ∧ w.heap.size ≤ w'.heap.size ∧ (∀ q, x q → q ≠ g → q ≠ gd → w'.heap[q]? = w.heap[q]?) := by
  obtain ⟨hT, hb, hgd, hgd0, hXgd⟩ := hD
  have hts_ := hT.size
  have hlt_ := hb.lt
  have hfs_ := frameB_short row
  refine calls_flow Try.func12 rfl 57 rfl (Nat.le_of_ble_eq_true rfl) [(0, .pointer (some ⟨gd, 0, none⟩)), (1, .slice A1 row.length c1)] ?_ ?_
  · intro t v h; exact args_look rfl t v h
  refine w_seq ?_
  refine w_region ?_
  refine rw_val (v := .nilIface) (w' := w) rfl rfl rfl rfl rfl ?_
  refine rw_end ?_
  refine w_seq ?_
  refine w_region ?_
  refine rw_val (v := .slice A1 row.length c1) (w' := w) rfl rfl rfl rfl rfl ?_
  refine rw_new (cs := #[.slice A1 row.length c1]) (t := 32) (fun g => .slice (some ⟨g, 0, none⟩) 1 1) rfl rfl rfl rfl (by kernel_rfl) ?_
  intro g1 w2 hg6 hz5 hb3 hk4
  have hs_w2 := hb3.size
  have hP7 : (Kd.slice 5 (Kd.int .u8)).C w2 (some ⟨g1, 0, none⟩) [row].length [row] := rows1 hk4 hc1 (Kd.C_below hr hb3)
  refine rw_call rfl rfl rfl rfl (f := 38) (args := #[.slice (some ⟨g1, 0, none⟩) 1 1]) (by simp [go_sem, sEv, sLook, nbeq, i64_w, -List.getD_eq_getElem?_getD]) (wrap_one w2 (some ⟨g1, 0, none⟩) 1 row (Kd.C_below hP7 (Below.refl _ _)) (by omega) (by omega)) ?_
  rintro e_ w10 ⟨A8, c9, rfl, hO11, hB12⟩
  refine ⟨_, rfl, ?_⟩
  have hs_w10 := hB12.size
  refine rw_val (v := .tuple #[.slice A8 ((frameB row).length) c9, errT (frameE row)]) (w' := w10) rfl rfl rfl rfl rfl ?_
  refine rw_val (v := .slice A8 ((frameB row).length) c9) (w' := w10) rfl rfl rfl rfl (by simp [go_sem, sEv, sLook, nbeq, i64_w, -List.getD_eq_getElem?_getD]) ?_
  refine rw_val (v := errT (frameE row)) (w' := w10) rfl rfl rfl rfl (by simp [go_sem, sEv, sLook, nbeq, i64_w, -List.getD_eq_getElem?_getD]) ?_
  refine rw_val (v := .slice A8 ((frameB row).length) c9) (w' := w10) rfl rfl rfl rfl rfl ?_
  refine rw_val (v := errT (frameE row)) (w' := w10) rfl rfl rfl rfl rfl ?_
  refine rw_end ?_
  refine w_weaken (G' := [(0, .pointer (some ⟨gd, 0, none⟩)), (4, .nilIface), (5, .slice A8 ((frameB row).length) c9), (6, errT (frameE row))]) ⟨rfl, rfl, rfl, rfl, trivial⟩ ?_
  refine w_seq ?_
  refine w_seq ?_
  refine w_region ?_
  refine rw_val (v := errT (frameE row)) (w' := w10) rfl rfl rfl rfl rfl ?_
  refine rw_val (v := .bool ((frameE row).isSome)) (w' := w10) rfl rfl rfl rfl (run_as (guard_err_neq _ (frameE row) _)) ?_
  refine rw_end ?_
  refine w_cond rfl rfl (fun cF => ?_) (fun cF => ?_)
  · refine w_seq ?_
    refine w_region ?_
    refine rw_val (v := errT (frameE row)) (w' := w10) rfl rfl rfl rfl rfl ?_
    refine rw_val (v := errT (frameE row)) (w' := w10) rfl rfl rfl rfl rfl ?_
    refine rw_end ?_
    refine w_ret (post_ret1 rfl rfl ?_)
    have e1_ : D.addE row = frameE row := by rw [DS.addE, if_pos cF]
    have e2_ : D.add row = D := by rw [DS.add, if_pos cF]
    rw [e1_, e2_]
    exact ⟨rfl, m, ⟨(TapeAt.on (TapeAt.on hT hb3) hB12), ((hb.on hb3).on hB12), hgd, hgd0, hXgd⟩, by omega, fun q hq_ hqg hqd => ((hB12.block q (by have := hx q hq_; omega)).trans (hb3.block q (by have := hx q hq_; omega)))⟩
  · refine w_skip ?_
    refine w_seq ?_
    refine w_seq ?_
    refine w_region ?_
    refine rw_val (v := .pointer (some ⟨gd, 0, none⟩)) (w' := w10) rfl rfl rfl rfl rfl ?_
    refine rw_val (v := .bool false) (w' := w10) rfl rfl rfl rfl (run_as (run_ptr_eql (e := 80) (by kernel_rfl) _ _)) ?_
    refine rw_end ?_
    refine w_cond_f rfl rfl rfl ?_
    refine w_skip ?_
    refine w_seq ?_
    refine w_seq ?_
    refine w_region ?_
    refine rw_val (v := .pointer (some ⟨gd, 0, none⟩)) (w' := w10) rfl rfl rfl rfl rfl ?_
    refine rw_val (v := .pointer (some ⟨gd, 0, none⟩)) (w' := w10) rfl rfl rfl rfl (by simp [go_sem, sEv, sLook, nbeq, i64_w, -List.getD_eq_getElem?_getD]) ?_
    refine rw_val (v := .pointer (some ⟨gd, 0, none⟩)) (w' := w10) rfl rfl rfl rfl (by simp [go_sem, sEv, sLook, nbeq, i64_w, -List.getD_eq_getElem?_getD, Try.underlying80]) ?_
    refine rw_val (v := .pointer (some ⟨g, 0, none⟩)) (w' := w10) rfl rfl rfl rfl (by have eb_ := ((hb.on hb3).on hB12); have e0_ := eb_.cellv (i := 0) (v := (.pointer (some ⟨g, 0, none⟩) : Value)) rfl; simp [go_sem, sEv, sLook, nbeq, i64_w, -List.getD_eq_getElem?_getD, e0_]) ?_
    refine rw_val (v := .slice A8 ((frameB row).length) c9) (w' := w10) rfl rfl rfl rfl rfl ?_
    refine rw_new (cs := #[.slice A8 ((frameB row).length) c9]) (t := 32) (fun g => .slice (some ⟨g, 0, none⟩) 1 1) rfl rfl rfl rfl (by kernel_rfl) ?_
    intro g13 w14 hg18 hz17 hb15 hk16
    have hs_w14 := hb15.size
    have hP19 : (Kd.slice 5 (Kd.int .u8)).C w14 (some ⟨g13, 0, none⟩) [(frameB row)].length [(frameB row)] := rows1 hk16 (OwnK.cap (d := (Kd.int .u8)) hO11) (Kd.C_below (OwnK.C (d := (Kd.int .u8)) hO11) hb15)
    refine rw_call rfl rfl rfl rfl (f := 39) (args := #[.pointer (some ⟨g, 0, none⟩), .slice (some ⟨g13, 0, none⟩) 1 1]) (by simp [go_sem, sEv, sLook, nbeq, i64_w, -List.getD_eq_getElem?_getD]) (append_one w0 w14 g m x (fun q h_ => by have := hx q h_; omega) D.s (TapeAt.on (TapeAt.on (TapeAt.on hT hb3) hB12) hb15) hok (some ⟨g13, 0, none⟩) (frameB row) 1 (rowsK1 (S := (fun k => k = g ∨ (g < k ∧ k < m ∧ ¬ x k))) hk16 (fun h => by omega) (OwnK.cap (d := (Kd.int .u8)) hO11) (ownK_kept (OwnK.on (d := (Kd.int .u8)) hO11 hb15) (fun q hq h => by omega))) (by omega)) ?_
    rintro e_ w20 ⟨rfl, hT21, hs22, hx23⟩
    refine ⟨_, rfl, ?_⟩
    have hts_w20 := hT21.size
    have hok24 : ((D.s.app (frameB row))).Ok := (app_ok (frameB row) hok (by omega)).1
    have hk_w20 : Blk w20 gd 80 _ := (hx23 gd hXgd hgd).trans ((((hb.on hb3).on hB12).on hb15))
    have hlt_w20 := hk_w20.lt
    refine rw_val (v := errT (D.s.appE (frameB row))) (w' := w20) rfl rfl rfl rfl rfl ?_
    refine rw_end ?_
    refine w_weaken (G' := [(0, .pointer (some ⟨gd, 0, none⟩)), (4, .nilIface), (5, .slice A8 ((frameB row).length) c9), (6, errT (D.s.appE (frameB row)))]) ⟨rfl, rfl, rfl, rfl, trivial⟩ ?_
    refine w_seq ?_
    refine w_region ?_
    refine rw_val (v := errT (D.s.appE (frameB row))) (w' := w20) rfl rfl rfl rfl rfl ?_
    refine rw_val (v := .bool ((D.s.appE (frameB row)).isNone)) (w' := w20) rfl rfl rfl rfl (run_as (guard_err_eq0 _ (D.s.appE (frameB row)) _)) ?_
    refine rw_end ?_
    refine w_cond rfl rfl (fun cA => ?_) (fun cA => ?_)
    · refine w_region ?_
      refine rw_val (v := .pointer (some ⟨gd, 0, none⟩)) (w' := w20) rfl rfl rfl rfl rfl ?_
      refine rw_val (v := .pointer (some ⟨gd, 0, none⟩)) (w' := w20) rfl rfl rfl rfl (by simp [go_sem, sEv, sLook, nbeq, i64_w, -List.getD_eq_getElem?_getD]) ?_
      refine rw_val (v := .pointer (some ⟨gd, 0, none⟩)) (w' := w20) rfl rfl rfl rfl (by simp [go_sem, sEv, sLook, nbeq, i64_w, -List.getD_eq_getElem?_getD, Try.underlying80]) ?_
      refine rw_val (v := .pointer (some ⟨g, 0, none⟩)) (w' := w20) rfl rfl rfl rfl (by have eb_ := hk_w20; have e0_ := eb_.cellv (i := 0) (v := (.pointer (some ⟨g, 0, none⟩) : Value)) rfl; simp [go_sem, sEv, sLook, nbeq, i64_w, -List.getD_eq_getElem?_getD, e0_]) ?_
      refine rw_call rfl rfl rfl rfl (f := 40) (args := #[.pointer (some ⟨g, 0, none⟩)]) (by simp [go_sem, sEv, sLook, nbeq, i64_w, -List.getD_eq_getElem?_getD]) (sync_T w0 w20 g w20.heap.size x (fun q h_ => by have := hx q h_; omega) (D.s.app (frameB row)) hT21 hok24) ?_
      rintro e_ w25 ⟨rfl, hT26, hs27, hx28⟩
      refine ⟨_, rfl, ?_⟩
      have hts_w25 := hT26.size
      have hok29 : (((D.s.app (frameB row)).sync)).Ok := (sync_ok hok24 (by have := (app_ok (frameB row) hok (by omega)).2; omega)).1
      have hk_w25 : Blk w25 gd 80 _ := (hx28 gd hXgd hgd).trans (hk_w20)
      have hlt_w25 := hk_w25.lt
      refine rw_val (v := errT ((D.s.app (frameB row)).err)) (w' := w25) rfl rfl rfl rfl rfl ?_
      refine rw_end ?_
      refine w_weaken (G' := [(0, .pointer (some ⟨gd, 0, none⟩)), (4, .nilIface), (5, .slice A8 ((frameB row).length) c9), (6, errT ((D.s.app (frameB row)).err))]) ⟨rfl, rfl, rfl, rfl, trivial⟩ ?_
      refine w_seq ?_
      refine w_seq ?_
      refine w_region ?_
      refine rw_val (v := errT ((D.s.app (frameB row)).err)) (w' := w25) rfl rfl rfl rfl rfl ?_
      refine rw_val (v := .bool (((D.s.app (frameB row)).err).isSome)) (w' := w25) rfl rfl rfl rfl (run_as (guard_err_neq _ ((D.s.app (frameB row)).err) _)) ?_
      refine rw_end ?_
      refine w_cond rfl rfl (fun cS => ?_) (fun cS => ?_)
      · refine w_seq ?_
        refine w_region ?_
        refine rw_val (v := .pointer (some ⟨gd, 0, none⟩)) (w' := w25) rfl rfl rfl rfl rfl ?_
        refine rw_val (v := .pointer (some ⟨gd, 0, none⟩)) (w' := w25) rfl rfl rfl rfl (by simp [go_sem, sEv, sLook, nbeq, i64_w, -List.getD_eq_getElem?_getD]) ?_
        refine rw_val (v := .pointer (some ⟨gd, 0, none⟩)) (w' := w25) rfl rfl rfl rfl (by simp [go_sem, sEv, sLook, nbeq, i64_w, -List.getD_eq_getElem?_getD, Try.underlying80]) ?_
        refine rw_val (v := .pointer (some ⟨g, 0, none⟩)) (w' := w25) rfl rfl rfl rfl (by have eb_ := hk_w25; have e0_ := eb_.cellv (i := 0) (v := (.pointer (some ⟨g, 0, none⟩) : Value)) rfl; simp [go_sem, sEv, sLook, nbeq, i64_w, -List.getD_eq_getElem?_getD, e0_]) ?_
        refine rw_call rfl rfl rfl rfl (f := 41) (args := #[.pointer (some ⟨g, 0, none⟩)]) (by simp [go_sem, sEv, sLook, nbeq, i64_w, -List.getD_eq_getElem?_getD]) (cut_T w0 w25 g w25.heap.size x (fun q h_ => by have := hx q h_; omega) ((D.s.app (frameB row)).sync) hT26 hok29) ?_
        rintro e_ w30 ⟨rfl, hT31, hs32, hx33⟩
        refine ⟨.tuple #[], rfl, ?_⟩
        have hts_w30 := hT31.size
        have hk_w30 : Blk w30 gd 80 _ := (hx33 gd hXgd hgd).trans (hk_w25)
        have hlt_w30 := hk_w30.lt
        refine rw_end ?_
        refine w_weaken (G' := [(0, .pointer (some ⟨gd, 0, none⟩)), (4, .nilIface), (5, .slice A8 ((frameB row).length) c9), (6, errT ((D.s.app (frameB row)).err))]) ⟨rfl, rfl, rfl, rfl, trivial⟩ ?_
        refine w_seq ?_
        refine w_region ?_
        refine rw_val (v := errT ((D.s.app (frameB row)).err)) (w' := w30) rfl rfl rfl rfl rfl ?_
        refine rw_val (v := errT ((D.s.app (frameB row)).err)) (w' := w30) rfl rfl rfl rfl rfl ?_
        refine rw_end ?_
        refine w_ret (post_ret1 rfl rfl ?_)
        have f_ : ¬ (frameE row).isSome = true := by rw [cF]; simp
        have e3_ : D.add1E row = (D.s.app (frameB row)).err := by rw [DS.add1E, if_pos cA]
        have e4_ : D.add1S row = (D.s.app (frameB row)).sync := by rw [DS.add1S, if_pos cA]
        have e1_ : D.addE row = ((D.s.app (frameB row)).err) := by rw [DS.addE, if_neg f_, e3_]
        have e2_ : D.add row = { D with s := (((D.s.app (frameB row)).sync).cut) } := by rw [DS.add, if_neg f_, if_pos (by rw [e3_, cS]), e4_]
        rw [e1_, e2_]
        exact ⟨rfl, w30.heap.size, ⟨hT31, hk_w30, hgd, hgd0, hXgd⟩, by omega, fun q hq_ hqg hqd => ((hx33 q hq_ hqg).trans ((hx28 q hq_ hqg).trans ((hx23 q hq_ hqg).trans ((hb15.block q (by have := hx q hq_; omega)).trans ((hB12.block q (by have := hx q hq_; omega)).trans (hb3.block q (by have := hx q hq_; omega)))))))⟩
      · refine w_skip ?_
        refine w_seq ?_
        refine w_region ?_
        refine rw_val (v := .pointer (some ⟨gd, 0, none⟩)) (w' := w25) rfl rfl rfl rfl rfl ?_
        refine rw_val (v := .pointer (some ⟨gd, 0, none⟩)) (w' := w25) rfl rfl rfl rfl (by simp [go_sem, sEv, sLook, nbeq, i64_w, -List.getD_eq_getElem?_getD]) ?_
        refine rw_val (v := .pointer (some ⟨gd, 1, none⟩)) (w' := w25) rfl rfl rfl rfl (by simp [go_sem, sEv, sLook, nbeq, i64_w, -List.getD_eq_getElem?_getD, Try.underlying80]) ?_
        refine rw_val (v := .int .i64 D.r) (w' := w25) rfl rfl rfl rfl (by have eb_ := hk_w25; have e0_ := eb_.cellv (i := 1) (v := (.int .i64 D.r : Value)) rfl; simp [go_sem, sEv, sLook, nbeq, i64_w, -List.getD_eq_getElem?_getD, e0_]) ?_
        refine rw_val (v := .int .i64 (D.r + 1)) (w' := w25) rfl rfl rfl rfl (by simp [go_sem, sEv, sLook, nbeq, i64_w, -List.getD_eq_getElem?_getD]; exact wrap_id (by omega) (by omega)) ?_
        refine rw_val (v := .pointer (some ⟨gd, 0, none⟩)) (w' := w25) rfl rfl rfl rfl (by simp [go_sem, sEv, sLook, nbeq, i64_w, -List.getD_eq_getElem?_getD]) ?_
        refine rw_val (v := .pointer (some ⟨gd, 1, none⟩)) (w' := w25) rfl rfl rfl rfl (by simp [go_sem, sEv, sLook, nbeq, i64_w, -List.getD_eq_getElem?_getD, Try.underlying80]) ?_
        have hb38 := hk_w25
        refine rw_store (g := gd) (i := 1) (l := [.int .i64 (D.r + 1)]) (cs' := #[.pointer (some ⟨g, 0, none⟩), .int .i64 (D.r + 1), .int .i64 D.b]) rfl rfl rfl hb38 rfl (by have e0_ := hb38.cellv (i := 1) (v := (.int .i64 D.r : Value)) rfl; have f0_ := hb38.frozen 1; simp [go_sem, sEv, sLook, nbeq, i64_w, -List.getD_eq_getElem?_getD, putCells, e0_, f0_]) ?_
        intro w35 hk36 hk37
        have hs_w35 := hk36.size
        refine rw_end ?_
        refine w_weaken (G' := [(0, .pointer (some ⟨gd, 0, none⟩)), (4, .nilIface), (5, .slice A8 ((frameB row).length) c9)]) ⟨rfl, rfl, rfl, trivial⟩ ?_
        refine w_seq ?_
        refine w_region ?_
        refine rw_val (v := .pointer (some ⟨gd, 0, none⟩)) (w' := w35) rfl rfl rfl rfl rfl ?_
        refine rw_val (v := .pointer (some ⟨gd, 0, none⟩)) (w' := w35) rfl rfl rfl rfl (by simp [go_sem, sEv, sLook, nbeq, i64_w, -List.getD_eq_getElem?_getD]) ?_
        refine rw_val (v := .pointer (some ⟨gd, 2, none⟩)) (w' := w35) rfl rfl rfl rfl (by simp [go_sem, sEv, sLook, nbeq, i64_w, -List.getD_eq_getElem?_getD, Try.underlying80]) ?_
        refine rw_val (v := .int .i64 D.b) (w' := w35) rfl rfl rfl rfl (by have eb_ := hk37; have e0_ := eb_.cellv (i := 2) (v := (.int .i64 D.b : Value)) rfl; simp [go_sem, sEv, sLook, nbeq, i64_w, -List.getD_eq_getElem?_getD, e0_]) ?_
        refine rw_val (v := .slice A8 ((frameB row).length) c9) (w' := w35) rfl rfl rfl rfl rfl ?_
        refine rw_val (v := .int .i64 (((frameB row).length : Nat) : Int)) (w' := w35) rfl rfl rfl rfl (by simp [go_sem, sEv, sLook, nbeq, i64_w, -List.getD_eq_getElem?_getD]) ?_
        refine rw_val (v := .int .i64 (D.b + (((frameB row).length : Nat) : Int))) (w' := w35) rfl rfl rfl rfl (by simp [go_sem, sEv, sLook, nbeq, i64_w, -List.getD_eq_getElem?_getD]; exact wrap_id (by omega) (by omega)) ?_
        refine rw_val (v := .pointer (some ⟨gd, 0, none⟩)) (w' := w35) rfl rfl rfl rfl (by simp [go_sem, sEv, sLook, nbeq, i64_w, -List.getD_eq_getElem?_getD]) ?_
        refine rw_val (v := .pointer (some ⟨gd, 2, none⟩)) (w' := w35) rfl rfl rfl rfl (by simp [go_sem, sEv, sLook, nbeq, i64_w, -List.getD_eq_getElem?_getD, Try.underlying80]) ?_
        have hb42 := hk37
        refine rw_store (g := gd) (i := 2) (l := [.int .i64 (D.b + (((frameB row).length : Nat) : Int))]) (cs' := #[.pointer (some ⟨g, 0, none⟩), .int .i64 (D.r + 1), .int .i64 (D.b + (((frameB row).length : Nat) : Int))]) rfl rfl rfl hb42 rfl (by have e0_ := hb42.cellv (i := 2) (v := (.int .i64 D.b : Value)) rfl; have f0_ := hb42.frozen 2; simp [go_sem, sEv, sLook, nbeq, i64_w, -List.getD_eq_getElem?_getD, putCells, e0_, f0_]) ?_
        intro w39 hk40 hk41
        have hs_w39 := hk40.size
        refine rw_end ?_
        refine w_weaken (G' := [(4, .nilIface)]) ⟨rfl, trivial⟩ ?_
        refine w_seq ?_
        refine w_region ?_
        refine rw_val (v := .nilIface) (w' := w39) rfl rfl rfl rfl rfl ?_
        refine rw_end ?_
        refine w_ret (post_ret1 rfl rfl ?_)
        have f_ : ¬ (frameE row).isSome = true := by rw [cF]; simp
        have e3_ : D.add1E row = (D.s.app (frameB row)).err := by rw [DS.add1E, if_pos cA]
        have e4_ : D.add1S row = (D.s.app (frameB row)).sync := by rw [DS.add1S, if_pos cA]
        have e1_ : D.addE row = none := by rw [DS.addE, if_neg f_, e3_]; simpa using cS
        have e2_ : D.add row = ⟨(D.s.app (frameB row)).sync, D.r + 1, D.b + ((frameB row).length : Int)⟩ := by rw [DS.add, if_neg f_, if_neg (by rw [e3_, cS]; simp), e4_]
        rw [e1_, e2_]
        exact ⟨rfl, w25.heap.size, ⟨(TapeAt.beside (TapeAt.beside hT26 hk36 hXgd hgd hgd0) hk40 hXgd hgd hgd0), hk41, hgd, hgd0, hXgd⟩, by omega, fun q hq_ hqg hqd => ((hk40.block q hqd).trans ((hk36.block q hqd).trans ((hx28 q hq_ hqg).trans ((hx23 q hq_ hqg).trans ((hb15.block q (by have := hx q hq_; omega)).trans ((hB12.block q (by have := hx q hq_; omega)).trans (hb3.block q (by have := hx q hq_; omega))))))))⟩
    · refine w_skip ?_
      refine w_seq ?_
      refine w_seq ?_
      refine w_region ?_
      refine rw_val (v := errT (D.s.appE (frameB row))) (w' := w20) rfl rfl rfl rfl rfl ?_
      refine rw_val (v := .bool ((D.s.appE (frameB row)).isSome)) (w' := w20) rfl rfl rfl rfl (run_as (guard_err_neq _ (D.s.appE (frameB row)) _)) ?_
      refine rw_end ?_
      have hq43 : ((D.s.appE (frameB row)).isSome) = true := by revert cA; cases D.s.appE (frameB row) <;> simp
      refine w_cond_t rfl rfl hq43 ?_
      refine w_seq ?_
      refine w_region ?_
      refine rw_val (v := .pointer (some ⟨gd, 0, none⟩)) (w' := w20) rfl rfl rfl rfl rfl ?_
      refine rw_val (v := .pointer (some ⟨gd, 0, none⟩)) (w' := w20) rfl rfl rfl rfl (by simp [go_sem, sEv, sLook, nbeq, i64_w, -List.getD_eq_getElem?_getD]) ?_
      refine rw_val (v := .pointer (some ⟨gd, 0, none⟩)) (w' := w20) rfl rfl rfl rfl (by simp [go_sem, sEv, sLook, nbeq, i64_w, -List.getD_eq_getElem?_getD, Try.underlying80]) ?_
      refine rw_val (v := .pointer (some ⟨g, 0, none⟩)) (w' := w20) rfl rfl rfl rfl (by have eb_ := hk_w20; have e0_ := eb_.cellv (i := 0) (v := (.pointer (some ⟨g, 0, none⟩) : Value)) rfl; simp [go_sem, sEv, sLook, nbeq, i64_w, -List.getD_eq_getElem?_getD, e0_]) ?_
      refine rw_call rfl rfl rfl rfl (f := 41) (args := #[.pointer (some ⟨g, 0, none⟩)]) (by simp [go_sem, sEv, sLook, nbeq, i64_w, -List.getD_eq_getElem?_getD]) (cut_T w0 w20 g w20.heap.size x (fun q h_ => by have := hx q h_; omega) (D.s.app (frameB row)) hT21 hok24) ?_
      rintro e_ w44 ⟨rfl, hT45, hs46, hx47⟩
      refine ⟨.tuple #[], rfl, ?_⟩
      have hts_w44 := hT45.size
      have hk_w44 : Blk w44 gd 80 _ := (hx47 gd hXgd hgd).trans (hk_w20)
      have hlt_w44 := hk_w44.lt
      refine rw_end ?_
      refine w_weaken (G' := [(0, .pointer (some ⟨gd, 0, none⟩)), (4, .nilIface), (5, .slice A8 ((frameB row).length) c9), (6, errT (D.s.appE (frameB row)))]) ⟨rfl, rfl, rfl, rfl, trivial⟩ ?_
      refine w_seq ?_
      refine w_region ?_
      refine rw_val (v := errT (D.s.appE (frameB row))) (w' := w44) rfl rfl rfl rfl rfl ?_
      refine rw_val (v := errT (D.s.appE (frameB row))) (w' := w44) rfl rfl rfl rfl rfl ?_
      refine rw_end ?_
      refine w_ret (post_ret1 rfl rfl ?_)
      have f_ : ¬ (frameE row).isSome = true := by rw [cF]; simp
      have fa_ : ¬ (D.s.appE (frameB row)).isNone = true := by rw [cA]; simp
      have e3_ : D.add1E row = D.s.appE (frameB row) := by rw [DS.add1E, if_neg fa_]
      have e4_ : D.add1S row = D.s.app (frameB row) := by rw [DS.add1S, if_neg fa_]
      have e1_ : D.addE row = (D.s.appE (frameB row)) := by rw [DS.addE, if_neg f_, e3_]
      have e2_ : D.add row = { D with s := ((D.s.app (frameB row)).cut) } := by rw [DS.add, if_neg f_, if_pos (by rw [e3_, hq43]), e4_]
      rw [e1_, e2_]
      exact ⟨rfl, w44.heap.size, ⟨hT45, hk_w44, hgd, hgd0, hXgd⟩, by omega, fun q hq_ hqg hqd => ((hx47 q hq_ hqg).trans ((hx23 q hq_ hqg).trans ((hb15.block q (by have := hx q hq_; omega)).trans ((hB12.block q (by have := hx q hq_; omega)).trans (hb3.block q (by have := hx q hq_; omega))))))⟩
set_option maxHeartbeats 4000000 in
theorem add_N (w : World) (A1 : Option Addr) (c1 : Nat) (row : List Int) (hr : (Kd.int .u8).C w A1 row.length row) (hc1 : row.length ≤ c1) (hl : row.length ≤ 140737488355328) :
    Calls Try.prog 12 #[.pointer none, .slice A1 row.length c1] w fun e w' => e = .returned (errT (if (frameE row).isSome then frameE row else some 5)) ∧ Below w.heap.size w w' := by
  refine calls_flow Try.func12 rfl 57 rfl (Nat.le_of_ble_eq_true rfl) [(0, .pointer none), (1, .slice A1 row.length c1)] ?_ ?_
  · intro t v h; exact args_look rfl t v h
  refine w_seq ?_
  refine w_region ?_
  refine rw_val (v := .nilIface) (w' := w) rfl rfl rfl rfl rfl ?_
  refine rw_end ?_
  refine w_seq ?_
  refine w_region ?_
  refine rw_val (v := .slice A1 row.length c1) (w' := w) rfl rfl rfl rfl rfl ?_
  refine rw_new (cs := #[.slice A1 row.length c1]) (t := 32) (fun g => .slice (some ⟨g, 0, none⟩) 1 1) rfl rfl rfl rfl (by kernel_rfl) ?_
  intro g1 w2 hg6 hz5 hb3 hk4
  have hs_w2 := hb3.size
  have hP7 : (Kd.slice 5 (Kd.int .u8)).C w2 (some ⟨g1, 0, none⟩) [row].length [row] := rows1 hk4 hc1 (Kd.C_below hr hb3)
  refine rw_call rfl rfl rfl rfl (f := 38) (args := #[.slice (some ⟨g1, 0, none⟩) 1 1]) (by simp [go_sem, sEv, sLook, nbeq, i64_w, -List.getD_eq_getElem?_getD]) (wrap_one w2 (some ⟨g1, 0, none⟩) 1 row (Kd.C_below hP7 (Below.refl _ _)) (by omega) (by omega)) ?_
  rintro e_ w10 ⟨A8, c9, rfl, hO11, hB12⟩
  refine ⟨_, rfl, ?_⟩
  have hs_w10 := hB12.size
  refine rw_val (v := .tuple #[.slice A8 ((frameB row).length) c9, errT (frameE row)]) (w' := w10) rfl rfl rfl rfl rfl ?_
  refine rw_val (v := .slice A8 ((frameB row).length) c9) (w' := w10) rfl rfl rfl rfl (by simp [go_sem, sEv, sLook, nbeq, i64_w, -List.getD_eq_getElem?_getD]) ?_
  refine rw_val (v := errT (frameE row)) (w' := w10) rfl rfl rfl rfl (by simp [go_sem, sEv, sLook, nbeq, i64_w, -List.getD_eq_getElem?_getD]) ?_
  refine rw_val (v := .slice A8 ((frameB row).length) c9) (w' := w10) rfl rfl rfl rfl rfl ?_
  refine rw_val (v := errT (frameE row)) (w' := w10) rfl rfl rfl rfl rfl ?_
  refine rw_end ?_
  refine w_weaken (G' := [(0, .pointer none), (4, .nilIface), (5, .slice A8 ((frameB row).length) c9), (6, errT (frameE row))]) ⟨rfl, rfl, rfl, rfl, trivial⟩ ?_
  refine w_seq ?_
  refine w_seq ?_
  refine w_region ?_
  refine rw_val (v := errT (frameE row)) (w' := w10) rfl rfl rfl rfl rfl ?_
  refine rw_val (v := .bool ((frameE row).isSome)) (w' := w10) rfl rfl rfl rfl (run_as (guard_err_neq _ (frameE row) _)) ?_
  refine rw_end ?_
  refine w_cond rfl rfl (fun cF => ?_) (fun cF => ?_)
  · refine w_seq ?_
    refine w_region ?_
    refine rw_val (v := errT (frameE row)) (w' := w10) rfl rfl rfl rfl rfl ?_
    refine rw_val (v := errT (frameE row)) (w' := w10) rfl rfl rfl rfl rfl ?_
    refine rw_end ?_
    refine w_ret (post_ret1 rfl rfl ?_)
    exact ⟨by simp [cF], (chain hb3 hB12)⟩
  · refine w_skip ?_
    refine w_seq ?_
    refine w_seq ?_
    refine w_region ?_
    refine rw_val (v := .pointer none) (w' := w10) rfl rfl rfl rfl rfl ?_
    refine rw_val (v := .bool true) (w' := w10) rfl rfl rfl rfl (run_as (run_ptr_eql (e := 80) (by kernel_rfl) _ _)) ?_
    refine rw_end ?_
    refine w_cond_t rfl rfl rfl ?_
    refine w_seq ?_
    refine w_region ?_
    refine rw_val (v := errT (some 5)) (w' := w10) rfl rfl rfl rfl (by simp [go_sem, sEv, sLook, nbeq, i64_w, -List.getD_eq_getElem?_getD, errT]) ?_
    refine rw_val (v := errT (some 5)) (w' := w10) rfl rfl rfl rfl rfl ?_
    refine rw_end ?_
    refine w_ret (post_ret1 rfl rfl ?_)
    exact ⟨by simp [cF], (chain hb3 hB12)⟩

theorem FC_take_getD (rows : List (List Int)) (j : Nat) (h : j < rows.length) : FC (rows.take (j + 1)) = FC (rows.take j) ++ frameB (rows.getD j []) := by
  unfold FC
  rw [List.take_succ_eq_append_getElem h, List.map_append, List.flatten_append, List.getD_eq_getElem?_getD, List.getElem?_eq_getElem h]
  simp
theorem FC_take_le (rows : List (List Int)) (j : Nat) : (FC (rows.take j)).length ≤ (FC rows).length := by
  have h : FC rows = FC (rows.take j) ++ FC (rows.drop j) := by unfold FC; rw [← List.flatten_append, ← List.map_append, List.take_append_drop]
  rw [h, List.length_append]
  omega
theorem frameE_long {r : List Int} : (frameE r).isSome = true ↔ 16376 < r.length := by
  unfold frameE
  split <;> simp <;> omega
theorem rwFull_long {rows : List (List Int)} {j : Nat} (h : j < rows.length) (hl : (frameE (rows.getD j [])).isSome = true) : rwFull rows = true := by
  unfold rwFull
  rw [Bool.or_eq_true]
  refine .inl (List.any_eq_true.2 ⟨_, getD_mem rows j [] h, ?_⟩)
  simpa using frameE_long.1 hl
theorem rwFull_big {rows : List (List Int)} {j : Nat} (h : 1048576 < (FC (rows.take j)).length) : rwFull rows = true := by
  unfold rwFull
  have h2 := FC_take_le rows j
  rw [Bool.or_eq_true]
  exact .inr (decide_eq_true (by omega))
theorem rwFull_no {rows : List (List Int)} (h1 : ∀ p ∈ rows, p.length ≤ 16376) (h2 : (FC rows).length ≤ 1048576) : rwFull rows = false := by
  unfold rwFull
  rw [Bool.or_eq_false_iff]
  refine ⟨?_, decide_eq_false (by omega)⟩
  rw [List.any_eq_false]
  intro p hp
  have := h1 p hp
  simp
  omega
set_option maxHeartbeats 4000000 in
theorem rewrite_N (w : World) (A1 : Option Addr) (c1 : Nat) (rows : List (List Int)) (hr : (Kd.slice 5 (Kd.int .u8)).C w A1 rows.length rows) (hc1 : rows.length ≤ c1) (hn : rows.length ≤ 1000000) (hall : ∀ p ∈ rows, p.length ≤ 140737488355328) :
    Calls Try.prog 21 #[.pointer none, .slice A1 rows.length c1] w fun e w' => e = .returned (errT (if rwFull rows = true then some 7 else some 5)) ∧ Below w.heap.size w w' := by
  refine calls_flow Try.func21 rfl 60 rfl (Nat.le_of_ble_eq_true rfl) [(0, .pointer none), (1, .slice A1 rows.length c1)] ?_ ?_
  · intro t v h; exact args_look rfl t v h
  refine w_seq ?_
  refine w_region ?_
  refine rw_val (v := .nilIface) (w' := w) rfl rfl rfl rfl rfl ?_
  refine rw_end ?_
  refine w_seq ?_
  refine w_region ?_
  refine rw_val (v := .slice none 0 0) (w' := w) rfl rfl rfl rfl rfl ?_
  refine rw_end ?_
  refine w_seq ?_
  refine w_seq ?_
  refine w_region ?_
  refine rw_val (v := .slice A1 rows.length c1) (w' := w) rfl rfl rfl rfl rfl ?_
  refine rw_val (v := .int .i64 ((rows.length : Nat) : Int)) (w' := w) rfl rfl rfl rfl (by simp [go_sem, sEv, sLook, nbeq, i64_w, -List.getD_eq_getElem?_getD]) ?_
  refine rw_val (v := .int .i64 0) (w' := w) rfl rfl rfl rfl rfl ?_
  refine rw_end ?_
  refine w_block ?_
  refine w_loop (fun m_ G W_ => ∃ (j : Nat) (A5_ : Option Addr) (c5_ : Nat), j + m_ = rows.length ∧ Below w.heap.size w W_ ∧ OwnK (Kd.int .u8) 5 W_ w.heap.size w.heap.size A5_ (FC (rows.take j)).length c5_ (FC (rows.take j)) ∧ (∀ p ∈ rows.take j, p.length ≤ 16376) ∧ ((FC (rows.take j)).length ≤ 1048576) ∧ G = [(0, .pointer none), (1, .slice A1 rows.length c1), (5, .slice A5_ ((FC (rows.take j)).length) c5_), (11, .slice A1 rows.length c1), (12, .int .i64 ((rows.length : Nat) : Int)), (13, .int .i64 ((j : Nat) : Int))]) rows.length [(0, .pointer none), (1, .slice A1 rows.length c1), (5, .slice none ((FC (rows.take 0)).length) 0), (11, .slice A1 rows.length c1), (12, .int .i64 ((rows.length : Nat) : Int)), (13, .int .i64 0)] ⟨0, none, 0, by omega, (Below.refl _ _), (OwnK.nil _ _ _ _ _), (by simp), (by simp [FC]), rfl⟩ ⟨rfl, rfl, rfl, rfl, rfl, rfl, trivial⟩ ?_
  rintro m_ G w_L1 ⟨j, A5_, c5_, hp2, hB_L1, hO5_, hf3, hf4, rfl⟩
  have hs_w_L1 := hB_L1.size
  refine w_seq ?_
  refine w_region ?_
  refine rw_val (v := .bool (decide (((j : Nat) : Int) < ((rows.length : Nat) : Int)))) (w' := w_L1) rfl rfl rfl rfl (by simp [go_sem, sEv, sLook, nbeq, i64_w, -List.getD_eq_getElem?_getD]) ?_
  refine rw_end ?_
  refine w_seq ?_
  refine w_cond rfl rfl (fun cJ => ?_) (fun cJ => ?_)
  · have l5 : (((j : Nat) : Int) < ((rows.length : Nat) : Int)) := of_decide_eq_true cJ
    refine w_skip ?_
    refine w_seq ?_
    refine w_block ?_
    refine w_seq ?_
    refine w_region ?_
    obtain ⟨ad6, A9, c10, hA7, he11, hle12, hC13⟩ := rows_at (Kd.C_below hr hB_L1) j (by first | omega | decide)
    subst hA7
    refine rw_val (v := .pointer (some (ad6.add (j)))) (w' := w_L1) rfl rfl rfl rfl (run_as (run_at_1 (P := Try.prog) (e := 32) (by kernel_rfl) (by kernel_rfl) j (by first | omega | decide) _)) ?_
    refine rw_val (v := .slice A9 ((rows.getD j []).length) c10) (w' := w_L1) rfl rfl rfl rfl (by have e0_ := cellOn he11 (Below.refl _ _); simp [go_sem, sEv, sLook, nbeq, i64_w, -List.getD_eq_getElem?_getD, e0_, Try.underlying32]) ?_
    refine rw_val (v := .slice A9 ((rows.getD j []).length) c10) (w' := w_L1) rfl rfl rfl rfl rfl ?_
    refine rw_end ?_
    refine w_seq ?_
    refine w_region ?_
    refine rw_val (v := .slice A9 ((rows.getD j []).length) c10) (w' := w_L1) rfl rfl rfl rfl rfl ?_
    refine rw_new (cs := #[.slice A9 ((rows.getD j []).length) c10]) (t := 32) (fun g => .slice (some ⟨g, 0, none⟩) 1 1) rfl rfl rfl rfl (by kernel_rfl) ?_
    intro g14 w15 hg19 hz18 hb16 hk17
    have hs_w15 := hb16.size
    have hP20 : (Kd.slice 5 (Kd.int .u8)).C w15 (some ⟨g14, 0, none⟩) [(rows.getD j [])].length [(rows.getD j [])] := rows1 hk17 hle12 (Kd.C_below hC13 hb16)
    have hlj_ : (rows.getD j []).length ≤ 140737488355328 := hall _ (getD_mem rows j [] (by omega))
    have hfj_ := frameB_short (rows.getD j [])
    refine rw_call rfl rfl rfl rfl (f := 38) (args := #[.slice (some ⟨g14, 0, none⟩) 1 1]) (by simp [go_sem, sEv, sLook, nbeq, i64_w, -List.getD_eq_getElem?_getD]) (wrap_one w15 (some ⟨g14, 0, none⟩) 1 (rows.getD j []) (Kd.C_below hP20 (Below.refl _ _)) (by omega) (by omega)) ?_
    rintro e_ w23 ⟨A21, c22, rfl, hO24, hB25⟩
    refine ⟨_, rfl, ?_⟩
    have hs_w23 := hB25.size
    refine rw_val (v := .tuple #[.slice A21 ((frameB (rows.getD j [])).length) c22, errT (frameE (rows.getD j []))]) (w' := w23) rfl rfl rfl rfl rfl ?_
    refine rw_val (v := .slice A21 ((frameB (rows.getD j [])).length) c22) (w' := w23) rfl rfl rfl rfl (by simp [go_sem, sEv, sLook, nbeq, i64_w, -List.getD_eq_getElem?_getD]) ?_
    refine rw_val (v := errT (frameE (rows.getD j []))) (w' := w23) rfl rfl rfl rfl (by simp [go_sem, sEv, sLook, nbeq, i64_w, -List.getD_eq_getElem?_getD]) ?_
    refine rw_val (v := .slice A21 ((frameB (rows.getD j [])).length) c22) (w' := w23) rfl rfl rfl rfl rfl ?_
    refine rw_val (v := errT (frameE (rows.getD j []))) (w' := w23) rfl rfl rfl rfl rfl ?_
    refine rw_end ?_
    refine w_weaken (G' := [(0, .pointer none), (1, .slice (some ad6) rows.length c1), (5, .slice A5_ ((FC (rows.take j)).length) c5_), (8, .slice A21 ((frameB (rows.getD j [])).length) c22), (9, errT (frameE (rows.getD j []))), (11, .slice (some ad6) rows.length c1), (12, .int .i64 ((rows.length : Nat) : Int)), (13, .int .i64 ((j : Nat) : Int))]) ⟨rfl, rfl, rfl, rfl, rfl, rfl, rfl, rfl, trivial⟩ ?_
    refine w_seq ?_
    refine w_seq ?_
    refine w_region ?_
    refine rw_val (v := errT (frameE (rows.getD j []))) (w' := w23) rfl rfl rfl rfl rfl ?_
    refine rw_val (v := .bool ((frameE (rows.getD j [])).isSome)) (w' := w23) rfl rfl rfl rfl (run_as (guard_err_neq _ (frameE (rows.getD j [])) _)) ?_
    refine rw_val (v := .bool ((frameE (rows.getD j [])).isSome)) (w' := w23) rfl rfl rfl rfl rfl ?_
    rcases bcase ((frameE (rows.getD j [])).isSome) with cF | cF
    · refine rw_on (c := (frameE (rows.getD j [])).isSome) rfl rfl rfl (by first | (rw [cF]; rfl) | simp [cF]) ?_
      refine rw_val (v := .slice A5_ ((FC (rows.take j)).length) c5_) (w' := w23) rfl rfl rfl rfl rfl ?_
      refine rw_on (c := (frameE (rows.getD j [])).isSome) rfl rfl rfl (by first | (rw [cF]; rfl) | simp [cF]) ?_
      refine rw_val (v := .int .i64 (((FC (rows.take j)).length : Nat) : Int)) (w' := w23) rfl rfl rfl rfl (by simp [go_sem, sEv, sLook, nbeq, i64_w, -List.getD_eq_getElem?_getD]) ?_
      refine rw_on (c := (frameE (rows.getD j [])).isSome) rfl rfl rfl (by first | (rw [cF]; rfl) | simp [cF]) ?_
      refine rw_val (v := .slice A21 ((frameB (rows.getD j [])).length) c22) (w' := w23) rfl rfl rfl rfl rfl ?_
      refine rw_on (c := (frameE (rows.getD j [])).isSome) rfl rfl rfl (by first | (rw [cF]; rfl) | simp [cF]) ?_
      refine rw_val (v := .int .i64 (((frameB (rows.getD j [])).length : Nat) : Int)) (w' := w23) rfl rfl rfl rfl (by simp [go_sem, sEv, sLook, nbeq, i64_w, -List.getD_eq_getElem?_getD]) ?_
      refine rw_on (c := (frameE (rows.getD j [])).isSome) rfl rfl rfl (by first | (rw [cF]; rfl) | simp [cF]) ?_
      refine rw_val (v := .int .i64 (((FC (rows.take j)).length + ((frameB (rows.getD j [])).length) : Nat) : Int)) (w' := w23) rfl rfl rfl rfl (by simp [go_sem, sEv, sLook, nbeq, i64_w, -List.getD_eq_getElem?_getD]; exact wrap_id (by omega) (by omega)) ?_
      refine rw_on (c := (frameE (rows.getD j [])).isSome) rfl rfl rfl (by first | (rw [cF]; rfl) | simp [cF]) ?_
      refine rw_val (v := .bool (decide (1048576 < (((FC (rows.take j)).length + ((frameB (rows.getD j [])).length) : Nat) : Int)))) (w' := w23) rfl rfl rfl rfl (by simp [go_sem, sEv, sLook, nbeq, i64_w, -List.getD_eq_getElem?_getD]) ?_
      refine rw_val (v := .bool (decide (1048576 < (((FC (rows.take j)).length + ((frameB (rows.getD j [])).length) : Nat) : Int)))) (w' := w23) rfl rfl rfl rfl (by first | (simp [go_sem, sEv, sLook, nbeq, i64_w, -List.getD_eq_getElem?_getD, cF]; done) | (rw [cF]; simp [go_sem, sEv, sLook, nbeq, i64_w, -List.getD_eq_getElem?_getD]; done) | (simp [go_sem, sEv, sLook, nbeq, i64_w, -List.getD_eq_getElem?_getD] <;> omega) | (simp [go_sem, sEv, sLook, nbeq, i64_w, -List.getD_eq_getElem?_getD]; intro h_; exact absurd (by omega) h_)) ?_
      refine rw_end ?_
      refine w_weaken (G' := [(0, .pointer none), (1, .slice (some ad6) rows.length c1), (5, .slice A5_ ((FC (rows.take j)).length) c5_), (8, .slice A21 ((frameB (rows.getD j [])).length) c22), (11, .slice (some ad6) rows.length c1), (12, .int .i64 ((rows.length : Nat) : Int)), (13, .int .i64 ((j : Nat) : Int)), (32, .bool (decide (1048576 < (((FC (rows.take j)).length + ((frameB (rows.getD j [])).length) : Nat) : Int))))]) ⟨rfl, rfl, rfl, rfl, rfl, rfl, rfl, rfl, trivial⟩ ?_
      refine w_cond rfl rfl (fun c26 => ?_) (fun c26 => ?_)
      · have l27 : (1048576 < (((FC (rows.take j)).length + ((frameB (rows.getD j [])).length) : Nat) : Int)) := of_decide_eq_true c26
        refine w_seq ?_
        refine w_region ?_
        refine rw_val (v := errT (some 7)) (w' := w23) rfl rfl rfl rfl (by simp [go_sem, sEv, sLook, nbeq, i64_w, -List.getD_eq_getElem?_getD, errT]) ?_
        refine rw_val (v := errT (some 7)) (w' := w23) rfl rfl rfl rfl rfl ?_
        refine rw_end ?_
        refine w_ret (post_ret1 rfl rfl ?_)
        have hf_ : rwFull rows = true := rwFull_big (j := j + 1) (by rw [FC_take_getD rows j (by omega), List.length_append]; omega)
        rw [if_pos hf_]
        exact ⟨rfl, (chain (chain hB_L1 hb16) hB25)⟩
      · have l28 : ¬ (1048576 < (((FC (rows.take j)).length + ((frameB (rows.getD j [])).length) : Nat) : Int)) := of_decide_eq_false c26
        refine w_skip ?_
        refine w_region ?_
        refine rw_val (v := .slice A5_ ((FC (rows.take j)).length) c5_) (w' := w23) rfl rfl rfl rfl rfl ?_
        refine rw_val (v := .slice A21 ((frameB (rows.getD j [])).length) c22) (w' := w23) rfl rfl rfl rfl rfl ?_
        have oA35 : OwnK (Kd.int .u8) 5 w23 w.heap.size w.heap.size A5_ ((FC (rows.take j)).length) c5_ (FC (rows.take j)) := (OwnK.on (d := (Kd.int .u8)) hO5_ (chain hb16 hB25))
        refine rw_append_kd (d := (Kd.int .u8)) w.heap.size rfl rfl rfl (.tmp 34) (.tmp 35) rfl rfl 32 5 (.int .u8 0) 1 rfl (by kernel_rfl) (by kernel_rfl) rfl (show 0 < 1 by decide) (by decide) (fun _ _ h => h) (b := w.heap.size) rfl rfl (by omega) oA35 (OwnK.Cn (d := (Kd.int .u8)) hO24) (chain (chain hB_L1 hb16) hB25) (by omega) (by first | omega | (simp only [List.length_append, List.length_nil, List.length_cons]; omega)) ?_
        intro A29 c30 w31 hO32 hB33 hG34
        have hs_w31 := hB33.size
        have hgs_w31 := hG34.size
        refine rw_val (v := .slice A29 (((FC (rows.take j)) ++ (frameB (rows.getD j []))).length) c30) (w' := w31) rfl rfl rfl rfl rfl ?_
        refine rw_end ?_
        refine w_weaken (G' := [(0, .pointer none), (1, .slice (some ad6) rows.length c1), (5, .slice A29 (((FC (rows.take j)) ++ (frameB (rows.getD j []))).length) c30), (11, .slice (some ad6) rows.length c1), (12, .int .i64 ((rows.length : Nat) : Int)), (13, .int .i64 ((j : Nat) : Int))]) ⟨rfl, rfl, rfl, rfl, rfl, rfl, trivial⟩ ?_
        refine w_blk ?_
        refine w_region ?_
        refine rw_val (v := .int .i64 ((j + 1 : Nat) : Int)) (w' := w31) rfl rfl rfl rfl (by simp [go_sem, sEv, sLook, nbeq, i64_w, -List.getD_eq_getElem?_getD]; exact wrap_id (by omega) (by omega)) ?_
        refine rw_val (v := .int .i64 ((j + 1 : Nat) : Int)) (w' := w31) rfl rfl rfl rfl rfl ?_
        refine rw_end ?_
        have e37 : ((FC (rows.take j)) ++ (frameB (rows.getD j []))) = (FC (rows.take (j + 1))) := by exact (FC_take_getD rows j (by omega)).symm
        have hO38 : OwnK (Kd.int .u8) 5 w31 w.heap.size w.heap.size A29 (FC (rows.take (j + 1))).length c30 (FC (rows.take (j + 1))) := by rw [← e37]; exact OwnK.full hO32
        have en39 : ((FC (rows.take j)) ++ (frameB (rows.getD j []))).length = (FC (rows.take (j + 1))).length := by rw [← e37] <;> exact OwnK.len (d := (Kd.int .u8)) hO32
        exact w_back (m_ - 1) [(0, .pointer none), (1, .slice (some ad6) rows.length c1), (5, .slice A29 ((FC (rows.take (j + 1))).length) c30), (11, .slice (some ad6) rows.length c1), (12, .int .i64 ((rows.length : Nat) : Int)), (13, .int .i64 ((j + 1 : Nat) : Int))] (by omega) ⟨rfl, rfl, (by first | rfl | (rw [← en39]; rfl)), rfl, rfl, rfl, trivial⟩ ⟨(j + 1), A29, c30, by omega, hB33, (OwnK.mono (d := (Kd.int .u8)) hO38 (by omega)), (by intro p hp; rw [List.take_succ_eq_append_getElem (by omega)] at hp; exact (List.mem_append.1 hp).elim (fun hp => hf3 p hp) (fun hp => by rw [List.mem_singleton.1 hp]; have q_ := mt frameE_long.2 (show ¬ (frameE (rows.getD j [])).isSome = true by rw [cF]; simp); rw [List.getD_eq_getElem?_getD, List.getElem?_eq_getElem (by omega)] at q_; exact Nat.le_of_not_lt q_)), (by rw [FC_take_getD rows j (by omega), List.length_append]; omega), rfl⟩
    · refine rw_off (c := (frameE (rows.getD j [])).isSome) rfl rfl rfl (by first | (rw [cF]; rfl) | simp [cF]) rfl rfl ?_
      refine rw_off (c := (frameE (rows.getD j [])).isSome) rfl rfl rfl (by first | (rw [cF]; rfl) | simp [cF]) rfl rfl ?_
      refine rw_off (c := (frameE (rows.getD j [])).isSome) rfl rfl rfl (by first | (rw [cF]; rfl) | simp [cF]) rfl rfl ?_
      refine rw_off (c := (frameE (rows.getD j [])).isSome) rfl rfl rfl (by first | (rw [cF]; rfl) | simp [cF]) rfl rfl ?_
      refine rw_off (c := (frameE (rows.getD j [])).isSome) rfl rfl rfl (by first | (rw [cF]; rfl) | simp [cF]) rfl rfl ?_
      refine rw_off (c := (frameE (rows.getD j [])).isSome) rfl rfl rfl (by first | (rw [cF]; rfl) | simp [cF]) rfl rfl ?_
      refine rw_val (v := .bool true) (w' := w23) rfl rfl rfl rfl (by first | (simp [go_sem, sEv, sLook, nbeq, i64_w, -List.getD_eq_getElem?_getD, cF]; done) | (rw [cF]; simp [go_sem, sEv, sLook, nbeq, i64_w, -List.getD_eq_getElem?_getD]; done) | (simp [go_sem, sEv, sLook, nbeq, i64_w, -List.getD_eq_getElem?_getD] <;> omega) | (simp [go_sem, sEv, sLook, nbeq, i64_w, -List.getD_eq_getElem?_getD]; intro h_; exact absurd (by omega) h_)) ?_
      refine rw_end ?_
      refine w_weaken (G' := [(0, .pointer none), (1, .slice (some ad6) rows.length c1), (5, .slice A5_ ((FC (rows.take j)).length) c5_), (8, .slice A21 ((frameB (rows.getD j [])).length) c22), (11, .slice (some ad6) rows.length c1), (12, .int .i64 ((rows.length : Nat) : Int)), (13, .int .i64 ((j : Nat) : Int)), (32, .bool true)]) ⟨rfl, rfl, rfl, rfl, rfl, rfl, rfl, rfl, trivial⟩ ?_
      refine w_cond_t rfl rfl rfl ?_
      refine w_seq ?_
      refine w_region ?_
      refine rw_val (v := errT (some 7)) (w' := w23) rfl rfl rfl rfl (by simp [go_sem, sEv, sLook, nbeq, i64_w, -List.getD_eq_getElem?_getD, errT]) ?_
      refine rw_val (v := errT (some 7)) (w' := w23) rfl rfl rfl rfl rfl ?_
      refine rw_end ?_
      refine w_ret (post_ret1 rfl rfl ?_)
      have hf_ : rwFull rows = true := rwFull_long (j := j) (by omega) cF
      rw [if_pos hf_]
      exact ⟨rfl, (chain (chain hB_L1 hb16) hB25)⟩
  · have l40 : ¬ (((j : Nat) : Int) < ((rows.length : Nat) : Int)) := of_decide_eq_false cJ
    refine w_exit rfl ?_
    refine w_seq ?_
    refine w_seq ?_
    refine w_region ?_
    refine rw_val (v := .pointer none) (w' := w_L1) rfl rfl rfl rfl rfl ?_
    refine rw_val (v := .bool true) (w' := w_L1) rfl rfl rfl rfl (run_as (run_ptr_eql (e := 80) (by kernel_rfl) _ _)) ?_
    refine rw_end ?_
    refine w_cond_t rfl rfl rfl ?_
    refine w_seq ?_
    refine w_region ?_
    refine rw_val (v := errT (some 5)) (w' := w_L1) rfl rfl rfl rfl (by simp [go_sem, sEv, sLook, nbeq, i64_w, -List.getD_eq_getElem?_getD, errT]) ?_
    refine rw_val (v := errT (some 5)) (w' := w_L1) rfl rfl rfl rfl rfl ?_
    refine rw_end ?_
    refine w_ret (post_ret1 rfl rfl ?_)
    have ej_ : j = rows.length := by omega
    subst ej_
    have et_ : rows.take rows.length = rows := List.take_length
    have hf_ : rwFull rows = false := rwFull_no (by rw [et_] at hf3; exact hf3) (by rw [et_] at hf4; exact hf4)
    rw [if_neg (by rw [hf_]; simp)]
    exact ⟨rfl, hB_L1⟩
set_option maxHeartbeats 4000000 in
theorem rewrite_D (w0 w : World) (g gd m : Nat) (x : Nat → Prop) (hx : ∀ q, x q → q < w.heap.size) (D : DS) (hD : DiaryAt w0 w g gd m x D) (hok : D.s.Ok) (A1 : Option Addr) (c1 : Nat) (rows : List (List Int)) (hr : (Kd.slice 5 (Kd.int .u8)).C w A1 rows.length rows) (hc1 : rows.length ≤ c1) (hn : rows.length ≤ 1000000) (hall : ∀ p ∈ rows, p.length ≤ 140737488355328) :
    Calls Try.prog 21 #[.pointer (some ⟨gd, 0, none⟩), .slice A1 rows.length c1] w fun e w' => e = .returned (errT (D.rwE rows)) ∧ ∃ m', DiaryAt w0 w' g gd m' x (D.rw rows) ∧ w.heap.size ≤ w'.heap.size ∧ (∀ q, x q → q ≠ g → q ≠ gd → w'.heap[q]? = w.heap[q]?) := by
  obtain ⟨hT, hb, hgd, hgd0, hXgd⟩ := hD
  have hts_ := hT.size
  have hlt_ := hb.lt
  refine calls_flow Try.func21 rfl 60 rfl (Nat.le_of_ble_eq_true rfl) [(0, .pointer (some ⟨gd, 0, none⟩)), (1, .slice A1 rows.length c1)] ?_ ?_
  · intro t v h; exact args_look rfl t v h
  refine w_seq ?_
  refine w_region ?_
  refine rw_val (v := .nilIface) (w' := w) rfl rfl rfl rfl rfl ?_
  refine rw_end ?_
  refine w_seq ?_
  refine w_region ?_
  refine rw_val (v := .slice none 0 0) (w' := w) rfl rfl rfl rfl rfl ?_
  refine rw_end ?_
  refine w_seq ?_
  refine w_seq ?_
  refine w_region ?_
  refine rw_val (v := .slice A1 rows.length c1) (w' := w) rfl rfl rfl rfl rfl ?_
  refine rw_val (v := .int .i64 ((rows.length : Nat) : Int)) (w' := w) rfl rfl rfl rfl (by simp [go_sem, sEv, sLook, nbeq, i64_w, -List.getD_eq_getElem?_getD]) ?_
  refine rw_val (v := .int .i64 0) (w' := w) rfl rfl rfl rfl rfl ?_
  refine rw_end ?_
  refine w_block ?_
  refine w_loop (fun m_ G W_ => ∃ (j : Nat) (A5_ : Option Addr) (c5_ : Nat), j + m_ = rows.length ∧ Below w.heap.size w W_ ∧ OwnK (Kd.int .u8) 5 W_ w.heap.size w.heap.size A5_ (FC (rows.take j)).length c5_ (FC (rows.take j)) ∧ (∀ p ∈ rows.take j, p.length ≤ 16376) ∧ ((FC (rows.take j)).length ≤ 1048576) ∧ G = [(0, .pointer (some ⟨gd, 0, none⟩)), (1, .slice A1 rows.length c1), (5, .slice A5_ ((FC (rows.take j)).length) c5_), (11, .slice A1 rows.length c1), (12, .int .i64 ((rows.length : Nat) : Int)), (13, .int .i64 ((j : Nat) : Int))]) rows.length [(0, .pointer (some ⟨gd, 0, none⟩)), (1, .slice A1 rows.length c1), (5, .slice none ((FC (rows.take 0)).length) 0), (11, .slice A1 rows.length c1), (12, .int .i64 ((rows.length : Nat) : Int)), (13, .int .i64 0)] ⟨0, none, 0, by omega, (Below.refl _ _), (OwnK.nil _ _ _ _ _), (by simp), (by simp [FC]), rfl⟩ ⟨rfl, rfl, rfl, rfl, rfl, rfl, trivial⟩ ?_
  rintro m_ G w_L1 ⟨j, A5_, c5_, hp2, hB_L1, hO5_, hf3, hf4, rfl⟩
  have hs_w_L1 := hB_L1.size
  refine w_seq ?_
  refine w_region ?_
  refine rw_val (v := .bool (decide (((j : Nat) : Int) < ((rows.length : Nat) : Int)))) (w' := w_L1) rfl rfl rfl rfl (by simp [go_sem, sEv, sLook, nbeq, i64_w, -List.getD_eq_getElem?_getD]) ?_
  refine rw_end ?_
  refine w_seq ?_
  refine w_cond rfl rfl (fun cJ => ?_) (fun cJ => ?_)
  · have l5 : (((j : Nat) : Int) < ((rows.length : Nat) : Int)) := of_decide_eq_true cJ
    refine w_skip ?_
    refine w_seq ?_
    refine w_block ?_
    refine w_seq ?_
    refine w_region ?_
    obtain ⟨ad6, A9, c10, hA7, he11, hle12, hC13⟩ := rows_at (Kd.C_below hr hB_L1) j (by first | omega | decide)
    subst hA7
    refine rw_val (v := .pointer (some (ad6.add (j)))) (w' := w_L1) rfl rfl rfl rfl (run_as (run_at_1 (P := Try.prog) (e := 32) (by kernel_rfl) (by kernel_rfl) j (by first | omega | decide) _)) ?_
    refine rw_val (v := .slice A9 ((rows.getD j []).length) c10) (w' := w_L1) rfl rfl rfl rfl (by have e0_ := cellOn he11 (Below.refl _ _); simp [go_sem, sEv, sLook, nbeq, i64_w, -List.getD_eq_getElem?_getD, e0_, Try.underlying32]) ?_
    refine rw_val (v := .slice A9 ((rows.getD j []).length) c10) (w' := w_L1) rfl rfl rfl rfl rfl ?_
    refine rw_end ?_
    refine w_seq ?_
    refine w_region ?_
    refine rw_val (v := .slice A9 ((rows.getD j []).length) c10) (w' := w_L1) rfl rfl rfl rfl rfl ?_
    refine rw_new (cs := #[.slice A9 ((rows.getD j []).length) c10]) (t := 32) (fun g => .slice (some ⟨g, 0, none⟩) 1 1) rfl rfl rfl rfl (by kernel_rfl) ?_
    intro g14 w15 hg19 hz18 hb16 hk17
    have hs_w15 := hb16.size
    have hP20 : (Kd.slice 5 (Kd.int .u8)).C w15 (some ⟨g14, 0, none⟩) [(rows.getD j [])].length [(rows.getD j [])] := rows1 hk17 hle12 (Kd.C_below hC13 hb16)
    have hlj_ : (rows.getD j []).length ≤ 140737488355328 := hall _ (getD_mem rows j [] (by omega))
    have hfj_ := frameB_short (rows.getD j [])
    refine rw_call rfl rfl rfl rfl (f := 38) (args := #[.slice (some ⟨g14, 0, none⟩) 1 1]) (by simp [go_sem, sEv, sLook, nbeq, i64_w, -List.getD_eq_getElem?_getD]) (wrap_one w15 (some ⟨g14, 0, none⟩) 1 (rows.getD j []) (Kd.C_below hP20 (Below.refl _ _)) (by omega) (by omega)) ?_
    rintro e_ w23 ⟨A21, c22, rfl, hO24, hB25⟩
    refine ⟨_, rfl, ?_⟩
    have hs_w23 := hB25.size
    refine rw_val (v := .tuple #[.slice A21 ((frameB (rows.getD j [])).length) c22, errT (frameE (rows.getD j []))]) (w' := w23) rfl rfl rfl rfl rfl ?_
    refine rw_val (v := .slice A21 ((frameB (rows.getD j [])).length) c22) (w' := w23) rfl rfl rfl rfl (by simp [go_sem, sEv, sLook, nbeq, i64_w, -List.getD_eq_getElem?_getD]) ?_
    refine rw_val (v := errT (frameE (rows.getD j []))) (w' := w23) rfl rfl rfl rfl (by simp [go_sem, sEv, sLook, nbeq, i64_w, -List.getD_eq_getElem?_getD]) ?_
    refine rw_val (v := .slice A21 ((frameB (rows.getD j [])).length) c22) (w' := w23) rfl rfl rfl rfl rfl ?_
    refine rw_val (v := errT (frameE (rows.getD j []))) (w' := w23) rfl rfl rfl rfl rfl ?_
    refine rw_end ?_
    refine w_weaken (G' := [(0, .pointer (some ⟨gd, 0, none⟩)), (1, .slice (some ad6) rows.length c1), (5, .slice A5_ ((FC (rows.take j)).length) c5_), (8, .slice A21 ((frameB (rows.getD j [])).length) c22), (9, errT (frameE (rows.getD j []))), (11, .slice (some ad6) rows.length c1), (12, .int .i64 ((rows.length : Nat) : Int)), (13, .int .i64 ((j : Nat) : Int))]) ⟨rfl, rfl, rfl, rfl, rfl, rfl, rfl, rfl, trivial⟩ ?_
    refine w_seq ?_
    refine w_seq ?_
    refine w_region ?_
    refine rw_val (v := errT (frameE (rows.getD j []))) (w' := w23) rfl rfl rfl rfl rfl ?_
    refine rw_val (v := .bool ((frameE (rows.getD j [])).isSome)) (w' := w23) rfl rfl rfl rfl (run_as (guard_err_neq _ (frameE (rows.getD j [])) _)) ?_
    refine rw_val (v := .bool ((frameE (rows.getD j [])).isSome)) (w' := w23) rfl rfl rfl rfl rfl ?_
    rcases bcase ((frameE (rows.getD j [])).isSome) with cF | cF
    · refine rw_on (c := (frameE (rows.getD j [])).isSome) rfl rfl rfl (by first | (rw [cF]; rfl) | simp [cF]) ?_
      refine rw_val (v := .slice A5_ ((FC (rows.take j)).length) c5_) (w' := w23) rfl rfl rfl rfl rfl ?_
      refine rw_on (c := (frameE (rows.getD j [])).isSome) rfl rfl rfl (by first | (rw [cF]; rfl) | simp [cF]) ?_
      refine rw_val (v := .int .i64 (((FC (rows.take j)).length : Nat) : Int)) (w' := w23) rfl rfl rfl rfl (by simp [go_sem, sEv, sLook, nbeq, i64_w, -List.getD_eq_getElem?_getD]) ?_
      refine rw_on (c := (frameE (rows.getD j [])).isSome) rfl rfl rfl (by first | (rw [cF]; rfl) | simp [cF]) ?_
      refine rw_val (v := .slice A21 ((frameB (rows.getD j [])).length) c22) (w' := w23) rfl rfl rfl rfl rfl ?_
      refine rw_on (c := (frameE (rows.getD j [])).isSome) rfl rfl rfl (by first | (rw [cF]; rfl) | simp [cF]) ?_
      refine rw_val (v := .int .i64 (((frameB (rows.getD j [])).length : Nat) : Int)) (w' := w23) rfl rfl rfl rfl (by simp [go_sem, sEv, sLook, nbeq, i64_w, -List.getD_eq_getElem?_getD]) ?_
      refine rw_on (c := (frameE (rows.getD j [])).isSome) rfl rfl rfl (by first | (rw [cF]; rfl) | simp [cF]) ?_
      refine rw_val (v := .int .i64 (((FC (rows.take j)).length + ((frameB (rows.getD j [])).length) : Nat) : Int)) (w' := w23) rfl rfl rfl rfl (by simp [go_sem, sEv, sLook, nbeq, i64_w, -List.getD_eq_getElem?_getD]; exact wrap_id (by omega) (by omega)) ?_
      refine rw_on (c := (frameE (rows.getD j [])).isSome) rfl rfl rfl (by first | (rw [cF]; rfl) | simp [cF]) ?_
      refine rw_val (v := .bool (decide (1048576 < (((FC (rows.take j)).length + ((frameB (rows.getD j [])).length) : Nat) : Int)))) (w' := w23) rfl rfl rfl rfl (by simp [go_sem, sEv, sLook, nbeq, i64_w, -List.getD_eq_getElem?_getD]) ?_
      refine rw_val (v := .bool (decide (1048576 < (((FC (rows.take j)).length + ((frameB (rows.getD j [])).length) : Nat) : Int)))) (w' := w23) rfl rfl rfl rfl (by first | (simp [go_sem, sEv, sLook, nbeq, i64_w, -List.getD_eq_getElem?_getD, cF]; done) | (rw [cF]; simp [go_sem, sEv, sLook, nbeq, i64_w, -List.getD_eq_getElem?_getD]; done) | (simp [go_sem, sEv, sLook, nbeq, i64_w, -List.getD_eq_getElem?_getD] <;> omega) | (simp [go_sem, sEv, sLook, nbeq, i64_w, -List.getD_eq_getElem?_getD]; intro h_; exact absurd (by omega) h_)) ?_
      refine rw_end ?_
      refine w_weaken (G' := [(0, .pointer (some ⟨gd, 0, none⟩)), (1, .slice (some ad6) rows.length c1), (5, .slice A5_ ((FC (rows.take j)).length) c5_), (8, .slice A21 ((frameB (rows.getD j [])).length) c22), (11, .slice (some ad6) rows.length c1), (12, .int .i64 ((rows.length : Nat) : Int)), (13, .int .i64 ((j : Nat) : Int)), (32, .bool (decide (1048576 < (((FC (rows.take j)).length + ((frameB (rows.getD j [])).length) : Nat) : Int))))]) ⟨rfl, rfl, rfl, rfl, rfl, rfl, rfl, rfl, trivial⟩ ?_
      refine w_cond rfl rfl (fun c26 => ?_) (fun c26 => ?_)
      · have l27 : (1048576 < (((FC (rows.take j)).length + ((frameB (rows.getD j [])).length) : Nat) : Int)) := of_decide_eq_true c26
        refine w_seq ?_
        refine w_region ?_
        refine rw_val (v := errT (some 7)) (w' := w23) rfl rfl rfl rfl (by simp [go_sem, sEv, sLook, nbeq, i64_w, -List.getD_eq_getElem?_getD, errT]) ?_
        refine rw_val (v := errT (some 7)) (w' := w23) rfl rfl rfl rfl rfl ?_
        refine rw_end ?_
        refine w_ret (post_ret1 rfl rfl ?_)
        have hf_ : rwFull rows = true := rwFull_big (j := j + 1) (by rw [FC_take_getD rows j (by omega), List.length_append]; omega)
        rw [DS.rwE, DS.rw, if_pos hf_, if_pos hf_]
        exact ⟨rfl, m, ⟨(TapeAt.on (TapeAt.on (TapeAt.on hT hB_L1) hb16) hB25), (((hb.on hB_L1).on hb16).on hB25), hgd, hgd0, hXgd⟩, by omega, fun q hq_ hqg hqd => ((hB25.block q (by have := hx q hq_; omega)).trans ((hb16.block q (by have := hx q hq_; omega)).trans (hB_L1.block q (by have := hx q hq_; omega))))⟩
      · have l28 : ¬ (1048576 < (((FC (rows.take j)).length + ((frameB (rows.getD j [])).length) : Nat) : Int)) := of_decide_eq_false c26
        refine w_skip ?_
        refine w_region ?_
        refine rw_val (v := .slice A5_ ((FC (rows.take j)).length) c5_) (w' := w23) rfl rfl rfl rfl rfl ?_
        refine rw_val (v := .slice A21 ((frameB (rows.getD j [])).length) c22) (w' := w23) rfl rfl rfl rfl rfl ?_
        have oA35 : OwnK (Kd.int .u8) 5 w23 w.heap.size w.heap.size A5_ ((FC (rows.take j)).length) c5_ (FC (rows.take j)) := (OwnK.on (d := (Kd.int .u8)) hO5_ (chain hb16 hB25))
        refine rw_append_kd (d := (Kd.int .u8)) w.heap.size rfl rfl rfl (.tmp 34) (.tmp 35) rfl rfl 32 5 (.int .u8 0) 1 rfl (by kernel_rfl) (by kernel_rfl) rfl (show 0 < 1 by decide) (by decide) (fun _ _ h => h) (b := w.heap.size) rfl rfl (by omega) oA35 (OwnK.Cn (d := (Kd.int .u8)) hO24) (chain (chain hB_L1 hb16) hB25) (by omega) (by first | omega | (simp only [List.length_append, List.length_nil, List.length_cons]; omega)) ?_
        intro A29 c30 w31 hO32 hB33 hG34
        have hs_w31 := hB33.size
        have hgs_w31 := hG34.size
        refine rw_val (v := .slice A29 (((FC (rows.take j)) ++ (frameB (rows.getD j []))).length) c30) (w' := w31) rfl rfl rfl rfl rfl ?_
        refine rw_end ?_
        refine w_weaken (G' := [(0, .pointer (some ⟨gd, 0, none⟩)), (1, .slice (some ad6) rows.length c1), (5, .slice A29 (((FC (rows.take j)) ++ (frameB (rows.getD j []))).length) c30), (11, .slice (some ad6) rows.length c1), (12, .int .i64 ((rows.length : Nat) : Int)), (13, .int .i64 ((j : Nat) : Int))]) ⟨rfl, rfl, rfl, rfl, rfl, rfl, trivial⟩ ?_
        refine w_blk ?_
        refine w_region ?_
        refine rw_val (v := .int .i64 ((j + 1 : Nat) : Int)) (w' := w31) rfl rfl rfl rfl (by simp [go_sem, sEv, sLook, nbeq, i64_w, -List.getD_eq_getElem?_getD]; exact wrap_id (by omega) (by omega)) ?_
        refine rw_val (v := .int .i64 ((j + 1 : Nat) : Int)) (w' := w31) rfl rfl rfl rfl rfl ?_
        refine rw_end ?_
        have e37 : ((FC (rows.take j)) ++ (frameB (rows.getD j []))) = (FC (rows.take (j + 1))) := by exact (FC_take_getD rows j (by omega)).symm
        have hO38 : OwnK (Kd.int .u8) 5 w31 w.heap.size w.heap.size A29 (FC (rows.take (j + 1))).length c30 (FC (rows.take (j + 1))) := by rw [← e37]; exact OwnK.full hO32
        have en39 : ((FC (rows.take j)) ++ (frameB (rows.getD j []))).length = (FC (rows.take (j + 1))).length := by rw [← e37] <;> exact OwnK.len (d := (Kd.int .u8)) hO32
        exact w_back (m_ - 1) [(0, .pointer (some ⟨gd, 0, none⟩)), (1, .slice (some ad6) rows.length c1), (5, .slice A29 ((FC (rows.take (j + 1))).length) c30), (11, .slice (some ad6) rows.length c1), (12, .int .i64 ((rows.length : Nat) : Int)), (13, .int .i64 ((j + 1 : Nat) : Int))] (by omega) ⟨rfl, rfl, (by first | rfl | (rw [← en39]; rfl)), rfl, rfl, rfl, trivial⟩ ⟨(j + 1), A29, c30, by omega, hB33, (OwnK.mono (d := (Kd.int .u8)) hO38 (by omega)), (by intro p hp; rw [List.take_succ_eq_append_getElem (by omega)] at hp; exact (List.mem_append.1 hp).elim (fun hp => hf3 p hp) (fun hp => by rw [List.mem_singleton.1 hp]; have q_ := mt frameE_long.2 (show ¬ (frameE (rows.getD j [])).isSome = true by rw [cF]; simp); rw [List.getD_eq_getElem?_getD, List.getElem?_eq_getElem (by omega)] at q_; exact Nat.le_of_not_lt q_)), (by rw [FC_take_getD rows j (by omega), List.length_append]; omega), rfl⟩
    · refine rw_off (c := (frameE (rows.getD j [])).isSome) rfl rfl rfl (by first | (rw [cF]; rfl) | simp [cF]) rfl rfl ?_
      refine rw_off (c := (frameE (rows.getD j [])).isSome) rfl rfl rfl (by first | (rw [cF]; rfl) | simp [cF]) rfl rfl ?_
      refine rw_off (c := (frameE (rows.getD j [])).isSome) rfl rfl rfl (by first | (rw [cF]; rfl) | simp [cF]) rfl rfl ?_
      refine rw_off (c := (frameE (rows.getD j [])).isSome) rfl rfl rfl (by first | (rw [cF]; rfl) | simp [cF]) rfl rfl ?_
      refine rw_off (c := (frameE (rows.getD j [])).isSome) rfl rfl rfl (by first | (rw [cF]; rfl) | simp [cF]) rfl rfl ?_
      refine rw_off (c := (frameE (rows.getD j [])).isSome) rfl rfl rfl (by first | (rw [cF]; rfl) | simp [cF]) rfl rfl ?_
      refine rw_val (v := .bool true) (w' := w23) rfl rfl rfl rfl (by first | (simp [go_sem, sEv, sLook, nbeq, i64_w, -List.getD_eq_getElem?_getD, cF]; done) | (rw [cF]; simp [go_sem, sEv, sLook, nbeq, i64_w, -List.getD_eq_getElem?_getD]; done) | (simp [go_sem, sEv, sLook, nbeq, i64_w, -List.getD_eq_getElem?_getD] <;> omega) | (simp [go_sem, sEv, sLook, nbeq, i64_w, -List.getD_eq_getElem?_getD]; intro h_; exact absurd (by omega) h_)) ?_
      refine rw_end ?_
      refine w_weaken (G' := [(0, .pointer (some ⟨gd, 0, none⟩)), (1, .slice (some ad6) rows.length c1), (5, .slice A5_ ((FC (rows.take j)).length) c5_), (8, .slice A21 ((frameB (rows.getD j [])).length) c22), (11, .slice (some ad6) rows.length c1), (12, .int .i64 ((rows.length : Nat) : Int)), (13, .int .i64 ((j : Nat) : Int)), (32, .bool true)]) ⟨rfl, rfl, rfl, rfl, rfl, rfl, rfl, rfl, trivial⟩ ?_
      refine w_cond_t rfl rfl rfl ?_
      refine w_seq ?_
      refine w_region ?_
      refine rw_val (v := errT (some 7)) (w' := w23) rfl rfl rfl rfl (by simp [go_sem, sEv, sLook, nbeq, i64_w, -List.getD_eq_getElem?_getD, errT]) ?_
      refine rw_val (v := errT (some 7)) (w' := w23) rfl rfl rfl rfl rfl ?_
      refine rw_end ?_
      refine w_ret (post_ret1 rfl rfl ?_)
      have hf_ : rwFull rows = true := rwFull_long (j := j) (by omega) cF
      rw [DS.rwE, DS.rw, if_pos hf_, if_pos hf_]
      exact ⟨rfl, m, ⟨(TapeAt.on (TapeAt.on (TapeAt.on hT hB_L1) hb16) hB25), (((hb.on hB_L1).on hb16).on hB25), hgd, hgd0, hXgd⟩, by omega, fun q hq_ hqg hqd => ((hB25.block q (by have := hx q hq_; omega)).trans ((hb16.block q (by have := hx q hq_; omega)).trans (hB_L1.block q (by have := hx q hq_; omega))))⟩
  · have l40 : ¬ (((j : Nat) : Int) < ((rows.length : Nat) : Int)) := of_decide_eq_false cJ
    refine w_exit rfl ?_
    refine w_seq ?_
    refine w_seq ?_
    refine w_region ?_
    refine rw_val (v := .pointer (some ⟨gd, 0, none⟩)) (w' := w_L1) rfl rfl rfl rfl rfl ?_
    refine rw_val (v := .bool false) (w' := w_L1) rfl rfl rfl rfl (run_as (run_ptr_eql (e := 80) (by kernel_rfl) _ _)) ?_
    refine rw_end ?_
    refine w_cond_f rfl rfl rfl ?_
    refine w_skip ?_
    refine w_seq ?_
    refine w_seq ?_
    refine w_region ?_
    refine rw_val (v := .pointer (some ⟨gd, 0, none⟩)) (w' := w_L1) rfl rfl rfl rfl rfl ?_
    refine rw_val (v := .pointer (some ⟨gd, 0, none⟩)) (w' := w_L1) rfl rfl rfl rfl (by simp [go_sem, sEv, sLook, nbeq, i64_w, -List.getD_eq_getElem?_getD]) ?_
    refine rw_val (v := .pointer (some ⟨gd, 0, none⟩)) (w' := w_L1) rfl rfl rfl rfl (by simp [go_sem, sEv, sLook, nbeq, i64_w, -List.getD_eq_getElem?_getD, Try.underlying80]) ?_
    refine rw_val (v := .pointer (some ⟨g, 0, none⟩)) (w' := w_L1) rfl rfl rfl rfl (by have eb_ := (hb.on hB_L1); have e0_ := eb_.cellv (i := 0) (v := (.pointer (some ⟨g, 0, none⟩) : Value)) rfl; simp [go_sem, sEv, sLook, nbeq, i64_w, -List.getD_eq_getElem?_getD, e0_]) ?_
    refine rw_val (v := .slice A5_ ((FC (rows.take j)).length) c5_) (w' := w_L1) rfl rfl rfl rfl rfl ?_
    refine rw_call rfl rfl rfl rfl (f := 37) (args := #[.pointer (some ⟨g, 0, none⟩), .slice A5_ ((FC (rows.take j)).length) c5_]) (by simp [go_sem, sEv, sLook, nbeq, i64_w, -List.getD_eq_getElem?_getD]) (replace_T w0 w_L1 g m x (fun q h_ => by have := hx q h_; omega) D.s (TapeAt.on hT hB_L1) hok A5_ (FC (rows.take j)) c5_ (ownK_kept (S := fun k => k = g) hO5_ (fun q hq h => by omega))) ?_
    rintro e_ w41 ⟨rfl, hT42, hs43, hx44, hq45⟩
    refine ⟨_, rfl, ?_⟩
    have hts_w41 := hT42.size
    have hk_w41 : Blk w41 gd 80 _ := (hx44 gd hXgd hgd).trans ((hb.on hB_L1))
    have hlt_w41 := hk_w41.lt
    refine rw_val (v := errT (D.s.repE (FC (rows.take j)))) (w' := w41) rfl rfl rfl rfl rfl ?_
    refine rw_end ?_
    refine w_weaken (G' := [(0, .pointer (some ⟨gd, 0, none⟩)), (1, .slice A1 rows.length c1), (5, .slice A5_ ((FC (rows.take j)).length) c5_), (10, errT (D.s.repE (FC (rows.take j))))]) ⟨rfl, rfl, rfl, rfl, trivial⟩ ?_
    refine w_seq ?_
    refine w_region ?_
    refine rw_val (v := errT (D.s.repE (FC (rows.take j)))) (w' := w41) rfl rfl rfl rfl rfl ?_
    refine rw_val (v := .bool ((D.s.repE (FC (rows.take j))).isSome)) (w' := w41) rfl rfl rfl rfl (run_as (guard_err_neq _ (D.s.repE (FC (rows.take j))) _)) ?_
    refine rw_end ?_
    refine w_cond rfl rfl (fun cE => ?_) (fun cE => ?_)
    · refine w_seq ?_
      refine w_region ?_
      refine rw_val (v := errT (D.s.repE (FC (rows.take j)))) (w' := w41) rfl rfl rfl rfl rfl ?_
      refine rw_val (v := errT (D.s.repE (FC (rows.take j)))) (w' := w41) rfl rfl rfl rfl rfl ?_
      refine rw_end ?_
      refine w_ret (post_ret1 rfl rfl ?_)
      have ej_ : j = rows.length := by omega
      subst ej_
      have et_ : rows.take rows.length = rows := List.take_length
      have hf_ : rwFull rows = false := rwFull_no (by rw [et_] at hf3; exact hf3) (by rw [et_] at hf4; exact hf4)
      have n_ : ¬ rwFull rows = true := by rw [hf_]; simp
      have hT_ := hT42
      have hb_ := hk_w41
      rw [et_] at cE hT_
      try rw [et_] at hb_
      rw [DS.rwE, DS.rw, if_neg n_, if_neg n_, if_pos cE]
      exact ⟨congrArg (fun z => Ending.returned (errT (D.s.repE (FC z)))) et_, w41.heap.size, ⟨hT_, hb_, hgd, hgd0, hXgd⟩, by omega, fun q hq_ hqg hqd => ((hx44 q hq_ hqg).trans (hB_L1.block q (by have := hx q hq_; omega)))⟩
    · refine w_skip ?_
      refine w_seq ?_
      refine w_region ?_
      refine rw_val (v := .pointer (some ⟨gd, 0, none⟩)) (w' := w41) rfl rfl rfl rfl rfl ?_
      refine rw_val (v := .pointer (some ⟨gd, 0, none⟩)) (w' := w41) rfl rfl rfl rfl rfl ?_
      refine rw_val (v := .slice A1 rows.length c1) (w' := w41) rfl rfl rfl rfl rfl ?_
      refine rw_val (v := .int .i64 ((rows.length : Nat) : Int)) (w' := w41) rfl rfl rfl rfl (by simp [go_sem, sEv, sLook, nbeq, i64_w, -List.getD_eq_getElem?_getD]) ?_
      refine rw_val (v := .slice A5_ ((FC (rows.take j)).length) c5_) (w' := w41) rfl rfl rfl rfl rfl ?_
      refine rw_val (v := .int .i64 (((FC (rows.take j)).length : Nat) : Int)) (w' := w41) rfl rfl rfl rfl (by simp [go_sem, sEv, sLook, nbeq, i64_w, -List.getD_eq_getElem?_getD]) ?_
      refine rw_val (v := .pointer (some ⟨gd, 0, none⟩)) (w' := w41) rfl rfl rfl rfl (by simp [go_sem, sEv, sLook, nbeq, i64_w, -List.getD_eq_getElem?_getD]) ?_
      refine rw_val (v := .pointer (some ⟨gd, 1, none⟩)) (w' := w41) rfl rfl rfl rfl (by simp [go_sem, sEv, sLook, nbeq, i64_w, -List.getD_eq_getElem?_getD, Try.underlying80]) ?_
      have hb50 := hk_w41
      refine rw_store (g := gd) (i := 1) (l := [.int .i64 ((rows.length : Nat) : Int)]) (cs' := #[.pointer (some ⟨g, 0, none⟩), .int .i64 ((rows.length : Nat) : Int), .int .i64 D.b]) rfl rfl rfl hb50 rfl (by have e0_ := hb50.cellv (i := 1) (v := (.int .i64 D.r : Value)) rfl; have f0_ := hb50.frozen 1; simp [go_sem, sEv, sLook, nbeq, i64_w, -List.getD_eq_getElem?_getD, putCells, e0_, f0_]) ?_
      intro w47 hk48 hk49
      have hs_w47 := hk48.size
      refine rw_val (v := .pointer (some ⟨gd, 0, none⟩)) (w' := w47) rfl rfl rfl rfl (by simp [go_sem, sEv, sLook, nbeq, i64_w, -List.getD_eq_getElem?_getD]) ?_
      refine rw_val (v := .pointer (some ⟨gd, 2, none⟩)) (w' := w47) rfl rfl rfl rfl (by simp [go_sem, sEv, sLook, nbeq, i64_w, -List.getD_eq_getElem?_getD, Try.underlying80]) ?_
      have hb54 := hk49
      refine rw_store (g := gd) (i := 2) (l := [.int .i64 (((FC (rows.take j)).length : Nat) : Int)]) (cs' := #[.pointer (some ⟨g, 0, none⟩), .int .i64 ((rows.length : Nat) : Int), .int .i64 (((FC (rows.take j)).length : Nat) : Int)]) rfl rfl rfl hb54 rfl (by have e0_ := hb54.cellv (i := 2) (v := (.int .i64 D.b : Value)) rfl; have f0_ := hb54.frozen 2; simp [go_sem, sEv, sLook, nbeq, i64_w, -List.getD_eq_getElem?_getD, putCells, e0_, f0_]) ?_
      intro w51 hk52 hk53
      have hs_w51 := hk52.size
      refine rw_end ?_
      refine w_weaken (G' := []) trivial ?_
      refine w_seq ?_
      refine w_region ?_
      refine rw_val (v := .nilIface) (w' := w51) rfl rfl rfl rfl rfl ?_
      refine rw_end ?_
      refine w_ret (post_ret1 rfl rfl ?_)
      have ej_ : j = rows.length := by omega
      subst ej_
      have et_ : rows.take rows.length = rows := List.take_length
      have hf_ : rwFull rows = false := rwFull_no (by rw [et_] at hf3; exact hf3) (by rw [et_] at hf4; exact hf4)
      have n_ : ¬ rwFull rows = true := by rw [hf_]; simp
      have hT_ := (TapeAt.beside (TapeAt.beside hT42 hk48 hXgd hgd hgd0) hk52 hXgd hgd hgd0)
      have hb_ := hk53
      rw [et_] at cE hT_
      try rw [et_] at hb_
      have e0_ : D.s.repE (FC rows) = none := by simpa using cE
      rw [DS.rwE, DS.rw, if_neg n_, if_neg n_, if_neg (by rw [cE]; simp), e0_]
      exact ⟨rfl, w41.heap.size, ⟨hT_, hb_, hgd, hgd0, hXgd⟩, by omega, fun q hq_ hqg hqd => ((hk52.block q hqd).trans ((hk48.block q hqd).trans ((hx44 q hq_ hqg).trans (hB_L1.block q (by have := hx q hq_; omega)))))⟩
end Go.Proofs.Ytiiljpaedelhlaa.Tp
namespace Go.Proofs.Ytiiljpaedelhlaa.Tp
open Go.RowKit Go.Proofs.YtiiljpaedelhlaaW.PrintWords Go.Proofs.YtiiljpaedelhlaaW.PrintLast Go.Proofs.YtiiljpaedelhlaaW.PrintMore
open Go.Proofs.Ytiiljpaedelhlaa.Flow
open Go.Proofs.Ytiiljpaedelhlaa.PDiaryPlays (SplitR Bytes frameB frameE FC wholeP errW wrap_calls split_calls frameB_len frameB_bytes wholeP_le)
set_option linter.unusedVariables false
set_option linter.unusedSimpArgs false


theorem splitR_bound {b : List Int} {l : List (List Int)} {n : Nat} (h : SplitR b l n) : n ≤ b.length ∧ l.length ≤ b.length := by
  induction h with
  | none => simp
  | some b l n h0 _ ih =>
    have h1 := wholeP_le b
    rw [List.length_drop] at ih
    rw [List.length_cons]
    omega
set_option maxHeartbeats 4000000 in
theorem down_N (w : World) :
    Calls Try.prog 35 #[.pointer none] w fun e w' => e = .returned (.bool true) ∧ Below w.heap.size w w' := by
  refine calls_flow Try.func35 rfl 11 rfl (Nat.le_of_ble_eq_true rfl) [(0, .pointer none)] ?_ ?_
  · intro t v h; exact args_look rfl t v h
  refine w_seq ?_
  refine w_region ?_
  refine rw_val (v := .bool false) (w' := w) rfl rfl rfl rfl rfl ?_
  refine rw_end ?_
  refine w_seq ?_
  refine w_region ?_
  refine rw_val (v := .pointer none) (w' := w) rfl rfl rfl rfl rfl ?_
  refine rw_val (v := .bool true) (w' := w) rfl rfl rfl rfl (run_as (run_ptr_eql (e := 76) (by kernel_rfl) _ _)) ?_
  refine rw_val (v := .bool true) (w' := w) rfl rfl rfl rfl rfl ?_
  refine rw_off (c := true) rfl rfl rfl rfl rfl rfl ?_
  refine rw_off (c := true) rfl rfl rfl rfl rfl rfl ?_
  refine rw_off (c := true) rfl rfl rfl rfl rfl rfl ?_
  refine rw_off (c := true) rfl rfl rfl rfl rfl rfl ?_
  refine rw_val (v := .bool true) (w' := w) rfl rfl rfl rfl (by simp [go_sem, sEv, sLook, nbeq, i64_w, -List.getD_eq_getElem?_getD]) ?_
  refine rw_val (v := .bool true) (w' := w) rfl rfl rfl rfl rfl ?_
  refine rw_end ?_
  refine w_weaken (G' := [(2, .bool true)]) ⟨rfl, trivial⟩ ?_
  refine w_ret (post_ret1 rfl rfl ?_)
  exact ⟨rfl, (Below.refl _ _)⟩
set_option maxHeartbeats 4000000 in
theorem open_N (w : World) :
    Calls Try.prog 11 #[.pointer none] w fun e w' => e = .returned (.tuple #[.pointer none, .slice none 0 0, errT (some 5)]) ∧ Below w.heap.size w w' := by
  refine calls_flow Try.func11 rfl 38 rfl (Nat.le_of_ble_eq_true rfl) [(0, .pointer none)] ?_ ?_
  · intro t v h; exact args_look rfl t v h
  refine w_seq ?_
  refine w_region ?_
  refine rw_val (v := .pointer none) (w' := w) rfl rfl rfl rfl rfl ?_
  refine rw_val (v := .slice none 0 0) (w' := w) rfl rfl rfl rfl rfl ?_
  refine rw_val (v := .nilIface) (w' := w) rfl rfl rfl rfl rfl ?_
  refine rw_end ?_
  refine w_seq ?_
  refine w_seq ?_
  refine w_region ?_
  refine rw_val (v := .pointer none) (w' := w) rfl rfl rfl rfl rfl ?_
  refine rw_call rfl rfl rfl rfl (f := 35) (args := #[.pointer none]) (by simp [go_sem, sEv, sLook, nbeq, i64_w, -List.getD_eq_getElem?_getD]) (down_N w) ?_
  rintro e_ w1 ⟨rfl, hb2⟩
  refine ⟨_, rfl, ?_⟩
  have hs_w1 := hb2.size
  refine rw_end ?_
  refine w_cond_t rfl rfl rfl ?_
  refine w_seq ?_
  refine w_region ?_
  refine rw_val (v := errT (some 5)) (w' := w1) rfl rfl rfl rfl (by simp [go_sem, sEv, sLook, nbeq, i64_w, -List.getD_eq_getElem?_getD, errT]) ?_
  refine rw_val (v := .pointer none) (w' := w1) rfl rfl rfl rfl rfl ?_
  refine rw_val (v := .slice none 0 0) (w' := w1) rfl rfl rfl rfl rfl ?_
  refine rw_val (v := errT (some 5)) (w' := w1) rfl rfl rfl rfl rfl ?_
  refine rw_end ?_
  refine w_weaken (G' := [(0, .pointer none), (2, .pointer none), (3, .slice none 0 0), (4, errT (some 5))]) ⟨rfl, rfl, rfl, rfl, trivial⟩ ?_
  refine w_ret (post_ret3 rfl rfl rfl rfl ?_)
  exact ⟨rfl, hb2⟩
set_option maxHeartbeats 4000000 in
theorem open_D (w0 w : World) (g m : Nat) (x : Nat → Prop) (hx : ∀ q, x q → q < w.heap.size) (s : TS) (hT : TapeAt w0 w g m x s) (hok : s.Ok) (hby : Bytes s.xs) :
    Calls Try.prog 11 #[.pointer (some ⟨g, 0, none⟩)] w fun e w' => w.heap.size ≤ w'.heap.size ∧ Kept w w' (fun k => k = g) ∧ ((s.dn = true ∧ e = .returned (.tuple #[.pointer none, .slice none 0 0, errT (some 5)]) ∧ ∃ m', TapeAt w0 w' g m' x s) ∨ (s.dn = false ∧ ∃ (out : List (List Int)) (n : Nat), SplitR s.xs out n ∧ ((∃ c, openE s n = some c ∧ e = .returned (.tuple #[.pointer none, .slice none 0 0, errT (some c)]) ∧ ∃ m', TapeAt w0 w' g m' x (openS s n)) ∨ (openE s n = none ∧ ∃ (gd m' : Nat) (A : Option Addr) (c : Nat), e = .returned (.tuple #[.pointer (some ⟨gd, 0, none⟩), .slice A out.length c, errT none]) ∧ DiaryAt w0 w' g gd m' (HX gd x) ⟨openS s n, (out.length : Int), (n : Int)⟩ ∧ OwnK (Kd.slice 5 (Kd.int .u8)) 32 w' w.heap.size w.heap.size A out.length c out)))) := by
  have hts_ := hT.size
  have hln_ := hok.len
  refine calls_flow Try.func11 rfl 38 rfl (Nat.le_of_ble_eq_true rfl) [(0, .pointer (some ⟨g, 0, none⟩))] ?_ ?_
  · intro t v h; exact args_look rfl t v h
  refine w_seq ?_
  refine w_region ?_
  refine rw_val (v := .pointer none) (w' := w) rfl rfl rfl rfl rfl ?_
  refine rw_val (v := .slice none 0 0) (w' := w) rfl rfl rfl rfl rfl ?_
  refine rw_val (v := .nilIface) (w' := w) rfl rfl rfl rfl rfl ?_
  refine rw_end ?_
  refine w_seq ?_
  refine w_seq ?_
  refine w_region ?_
  refine rw_val (v := .pointer (some ⟨g, 0, none⟩)) (w' := w) rfl rfl rfl rfl rfl ?_
  refine rw_call rfl rfl rfl rfl (f := 35) (args := #[.pointer (some ⟨g, 0, none⟩)]) (by simp [go_sem, sEv, sLook, nbeq, i64_w, -List.getD_eq_getElem?_getD]) (down_T w0 w g m x (fun q h_ => by have := hx q h_; omega) s hT hok) ?_
  rintro e_ w1 ⟨rfl, rfl⟩
  refine ⟨_, rfl, ?_⟩
  refine rw_end ?_
  refine w_cond rfl rfl (fun cD => ?_) (fun cD => ?_)
  · refine w_seq ?_
    refine w_region ?_
    refine rw_val (v := errT (some 5)) (w' := w) rfl rfl rfl rfl (by simp [go_sem, sEv, sLook, nbeq, i64_w, -List.getD_eq_getElem?_getD, errT]) ?_
    refine rw_val (v := .pointer none) (w' := w) rfl rfl rfl rfl rfl ?_
    refine rw_val (v := .slice none 0 0) (w' := w) rfl rfl rfl rfl rfl ?_
    refine rw_val (v := errT (some 5)) (w' := w) rfl rfl rfl rfl rfl ?_
    refine rw_end ?_
    refine w_weaken (G' := [(0, .pointer (some ⟨g, 0, none⟩)), (2, .pointer none), (3, .slice none 0 0), (4, errT (some 5))]) ⟨rfl, rfl, rfl, rfl, trivial⟩ ?_
    refine w_ret (post_ret3 rfl rfl rfl rfl ?_)
    exact ⟨by omega, (Kept.of_below (Below.refl _ _) (fun k => k = g)), .inl ⟨cD, rfl, m, hT⟩⟩
  · refine w_skip ?_
    refine w_seq ?_
    refine w_region ?_
    refine rw_val (v := .pointer (some ⟨g, 0, none⟩)) (w' := w) rfl rfl rfl rfl rfl ?_
    refine rw_call rfl rfl rfl rfl (f := 17) (args := #[.pointer (some ⟨g, 0, none⟩)]) (by simp [go_sem, sEv, sLook, nbeq, i64_w, -List.getD_eq_getElem?_getD]) (read_T w0 w g m x (fun q h_ => by have := hx q h_; omega) s hT hok) ?_
    rintro e_ w5 ⟨A2, n3, c4, rfl, hO6, hB7⟩
    refine ⟨_, rfl, ?_⟩
    have hl8 := Own.len hO6
    subst hl8
    have hs_w5 := hB7.size
    have hL9 : OwnK (Kd.int .u8) 5 w5 w.heap.size w.heap.size A2 s.xs.length c4 s.xs := OwnK.lower hO6 (by omega)
    refine rw_val (v := .slice A2 s.xs.length c4) (w' := w5) rfl rfl rfl rfl rfl ?_
    refine rw_end ?_
    refine w_seq ?_
    refine w_region ?_
    refine rw_val (v := .slice A2 s.xs.length c4) (w' := w5) rfl rfl rfl rfl rfl ?_
    refine rw_call rfl rfl rfl rfl (f := 36) (args := #[.slice A2 s.xs.length c4]) (by simp [go_sem, sEv, sLook, nbeq, i64_w, -List.getD_eq_getElem?_getD]) (split_calls w5 A2 c4 s.xs (Kd.C_below (OwnK.C (d := (Kd.int .u8)) hL9) (Below.refl _ _)) (OwnK.cap (d := (Kd.int .u8)) hL9) hby (by omega)) ?_
    rintro e_ w14 ⟨out10, n11, A12, c13, rfl, hS15, hR16, hB17⟩
    refine ⟨_, rfl, ?_⟩
    have hs_w14 := hB17.size
    have hsp_ := splitR_bound hS15
    have hL18 : OwnK (Kd.slice 5 (Kd.int .u8)) 32 w14 w.heap.size w5.heap.size A12 out10.length c13 out10 := OwnK.lower hR16 (by omega)
    refine rw_val (v := .tuple #[.slice A12 out10.length c13, .int .i64 ((n11 : Nat) : Int)]) (w' := w14) rfl rfl rfl rfl rfl ?_
    refine rw_val (v := .slice A12 out10.length c13) (w' := w14) rfl rfl rfl rfl (by simp [go_sem, sEv, sLook, nbeq, i64_w, -List.getD_eq_getElem?_getD]) ?_
    refine rw_val (v := .int .i64 ((n11 : Nat) : Int)) (w' := w14) rfl rfl rfl rfl (by simp [go_sem, sEv, sLook, nbeq, i64_w, -List.getD_eq_getElem?_getD]) ?_
    refine rw_val (v := .slice A12 out10.length c13) (w' := w14) rfl rfl rfl rfl rfl ?_
    refine rw_val (v := .int .i64 ((n11 : Nat) : Int)) (w' := w14) rfl rfl rfl rfl rfl ?_
    refine rw_end ?_
    refine w_weaken (G' := [(0, .pointer (some ⟨g, 0, none⟩)), (2, .pointer none), (3, .slice none 0 0), (4, .nilIface), (5, .slice A2 s.xs.length c4), (6, .slice A12 out10.length c13), (7, .int .i64 ((n11 : Nat) : Int))]) ⟨rfl, rfl, rfl, rfl, rfl, rfl, rfl, trivial⟩ ?_
    refine w_seq ?_
    refine w_seq ?_
    refine w_region ?_
    refine rw_val (v := .int .i64 ((n11 : Nat) : Int)) (w' := w14) rfl rfl rfl rfl rfl ?_
    refine rw_val (v := .slice A2 s.xs.length c4) (w' := w14) rfl rfl rfl rfl rfl ?_
    refine rw_val (v := .int .i64 ((s.xs.length : Nat) : Int)) (w' := w14) rfl rfl rfl rfl (by simp [go_sem, sEv, sLook, nbeq, i64_w, -List.getD_eq_getElem?_getD]) ?_
    refine rw_val (v := .bool (decide (((n11 : Nat) : Int) < ((s.xs.length : Nat) : Int)))) (w' := w14) rfl rfl rfl rfl (by simp [go_sem, sEv, sLook, nbeq, i64_w, -List.getD_eq_getElem?_getD]) ?_
    refine rw_end ?_
    refine w_weaken (G' := [(0, .pointer (some ⟨g, 0, none⟩)), (2, .pointer none), (3, .slice none 0 0), (4, .nilIface), (5, .slice A2 s.xs.length c4), (6, .slice A12 out10.length c13), (7, .int .i64 ((n11 : Nat) : Int)), (22, .bool (decide (((n11 : Nat) : Int) < ((s.xs.length : Nat) : Int))))]) ⟨rfl, rfl, rfl, rfl, rfl, rfl, rfl, rfl, trivial⟩ ?_
    refine w_cond rfl rfl (fun cL => ?_) (fun cL => ?_)
    · have l19 : (((n11 : Nat) : Int) < ((s.xs.length : Nat) : Int)) := of_decide_eq_true cL
      refine w_seq ?_
      refine w_region ?_
      refine rw_val (v := .pointer (some ⟨g, 0, none⟩)) (w' := w14) rfl rfl rfl rfl rfl ?_
      refine rw_val (v := .slice A2 s.xs.length c4) (w' := w14) rfl rfl rfl rfl rfl ?_
      refine rw_val (v := .int .i64 ((n11 : Nat) : Int)) (w' := w14) rfl rfl rfl rfl rfl ?_
      have hP20 : (Kd.int .u8).C w14 A2 (s.xs.take n11).length (s.xs.take n11) := Kd.C_take (Kd.C_below (OwnK.C (d := (Kd.int .u8)) hL9) hB17) (by omega)
      have hP20_ : (s.xs.take n11).length = n11 := by rw [List.length_take]; omega
      refine rw_val (v := .slice A2 ((s.xs.take n11).length) c4) (w' := w14) rfl rfl rfl rfl (by rw [hP20_]; exact run_as (sl_to (sz := 1) (e := 5) (by kernel_rfl) (fun _ => by kernel_rfl) n11 _ (by first | rfl | (simp; done) | omega) (by have q_ := OwnK.cap (d := (Kd.int .u8)) hL9; omega) _)) ?_
      refine rw_call rfl rfl rfl rfl (f := 37) (args := #[.pointer (some ⟨g, 0, none⟩), .slice A2 ((s.xs.take n11).length) c4]) (by simp [go_sem, sEv, sLook, nbeq, i64_w, -List.getD_eq_getElem?_getD]) (replace_T w0 w14 g m x (fun q h_ => by have := hx q h_; omega) s (TapeAt.on (TapeAt.on hT hB7) hB17) hok A2 (s.xs.take n11) c4 (fun W_ hk_ => Kd.C_take (ownK_kept (S := fun k => k = g) (OwnK.on (d := (Kd.int .u8)) hL9 hB17) (fun q hq h => by omega) W_ hk_) (by omega))) ?_
      rintro e_ w21 ⟨rfl, hT22, hs23, hx24, hq25⟩
      refine ⟨_, rfl, ?_⟩
      have hts_w21 := hT22.size
      have hO27 : OwnK (Kd.slice 5 (Kd.int .u8)) 32 w21 w.heap.size w5.heap.size A12 out10.length c13 out10 := OwnK.step (d := (Kd.slice 5 (Kd.int .u8))) hL18 (fun q hq_ hlt_ => hq25.2 q hlt_ (fun e_ => by omega))
      refine rw_val (v := errT (s.repE (s.xs.take n11))) (w' := w21) rfl rfl rfl rfl rfl ?_
      refine rw_end ?_
      refine w_weaken (G' := [(0, .pointer (some ⟨g, 0, none⟩)), (2, .pointer none), (3, .slice none 0 0), (4, .nilIface), (6, .slice A12 out10.length c13), (7, .int .i64 ((n11 : Nat) : Int)), (8, errT (s.repE (s.xs.take n11)))]) ⟨rfl, rfl, rfl, rfl, rfl, rfl, rfl, trivial⟩ ?_
      refine w_seq ?_
      refine w_region ?_
      refine rw_val (v := errT (s.repE (s.xs.take n11))) (w' := w21) rfl rfl rfl rfl rfl ?_
      refine rw_val (v := .bool ((s.repE (s.xs.take n11)).isSome)) (w' := w21) rfl rfl rfl rfl (run_as (guard_err_neq _ (s.repE (s.xs.take n11)) _)) ?_
      refine rw_end ?_
      refine w_cond rfl rfl (fun cE => ?_) (fun cE => ?_)
      · refine w_seq ?_
        refine w_region ?_
        refine rw_val (v := errT (s.repE (s.xs.take n11))) (w' := w21) rfl rfl rfl rfl rfl ?_
        refine rw_val (v := .pointer none) (w' := w21) rfl rfl rfl rfl rfl ?_
        refine rw_val (v := .slice none 0 0) (w' := w21) rfl rfl rfl rfl rfl ?_
        refine rw_val (v := errT (s.repE (s.xs.take n11))) (w' := w21) rfl rfl rfl rfl rfl ?_
        refine rw_end ?_
        refine w_weaken (G' := [(0, .pointer (some ⟨g, 0, none⟩)), (2, .pointer none), (3, .slice none 0 0), (4, errT (s.repE (s.xs.take n11))), (6, .slice A12 out10.length c13), (7, .int .i64 ((n11 : Nat) : Int))]) ⟨rfl, rfl, rfl, rfl, rfl, rfl, trivial⟩ ?_
        refine w_ret (post_ret3 rfl rfl rfl rfl ?_)
        have nd_ : ¬ s.dn = true := by rw [cD]; simp
        refine ⟨by omega, (Kept.then_ (Kept.of_below (chain hB7 hB17) (fun k => k = g)) hq25 (fun _ h => .inl h)), .inr ⟨cD, out10, n11, hS15, ?_⟩⟩
        have eE_ : openE s n11 = s.repE (s.xs.take n11) := by rw [openE, if_neg nd_, if_pos (by omega)]
        have eS_ : openS s n11 = s.rep (s.xs.take n11) := by rw [openS, if_neg nd_, if_pos (by omega)]
        rw [eE_, eS_]
        obtain ⟨c_, hc_⟩ := Option.isSome_iff_exists.1 cE
        exact .inl ⟨c_, hc_, by rw [← hc_], _, hT22⟩
      · refine w_skip ?_
        refine w_seq ?_
        refine w_region ?_
        refine rw_val (v := .pointer (some ⟨g, 0, none⟩)) (w' := w21) rfl rfl rfl rfl rfl ?_
        refine rw_val (v := .slice A12 out10.length c13) (w' := w21) rfl rfl rfl rfl rfl ?_
        refine rw_val (v := .int .i64 ((out10.length : Nat) : Int)) (w' := w21) rfl rfl rfl rfl (by simp [go_sem, sEv, sLook, nbeq, i64_w, -List.getD_eq_getElem?_getD]) ?_
        refine rw_val (v := .int .i64 ((n11 : Nat) : Int)) (w' := w21) rfl rfl rfl rfl rfl ?_
        refine rw_val (v := .agg #[.pointer (some ⟨g, 0, none⟩), .int .i64 ((out10.length : Nat) : Int), .int .i64 ((n11 : Nat) : Int)]) (w' := w21) rfl rfl rfl rfl (by kernel_rfl) ?_
        refine rw_new (cs := #[.pointer (some ⟨g, 0, none⟩), .int .i64 ((out10.length : Nat) : Int), .int .i64 ((n11 : Nat) : Int)]) (t := 80) (fun g => .pointer (some ⟨g, 0, none⟩)) rfl rfl rfl rfl (by simp [go_sem, sEv, sLook, nbeq, i64_w, -List.getD_eq_getElem?_getD]) ?_
        intro g28 w29 hg33 hz32 hb30 hk31
        have hs_w29 := hb30.size
        refine rw_val (v := .slice A12 out10.length c13) (w' := w29) rfl rfl rfl rfl rfl ?_
        refine rw_val (v := .pointer (some ⟨g28, 0, none⟩)) (w' := w29) rfl rfl rfl rfl rfl ?_
        refine rw_val (v := .slice A12 out10.length c13) (w' := w29) rfl rfl rfl rfl rfl ?_
        refine rw_val (v := .nilIface) (w' := w29) rfl rfl rfl rfl rfl ?_
        refine rw_end ?_
        refine w_weaken (G' := [(2, .pointer (some ⟨g28, 0, none⟩)), (3, .slice A12 out10.length c13), (4, .nilIface)]) ⟨rfl, rfl, rfl, trivial⟩ ?_
        refine w_ret (post_ret3 rfl rfl rfl rfl ?_)
        have nd_ : ¬ s.dn = true := by rw [cD]; simp
        refine ⟨by omega, (Kept.below (Kept.then_ (Kept.of_below (chain hB7 hB17) (fun k => k = g)) hq25 (fun _ h => .inl h)) hb30), .inr ⟨cD, out10, n11, hS15, ?_⟩⟩
        have eE_ : openE s n11 = s.repE (s.xs.take n11) := by rw [openE, if_neg nd_, if_pos (by omega)]
        have eS_ : openS s n11 = s.rep (s.xs.take n11) := by rw [openS, if_neg nd_, if_pos (by omega)]
        rw [eE_, eS_]
        have hT_ := TapeAt.holeX (TapeAt.on hT22 hb30) (gd := g28) (by omega)
        have hz_ := hT_.size
        refine .inr ⟨by simpa using cE, g28, _, A12, c13, rfl, ⟨hT_, hk31, by omega, by omega, .inl rfl⟩, OwnK.mono (d := (Kd.slice 5 (Kd.int .u8))) (OwnK.on (d := (Kd.slice 5 (Kd.int .u8))) hO27 hb30) (by omega)⟩
    · have l34 : ¬ (((n11 : Nat) : Int) < ((s.xs.length : Nat) : Int)) := of_decide_eq_false cL
      refine w_skip ?_
      refine w_seq ?_
      refine w_region ?_
      refine rw_val (v := .pointer (some ⟨g, 0, none⟩)) (w' := w14) rfl rfl rfl rfl rfl ?_
      refine rw_val (v := .slice A12 out10.length c13) (w' := w14) rfl rfl rfl rfl rfl ?_
      refine rw_val (v := .int .i64 ((out10.length : Nat) : Int)) (w' := w14) rfl rfl rfl rfl (by simp [go_sem, sEv, sLook, nbeq, i64_w, -List.getD_eq_getElem?_getD]) ?_
      refine rw_val (v := .int .i64 ((n11 : Nat) : Int)) (w' := w14) rfl rfl rfl rfl rfl ?_
      refine rw_val (v := .agg #[.pointer (some ⟨g, 0, none⟩), .int .i64 ((out10.length : Nat) : Int), .int .i64 ((n11 : Nat) : Int)]) (w' := w14) rfl rfl rfl rfl (by kernel_rfl) ?_
      refine rw_new (cs := #[.pointer (some ⟨g, 0, none⟩), .int .i64 ((out10.length : Nat) : Int), .int .i64 ((n11 : Nat) : Int)]) (t := 80) (fun g => .pointer (some ⟨g, 0, none⟩)) rfl rfl rfl rfl (by simp [go_sem, sEv, sLook, nbeq, i64_w, -List.getD_eq_getElem?_getD]) ?_
      intro g35 w36 hg40 hz39 hb37 hk38
      have hs_w36 := hb37.size
      refine rw_val (v := .slice A12 out10.length c13) (w' := w36) rfl rfl rfl rfl rfl ?_
      refine rw_val (v := .pointer (some ⟨g35, 0, none⟩)) (w' := w36) rfl rfl rfl rfl rfl ?_
      refine rw_val (v := .slice A12 out10.length c13) (w' := w36) rfl rfl rfl rfl rfl ?_
      refine rw_val (v := .nilIface) (w' := w36) rfl rfl rfl rfl rfl ?_
      refine rw_end ?_
      refine w_weaken (G' := [(2, .pointer (some ⟨g35, 0, none⟩)), (3, .slice A12 out10.length c13), (4, .nilIface)]) ⟨rfl, rfl, rfl, trivial⟩ ?_
      refine w_ret (post_ret3 rfl rfl rfl rfl ?_)
      have nd_ : ¬ s.dn = true := by rw [cD]; simp
      refine ⟨by omega, (Kept.of_below (chain (chain hB7 hB17) hb37) (fun k => k = g)), .inr ⟨cD, out10, n11, hS15, ?_⟩⟩
      have eE_ : openE s n11 = none := by rw [openE, if_neg nd_, if_neg (by omega)]
      have eS_ : openS s n11 = s := by rw [openS, if_neg nd_, if_neg (by omega)]
      rw [eE_, eS_]
      have hT_ := TapeAt.holeX (TapeAt.on (TapeAt.on (TapeAt.on hT hB7) hB17) hb37) (gd := g35) (by omega)
      have hz_ := hT_.size
      refine .inr ⟨rfl, g35, _, A12, c13, rfl, ⟨hT_, hk38, by omega, by omega, .inl rfl⟩, OwnK.mono (d := (Kd.slice 5 (Kd.int .u8))) (OwnK.on (d := (Kd.slice 5 (Kd.int .u8))) hL18 hb37) (by omega)⟩
end Go.Proofs.Ytiiljpaedelhlaa.Tp
