/- A diary's methods: the walks. -/
import Derived.Test.YtiiljpaedelhlaaDyBase
namespace Go.Proofs.Ytiiljpaedelhlaa.Tp
open Go.RowKit Go.Proofs.YtiiljpaedelhlaaW.PrintWords Go.Proofs.YtiiljpaedelhlaaW.PrintLast Go.Proofs.YtiiljpaedelhlaaW.PrintMore
open Go.Proofs.Ytiiljpaedelhlaa.Flow
open Go.Proofs.Ytiiljpaedelhlaa.PDiaryPlays (SplitR Bytes frameB frameE FC wholeP errW wrap_calls split_calls frameB_len frameB_bytes)
set_option linter.unusedVariables false
set_option linter.unusedSimpArgs false

set_option maxHeartbeats 4000000 in
theorem len_B (w : World) (g gd : Nat) (r b : Int) (hb : Blk w gd 80 (dcells g r b)) :
    Calls Try.prog 15 #[.pointer (some ⟨gd, 0, none⟩)] w fun e w' => e = .returned (.int .i64 r) ∧ Below w.heap.size w w' := by
  refine calls_flow Try.func15 rfl 9 rfl (Nat.le_of_ble_eq_true rfl) [(0, .pointer (some ⟨gd, 0, none⟩))] ?_ ?_
  · intro t v h; exact args_look rfl t v h
  refine w_seq ?_
  refine w_region ?_
  refine rw_val (v := .int .i64 0) (w' := w) rfl rfl rfl rfl rfl ?_
  refine rw_end ?_
  refine w_seq ?_
  refine w_seq ?_
  refine w_region ?_
  refine rw_val (v := .pointer (some ⟨gd, 0, none⟩)) (w' := w) rfl rfl rfl rfl rfl ?_
  refine rw_val (v := .bool false) (w' := w) rfl rfl rfl rfl (run_as (run_ptr_eql (e := 80) (by kernel_rfl) _ _)) ?_
  refine rw_end ?_
  refine w_cond_f rfl rfl rfl ?_
  refine w_skip ?_
  refine w_seq ?_
  refine w_region ?_
  refine rw_val (v := .pointer (some ⟨gd, 0, none⟩)) (w' := w) rfl rfl rfl rfl rfl ?_
  refine rw_val (v := .pointer (some ⟨gd, 0, none⟩)) (w' := w) rfl rfl rfl rfl (by simp [go_sem, sEv, sLook, nbeq, i64_w, -List.getD_eq_getElem?_getD]) ?_
  refine rw_val (v := .pointer (some ⟨gd, 1, none⟩)) (w' := w) rfl rfl rfl rfl (by simp [go_sem, sEv, sLook, nbeq, i64_w, -List.getD_eq_getElem?_getD, Try.underlying80]) ?_
  refine rw_val (v := .int .i64 r) (w' := w) rfl rfl rfl rfl (by have eb_ := hb; have e0_ := eb_.cellv (i := 1) (v := (.int .i64 r : Value)) rfl; simp [go_sem, sEv, sLook, nbeq, i64_w, -List.getD_eq_getElem?_getD, e0_]) ?_
  refine rw_val (v := .int .i64 r) (w' := w) rfl rfl rfl rfl rfl ?_
  refine rw_end ?_
  refine w_weaken (G' := [(2, .int .i64 r)]) ⟨rfl, trivial⟩ ?_
  refine w_ret (post_ret1 rfl rfl ?_)
  exact ⟨rfl, (Below.refl _ _)⟩
set_option maxHeartbeats 4000000 in
theorem len_N (w : World) :
    Calls Try.prog 15 #[.pointer none] w fun e w' => e = .returned (.int .i64 0) ∧ Below w.heap.size w w' := by
  refine calls_flow Try.func15 rfl 9 rfl (Nat.le_of_ble_eq_true rfl) [(0, .pointer none)] ?_ ?_
  · intro t v h; exact args_look rfl t v h
  refine w_seq ?_
  refine w_region ?_
  refine rw_val (v := .int .i64 0) (w' := w) rfl rfl rfl rfl rfl ?_
  refine rw_end ?_
  refine w_seq ?_
  refine w_seq ?_
  refine w_region ?_
  refine rw_val (v := .pointer none) (w' := w) rfl rfl rfl rfl rfl ?_
  refine rw_val (v := .bool true) (w' := w) rfl rfl rfl rfl (run_as (run_ptr_eql (e := 80) (by kernel_rfl) _ _)) ?_
  refine rw_end ?_
  refine w_cond_t rfl rfl rfl ?_
  refine w_seq ?_
  refine w_region ?_
  refine rw_val (v := .int .i64 0) (w' := w) rfl rfl rfl rfl rfl ?_
  refine rw_end ?_
  refine w_ret (post_ret1 rfl rfl ?_)
  exact ⟨rfl, (Below.refl _ _)⟩
set_option maxHeartbeats 4000000 in
theorem bytes_B (w : World) (g gd : Nat) (r b : Int) (hb : Blk w gd 80 (dcells g r b)) :
    Calls Try.prog 16 #[.pointer (some ⟨gd, 0, none⟩)] w fun e w' => e = .returned (.int .i64 b) ∧ Below w.heap.size w w' := by
  refine calls_flow Try.func16 rfl 9 rfl (Nat.le_of_ble_eq_true rfl) [(0, .pointer (some ⟨gd, 0, none⟩))] ?_ ?_
  · intro t v h; exact args_look rfl t v h
  refine w_seq ?_
  refine w_region ?_
  refine rw_val (v := .int .i64 0) (w' := w) rfl rfl rfl rfl rfl ?_
  refine rw_end ?_
  refine w_seq ?_
  refine w_seq ?_
  refine w_region ?_
  refine rw_val (v := .pointer (some ⟨gd, 0, none⟩)) (w' := w) rfl rfl rfl rfl rfl ?_
  refine rw_val (v := .bool false) (w' := w) rfl rfl rfl rfl (run_as (run_ptr_eql (e := 80) (by kernel_rfl) _ _)) ?_
  refine rw_end ?_
  refine w_cond_f rfl rfl rfl ?_
  refine w_skip ?_
  refine w_seq ?_
  refine w_region ?_
  refine rw_val (v := .pointer (some ⟨gd, 0, none⟩)) (w' := w) rfl rfl rfl rfl rfl ?_
  refine rw_val (v := .pointer (some ⟨gd, 0, none⟩)) (w' := w) rfl rfl rfl rfl (by simp [go_sem, sEv, sLook, nbeq, i64_w, -List.getD_eq_getElem?_getD]) ?_
  refine rw_val (v := .pointer (some ⟨gd, 2, none⟩)) (w' := w) rfl rfl rfl rfl (by simp [go_sem, sEv, sLook, nbeq, i64_w, -List.getD_eq_getElem?_getD, Try.underlying80]) ?_
  refine rw_val (v := .int .i64 b) (w' := w) rfl rfl rfl rfl (by have eb_ := hb; have e0_ := eb_.cellv (i := 2) (v := (.int .i64 b : Value)) rfl; simp [go_sem, sEv, sLook, nbeq, i64_w, -List.getD_eq_getElem?_getD, e0_]) ?_
  refine rw_val (v := .int .i64 b) (w' := w) rfl rfl rfl rfl rfl ?_
  refine rw_end ?_
  refine w_weaken (G' := [(2, .int .i64 b)]) ⟨rfl, trivial⟩ ?_
  refine w_ret (post_ret1 rfl rfl ?_)
  exact ⟨rfl, (Below.refl _ _)⟩
set_option maxHeartbeats 4000000 in
theorem bytes_N (w : World) :
    Calls Try.prog 16 #[.pointer none] w fun e w' => e = .returned (.int .i64 0) ∧ Below w.heap.size w w' := by
  refine calls_flow Try.func16 rfl 9 rfl (Nat.le_of_ble_eq_true rfl) [(0, .pointer none)] ?_ ?_
  · intro t v h; exact args_look rfl t v h
  refine w_seq ?_
  refine w_region ?_
  refine rw_val (v := .int .i64 0) (w' := w) rfl rfl rfl rfl rfl ?_
  refine rw_end ?_
  refine w_seq ?_
  refine w_seq ?_
  refine w_region ?_
  refine rw_val (v := .pointer none) (w' := w) rfl rfl rfl rfl rfl ?_
  refine rw_val (v := .bool true) (w' := w) rfl rfl rfl rfl (run_as (run_ptr_eql (e := 80) (by kernel_rfl) _ _)) ?_
  refine rw_end ?_
  refine w_cond_t rfl rfl rfl ?_
  refine w_seq ?_
  refine w_region ?_
  refine rw_val (v := .int .i64 0) (w' := w) rfl rfl rfl rfl rfl ?_
  refine rw_end ?_
  refine w_ret (post_ret1 rfl rfl ?_)
  exact ⟨rfl, (Below.refl _ _)⟩

theorem sync_ok {s : TS} (h : s.Ok) (h9 : s.steps ≤ 999999999) : s.sync.Ok ∧ s.sync.steps ≤ s.steps + 1 := by
  obtain ⟨a, b, c, d, e⟩ := h
  have p1 := duel_ok s.ps s.pl b
  have p2 := duel_ok s.fs s.fl c
  unfold TS.sync TS.next
  split <;> split <;> (try split) <;> (try split) <;> exact ⟨⟨by (try simp only); omega, by first | exact b | exact p1, by first | exact c | exact p2 | ((try simp only); omega), by (try simp only); omega, e⟩, by (try simp only); omega⟩
theorem next_ok {s : TS} (h : s.Ok) (h9 : s.steps ≤ 999999999) : s.next.Ok ∧ s.next.steps ≤ s.steps + 1 := by
  obtain ⟨a, b, c, d, e⟩ := h
  have p1 := duel_ok s.ps s.pl b
  have p2 := duel_ok s.fs s.fl c
  unfold TS.next
  split <;> (try split) <;> (try split) <;> exact ⟨⟨by (try simp only); omega, by first | exact b | exact p1, by first | exact c | exact p2 | ((try simp only); omega), by (try simp only); omega, e⟩, by (try simp only); omega⟩
theorem app_ok {s : TS} (ys : List Int) (h : s.Ok) (h9 : s.steps ≤ 999999999) : (s.app ys).Ok ∧ (s.app ys).steps ≤ s.steps + 1 := by
  have hn := next_ok h h9
  obtain ⟨⟨a, b, c, d, e⟩, f⟩ := hn
  have e1 := s.next_xs
  have e2 := s.next_sure
  have h4 := h.sure
  have h5 := h.len
  unfold TS.app
  split
  · exact ⟨h, by omega⟩
  · split
    · exact ⟨⟨a, b, c, d, e⟩, f⟩
    · exact ⟨⟨a, b, c, by simp only [List.length_append]; omega, by simp only [List.length_append]; omega⟩, f⟩
theorem rep_ok {s : TS} (ys : List Int) (h : s.Ok) (h9 : s.steps ≤ 999999999) : (s.rep ys).Ok ∧ (s.rep ys).steps ≤ s.steps + 1 := by
  have hn := next_ok h h9
  obtain ⟨⟨a, b, c, d, e⟩, f⟩ := hn
  unfold TS.rep
  split
  · exact ⟨h, by omega⟩
  · split
    · exact ⟨⟨a, b, c, d, e⟩, f⟩
    · exact ⟨⟨a, b, c, by (try simp only); omega, by (try simp only); omega⟩, f⟩

theorem append_one (w0 w : World) (g m x : Nat) (hx : x < w.heap.size) (s : TS) (hT : TapeAt w0 w g m x s) (hok : s.Ok) (P0 : Option Addr) (p : List Int) (pc : Nat) (hP : ∀ W_, Kept w W_ (fun k => k = g ∨ (g < k ∧ k < m ∧ k ≠ x)) → (Kd.slice 5 (Kd.int .u8)).C W_ P0 [p].length [p]) (hl : p.length ≤ 140737488355328) : Calls Try.prog 39 #[.pointer (some ⟨g, 0, none⟩), .slice P0 1 pc] w fun e w' => e = .returned (errT (s.appE p)) ∧ TapeAt w0 w' g w'.heap.size x (s.app p) ∧ w.heap.size ≤ w'.heap.size ∧ (x ≠ g → w'.heap[x]? = w.heap[x]?) := by
  have h := append_T w0 w g m x hx s hT hok P0 [p] pc hP (by simp) (by intro q hq; rw [List.mem_singleton.1 hq]; exact hl)
  have e1 : ([p] : List (List Int)).flatten = p := by simp
  rw [e1] at h
  exact h
theorem frameB_short (row : List Int) : (frameB row).length ≤ 16384 := by
  by_cases h : row.length ≤ 16376
  · rw [frameB_len row h]; omega
  · unfold frameB
    rw [if_pos (by omega)]
    simp
set_option maxHeartbeats 4000000 in
theorem add_D (w0 w : World) (g gd m : Nat) (D : DS) (hD : DiaryAt w0 w g gd m D) (hok : D.s.Ok) (h9 : D.s.steps ≤ 999999990) (hr0 : -1000000000 ≤ D.r ∧ D.r ≤ 1000000000) (hb0 : -1000000000 ≤ D.b ∧ D.b ≤ 1000000000) (A1 : Option Addr) (c1 : Nat) (row : List Int) (hr : (Kd.int .u8).C w A1 row.length row) (hc1 : row.length ≤ c1) (hl : row.length ≤ 140737488355328) :
    Calls Try.prog 12 #[.pointer (some ⟨gd, 0, none⟩), .slice A1 row.length c1] w fun e w' => e = .returned (errT (D.addE row)) ∧ ∃ m', DiaryAt w0 w' g gd m' (D.add row) ∧ w.heap.size ≤ w'.heap.size := by
  obtain ⟨hT, hb, hgd, hgd0⟩ := hD
  have hts_ := hT.size
  have hlt_ := hb.lt
  have hfs_ := frameB_short row
  refine calls_flow Try.func12 rfl 57 rfl (Nat.le_of_ble_eq_true rfl) [(0, .pointer (some ⟨gd, 0, none⟩)), (1, .slice A1 row.length c1)] ?_ ?_
  · intro t v h; exact args_look rfl t v h
  refine w_seq ?_
  refine w_region ?_
  refine rw_val (v := .nilIface) (w' := w) rfl rfl rfl rfl rfl ?_
  refine rw_end ?_
  refine w_seq ?_
  refine w_region ?_
  refine rw_val (v := .slice A1 row.length c1) (w' := w) rfl rfl rfl rfl rfl ?_
  refine rw_new (cs := #[.slice A1 row.length c1]) (t := 32) (fun g => .slice (some ⟨g, 0, none⟩) 1 1) rfl rfl rfl rfl (by kernel_rfl) ?_
  intro g1 w2 hg6 hz5 hb3 hk4
  have hs_w2 := hb3.size
  have hP7 : (Kd.slice 5 (Kd.int .u8)).C w2 (some ⟨g1, 0, none⟩) [row].length [row] := rows1 hk4 hc1 (Kd.C_below hr hb3)
  refine rw_call rfl rfl rfl rfl (f := 38) (args := #[.slice (some ⟨g1, 0, none⟩) 1 1]) (by simp [go_sem, sEv, sLook, nbeq, i64_w, -List.getD_eq_getElem?_getD]) (wrap_one w2 (some ⟨g1, 0, none⟩) 1 row (Kd.C_below hP7 (Below.refl _ _)) (by omega) (by omega)) ?_
  rintro e_ w10 ⟨A8, c9, rfl, hO11, hB12⟩
  refine ⟨_, rfl, ?_⟩
  have hs_w10 := hB12.size
  refine rw_val (v := .tuple #[.slice A8 ((frameB row).length) c9, errT (frameE row)]) (w' := w10) rfl rfl rfl rfl rfl ?_
  refine rw_val (v := .slice A8 ((frameB row).length) c9) (w' := w10) rfl rfl rfl rfl (by simp [go_sem, sEv, sLook, nbeq, i64_w, -List.getD_eq_getElem?_getD]) ?_
  refine rw_val (v := errT (frameE row)) (w' := w10) rfl rfl rfl rfl (by simp [go_sem, sEv, sLook, nbeq, i64_w, -List.getD_eq_getElem?_getD]) ?_
  refine rw_val (v := .slice A8 ((frameB row).length) c9) (w' := w10) rfl rfl rfl rfl rfl ?_
  refine rw_val (v := errT (frameE row)) (w' := w10) rfl rfl rfl rfl rfl ?_
  refine rw_end ?_
  refine w_weaken (G' := [(0, .pointer (some ⟨gd, 0, none⟩)), (4, .nilIface), (5, .slice A8 ((frameB row).length) c9), (6, errT (frameE row))]) ⟨rfl, rfl, rfl, rfl, trivial⟩ ?_
  refine w_seq ?_
  refine w_seq ?_
  refine w_region ?_
  refine rw_val (v := errT (frameE row)) (w' := w10) rfl rfl rfl rfl rfl ?_
  refine rw_val (v := .bool ((frameE row).isSome)) (w' := w10) rfl rfl rfl rfl (run_as (guard_err_neq _ (frameE row) _)) ?_
  refine rw_end ?_
  refine w_cond rfl rfl (fun cF => ?_) (fun cF => ?_)
  · refine w_seq ?_
    refine w_region ?_
    refine rw_val (v := errT (frameE row)) (w' := w10) rfl rfl rfl rfl rfl ?_
    refine rw_val (v := errT (frameE row)) (w' := w10) rfl rfl rfl rfl rfl ?_
    refine rw_end ?_
    refine w_ret (post_ret1 rfl rfl ?_)
    have e1_ : D.addE row = frameE row := by rw [DS.addE, if_pos cF]
    have e2_ : D.add row = D := by rw [DS.add, if_pos cF]
    rw [e1_, e2_]
    exact ⟨rfl, m, ⟨(TapeAt.on (TapeAt.on hT hb3) hB12), ((hb.on hb3).on hB12), hgd, hgd0⟩, by omega⟩
  · refine w_skip ?_
    refine w_seq ?_
    refine w_seq ?_
    refine w_region ?_
    refine rw_val (v := .pointer (some ⟨gd, 0, none⟩)) (w' := w10) rfl rfl rfl rfl rfl ?_
    refine rw_val (v := .bool false) (w' := w10) rfl rfl rfl rfl (run_as (run_ptr_eql (e := 80) (by kernel_rfl) _ _)) ?_
    refine rw_end ?_
    refine w_cond_f rfl rfl rfl ?_
    refine w_skip ?_
    refine w_seq ?_
    refine w_seq ?_
    refine w_region ?_
    refine rw_val (v := .pointer (some ⟨gd, 0, none⟩)) (w' := w10) rfl rfl rfl rfl rfl ?_
    refine rw_val (v := .pointer (some ⟨gd, 0, none⟩)) (w' := w10) rfl rfl rfl rfl (by simp [go_sem, sEv, sLook, nbeq, i64_w, -List.getD_eq_getElem?_getD]) ?_
    refine rw_val (v := .pointer (some ⟨gd, 0, none⟩)) (w' := w10) rfl rfl rfl rfl (by simp [go_sem, sEv, sLook, nbeq, i64_w, -List.getD_eq_getElem?_getD, Try.underlying80]) ?_
    refine rw_val (v := .pointer (some ⟨g, 0, none⟩)) (w' := w10) rfl rfl rfl rfl (by have eb_ := ((hb.on hb3).on hB12); have e0_ := eb_.cellv (i := 0) (v := (.pointer (some ⟨g, 0, none⟩) : Value)) rfl; simp [go_sem, sEv, sLook, nbeq, i64_w, -List.getD_eq_getElem?_getD, e0_]) ?_
    refine rw_val (v := .slice A8 ((frameB row).length) c9) (w' := w10) rfl rfl rfl rfl rfl ?_
    refine rw_new (cs := #[.slice A8 ((frameB row).length) c9]) (t := 32) (fun g => .slice (some ⟨g, 0, none⟩) 1 1) rfl rfl rfl rfl (by kernel_rfl) ?_
    intro g13 w14 hg18 hz17 hb15 hk16
    have hs_w14 := hb15.size
    have hP19 : (Kd.slice 5 (Kd.int .u8)).C w14 (some ⟨g13, 0, none⟩) [(frameB row)].length [(frameB row)] := rows1 hk16 (OwnK.cap (d := (Kd.int .u8)) hO11) (Kd.C_below (OwnK.C (d := (Kd.int .u8)) hO11) hb15)
    refine rw_call rfl rfl rfl rfl (f := 39) (args := #[.pointer (some ⟨g, 0, none⟩), .slice (some ⟨g13, 0, none⟩) 1 1]) (by simp [go_sem, sEv, sLook, nbeq, i64_w, -List.getD_eq_getElem?_getD]) (append_one w0 w14 g m gd (by omega) D.s (TapeAt.on (TapeAt.on (TapeAt.on hT hb3) hB12) hb15) hok (some ⟨g13, 0, none⟩) (frameB row) 1 (rowsK1 (S := (fun k => k = g ∨ (g < k ∧ k < m ∧ k ≠ gd))) hk16 (fun h => by omega) (OwnK.cap (d := (Kd.int .u8)) hO11) (ownK_kept (OwnK.on (d := (Kd.int .u8)) hO11 hb15) (fun q hq h => by omega))) (by omega)) ?_
    rintro e_ w20 ⟨rfl, hT21, hs22, hx23⟩
    refine ⟨_, rfl, ?_⟩
    have hts_w20 := hT21.size
    have hok24 : ((D.s.app (frameB row))).Ok := (app_ok (frameB row) hok (by omega)).1
    have hk_w20 : Blk w20 gd 80 _ := (hx23 hgd).trans ((((hb.on hb3).on hB12).on hb15))
    have hlt_w20 := hk_w20.lt
    refine rw_val (v := errT (D.s.appE (frameB row))) (w' := w20) rfl rfl rfl rfl rfl ?_
    refine rw_end ?_
    refine w_weaken (G' := [(0, .pointer (some ⟨gd, 0, none⟩)), (4, .nilIface), (5, .slice A8 ((frameB row).length) c9), (6, errT (D.s.appE (frameB row)))]) ⟨rfl, rfl, rfl, rfl, trivial⟩ ?_
    refine w_seq ?_
    refine w_region ?_
    refine rw_val (v := errT (D.s.appE (frameB row))) (w' := w20) rfl rfl rfl rfl rfl ?_
    refine rw_val (v := .bool ((D.s.appE (frameB row)).isNone)) (w' := w20) rfl rfl rfl rfl (run_as (guard_err_eq0 _ (D.s.appE (frameB row)) _)) ?_
    refine rw_end ?_
    refine w_cond rfl rfl (fun cA => ?_) (fun cA => ?_)
    · refine w_region ?_
      refine rw_val (v := .pointer (some ⟨gd, 0, none⟩)) (w' := w20) rfl rfl rfl rfl rfl ?_
      refine rw_val (v := .pointer (some ⟨gd, 0, none⟩)) (w' := w20) rfl rfl rfl rfl (by simp [go_sem, sEv, sLook, nbeq, i64_w, -List.getD_eq_getElem?_getD]) ?_
      refine rw_val (v := .pointer (some ⟨gd, 0, none⟩)) (w' := w20) rfl rfl rfl rfl (by simp [go_sem, sEv, sLook, nbeq, i64_w, -List.getD_eq_getElem?_getD, Try.underlying80]) ?_
      refine rw_val (v := .pointer (some ⟨g, 0, none⟩)) (w' := w20) rfl rfl rfl rfl (by have eb_ := hk_w20; have e0_ := eb_.cellv (i := 0) (v := (.pointer (some ⟨g, 0, none⟩) : Value)) rfl; simp [go_sem, sEv, sLook, nbeq, i64_w, -List.getD_eq_getElem?_getD, e0_]) ?_
      refine rw_call rfl rfl rfl rfl (f := 40) (args := #[.pointer (some ⟨g, 0, none⟩)]) (by simp [go_sem, sEv, sLook, nbeq, i64_w, -List.getD_eq_getElem?_getD]) (sync_T w0 w20 g w20.heap.size gd (by omega) (D.s.app (frameB row)) hT21 hok24) ?_
      rintro e_ w25 ⟨rfl, hT26, hs27, hx28⟩
      refine ⟨_, rfl, ?_⟩
      have hts_w25 := hT26.size
      have hok29 : (((D.s.app (frameB row)).sync)).Ok := (sync_ok hok24 (by have := (app_ok (frameB row) hok (by omega)).2; omega)).1
      have hk_w25 : Blk w25 gd 80 _ := (hx28 hgd).trans (hk_w20)
      have hlt_w25 := hk_w25.lt
      refine rw_val (v := errT ((D.s.app (frameB row)).err)) (w' := w25) rfl rfl rfl rfl rfl ?_
      refine rw_end ?_
      refine w_weaken (G' := [(0, .pointer (some ⟨gd, 0, none⟩)), (4, .nilIface), (5, .slice A8 ((frameB row).length) c9), (6, errT ((D.s.app (frameB row)).err))]) ⟨rfl, rfl, rfl, rfl, trivial⟩ ?_
      refine w_seq ?_
      refine w_seq ?_
      refine w_region ?_
      refine rw_val (v := errT ((D.s.app (frameB row)).err)) (w' := w25) rfl rfl rfl rfl rfl ?_
      refine rw_val (v := .bool (((D.s.app (frameB row)).err).isSome)) (w' := w25) rfl rfl rfl rfl (run_as (guard_err_neq _ ((D.s.app (frameB row)).err) _)) ?_
      refine rw_end ?_
      refine w_cond rfl rfl (fun cS => ?_) (fun cS => ?_)
      · refine w_seq ?_
        refine w_region ?_
        refine rw_val (v := .pointer (some ⟨gd, 0, none⟩)) (w' := w25) rfl rfl rfl rfl rfl ?_
        refine rw_val (v := .pointer (some ⟨gd, 0, none⟩)) (w' := w25) rfl rfl rfl rfl (by simp [go_sem, sEv, sLook, nbeq, i64_w, -List.getD_eq_getElem?_getD]) ?_
        refine rw_val (v := .pointer (some ⟨gd, 0, none⟩)) (w' := w25) rfl rfl rfl rfl (by simp [go_sem, sEv, sLook, nbeq, i64_w, -List.getD_eq_getElem?_getD, Try.underlying80]) ?_
        refine rw_val (v := .pointer (some ⟨g, 0, none⟩)) (w' := w25) rfl rfl rfl rfl (by have eb_ := hk_w25; have e0_ := eb_.cellv (i := 0) (v := (.pointer (some ⟨g, 0, none⟩) : Value)) rfl; simp [go_sem, sEv, sLook, nbeq, i64_w, -List.getD_eq_getElem?_getD, e0_]) ?_
        refine rw_call rfl rfl rfl rfl (f := 41) (args := #[.pointer (some ⟨g, 0, none⟩)]) (by simp [go_sem, sEv, sLook, nbeq, i64_w, -List.getD_eq_getElem?_getD]) (cut_T w0 w25 g w25.heap.size gd (by omega) ((D.s.app (frameB row)).sync) hT26 hok29) ?_
        rintro e_ w30 ⟨rfl, hT31, hs32, hx33⟩
        refine ⟨.tuple #[], rfl, ?_⟩
        have hts_w30 := hT31.size
        have hk_w30 : Blk w30 gd 80 _ := (hx33 hgd).trans (hk_w25)
        have hlt_w30 := hk_w30.lt
        refine rw_end ?_
        refine w_weaken (G' := [(0, .pointer (some ⟨gd, 0, none⟩)), (4, .nilIface), (5, .slice A8 ((frameB row).length) c9), (6, errT ((D.s.app (frameB row)).err))]) ⟨rfl, rfl, rfl, rfl, trivial⟩ ?_
        refine w_seq ?_
        refine w_region ?_
        refine rw_val (v := errT ((D.s.app (frameB row)).err)) (w' := w30) rfl rfl rfl rfl rfl ?_
        refine rw_val (v := errT ((D.s.app (frameB row)).err)) (w' := w30) rfl rfl rfl rfl rfl ?_
        refine rw_end ?_
        refine w_ret (post_ret1 rfl rfl ?_)
        have f_ : ¬ (frameE row).isSome = true := by rw [cF]; simp
        have e3_ : D.add1E row = (D.s.app (frameB row)).err := by rw [DS.add1E, if_pos cA]
        have e4_ : D.add1S row = (D.s.app (frameB row)).sync := by rw [DS.add1S, if_pos cA]
        have e1_ : D.addE row = ((D.s.app (frameB row)).err) := by rw [DS.addE, if_neg f_, e3_]
        have e2_ : D.add row = { D with s := (((D.s.app (frameB row)).sync).cut) } := by rw [DS.add, if_neg f_, if_pos (by rw [e3_, cS]), e4_]
        rw [e1_, e2_]
        exact ⟨rfl, w30.heap.size, ⟨hT31, hk_w30, hgd, hgd0⟩, by omega⟩
      · refine w_skip ?_
        refine w_seq ?_
        refine w_region ?_
        refine rw_val (v := .pointer (some ⟨gd, 0, none⟩)) (w' := w25) rfl rfl rfl rfl rfl ?_
        refine rw_val (v := .pointer (some ⟨gd, 0, none⟩)) (w' := w25) rfl rfl rfl rfl (by simp [go_sem, sEv, sLook, nbeq, i64_w, -List.getD_eq_getElem?_getD]) ?_
        refine rw_val (v := .pointer (some ⟨gd, 1, none⟩)) (w' := w25) rfl rfl rfl rfl (by simp [go_sem, sEv, sLook, nbeq, i64_w, -List.getD_eq_getElem?_getD, Try.underlying80]) ?_
        refine rw_val (v := .int .i64 D.r) (w' := w25) rfl rfl rfl rfl (by have eb_ := hk_w25; have e0_ := eb_.cellv (i := 1) (v := (.int .i64 D.r : Value)) rfl; simp [go_sem, sEv, sLook, nbeq, i64_w, -List.getD_eq_getElem?_getD, e0_]) ?_
        refine rw_val (v := .int .i64 (D.r + 1)) (w' := w25) rfl rfl rfl rfl (by simp [go_sem, sEv, sLook, nbeq, i64_w, -List.getD_eq_getElem?_getD]; exact wrap_id (by omega) (by omega)) ?_
        refine rw_val (v := .pointer (some ⟨gd, 0, none⟩)) (w' := w25) rfl rfl rfl rfl (by simp [go_sem, sEv, sLook, nbeq, i64_w, -List.getD_eq_getElem?_getD]) ?_
        refine rw_val (v := .pointer (some ⟨gd, 1, none⟩)) (w' := w25) rfl rfl rfl rfl (by simp [go_sem, sEv, sLook, nbeq, i64_w, -List.getD_eq_getElem?_getD, Try.underlying80]) ?_
        have hb38 := hk_w25
        refine rw_store (g := gd) (i := 1) (l := [.int .i64 (D.r + 1)]) (cs' := #[.pointer (some ⟨g, 0, none⟩), .int .i64 (D.r + 1), .int .i64 D.b]) rfl rfl rfl hb38 rfl (by have e0_ := hb38.cellv (i := 1) (v := (.int .i64 D.r : Value)) rfl; have f0_ := hb38.frozen 1; simp [go_sem, sEv, sLook, nbeq, i64_w, -List.getD_eq_getElem?_getD, putCells, e0_, f0_]) ?_
        intro w35 hk36 hk37
        have hs_w35 := hk36.size
        refine rw_end ?_
        refine w_weaken (G' := [(0, .pointer (some ⟨gd, 0, none⟩)), (4, .nilIface), (5, .slice A8 ((frameB row).length) c9)]) ⟨rfl, rfl, rfl, trivial⟩ ?_
        refine w_seq ?_
        refine w_region ?_
        refine rw_val (v := .pointer (some ⟨gd, 0, none⟩)) (w' := w35) rfl rfl rfl rfl rfl ?_
        refine rw_val (v := .pointer (some ⟨gd, 0, none⟩)) (w' := w35) rfl rfl rfl rfl (by simp [go_sem, sEv, sLook, nbeq, i64_w, -List.getD_eq_getElem?_getD]) ?_
        refine rw_val (v := .pointer (some ⟨gd, 2, none⟩)) (w' := w35) rfl rfl rfl rfl (by simp [go_sem, sEv, sLook, nbeq, i64_w, -List.getD_eq_getElem?_getD, Try.underlying80]) ?_
        refine rw_val (v := .int .i64 D.b) (w' := w35) rfl rfl rfl rfl (by have eb_ := hk37; have e0_ := eb_.cellv (i := 2) (v := (.int .i64 D.b : Value)) rfl; simp [go_sem, sEv, sLook, nbeq, i64_w, -List.getD_eq_getElem?_getD, e0_]) ?_
        refine rw_val (v := .slice A8 ((frameB row).length) c9) (w' := w35) rfl rfl rfl rfl rfl ?_
        refine rw_val (v := .int .i64 (((frameB row).length : Nat) : Int)) (w' := w35) rfl rfl rfl rfl (by simp [go_sem, sEv, sLook, nbeq, i64_w, -List.getD_eq_getElem?_getD]) ?_
        refine rw_val (v := .int .i64 (D.b + (((frameB row).length : Nat) : Int))) (w' := w35) rfl rfl rfl rfl (by simp [go_sem, sEv, sLook, nbeq, i64_w, -List.getD_eq_getElem?_getD]; exact wrap_id (by omega) (by omega)) ?_
        refine rw_val (v := .pointer (some ⟨gd, 0, none⟩)) (w' := w35) rfl rfl rfl rfl (by simp [go_sem, sEv, sLook, nbeq, i64_w, -List.getD_eq_getElem?_getD]) ?_
        refine rw_val (v := .pointer (some ⟨gd, 2, none⟩)) (w' := w35) rfl rfl rfl rfl (by simp [go_sem, sEv, sLook, nbeq, i64_w, -List.getD_eq_getElem?_getD, Try.underlying80]) ?_
        have hb42 := hk37
        refine rw_store (g := gd) (i := 2) (l := [.int .i64 (D.b + (((frameB row).length : Nat) : Int))]) (cs' := #[.pointer (some ⟨g, 0, none⟩), .int .i64 (D.r + 1), .int .i64 (D.b + (((frameB row).length : Nat) : Int))]) rfl rfl rfl hb42 rfl (by have e0_ := hb42.cellv (i := 2) (v := (.int .i64 D.b : Value)) rfl; have f0_ := hb42.frozen 2; simp [go_sem, sEv, sLook, nbeq, i64_w, -List.getD_eq_getElem?_getD, putCells, e0_, f0_]) ?_
        intro w39 hk40 hk41
        have hs_w39 := hk40.size
        refine rw_end ?_
        refine w_weaken (G' := [(4, .nilIface)]) ⟨rfl, trivial⟩ ?_
        refine w_seq ?_
        refine w_region ?_
        refine rw_val (v := .nilIface) (w' := w39) rfl rfl rfl rfl rfl ?_
        refine rw_end ?_
        refine w_ret (post_ret1 rfl rfl ?_)
        have f_ : ¬ (frameE row).isSome = true := by rw [cF]; simp
        have e3_ : D.add1E row = (D.s.app (frameB row)).err := by rw [DS.add1E, if_pos cA]
        have e4_ : D.add1S row = (D.s.app (frameB row)).sync := by rw [DS.add1S, if_pos cA]
        have e1_ : D.addE row = none := by rw [DS.addE, if_neg f_, e3_]; simpa using cS
        have e2_ : D.add row = ⟨(D.s.app (frameB row)).sync, D.r + 1, D.b + ((frameB row).length : Int)⟩ := by rw [DS.add, if_neg f_, if_neg (by rw [e3_, cS]; simp), e4_]
        rw [e1_, e2_]
        exact ⟨rfl, w25.heap.size, ⟨(TapeAt.beside (TapeAt.beside hT26 hk36 hgd hgd0) hk40 hgd hgd0), hk41, hgd, hgd0⟩, by omega⟩
    · refine w_skip ?_
      refine w_seq ?_
      refine w_seq ?_
      refine w_region ?_
      refine rw_val (v := errT (D.s.appE (frameB row))) (w' := w20) rfl rfl rfl rfl rfl ?_
      refine rw_val (v := .bool ((D.s.appE (frameB row)).isSome)) (w' := w20) rfl rfl rfl rfl (run_as (guard_err_neq _ (D.s.appE (frameB row)) _)) ?_
      refine rw_end ?_
      have hq43 : ((D.s.appE (frameB row)).isSome) = true := by revert cA; cases D.s.appE (frameB row) <;> simp
      refine w_cond_t rfl rfl hq43 ?_
      refine w_seq ?_
      refine w_region ?_
      refine rw_val (v := .pointer (some ⟨gd, 0, none⟩)) (w' := w20) rfl rfl rfl rfl rfl ?_
      refine rw_val (v := .pointer (some ⟨gd, 0, none⟩)) (w' := w20) rfl rfl rfl rfl (by simp [go_sem, sEv, sLook, nbeq, i64_w, -List.getD_eq_getElem?_getD]) ?_
      refine rw_val (v := .pointer (some ⟨gd, 0, none⟩)) (w' := w20) rfl rfl rfl rfl (by simp [go_sem, sEv, sLook, nbeq, i64_w, -List.getD_eq_getElem?_getD, Try.underlying80]) ?_
      refine rw_val (v := .pointer (some ⟨g, 0, none⟩)) (w' := w20) rfl rfl rfl rfl (by have eb_ := hk_w20; have e0_ := eb_.cellv (i := 0) (v := (.pointer (some ⟨g, 0, none⟩) : Value)) rfl; simp [go_sem, sEv, sLook, nbeq, i64_w, -List.getD_eq_getElem?_getD, e0_]) ?_
      refine rw_call rfl rfl rfl rfl (f := 41) (args := #[.pointer (some ⟨g, 0, none⟩)]) (by simp [go_sem, sEv, sLook, nbeq, i64_w, -List.getD_eq_getElem?_getD]) (cut_T w0 w20 g w20.heap.size gd (by omega) (D.s.app (frameB row)) hT21 hok24) ?_
      rintro e_ w44 ⟨rfl, hT45, hs46, hx47⟩
      refine ⟨.tuple #[], rfl, ?_⟩
      have hts_w44 := hT45.size
      have hk_w44 : Blk w44 gd 80 _ := (hx47 hgd).trans (hk_w20)
      have hlt_w44 := hk_w44.lt
      refine rw_end ?_
      refine w_weaken (G' := [(0, .pointer (some ⟨gd, 0, none⟩)), (4, .nilIface), (5, .slice A8 ((frameB row).length) c9), (6, errT (D.s.appE (frameB row)))]) ⟨rfl, rfl, rfl, rfl, trivial⟩ ?_
      refine w_seq ?_
      refine w_region ?_
      refine rw_val (v := errT (D.s.appE (frameB row))) (w' := w44) rfl rfl rfl rfl rfl ?_
      refine rw_val (v := errT (D.s.appE (frameB row))) (w' := w44) rfl rfl rfl rfl rfl ?_
      refine rw_end ?_
      refine w_ret (post_ret1 rfl rfl ?_)
      have f_ : ¬ (frameE row).isSome = true := by rw [cF]; simp
      have fa_ : ¬ (D.s.appE (frameB row)).isNone = true := by rw [cA]; simp
      have e3_ : D.add1E row = D.s.appE (frameB row) := by rw [DS.add1E, if_neg fa_]
      have e4_ : D.add1S row = D.s.app (frameB row) := by rw [DS.add1S, if_neg fa_]
      have e1_ : D.addE row = (D.s.appE (frameB row)) := by rw [DS.addE, if_neg f_, e3_]
      have e2_ : D.add row = { D with s := ((D.s.app (frameB row)).cut) } := by rw [DS.add, if_neg f_, if_pos (by rw [e3_, hq43]), e4_]
      rw [e1_, e2_]
      exact ⟨rfl, w44.heap.size, ⟨hT45, hk_w44, hgd, hgd0⟩, by omega⟩
set_option maxHeartbeats 4000000 in
theorem add_N (w : World) (A1 : Option Addr) (c1 : Nat) (row : List Int) (hr : (Kd.int .u8).C w A1 row.length row) (hc1 : row.length ≤ c1) (hl : row.length ≤ 140737488355328) :
    Calls Try.prog 12 #[.pointer none, .slice A1 row.length c1] w fun e w' => e = .returned (errT (if (frameE row).isSome then frameE row else some 5)) ∧ Below w.heap.size w w' := by
  refine calls_flow Try.func12 rfl 57 rfl (Nat.le_of_ble_eq_true rfl) [(0, .pointer none), (1, .slice A1 row.length c1)] ?_ ?_
  · intro t v h; exact args_look rfl t v h
  refine w_seq ?_
  refine w_region ?_
  refine rw_val (v := .nilIface) (w' := w) rfl rfl rfl rfl rfl ?_
  refine rw_end ?_
  refine w_seq ?_
  refine w_region ?_
  refine rw_val (v := .slice A1 row.length c1) (w' := w) rfl rfl rfl rfl rfl ?_
  refine rw_new (cs := #[.slice A1 row.length c1]) (t := 32) (fun g => .slice (some ⟨g, 0, none⟩) 1 1) rfl rfl rfl rfl (by kernel_rfl) ?_
  intro g1 w2 hg6 hz5 hb3 hk4
  have hs_w2 := hb3.size
  have hP7 : (Kd.slice 5 (Kd.int .u8)).C w2 (some ⟨g1, 0, none⟩) [row].length [row] := rows1 hk4 hc1 (Kd.C_below hr hb3)
  refine rw_call rfl rfl rfl rfl (f := 38) (args := #[.slice (some ⟨g1, 0, none⟩) 1 1]) (by simp [go_sem, sEv, sLook, nbeq, i64_w, -List.getD_eq_getElem?_getD]) (wrap_one w2 (some ⟨g1, 0, none⟩) 1 row (Kd.C_below hP7 (Below.refl _ _)) (by omega) (by omega)) ?_
  rintro e_ w10 ⟨A8, c9, rfl, hO11, hB12⟩
  refine ⟨_, rfl, ?_⟩
  have hs_w10 := hB12.size
  refine rw_val (v := .tuple #[.slice A8 ((frameB row).length) c9, errT (frameE row)]) (w' := w10) rfl rfl rfl rfl rfl ?_
  refine rw_val (v := .slice A8 ((frameB row).length) c9) (w' := w10) rfl rfl rfl rfl (by simp [go_sem, sEv, sLook, nbeq, i64_w, -List.getD_eq_getElem?_getD]) ?_
  refine rw_val (v := errT (frameE row)) (w' := w10) rfl rfl rfl rfl (by simp [go_sem, sEv, sLook, nbeq, i64_w, -List.getD_eq_getElem?_getD]) ?_
  refine rw_val (v := .slice A8 ((frameB row).length) c9) (w' := w10) rfl rfl rfl rfl rfl ?_
  refine rw_val (v := errT (frameE row)) (w' := w10) rfl rfl rfl rfl rfl ?_
  refine rw_end ?_
  refine w_weaken (G' := [(0, .pointer none), (4, .nilIface), (5, .slice A8 ((frameB row).length) c9), (6, errT (frameE row))]) ⟨rfl, rfl, rfl, rfl, trivial⟩ ?_
  refine w_seq ?_
  refine w_seq ?_
  refine w_region ?_
  refine rw_val (v := errT (frameE row)) (w' := w10) rfl rfl rfl rfl rfl ?_
  refine rw_val (v := .bool ((frameE row).isSome)) (w' := w10) rfl rfl rfl rfl (run_as (guard_err_neq _ (frameE row) _)) ?_
  refine rw_end ?_
  refine w_cond rfl rfl (fun cF => ?_) (fun cF => ?_)
  · refine w_seq ?_
    refine w_region ?_
    refine rw_val (v := errT (frameE row)) (w' := w10) rfl rfl rfl rfl rfl ?_
    refine rw_val (v := errT (frameE row)) (w' := w10) rfl rfl rfl rfl rfl ?_
    refine rw_end ?_
    refine w_ret (post_ret1 rfl rfl ?_)
    exact ⟨by simp [cF], (chain hb3 hB12)⟩
  · refine w_skip ?_
    refine w_seq ?_
    refine w_seq ?_
    refine w_region ?_
    refine rw_val (v := .pointer none) (w' := w10) rfl rfl rfl rfl rfl ?_
    refine rw_val (v := .bool true) (w' := w10) rfl rfl rfl rfl (run_as (run_ptr_eql (e := 80) (by kernel_rfl) _ _)) ?_
    refine rw_end ?_
    refine w_cond_t rfl rfl rfl ?_
    refine w_seq ?_
    refine w_region ?_
    refine rw_val (v := errT (some 5)) (w' := w10) rfl rfl rfl rfl (by simp [go_sem, sEv, sLook, nbeq, i64_w, -List.getD_eq_getElem?_getD, errT]) ?_
    refine rw_val (v := errT (some 5)) (w' := w10) rfl rfl rfl rfl rfl ?_
    refine rw_end ?_
    refine w_ret (post_ret1 rfl rfl ?_)
    exact ⟨by simp [cF], (chain hb3 hB12)⟩

theorem FC_take_getD (rows : List (List Int)) (j : Nat) (h : j < rows.length) : FC (rows.take (j + 1)) = FC (rows.take j) ++ frameB (rows.getD j []) := by
  unfold FC
  rw [List.take_succ_eq_append_getElem h, List.map_append, List.flatten_append, List.getD_eq_getElem?_getD, List.getElem?_eq_getElem h]
  simp
theorem FC_take_le (rows : List (List Int)) (j : Nat) : (FC (rows.take j)).length ≤ (FC rows).length := by
  have h : FC rows = FC (rows.take j) ++ FC (rows.drop j) := by unfold FC; rw [← List.flatten_append, ← List.map_append, List.take_append_drop]
  rw [h, List.length_append]
  omega
theorem frameE_long {r : List Int} : (frameE r).isSome = true ↔ 16376 < r.length := by
  unfold frameE
  split <;> simp <;> omega
theorem rwFull_long {rows : List (List Int)} {j : Nat} (h : j < rows.length) (hl : (frameE (rows.getD j [])).isSome = true) : rwFull rows = true := by
  unfold rwFull
  rw [Bool.or_eq_true]
  refine .inl (List.any_eq_true.2 ⟨_, getD_mem rows j [] h, ?_⟩)
  simpa using frameE_long.1 hl
theorem rwFull_big {rows : List (List Int)} {j : Nat} (h : 1048576 < (FC (rows.take j)).length) : rwFull rows = true := by
  unfold rwFull
  have h2 := FC_take_le rows j
  rw [Bool.or_eq_true]
  exact .inr (decide_eq_true (by omega))
theorem rwFull_no {rows : List (List Int)} (h1 : ∀ p ∈ rows, p.length ≤ 16376) (h2 : (FC rows).length ≤ 1048576) : rwFull rows = false := by
  unfold rwFull
  rw [Bool.or_eq_false_iff]
  refine ⟨?_, decide_eq_false (by omega)⟩
  rw [List.any_eq_false]
  intro p hp
  have := h1 p hp
  simp
  omega
set_option maxHeartbeats 4000000 in
theorem rewrite_N (w : World) (A1 : Option Addr) (c1 : Nat) (rows : List (List Int)) (hr : (Kd.slice 5 (Kd.int .u8)).C w A1 rows.length rows) (hc1 : rows.length ≤ c1) (hn : rows.length ≤ 1000000) (hall : ∀ p ∈ rows, p.length ≤ 140737488355328) :
    Calls Try.prog 21 #[.pointer none, .slice A1 rows.length c1] w fun e w' => e = .returned (errT (if rwFull rows = true then some 7 else some 5)) ∧ Below w.heap.size w w' := by
  refine calls_flow Try.func21 rfl 60 rfl (Nat.le_of_ble_eq_true rfl) [(0, .pointer none), (1, .slice A1 rows.length c1)] ?_ ?_
  · intro t v h; exact args_look rfl t v h
  refine w_seq ?_
  refine w_region ?_
  refine rw_val (v := .nilIface) (w' := w) rfl rfl rfl rfl rfl ?_
  refine rw_end ?_
  refine w_seq ?_
  refine w_region ?_
  refine rw_val (v := .slice none 0 0) (w' := w) rfl rfl rfl rfl rfl ?_
  refine rw_end ?_
  refine w_seq ?_
  refine w_seq ?_
  refine w_region ?_
  refine rw_val (v := .slice A1 rows.length c1) (w' := w) rfl rfl rfl rfl rfl ?_
  refine rw_val (v := .int .i64 ((rows.length : Nat) : Int)) (w' := w) rfl rfl rfl rfl (by simp [go_sem, sEv, sLook, nbeq, i64_w, -List.getD_eq_getElem?_getD]) ?_
  refine rw_val (v := .int .i64 0) (w' := w) rfl rfl rfl rfl rfl ?_
  refine rw_end ?_
  refine w_block ?_
  refine w_loop (fun m_ G W_ => ∃ (j : Nat) (A5_ : Option Addr) (c5_ : Nat), j + m_ = rows.length ∧ Below w.heap.size w W_ ∧ OwnK (Kd.int .u8) 5 W_ w.heap.size w.heap.size A5_ (FC (rows.take j)).length c5_ (FC (rows.take j)) ∧ (∀ p ∈ rows.take j, p.length ≤ 16376) ∧ ((FC (rows.take j)).length ≤ 1048576) ∧ G = [(0, .pointer none), (1, .slice A1 rows.length c1), (5, .slice A5_ ((FC (rows.take j)).length) c5_), (11, .slice A1 rows.length c1), (12, .int .i64 ((rows.length : Nat) : Int)), (13, .int .i64 ((j : Nat) : Int))]) rows.length [(0, .pointer none), (1, .slice A1 rows.length c1), (5, .slice none ((FC (rows.take 0)).length) 0), (11, .slice A1 rows.length c1), (12, .int .i64 ((rows.length : Nat) : Int)), (13, .int .i64 0)] ⟨0, none, 0, by omega, (Below.refl _ _), (OwnK.nil _ _ _ _ _), (by simp), (by simp [FC]), rfl⟩ ⟨rfl, rfl, rfl, rfl, rfl, rfl, trivial⟩ ?_
  rintro m_ G w_L1 ⟨j, A5_, c5_, hp2, hB_L1, hO5_, hf3, hf4, rfl⟩
  have hs_w_L1 := hB_L1.size
  refine w_seq ?_
  refine w_region ?_
  refine rw_val (v := .bool (decide (((j : Nat) : Int) < ((rows.length : Nat) : Int)))) (w' := w_L1) rfl rfl rfl rfl (by simp [go_sem, sEv, sLook, nbeq, i64_w, -List.getD_eq_getElem?_getD]) ?_
  refine rw_end ?_
  refine w_seq ?_
  refine w_cond rfl rfl (fun cJ => ?_) (fun cJ => ?_)
  · have l5 : (((j : Nat) : Int) < ((rows.length : Nat) : Int)) := of_decide_eq_true cJ
    refine w_skip ?_
    refine w_seq ?_
    refine w_block ?_
    refine w_seq ?_
    refine w_region ?_
    obtain ⟨ad6, A9, c10, hA7, he11, hle12, hC13⟩ := rows_at (Kd.C_below hr hB_L1) j (by first | omega | decide)
    subst hA7
    refine rw_val (v := .pointer (some (ad6.add (j)))) (w' := w_L1) rfl rfl rfl rfl (run_as (run_at_1 (P := Try.prog) (e := 32) (by kernel_rfl) (by kernel_rfl) j (by first | omega | decide) _)) ?_
    refine rw_val (v := .slice A9 ((rows.getD j []).length) c10) (w' := w_L1) rfl rfl rfl rfl (by have e0_ := cellOn he11 (Below.refl _ _); simp [go_sem, sEv, sLook, nbeq, i64_w, -List.getD_eq_getElem?_getD, e0_, Try.underlying32]) ?_
    refine rw_val (v := .slice A9 ((rows.getD j []).length) c10) (w' := w_L1) rfl rfl rfl rfl rfl ?_
    refine rw_end ?_
    refine w_seq ?_
    refine w_region ?_
    refine rw_val (v := .slice A9 ((rows.getD j []).length) c10) (w' := w_L1) rfl rfl rfl rfl rfl ?_
    refine rw_new (cs := #[.slice A9 ((rows.getD j []).length) c10]) (t := 32) (fun g => .slice (some ⟨g, 0, none⟩) 1 1) rfl rfl rfl rfl (by kernel_rfl) ?_
    intro g14 w15 hg19 hz18 hb16 hk17
    have hs_w15 := hb16.size
    have hP20 : (Kd.slice 5 (Kd.int .u8)).C w15 (some ⟨g14, 0, none⟩) [(rows.getD j [])].length [(rows.getD j [])] := rows1 hk17 hle12 (Kd.C_below hC13 hb16)
    have hlj_ : (rows.getD j []).length ≤ 140737488355328 := hall _ (getD_mem rows j [] (by omega))
    have hfj_ := frameB_short (rows.getD j [])
    refine rw_call rfl rfl rfl rfl (f := 38) (args := #[.slice (some ⟨g14, 0, none⟩) 1 1]) (by simp [go_sem, sEv, sLook, nbeq, i64_w, -List.getD_eq_getElem?_getD]) (wrap_one w15 (some ⟨g14, 0, none⟩) 1 (rows.getD j []) (Kd.C_below hP20 (Below.refl _ _)) (by omega) (by omega)) ?_
    rintro e_ w23 ⟨A21, c22, rfl, hO24, hB25⟩
    refine ⟨_, rfl, ?_⟩
    have hs_w23 := hB25.size
    refine rw_val (v := .tuple #[.slice A21 ((frameB (rows.getD j [])).length) c22, errT (frameE (rows.getD j []))]) (w' := w23) rfl rfl rfl rfl rfl ?_
    refine rw_val (v := .slice A21 ((frameB (rows.getD j [])).length) c22) (w' := w23) rfl rfl rfl rfl (by simp [go_sem, sEv, sLook, nbeq, i64_w, -List.getD_eq_getElem?_getD]) ?_
    refine rw_val (v := errT (frameE (rows.getD j []))) (w' := w23) rfl rfl rfl rfl (by simp [go_sem, sEv, sLook, nbeq, i64_w, -List.getD_eq_getElem?_getD]) ?_
    refine rw_val (v := .slice A21 ((frameB (rows.getD j [])).length) c22) (w' := w23) rfl rfl rfl rfl rfl ?_
    refine rw_val (v := errT (frameE (rows.getD j []))) (w' := w23) rfl rfl rfl rfl rfl ?_
    refine rw_end ?_
    refine w_weaken (G' := [(0, .pointer none), (1, .slice (some ad6) rows.length c1), (5, .slice A5_ ((FC (rows.take j)).length) c5_), (8, .slice A21 ((frameB (rows.getD j [])).length) c22), (9, errT (frameE (rows.getD j []))), (11, .slice (some ad6) rows.length c1), (12, .int .i64 ((rows.length : Nat) : Int)), (13, .int .i64 ((j : Nat) : Int))]) ⟨rfl, rfl, rfl, rfl, rfl, rfl, rfl, rfl, trivial⟩ ?_
    refine w_seq ?_
    refine w_seq ?_
    refine w_region ?_
    refine rw_val (v := errT (frameE (rows.getD j []))) (w' := w23) rfl rfl rfl rfl rfl ?_
    refine rw_val (v := .bool ((frameE (rows.getD j [])).isSome)) (w' := w23) rfl rfl rfl rfl (run_as (guard_err_neq _ (frameE (rows.getD j [])) _)) ?_
    refine rw_val (v := .bool ((frameE (rows.getD j [])).isSome)) (w' := w23) rfl rfl rfl rfl rfl ?_
    rcases bcase ((frameE (rows.getD j [])).isSome) with cF | cF
    · refine rw_on (c := (frameE (rows.getD j [])).isSome) rfl rfl rfl (by first | (rw [cF]; rfl) | simp [cF]) ?_
      refine rw_val (v := .slice A5_ ((FC (rows.take j)).length) c5_) (w' := w23) rfl rfl rfl rfl rfl ?_
      refine rw_on (c := (frameE (rows.getD j [])).isSome) rfl rfl rfl (by first | (rw [cF]; rfl) | simp [cF]) ?_
      refine rw_val (v := .int .i64 (((FC (rows.take j)).length : Nat) : Int)) (w' := w23) rfl rfl rfl rfl (by simp [go_sem, sEv, sLook, nbeq, i64_w, -List.getD_eq_getElem?_getD]) ?_
      refine rw_on (c := (frameE (rows.getD j [])).isSome) rfl rfl rfl (by first | (rw [cF]; rfl) | simp [cF]) ?_
      refine rw_val (v := .slice A21 ((frameB (rows.getD j [])).length) c22) (w' := w23) rfl rfl rfl rfl rfl ?_
      refine rw_on (c := (frameE (rows.getD j [])).isSome) rfl rfl rfl (by first | (rw [cF]; rfl) | simp [cF]) ?_
      refine rw_val (v := .int .i64 (((frameB (rows.getD j [])).length : Nat) : Int)) (w' := w23) rfl rfl rfl rfl (by simp [go_sem, sEv, sLook, nbeq, i64_w, -List.getD_eq_getElem?_getD]) ?_
      refine rw_on (c := (frameE (rows.getD j [])).isSome) rfl rfl rfl (by first | (rw [cF]; rfl) | simp [cF]) ?_
      refine rw_val (v := .int .i64 (((FC (rows.take j)).length + ((frameB (rows.getD j [])).length) : Nat) : Int)) (w' := w23) rfl rfl rfl rfl (by simp [go_sem, sEv, sLook, nbeq, i64_w, -List.getD_eq_getElem?_getD]; exact wrap_id (by omega) (by omega)) ?_
      refine rw_on (c := (frameE (rows.getD j [])).isSome) rfl rfl rfl (by first | (rw [cF]; rfl) | simp [cF]) ?_
      refine rw_val (v := .bool (decide (1048576 < (((FC (rows.take j)).length + ((frameB (rows.getD j [])).length) : Nat) : Int)))) (w' := w23) rfl rfl rfl rfl (by simp [go_sem, sEv, sLook, nbeq, i64_w, -List.getD_eq_getElem?_getD]) ?_
      refine rw_val (v := .bool (decide (1048576 < (((FC (rows.take j)).length + ((frameB (rows.getD j [])).length) : Nat) : Int)))) (w' := w23) rfl rfl rfl rfl (by first | (simp [go_sem, sEv, sLook, nbeq, i64_w, -List.getD_eq_getElem?_getD, cF]; done) | (rw [cF]; simp [go_sem, sEv, sLook, nbeq, i64_w, -List.getD_eq_getElem?_getD]; done) | (simp [go_sem, sEv, sLook, nbeq, i64_w, -List.getD_eq_getElem?_getD] <;> omega) | (simp [go_sem, sEv, sLook, nbeq, i64_w, -List.getD_eq_getElem?_getD]; intro h_; exact absurd (by omega) h_)) ?_
      refine rw_end ?_
      refine w_weaken (G' := [(0, .pointer none), (1, .slice (some ad6) rows.length c1), (5, .slice A5_ ((FC (rows.take j)).length) c5_), (8, .slice A21 ((frameB (rows.getD j [])).length) c22), (11, .slice (some ad6) rows.length c1), (12, .int .i64 ((rows.length : Nat) : Int)), (13, .int .i64 ((j : Nat) : Int)), (32, .bool (decide (1048576 < (((FC (rows.take j)).length + ((frameB (rows.getD j [])).length) : Nat) : Int))))]) ⟨rfl, rfl, rfl, rfl, rfl, rfl, rfl, rfl, trivial⟩ ?_
      refine w_cond rfl rfl (fun c26 => ?_) (fun c26 => ?_)
      · have l27 : (1048576 < (((FC (rows.take j)).length + ((frameB (rows.getD j [])).length) : Nat) : Int)) := of_decide_eq_true c26
        refine w_seq ?_
        refine w_region ?_
        refine rw_val (v := errT (some 7)) (w' := w23) rfl rfl rfl rfl (by simp [go_sem, sEv, sLook, nbeq, i64_w, -List.getD_eq_getElem?_getD, errT]) ?_
        refine rw_val (v := errT (some 7)) (w' := w23) rfl rfl rfl rfl rfl ?_
        refine rw_end ?_
        refine w_ret (post_ret1 rfl rfl ?_)
        have hf_ : rwFull rows = true := rwFull_big (j := j + 1) (by rw [FC_take_getD rows j (by omega), List.length_append]; omega)
        rw [if_pos hf_]
        exact ⟨rfl, (chain (chain hB_L1 hb16) hB25)⟩
      · have l28 : ¬ (1048576 < (((FC (rows.take j)).length + ((frameB (rows.getD j [])).length) : Nat) : Int)) := of_decide_eq_false c26
        refine w_skip ?_
        refine w_region ?_
        refine rw_val (v := .slice A5_ ((FC (rows.take j)).length) c5_) (w' := w23) rfl rfl rfl rfl rfl ?_
        refine rw_val (v := .slice A21 ((frameB (rows.getD j [])).length) c22) (w' := w23) rfl rfl rfl rfl rfl ?_
        have oA35 : OwnK (Kd.int .u8) 5 w23 w.heap.size w.heap.size A5_ ((FC (rows.take j)).length) c5_ (FC (rows.take j)) := (OwnK.on (d := (Kd.int .u8)) hO5_ (chain hb16 hB25))
        refine rw_append_kd (d := (Kd.int .u8)) w.heap.size rfl rfl rfl (.tmp 34) (.tmp 35) rfl rfl 32 5 (.int .u8 0) 1 rfl (by kernel_rfl) (by kernel_rfl) rfl (show 0 < 1 by decide) (by decide) (fun _ _ h => h) (b := w.heap.size) rfl rfl (by omega) oA35 (OwnK.Cn (d := (Kd.int .u8)) hO24) (chain (chain hB_L1 hb16) hB25) (by omega) (by first | omega | (simp only [List.length_append, List.length_nil, List.length_cons]; omega)) ?_
        intro A29 c30 w31 hO32 hB33 hG34
        have hs_w31 := hB33.size
        have hgs_w31 := hG34.size
        refine rw_val (v := .slice A29 (((FC (rows.take j)) ++ (frameB (rows.getD j []))).length) c30) (w' := w31) rfl rfl rfl rfl rfl ?_
        refine rw_end ?_
        refine w_weaken (G' := [(0, .pointer none), (1, .slice (some ad6) rows.length c1), (5, .slice A29 (((FC (rows.take j)) ++ (frameB (rows.getD j []))).length) c30), (11, .slice (some ad6) rows.length c1), (12, .int .i64 ((rows.length : Nat) : Int)), (13, .int .i64 ((j : Nat) : Int))]) ⟨rfl, rfl, rfl, rfl, rfl, rfl, trivial⟩ ?_
        refine w_blk ?_
        refine w_region ?_
        refine rw_val (v := .int .i64 ((j + 1 : Nat) : Int)) (w' := w31) rfl rfl rfl rfl (by simp [go_sem, sEv, sLook, nbeq, i64_w, -List.getD_eq_getElem?_getD]; exact wrap_id (by omega) (by omega)) ?_
        refine rw_val (v := .int .i64 ((j + 1 : Nat) : Int)) (w' := w31) rfl rfl rfl rfl rfl ?_
        refine rw_end ?_
        have e37 : ((FC (rows.take j)) ++ (frameB (rows.getD j []))) = (FC (rows.take (j + 1))) := by exact (FC_take_getD rows j (by omega)).symm
        have hO38 : OwnK (Kd.int .u8) 5 w31 w.heap.size w.heap.size A29 (FC (rows.take (j + 1))).length c30 (FC (rows.take (j + 1))) := by rw [← e37]; exact OwnK.full hO32
        have en39 : ((FC (rows.take j)) ++ (frameB (rows.getD j []))).length = (FC (rows.take (j + 1))).length := by rw [← e37] <;> exact OwnK.len (d := (Kd.int .u8)) hO32
        exact w_back (m_ - 1) [(0, .pointer none), (1, .slice (some ad6) rows.length c1), (5, .slice A29 ((FC (rows.take (j + 1))).length) c30), (11, .slice (some ad6) rows.length c1), (12, .int .i64 ((rows.length : Nat) : Int)), (13, .int .i64 ((j + 1 : Nat) : Int))] (by omega) ⟨rfl, rfl, (by first | rfl | (rw [← en39]; rfl)), rfl, rfl, rfl, trivial⟩ ⟨(j + 1), A29, c30, by omega, hB33, (OwnK.mono (d := (Kd.int .u8)) hO38 (by omega)), (by intro p hp; rw [List.take_succ_eq_append_getElem (by omega)] at hp; exact (List.mem_append.1 hp).elim (fun hp => hf3 p hp) (fun hp => by rw [List.mem_singleton.1 hp]; have q_ := mt frameE_long.2 (show ¬ (frameE (rows.getD j [])).isSome = true by rw [cF]; simp); rw [List.getD_eq_getElem?_getD, List.getElem?_eq_getElem (by omega)] at q_; exact Nat.le_of_not_lt q_)), (by rw [FC_take_getD rows j (by omega), List.length_append]; omega), rfl⟩
    · refine rw_off (c := (frameE (rows.getD j [])).isSome) rfl rfl rfl (by first | (rw [cF]; rfl) | simp [cF]) rfl rfl ?_
      refine rw_off (c := (frameE (rows.getD j [])).isSome) rfl rfl rfl (by first | (rw [cF]; rfl) | simp [cF]) rfl rfl ?_
      refine rw_off (c := (frameE (rows.getD j [])).isSome) rfl rfl rfl (by first | (rw [cF]; rfl) | simp [cF]) rfl rfl ?_
      refine rw_off (c := (frameE (rows.getD j [])).isSome) rfl rfl rfl (by first | (rw [cF]; rfl) | simp [cF]) rfl rfl ?_
      refine rw_off (c := (frameE (rows.getD j [])).isSome) rfl rfl rfl (by first | (rw [cF]; rfl) | simp [cF]) rfl rfl ?_
      refine rw_off (c := (frameE (rows.getD j [])).isSome) rfl rfl rfl (by first | (rw [cF]; rfl) | simp [cF]) rfl rfl ?_
      refine rw_val (v := .bool true) (w' := w23) rfl rfl rfl rfl (by first | (simp [go_sem, sEv, sLook, nbeq, i64_w, -List.getD_eq_getElem?_getD, cF]; done) | (rw [cF]; simp [go_sem, sEv, sLook, nbeq, i64_w, -List.getD_eq_getElem?_getD]; done) | (simp [go_sem, sEv, sLook, nbeq, i64_w, -List.getD_eq_getElem?_getD] <;> omega) | (simp [go_sem, sEv, sLook, nbeq, i64_w, -List.getD_eq_getElem?_getD]; intro h_; exact absurd (by omega) h_)) ?_
      refine rw_end ?_
      refine w_weaken (G' := [(0, .pointer none), (1, .slice (some ad6) rows.length c1), (5, .slice A5_ ((FC (rows.take j)).length) c5_), (8, .slice A21 ((frameB (rows.getD j [])).length) c22), (11, .slice (some ad6) rows.length c1), (12, .int .i64 ((rows.length : Nat) : Int)), (13, .int .i64 ((j : Nat) : Int)), (32, .bool true)]) ⟨rfl, rfl, rfl, rfl, rfl, rfl, rfl, rfl, trivial⟩ ?_
      refine w_cond_t rfl rfl rfl ?_
      refine w_seq ?_
      refine w_region ?_
      refine rw_val (v := errT (some 7)) (w' := w23) rfl rfl rfl rfl (by simp [go_sem, sEv, sLook, nbeq, i64_w, -List.getD_eq_getElem?_getD, errT]) ?_
      refine rw_val (v := errT (some 7)) (w' := w23) rfl rfl rfl rfl rfl ?_
      refine rw_end ?_
      refine w_ret (post_ret1 rfl rfl ?_)
      have hf_ : rwFull rows = true := rwFull_long (j := j) (by omega) cF
      rw [if_pos hf_]
      exact ⟨rfl, (chain (chain hB_L1 hb16) hB25)⟩
  · have l40 : ¬ (((j : Nat) : Int) < ((rows.length : Nat) : Int)) := of_decide_eq_false cJ
    refine w_exit rfl ?_
    refine w_seq ?_
    refine w_seq ?_
    refine w_region ?_
    refine rw_val (v := .pointer none) (w' := w_L1) rfl rfl rfl rfl rfl ?_
    refine rw_val (v := .bool true) (w' := w_L1) rfl rfl rfl rfl (run_as (run_ptr_eql (e := 80) (by kernel_rfl) _ _)) ?_
    refine rw_end ?_
    refine w_cond_t rfl rfl rfl ?_
    refine w_seq ?_
    refine w_region ?_
    refine rw_val (v := errT (some 5)) (w' := w_L1) rfl rfl rfl rfl (by simp [go_sem, sEv, sLook, nbeq, i64_w, -List.getD_eq_getElem?_getD, errT]) ?_
    refine rw_val (v := errT (some 5)) (w' := w_L1) rfl rfl rfl rfl rfl ?_
    refine rw_end ?_
    refine w_ret (post_ret1 rfl rfl ?_)
    have ej_ : j = rows.length := by omega
    subst ej_
    have et_ : rows.take rows.length = rows := List.take_length
    have hf_ : rwFull rows = false := rwFull_no (by rw [et_] at hf3; exact hf3) (by rw [et_] at hf4; exact hf4)
    rw [if_neg (by rw [hf_]; simp)]
    exact ⟨rfl, hB_L1⟩
set_option maxHeartbeats 4000000 in
theorem rewrite_D (w0 w : World) (g gd m : Nat) (D : DS) (hD : DiaryAt w0 w g gd m D) (hok : D.s.Ok) (A1 : Option Addr) (c1 : Nat) (rows : List (List Int)) (hr : (Kd.slice 5 (Kd.int .u8)).C w A1 rows.length rows) (hc1 : rows.length ≤ c1) (hn : rows.length ≤ 1000000) (hall : ∀ p ∈ rows, p.length ≤ 140737488355328) :
    Calls Try.prog 21 #[.pointer (some ⟨gd, 0, none⟩), .slice A1 rows.length c1] w fun e w' => e = .returned (errT (D.rwE rows)) ∧ ∃ m', DiaryAt w0 w' g gd m' (D.rw rows) ∧ w.heap.size ≤ w'.heap.size := by
  obtain ⟨hT, hb, hgd, hgd0⟩ := hD
  have hts_ := hT.size
  have hlt_ := hb.lt
  refine calls_flow Try.func21 rfl 60 rfl (Nat.le_of_ble_eq_true rfl) [(0, .pointer (some ⟨gd, 0, none⟩)), (1, .slice A1 rows.length c1)] ?_ ?_
  · intro t v h; exact args_look rfl t v h
  refine w_seq ?_
  refine w_region ?_
  refine rw_val (v := .nilIface) (w' := w) rfl rfl rfl rfl rfl ?_
  refine rw_end ?_
  refine w_seq ?_
  refine w_region ?_
  refine rw_val (v := .slice none 0 0) (w' := w) rfl rfl rfl rfl rfl ?_
  refine rw_end ?_
  refine w_seq ?_
  refine w_seq ?_
  refine w_region ?_
  refine rw_val (v := .slice A1 rows.length c1) (w' := w) rfl rfl rfl rfl rfl ?_
  refine rw_val (v := .int .i64 ((rows.length : Nat) : Int)) (w' := w) rfl rfl rfl rfl (by simp [go_sem, sEv, sLook, nbeq, i64_w, -List.getD_eq_getElem?_getD]) ?_
  refine rw_val (v := .int .i64 0) (w' := w) rfl rfl rfl rfl rfl ?_
  refine rw_end ?_
  refine w_block ?_
  refine w_loop (fun m_ G W_ => ∃ (j : Nat) (A5_ : Option Addr) (c5_ : Nat), j + m_ = rows.length ∧ Below w.heap.size w W_ ∧ OwnK (Kd.int .u8) 5 W_ w.heap.size w.heap.size A5_ (FC (rows.take j)).length c5_ (FC (rows.take j)) ∧ (∀ p ∈ rows.take j, p.length ≤ 16376) ∧ ((FC (rows.take j)).length ≤ 1048576) ∧ G = [(0, .pointer (some ⟨gd, 0, none⟩)), (1, .slice A1 rows.length c1), (5, .slice A5_ ((FC (rows.take j)).length) c5_), (11, .slice A1 rows.length c1), (12, .int .i64 ((rows.length : Nat) : Int)), (13, .int .i64 ((j : Nat) : Int))]) rows.length [(0, .pointer (some ⟨gd, 0, none⟩)), (1, .slice A1 rows.length c1), (5, .slice none ((FC (rows.take 0)).length) 0), (11, .slice A1 rows.length c1), (12, .int .i64 ((rows.length : Nat) : Int)), (13, .int .i64 0)] ⟨0, none, 0, by omega, (Below.refl _ _), (OwnK.nil _ _ _ _ _), (by simp), (by simp [FC]), rfl⟩ ⟨rfl, rfl, rfl, rfl, rfl, rfl, trivial⟩ ?_
  rintro m_ G w_L1 ⟨j, A5_, c5_, hp2, hB_L1, hO5_, hf3, hf4, rfl⟩
  have hs_w_L1 := hB_L1.size
  refine w_seq ?_
  refine w_region ?_
  refine rw_val (v := .bool (decide (((j : Nat) : Int) < ((rows.length : Nat) : Int)))) (w' := w_L1) rfl rfl rfl rfl (by simp [go_sem, sEv, sLook, nbeq, i64_w, -List.getD_eq_getElem?_getD]) ?_
  refine rw_end ?_
  refine w_seq ?_
  refine w_cond rfl rfl (fun cJ => ?_) (fun cJ => ?_)
  · have l5 : (((j : Nat) : Int) < ((rows.length : Nat) : Int)) := of_decide_eq_true cJ
    refine w_skip ?_
    refine w_seq ?_
    refine w_block ?_
    refine w_seq ?_
    refine w_region ?_
    obtain ⟨ad6, A9, c10, hA7, he11, hle12, hC13⟩ := rows_at (Kd.C_below hr hB_L1) j (by first | omega | decide)
    subst hA7
    refine rw_val (v := .pointer (some (ad6.add (j)))) (w' := w_L1) rfl rfl rfl rfl (run_as (run_at_1 (P := Try.prog) (e := 32) (by kernel_rfl) (by kernel_rfl) j (by first | omega | decide) _)) ?_
    refine rw_val (v := .slice A9 ((rows.getD j []).length) c10) (w' := w_L1) rfl rfl rfl rfl (by have e0_ := cellOn he11 (Below.refl _ _); simp [go_sem, sEv, sLook, nbeq, i64_w, -List.getD_eq_getElem?_getD, e0_, Try.underlying32]) ?_
    refine rw_val (v := .slice A9 ((rows.getD j []).length) c10) (w' := w_L1) rfl rfl rfl rfl rfl ?_
    refine rw_end ?_
    refine w_seq ?_
    refine w_region ?_
    refine rw_val (v := .slice A9 ((rows.getD j []).length) c10) (w' := w_L1) rfl rfl rfl rfl rfl ?_
    refine rw_new (cs := #[.slice A9 ((rows.getD j []).length) c10]) (t := 32) (fun g => .slice (some ⟨g, 0, none⟩) 1 1) rfl rfl rfl rfl (by kernel_rfl) ?_
    intro g14 w15 hg19 hz18 hb16 hk17
    have hs_w15 := hb16.size
    have hP20 : (Kd.slice 5 (Kd.int .u8)).C w15 (some ⟨g14, 0, none⟩) [(rows.getD j [])].length [(rows.getD j [])] := rows1 hk17 hle12 (Kd.C_below hC13 hb16)
    have hlj_ : (rows.getD j []).length ≤ 140737488355328 := hall _ (getD_mem rows j [] (by omega))
    have hfj_ := frameB_short (rows.getD j [])
    refine rw_call rfl rfl rfl rfl (f := 38) (args := #[.slice (some ⟨g14, 0, none⟩) 1 1]) (by simp [go_sem, sEv, sLook, nbeq, i64_w, -List.getD_eq_getElem?_getD]) (wrap_one w15 (some ⟨g14, 0, none⟩) 1 (rows.getD j []) (Kd.C_below hP20 (Below.refl _ _)) (by omega) (by omega)) ?_
    rintro e_ w23 ⟨A21, c22, rfl, hO24, hB25⟩
    refine ⟨_, rfl, ?_⟩
    have hs_w23 := hB25.size
    refine rw_val (v := .tuple #[.slice A21 ((frameB (rows.getD j [])).length) c22, errT (frameE (rows.getD j []))]) (w' := w23) rfl rfl rfl rfl rfl ?_
    refine rw_val (v := .slice A21 ((frameB (rows.getD j [])).length) c22) (w' := w23) rfl rfl rfl rfl (by simp [go_sem, sEv, sLook, nbeq, i64_w, -List.getD_eq_getElem?_getD]) ?_
    refine rw_val (v := errT (frameE (rows.getD j []))) (w' := w23) rfl rfl rfl rfl (by simp [go_sem, sEv, sLook, nbeq, i64_w, -List.getD_eq_getElem?_getD]) ?_
    refine rw_val (v := .slice A21 ((frameB (rows.getD j [])).length) c22) (w' := w23) rfl rfl rfl rfl rfl ?_
    refine rw_val (v := errT (frameE (rows.getD j []))) (w' := w23) rfl rfl rfl rfl rfl ?_
    refine rw_end ?_
    refine w_weaken (G' := [(0, .pointer (some ⟨gd, 0, none⟩)), (1, .slice (some ad6) rows.length c1), (5, .slice A5_ ((FC (rows.take j)).length) c5_), (8, .slice A21 ((frameB (rows.getD j [])).length) c22), (9, errT (frameE (rows.getD j []))), (11, .slice (some ad6) rows.length c1), (12, .int .i64 ((rows.length : Nat) : Int)), (13, .int .i64 ((j : Nat) : Int))]) ⟨rfl, rfl, rfl, rfl, rfl, rfl, rfl, rfl, trivial⟩ ?_
    refine w_seq ?_
    refine w_seq ?_
    refine w_region ?_
    refine rw_val (v := errT (frameE (rows.getD j []))) (w' := w23) rfl rfl rfl rfl rfl ?_
    refine rw_val (v := .bool ((frameE (rows.getD j [])).isSome)) (w' := w23) rfl rfl rfl rfl (run_as (guard_err_neq _ (frameE (rows.getD j [])) _)) ?_
    refine rw_val (v := .bool ((frameE (rows.getD j [])).isSome)) (w' := w23) rfl rfl rfl rfl rfl ?_
    rcases bcase ((frameE (rows.getD j [])).isSome) with cF | cF
    · refine rw_on (c := (frameE (rows.getD j [])).isSome) rfl rfl rfl (by first | (rw [cF]; rfl) | simp [cF]) ?_
      refine rw_val (v := .slice A5_ ((FC (rows.take j)).length) c5_) (w' := w23) rfl rfl rfl rfl rfl ?_
      refine rw_on (c := (frameE (rows.getD j [])).isSome) rfl rfl rfl (by first | (rw [cF]; rfl) | simp [cF]) ?_
      refine rw_val (v := .int .i64 (((FC (rows.take j)).length : Nat) : Int)) (w' := w23) rfl rfl rfl rfl (by simp [go_sem, sEv, sLook, nbeq, i64_w, -List.getD_eq_getElem?_getD]) ?_
      refine rw_on (c := (frameE (rows.getD j [])).isSome) rfl rfl rfl (by first | (rw [cF]; rfl) | simp [cF]) ?_
      refine rw_val (v := .slice A21 ((frameB (rows.getD j [])).length) c22) (w' := w23) rfl rfl rfl rfl rfl ?_
      refine rw_on (c := (frameE (rows.getD j [])).isSome) rfl rfl rfl (by first | (rw [cF]; rfl) | simp [cF]) ?_
      refine rw_val (v := .int .i64 (((frameB (rows.getD j [])).length : Nat) : Int)) (w' := w23) rfl rfl rfl rfl (by simp [go_sem, sEv, sLook, nbeq, i64_w, -List.getD_eq_getElem?_getD]) ?_
      refine rw_on (c := (frameE (rows.getD j [])).isSome) rfl rfl rfl (by first | (rw [cF]; rfl) | simp [cF]) ?_
      refine rw_val (v := .int .i64 (((FC (rows.take j)).length + ((frameB (rows.getD j [])).length) : Nat) : Int)) (w' := w23) rfl rfl rfl rfl (by simp [go_sem, sEv, sLook, nbeq, i64_w, -List.getD_eq_getElem?_getD]; exact wrap_id (by omega) (by omega)) ?_
      refine rw_on (c := (frameE (rows.getD j [])).isSome) rfl rfl rfl (by first | (rw [cF]; rfl) | simp [cF]) ?_
      refine rw_val (v := .bool (decide (1048576 < (((FC (rows.take j)).length + ((frameB (rows.getD j [])).length) : Nat) : Int)))) (w' := w23) rfl rfl rfl rfl (by simp [go_sem, sEv, sLook, nbeq, i64_w, -List.getD_eq_getElem?_getD]) ?_
      refine rw_val (v := .bool (decide (1048576 < (((FC (rows.take j)).length + ((frameB (rows.getD j [])).length) : Nat) : Int)))) (w' := w23) rfl rfl rfl rfl (by first | (simp [go_sem, sEv, sLook, nbeq, i64_w, -List.getD_eq_getElem?_getD, cF]; done) | (rw [cF]; simp [go_sem, sEv, sLook, nbeq, i64_w, -List.getD_eq_getElem?_getD]; done) | (simp [go_sem, sEv, sLook, nbeq, i64_w, -List.getD_eq_getElem?_getD] <;> omega) | (simp [go_sem, sEv, sLook, nbeq, i64_w, -List.getD_eq_getElem?_getD]; intro h_; exact absurd (by omega) h_)) ?_
      refine rw_end ?_
      refine w_weaken (G' := [(0, .pointer (some ⟨gd, 0, none⟩)), (1, .slice (some ad6) rows.length c1), (5, .slice A5_ ((FC (rows.take j)).length) c5_), (8, .slice A21 ((frameB (rows.getD j [])).length) c22), (11, .slice (some ad6) rows.length c1), (12, .int .i64 ((rows.length : Nat) : Int)), (13, .int .i64 ((j : Nat) : Int)), (32, .bool (decide (1048576 < (((FC (rows.take j)).length + ((frameB (rows.getD j [])).length) : Nat) : Int))))]) ⟨rfl, rfl, rfl, rfl, rfl, rfl, rfl, rfl, trivial⟩ ?_
      refine w_cond rfl rfl (fun c26 => ?_) (fun c26 => ?_)
      · have l27 : (1048576 < (((FC (rows.take j)).length + ((frameB (rows.getD j [])).length) : Nat) : Int)) := of_decide_eq_true c26
        refine w_seq ?_
        refine w_region ?_
        refine rw_val (v := errT (some 7)) (w' := w23) rfl rfl rfl rfl (by simp [go_sem, sEv, sLook, nbeq, i64_w, -List.getD_eq_getElem?_getD, errT]) ?_
        refine rw_val (v := errT (some 7)) (w' := w23) rfl rfl rfl rfl rfl ?_
        refine rw_end ?_
        refine w_ret (post_ret1 rfl rfl ?_)
        have hf_ : rwFull rows = true := rwFull_big (j := j + 1) (by rw [FC_take_getD rows j (by omega), List.length_append]; omega)
        rw [DS.rwE, DS.rw, if_pos hf_, if_pos hf_]
        exact ⟨rfl, m, ⟨(TapeAt.on (TapeAt.on (TapeAt.on hT hB_L1) hb16) hB25), (((hb.on hB_L1).on hb16).on hB25), hgd, hgd0⟩, by omega⟩
      · have l28 : ¬ (1048576 < (((FC (rows.take j)).length + ((frameB (rows.getD j [])).length) : Nat) : Int)) := of_decide_eq_false c26
        refine w_skip ?_
        refine w_region ?_
        refine rw_val (v := .slice A5_ ((FC (rows.take j)).length) c5_) (w' := w23) rfl rfl rfl rfl rfl ?_
        refine rw_val (v := .slice A21 ((frameB (rows.getD j [])).length) c22) (w' := w23) rfl rfl rfl rfl rfl ?_
        have oA35 : OwnK (Kd.int .u8) 5 w23 w.heap.size w.heap.size A5_ ((FC (rows.take j)).length) c5_ (FC (rows.take j)) := (OwnK.on (d := (Kd.int .u8)) hO5_ (chain hb16 hB25))
        refine rw_append_kd (d := (Kd.int .u8)) w.heap.size rfl rfl rfl (.tmp 34) (.tmp 35) rfl rfl 32 5 (.int .u8 0) 1 rfl (by kernel_rfl) (by kernel_rfl) rfl (show 0 < 1 by decide) (by decide) (fun _ _ h => h) (b := w.heap.size) rfl rfl (by omega) oA35 (OwnK.Cn (d := (Kd.int .u8)) hO24) (chain (chain hB_L1 hb16) hB25) (by omega) (by first | omega | (simp only [List.length_append, List.length_nil, List.length_cons]; omega)) ?_
        intro A29 c30 w31 hO32 hB33 hG34
        have hs_w31 := hB33.size
        have hgs_w31 := hG34.size
        have hk37 := OwnK.blk_grown (((hb.on hB_L1).on hb16).on hB25) oA35 (.inr (by decide)) hG34
        refine rw_val (v := .slice A29 (((FC (rows.take j)) ++ (frameB (rows.getD j []))).length) c30) (w' := w31) rfl rfl rfl rfl rfl ?_
        refine rw_end ?_
        refine w_weaken (G' := [(0, .pointer (some ⟨gd, 0, none⟩)), (1, .slice (some ad6) rows.length c1), (5, .slice A29 (((FC (rows.take j)) ++ (frameB (rows.getD j []))).length) c30), (11, .slice (some ad6) rows.length c1), (12, .int .i64 ((rows.length : Nat) : Int)), (13, .int .i64 ((j : Nat) : Int))]) ⟨rfl, rfl, rfl, rfl, rfl, rfl, trivial⟩ ?_
        refine w_blk ?_
        refine w_region ?_
        refine rw_val (v := .int .i64 ((j + 1 : Nat) : Int)) (w' := w31) rfl rfl rfl rfl (by simp [go_sem, sEv, sLook, nbeq, i64_w, -List.getD_eq_getElem?_getD]; exact wrap_id (by omega) (by omega)) ?_
        refine rw_val (v := .int .i64 ((j + 1 : Nat) : Int)) (w' := w31) rfl rfl rfl rfl rfl ?_
        refine rw_end ?_
        have e38 : ((FC (rows.take j)) ++ (frameB (rows.getD j []))) = (FC (rows.take (j + 1))) := by exact (FC_take_getD rows j (by omega)).symm
        have hO39 : OwnK (Kd.int .u8) 5 w31 w.heap.size w.heap.size A29 (FC (rows.take (j + 1))).length c30 (FC (rows.take (j + 1))) := by rw [← e38]; exact OwnK.full hO32
        have en40 : ((FC (rows.take j)) ++ (frameB (rows.getD j []))).length = (FC (rows.take (j + 1))).length := by rw [← e38] <;> exact OwnK.len (d := (Kd.int .u8)) hO32
        exact w_back (m_ - 1) [(0, .pointer (some ⟨gd, 0, none⟩)), (1, .slice (some ad6) rows.length c1), (5, .slice A29 ((FC (rows.take (j + 1))).length) c30), (11, .slice (some ad6) rows.length c1), (12, .int .i64 ((rows.length : Nat) : Int)), (13, .int .i64 ((j + 1 : Nat) : Int))] (by omega) ⟨rfl, rfl, (by first | rfl | (rw [← en40]; rfl)), rfl, rfl, rfl, trivial⟩ ⟨(j + 1), A29, c30, by omega, hB33, (OwnK.mono (d := (Kd.int .u8)) hO39 (by omega)), (by intro p hp; rw [List.take_succ_eq_append_getElem (by omega)] at hp; exact (List.mem_append.1 hp).elim (fun hp => hf3 p hp) (fun hp => by rw [List.mem_singleton.1 hp]; have q_ := mt frameE_long.2 (show ¬ (frameE (rows.getD j [])).isSome = true by rw [cF]; simp); rw [List.getD_eq_getElem?_getD, List.getElem?_eq_getElem (by omega)] at q_; exact Nat.le_of_not_lt q_)), (by rw [FC_take_getD rows j (by omega), List.length_append]; omega), rfl⟩
    · refine rw_off (c := (frameE (rows.getD j [])).isSome) rfl rfl rfl (by first | (rw [cF]; rfl) | simp [cF]) rfl rfl ?_
      refine rw_off (c := (frameE (rows.getD j [])).isSome) rfl rfl rfl (by first | (rw [cF]; rfl) | simp [cF]) rfl rfl ?_
      refine rw_off (c := (frameE (rows.getD j [])).isSome) rfl rfl rfl (by first | (rw [cF]; rfl) | simp [cF]) rfl rfl ?_
      refine rw_off (c := (frameE (rows.getD j [])).isSome) rfl rfl rfl (by first | (rw [cF]; rfl) | simp [cF]) rfl rfl ?_
      refine rw_off (c := (frameE (rows.getD j [])).isSome) rfl rfl rfl (by first | (rw [cF]; rfl) | simp [cF]) rfl rfl ?_
      refine rw_off (c := (frameE (rows.getD j [])).isSome) rfl rfl rfl (by first | (rw [cF]; rfl) | simp [cF]) rfl rfl ?_
      refine rw_val (v := .bool true) (w' := w23) rfl rfl rfl rfl (by first | (simp [go_sem, sEv, sLook, nbeq, i64_w, -List.getD_eq_getElem?_getD, cF]; done) | (rw [cF]; simp [go_sem, sEv, sLook, nbeq, i64_w, -List.getD_eq_getElem?_getD]; done) | (simp [go_sem, sEv, sLook, nbeq, i64_w, -List.getD_eq_getElem?_getD] <;> omega) | (simp [go_sem, sEv, sLook, nbeq, i64_w, -List.getD_eq_getElem?_getD]; intro h_; exact absurd (by omega) h_)) ?_
      refine rw_end ?_
      refine w_weaken (G' := [(0, .pointer (some ⟨gd, 0, none⟩)), (1, .slice (some ad6) rows.length c1), (5, .slice A5_ ((FC (rows.take j)).length) c5_), (8, .slice A21 ((frameB (rows.getD j [])).length) c22), (11, .slice (some ad6) rows.length c1), (12, .int .i64 ((rows.length : Nat) : Int)), (13, .int .i64 ((j : Nat) : Int)), (32, .bool true)]) ⟨rfl, rfl, rfl, rfl, rfl, rfl, rfl, rfl, trivial⟩ ?_
      refine w_cond_t rfl rfl rfl ?_
      refine w_seq ?_
      refine w_region ?_
      refine rw_val (v := errT (some 7)) (w' := w23) rfl rfl rfl rfl (by simp [go_sem, sEv, sLook, nbeq, i64_w, -List.getD_eq_getElem?_getD, errT]) ?_
      refine rw_val (v := errT (some 7)) (w' := w23) rfl rfl rfl rfl rfl ?_
      refine rw_end ?_
      refine w_ret (post_ret1 rfl rfl ?_)
      have hf_ : rwFull rows = true := rwFull_long (j := j) (by omega) cF
      rw [DS.rwE, DS.rw, if_pos hf_, if_pos hf_]
      exact ⟨rfl, m, ⟨(TapeAt.on (TapeAt.on (TapeAt.on hT hB_L1) hb16) hB25), (((hb.on hB_L1).on hb16).on hB25), hgd, hgd0⟩, by omega⟩
  · have l41 : ¬ (((j : Nat) : Int) < ((rows.length : Nat) : Int)) := of_decide_eq_false cJ
    refine w_exit rfl ?_
    refine w_seq ?_
    refine w_seq ?_
    refine w_region ?_
    refine rw_val (v := .pointer (some ⟨gd, 0, none⟩)) (w' := w_L1) rfl rfl rfl rfl rfl ?_
    refine rw_val (v := .bool false) (w' := w_L1) rfl rfl rfl rfl (run_as (run_ptr_eql (e := 80) (by kernel_rfl) _ _)) ?_
    refine rw_end ?_
    refine w_cond_f rfl rfl rfl ?_
    refine w_skip ?_
    refine w_seq ?_
    refine w_seq ?_
    refine w_region ?_
    refine rw_val (v := .pointer (some ⟨gd, 0, none⟩)) (w' := w_L1) rfl rfl rfl rfl rfl ?_
    refine rw_val (v := .pointer (some ⟨gd, 0, none⟩)) (w' := w_L1) rfl rfl rfl rfl (by simp [go_sem, sEv, sLook, nbeq, i64_w, -List.getD_eq_getElem?_getD]) ?_
    refine rw_val (v := .pointer (some ⟨gd, 0, none⟩)) (w' := w_L1) rfl rfl rfl rfl (by simp [go_sem, sEv, sLook, nbeq, i64_w, -List.getD_eq_getElem?_getD, Try.underlying80]) ?_
    refine rw_val (v := .pointer (some ⟨g, 0, none⟩)) (w' := w_L1) rfl rfl rfl rfl (by have eb_ := (hb.on hB_L1); have e0_ := eb_.cellv (i := 0) (v := (.pointer (some ⟨g, 0, none⟩) : Value)) rfl; simp [go_sem, sEv, sLook, nbeq, i64_w, -List.getD_eq_getElem?_getD, e0_]) ?_
    refine rw_val (v := .slice A5_ ((FC (rows.take j)).length) c5_) (w' := w_L1) rfl rfl rfl rfl rfl ?_
    refine rw_call rfl rfl rfl rfl (f := 37) (args := #[.pointer (some ⟨g, 0, none⟩), .slice A5_ ((FC (rows.take j)).length) c5_]) (by simp [go_sem, sEv, sLook, nbeq, i64_w, -List.getD_eq_getElem?_getD]) (replace_T w0 w_L1 g m gd (by omega) D.s (TapeAt.on hT hB_L1) hok A5_ (FC (rows.take j)) c5_ (ownK_kept (S := fun k => k = g) hO5_ (fun q hq h => by omega))) ?_
    rintro e_ w42 ⟨rfl, hT43, hs44, hx45, hq46⟩
    refine ⟨_, rfl, ?_⟩
    have hts_w42 := hT43.size
    have hk_w42 : Blk w42 gd 80 _ := (hx45 hgd).trans ((hb.on hB_L1))
    have hlt_w42 := hk_w42.lt
    refine rw_val (v := errT (D.s.repE (FC (rows.take j)))) (w' := w42) rfl rfl rfl rfl rfl ?_
    refine rw_end ?_
    refine w_weaken (G' := [(0, .pointer (some ⟨gd, 0, none⟩)), (1, .slice A1 rows.length c1), (5, .slice A5_ ((FC (rows.take j)).length) c5_), (10, errT (D.s.repE (FC (rows.take j))))]) ⟨rfl, rfl, rfl, rfl, trivial⟩ ?_
    refine w_seq ?_
    refine w_region ?_
    refine rw_val (v := errT (D.s.repE (FC (rows.take j)))) (w' := w42) rfl rfl rfl rfl rfl ?_
    refine rw_val (v := .bool ((D.s.repE (FC (rows.take j))).isSome)) (w' := w42) rfl rfl rfl rfl (run_as (guard_err_neq _ (D.s.repE (FC (rows.take j))) _)) ?_
    refine rw_end ?_
    refine w_cond rfl rfl (fun cE => ?_) (fun cE => ?_)
    · refine w_seq ?_
      refine w_region ?_
      refine rw_val (v := errT (D.s.repE (FC (rows.take j)))) (w' := w42) rfl rfl rfl rfl rfl ?_
      refine rw_val (v := errT (D.s.repE (FC (rows.take j)))) (w' := w42) rfl rfl rfl rfl rfl ?_
      refine rw_end ?_
      refine w_ret (post_ret1 rfl rfl ?_)
      have ej_ : j = rows.length := by omega
      subst ej_
      have et_ : rows.take rows.length = rows := List.take_length
      have hf_ : rwFull rows = false := rwFull_no (by rw [et_] at hf3; exact hf3) (by rw [et_] at hf4; exact hf4)
      have n_ : ¬ rwFull rows = true := by rw [hf_]; simp
      have hT_ := hT43
      have hb_ := hk_w42
      rw [et_] at cE hT_
      try rw [et_] at hb_
      rw [DS.rwE, DS.rw, if_neg n_, if_neg n_, if_pos cE]
      exact ⟨congrArg (fun z => Ending.returned (errT (D.s.repE (FC z)))) et_, w42.heap.size, ⟨hT_, hb_, hgd, hgd0⟩, by omega⟩
    · refine w_skip ?_
      refine w_seq ?_
      refine w_region ?_
      refine rw_val (v := .pointer (some ⟨gd, 0, none⟩)) (w' := w42) rfl rfl rfl rfl rfl ?_
      refine rw_val (v := .pointer (some ⟨gd, 0, none⟩)) (w' := w42) rfl rfl rfl rfl rfl ?_
      refine rw_val (v := .slice A1 rows.length c1) (w' := w42) rfl rfl rfl rfl rfl ?_
      refine rw_val (v := .int .i64 ((rows.length : Nat) : Int)) (w' := w42) rfl rfl rfl rfl (by simp [go_sem, sEv, sLook, nbeq, i64_w, -List.getD_eq_getElem?_getD]) ?_
      refine rw_val (v := .slice A5_ ((FC (rows.take j)).length) c5_) (w' := w42) rfl rfl rfl rfl rfl ?_
      refine rw_val (v := .int .i64 (((FC (rows.take j)).length : Nat) : Int)) (w' := w42) rfl rfl rfl rfl (by simp [go_sem, sEv, sLook, nbeq, i64_w, -List.getD_eq_getElem?_getD]) ?_
      refine rw_val (v := .pointer (some ⟨gd, 0, none⟩)) (w' := w42) rfl rfl rfl rfl (by simp [go_sem, sEv, sLook, nbeq, i64_w, -List.getD_eq_getElem?_getD]) ?_
      refine rw_val (v := .pointer (some ⟨gd, 1, none⟩)) (w' := w42) rfl rfl rfl rfl (by simp [go_sem, sEv, sLook, nbeq, i64_w, -List.getD_eq_getElem?_getD, Try.underlying80]) ?_
      have hb51 := hk_w42
      refine rw_store (g := gd) (i := 1) (l := [.int .i64 ((rows.length : Nat) : Int)]) (cs' := #[.pointer (some ⟨g, 0, none⟩), .int .i64 ((rows.length : Nat) : Int), .int .i64 D.b]) rfl rfl rfl hb51 rfl (by have e0_ := hb51.cellv (i := 1) (v := (.int .i64 D.r : Value)) rfl; have f0_ := hb51.frozen 1; simp [go_sem, sEv, sLook, nbeq, i64_w, -List.getD_eq_getElem?_getD, putCells, e0_, f0_]) ?_
      intro w48 hk49 hk50
      have hs_w48 := hk49.size
      refine rw_val (v := .pointer (some ⟨gd, 0, none⟩)) (w' := w48) rfl rfl rfl rfl (by simp [go_sem, sEv, sLook, nbeq, i64_w, -List.getD_eq_getElem?_getD]) ?_
      refine rw_val (v := .pointer (some ⟨gd, 2, none⟩)) (w' := w48) rfl rfl rfl rfl (by simp [go_sem, sEv, sLook, nbeq, i64_w, -List.getD_eq_getElem?_getD, Try.underlying80]) ?_
      have hb55 := hk50
      refine rw_store (g := gd) (i := 2) (l := [.int .i64 (((FC (rows.take j)).length : Nat) : Int)]) (cs' := #[.pointer (some ⟨g, 0, none⟩), .int .i64 ((rows.length : Nat) : Int), .int .i64 (((FC (rows.take j)).length : Nat) : Int)]) rfl rfl rfl hb55 rfl (by have e0_ := hb55.cellv (i := 2) (v := (.int .i64 D.b : Value)) rfl; have f0_ := hb55.frozen 2; simp [go_sem, sEv, sLook, nbeq, i64_w, -List.getD_eq_getElem?_getD, putCells, e0_, f0_]) ?_
      intro w52 hk53 hk54
      have hs_w52 := hk53.size
      refine rw_end ?_
      refine w_weaken (G' := []) trivial ?_
      refine w_seq ?_
      refine w_region ?_
      refine rw_val (v := .nilIface) (w' := w52) rfl rfl rfl rfl rfl ?_
      refine rw_end ?_
      refine w_ret (post_ret1 rfl rfl ?_)
      have ej_ : j = rows.length := by omega
      subst ej_
      have et_ : rows.take rows.length = rows := List.take_length
      have hf_ : rwFull rows = false := rwFull_no (by rw [et_] at hf3; exact hf3) (by rw [et_] at hf4; exact hf4)
      have n_ : ¬ rwFull rows = true := by rw [hf_]; simp
      have hT_ := (TapeAt.beside (TapeAt.beside hT43 hk49 hgd hgd0) hk53 hgd hgd0)
      have hb_ := hk54
      rw [et_] at cE hT_
      try rw [et_] at hb_
      have e0_ : D.s.repE (FC rows) = none := by simpa using cE
      rw [DS.rwE, DS.rw, if_neg n_, if_neg n_, if_neg (by rw [cE]; simp), e0_]
      exact ⟨rfl, w42.heap.size, ⟨hT_, hb_, hgd, hgd0⟩, by omega⟩
end Go.Proofs.Ytiiljpaedelhlaa.Tp
