/- Rows come back in order: the law's walk. -/
import Derived.Test.YtiiljpaedelhlaaDyTexts
namespace Go.Proofs.Ytiiljpaedelhlaa.Tp
open Go.RowKit Go.Proofs.YtiiljpaedelhlaaW.PrintWords Go.Proofs.YtiiljpaedelhlaaW.PrintLast Go.Proofs.YtiiljpaedelhlaaW.PrintMore
open Go.Proofs.Ytiiljpaedelhlaa.Flow
open Go.Proofs.Ytiiljpaedelhlaa.PDiaryPlays (SplitR Bytes frameB frameE FC wholeP errW wrap_calls split_calls frameB_len frameB_bytes)
set_option linter.unusedVariables false
set_option linter.unusedSimpArgs false


theorem bool_el {w : World} {A : Option Addr} {n : Nat} {xs : List Bool} (h : Kd.bool.C w A n xs) (z : Bool) (i : Nat) (hi : i < n) : ∃ ad, A = some ad ∧ ∀ j u, [Value.bool (xs.getD i z)][j]? = some u → w.cell? (ad.add (i + j)) = some u := by
  obtain ⟨ad, c, h1, h2, h3, h4⟩ := Kd.C_get h z (i : Int) (by omega) (by omega)
  have h5 : c = [Value.bool (xs.getD ((i : Int)).toNat z)] := h3
  subst h5
  refine ⟨ad, h1, fun j u hu => ?_⟩
  have h6 := h4 j u hu
  have e1 : ((i : Int)).toNat * Kd.bool.sz + j = i + j := by show ((i : Int)).toNat * 1 + j = i + j; omega
  rw [e1] at h6
  exact h6
theorem pl_app (xs f : List Int) (sure steps : Int) (h : xs.length + f.length ≤ 1048576) : (pl xs sure steps).appE f = none ∧ (pl xs sure steps).app f = pl (xs ++ f) sure (steps + 1) := by
  have e1 : (pl xs sure steps).err = none := rfl
  have h2 : ¬ 1048576 < (pl xs sure steps).xs.length + f.length := by show ¬ 1048576 < xs.length + f.length; omega
  refine ⟨?_, ?_⟩
  · rw [TS.appE, if_neg h2, e1]
  · rw [TS.app, if_neg h2, if_neg (by rw [e1]; simp)]
    rfl
theorem pl_sync (xs : List Int) (sure steps : Int) : (pl xs sure steps).err = none ∧ (pl xs sure steps).sync = pl xs (xs.length : Int) (steps + 1) := ⟨rfl, rfl⟩
/-- A diary with rows, all sure, k calls of Add behind it. -/
def PD (rows : List (List Int)) (k : Nat) : DS := ⟨pl (FC rows) ((FC rows).length : Int) ((2 * k : Nat) : Int), (rows.length : Int), ((FC rows).length : Int)⟩
theorem PD_ok (rows : List (List Int)) (k : Nat) (hk : k ≤ 1000) (h : (FC rows).length ≤ 1048576) : (PD rows k).s.Ok := pl_ok (by omega) (by omega) h
theorem frameE_no {row : List Int} (h : row.length ≤ 16376) : frameE row = none := by unfold frameE; rw [if_neg (by omega)]
theorem add_PD (rows : List (List Int)) (row : List Int) (k : Nat) (hl : row.length ≤ 16376) (hfit : (FC rows).length + (8 + row.length) ≤ 1048576) : (PD rows k).addE row = none ∧ (PD rows k).add row = PD (rows ++ [row]) (k + 1) := by
  have e0 := frameE_no hl
  have e1 := frameB_len row hl
  obtain ⟨e2, e3⟩ := pl_app (FC rows) (frameB row) ((FC rows).length : Int) ((2 * k : Nat) : Int) (by omega)
  have e2' : (PD rows k).s.appE (frameB row) = none := e2
  have e3' : (PD rows k).s.app (frameB row) = pl (FC rows ++ frameB row) ((FC rows).length : Int) (((2 * k : Nat) : Int) + 1) := e3
  have e4 : (PD rows k).add1E row = none := by rw [DS.add1E, e2', if_pos (show (none : Option Int).isNone = true from rfl), e3']; rfl
  have e5 : (PD rows k).add1S row = pl (FC rows ++ frameB row) ((FC rows ++ frameB row).length : Int) (((2 * k : Nat) : Int) + 1 + 1) := by rw [DS.add1S, e2', if_pos (show (none : Option Int).isNone = true from rfl), e3']; rfl
  refine ⟨by rw [DS.addE, e0, if_neg (by simp), e4], ?_⟩
  rw [DS.add, e0, if_neg (by simp), e4, if_neg (by simp), e5]
  have e6 : FC (rows ++ [row]) = FC rows ++ frameB row := by rw [FC_append, FC_one]
  unfold PD
  rw [e6]
  simp only [List.length_append, List.length_cons, List.length_nil]
  congr 2
theorem take_snoc (rows : List (List Int)) (j : Nat) (h : j < rows.length) : rows.take (j + 1) = rows.take j ++ [rows.getD j []] := by
  rw [List.take_succ_eq_append_getElem h, List.getD_eq_getElem?_getD, List.getElem?_eq_getElem h]
  rfl
theorem FC_len_succ (rows : List (List Int)) (j : Nat) (h : j < rows.length) (hl : (rows.getD j []).length ≤ 16376) : (FC (rows.take (j + 1))).length = (FC (rows.take j)).length + (8 + (rows.getD j []).length) := by
  rw [FC_take_getD rows j h, List.length_append, frameB_len _ hl]
theorem add_PDt (rows : List (List Int)) (j : Nat) (h : j < rows.length) (hl : (rows.getD j []).length ≤ 16376) (hfit : (FC (rows.take j)).length + (8 + (rows.getD j []).length) ≤ 1048576) : (PD (rows.take j) j).addE (rows.getD j []) = none ∧ (PD (rows.take j) j).add (rows.getD j []) = PD (rows.take (j + 1)) (j + 1) := by
  rw [take_snoc rows j h]
  exact add_PD _ _ _ hl hfit
set_option maxHeartbeats 4000000 in
theorem walkGrows (w : World) (A1 A2 : Option Addr) (c1 c2 : Nat) (rows : List (List Int)) (ops : List Bool) (hr : (Kd.slice 5 (Kd.int .u8)).C w A1 rows.length rows) (hc1 : rows.length ≤ c1) (ho : Kd.bool.C w A2 ops.length ops) (hc2 : ops.length ≤ c2) (hby : ∀ r ∈ rows, Bytes r) :
    Calls Try.prog 3 #[.slice A1 rows.length c1, .slice A2 ops.length c2] w fun e w' => e = .returned (.bool true) ∧ Below w.heap.size w w' := by
  refine calls_flow Try.func3 rfl 108 rfl (Nat.le_of_ble_eq_true rfl) [(0, .slice A1 rows.length c1), (1, .slice A2 ops.length c2)] ?_ ?_
  · intro t v h; exact args_look rfl t v h
  refine w_seq ?_
  refine w_region ?_
  refine rw_val (v := .bool false) (w' := w) rfl rfl rfl rfl rfl ?_
  refine rw_end ?_
  refine w_seq ?_
  refine w_seq ?_
  refine w_region ?_
  refine rw_call rfl rfl rfl rfl (f := 9) (args := #[]) (by simp [go_sem, sEv, sLook, nbeq, i64_w, -List.getD_eq_getElem?_getD]) (alive_calls w) ?_
  rintro e_ w1 ⟨rfl, hb2⟩
  refine ⟨_, rfl, ?_⟩
  have hs_w1 := hb2.size
  refine rw_val (v := .bool false) (w' := w1) rfl rfl rfl rfl (by simp [go_sem, sEv, sLook, nbeq, i64_w, -List.getD_eq_getElem?_getD]) ?_
  refine rw_end ?_
  refine w_cond_f rfl rfl rfl ?_
  refine w_skip ?_
  refine w_seq ?_
  refine w_seq ?_
  refine w_region ?_
  refine rw_val (v := .slice A1 rows.length c1) (w' := w1) rfl rfl rfl rfl rfl ?_
  refine rw_val (v := .int .i64 ((rows.length : Nat) : Int)) (w' := w1) rfl rfl rfl rfl (by simp [go_sem, sEv, sLook, nbeq, i64_w, -List.getD_eq_getElem?_getD]) ?_
  refine rw_val (v := .bool (decide (100 < ((rows.length : Nat) : Int)))) (w' := w1) rfl rfl rfl rfl (by simp [go_sem, sEv, sLook, nbeq, i64_w, -List.getD_eq_getElem?_getD]) ?_
  refine rw_end ?_
  refine w_cond rfl rfl (fun c3 => ?_) (fun c3 => ?_)
  · have l4 : (100 < ((rows.length : Nat) : Int)) := of_decide_eq_true c3
    refine w_seq ?_
    refine w_region ?_
    refine rw_val (v := .bool true) (w' := w1) rfl rfl rfl rfl rfl ?_
    refine rw_end ?_
    refine w_ret (post_ret1 rfl rfl ?_)
    exact ⟨rfl, hb2⟩
  · have l5 : ¬ (100 < ((rows.length : Nat) : Int)) := of_decide_eq_false c3
    refine w_skip ?_
    refine w_seq ?_
    refine w_region ?_
    refine rw_call rfl rfl rfl rfl (f := 10) (args := #[]) (by simp [go_sem, sEv, sLook, nbeq, i64_w, -List.getD_eq_getElem?_getD]) (new_T w1) ?_
    rintro e_ w7 ⟨g6, rfl, hT8, hs9⟩
    refine ⟨_, rfl, ?_⟩
    have hT8o : TapeAt w w7 g6 w7.heap.size g6 TS.start := new_on hb2 hT8
    have hz_w7 := hT8o.size
    refine rw_val (v := .pointer (some ⟨g6, 0, none⟩)) (w' := w7) rfl rfl rfl rfl rfl ?_
    refine rw_end ?_
    refine w_seq ?_
    refine w_region ?_
    refine rw_val (v := .pointer (some ⟨g6, 0, none⟩)) (w' := w7) rfl rfl rfl rfl rfl ?_
    refine rw_call rfl rfl rfl rfl (f := 11) (args := #[.pointer (some ⟨g6, 0, none⟩)]) (by simp [go_sem, sEv, sLook, nbeq, i64_w, -List.getD_eq_getElem?_getD]) (open_full w w7 g6 w7.heap.size g6 (by omega) TS.start hT8o (okB_ok (by decide +kernel)) ([] : List (List Int)) (by rfl) (by intro r hr; cases hr) (by intro r hr; cases hr) rfl) ?_
    rintro e_ w14 ⟨gd10, m11, A12, c13, rfl, hD15, hO16, hs17, hK19⟩
    refine ⟨_, rfl, ?_⟩
    obtain ⟨hD15t, hD15b, hD15g, hD15z⟩ := hD15
    have hz_w14 := hD15t.size
    have hlt_w14 := hD15b.lt
    have hL18 : OwnK (Kd.slice 5 (Kd.int .u8)) 32 w14 w.heap.size w.heap.size A12 (([] : List (List Int))).length c13 ([] : List (List Int)) := OwnK.mono (d := (Kd.slice 5 (Kd.int .u8))) (OwnK.lower (d := (Kd.slice 5 (Kd.int .u8))) hO16 (by omega)) (by omega)
    refine rw_val (v := .tuple #[.pointer (some ⟨gd10, 0, none⟩), .slice A12 ((([] : List (List Int))).length) c13, errT none]) (w' := w14) rfl rfl rfl rfl rfl ?_
    refine rw_val (v := .pointer (some ⟨gd10, 0, none⟩)) (w' := w14) rfl rfl rfl rfl (by simp [go_sem, sEv, sLook, nbeq, i64_w, -List.getD_eq_getElem?_getD]) ?_
    refine rw_val (v := .slice A12 ((([] : List (List Int))).length) c13) (w' := w14) rfl rfl rfl rfl (by simp [go_sem, sEv, sLook, nbeq, i64_w, -List.getD_eq_getElem?_getD]) ?_
    refine rw_val (v := errT none) (w' := w14) rfl rfl rfl rfl (by simp [go_sem, sEv, sLook, nbeq, i64_w, -List.getD_eq_getElem?_getD]) ?_
    refine rw_val (v := .pointer (some ⟨gd10, 0, none⟩)) (w' := w14) rfl rfl rfl rfl rfl ?_
    refine rw_val (v := .slice A12 ((([] : List (List Int))).length) c13) (w' := w14) rfl rfl rfl rfl rfl ?_
    refine rw_val (v := errT none) (w' := w14) rfl rfl rfl rfl rfl ?_
    refine rw_end ?_
    refine w_weaken (G' := [(0, .slice A1 rows.length c1), (1, .slice A2 ops.length c2), (4, .bool false), (5, .pointer (some ⟨g6, 0, none⟩)), (6, .pointer (some ⟨gd10, 0, none⟩)), (8, errT none)]) ⟨rfl, rfl, rfl, rfl, rfl, rfl, trivial⟩ ?_
    refine w_seq ?_
    refine w_seq ?_
    refine w_region ?_
    refine rw_val (v := errT none) (w' := w14) rfl rfl rfl rfl rfl ?_
    refine rw_val (v := .bool ((none : Option Int).isSome)) (w' := w14) rfl rfl rfl rfl (run_as (guard_err_neq _ (none : Option Int) _)) ?_
    refine rw_end ?_
    have hq20 : ((none : Option Int).isSome) = false := by rfl
    refine w_cond_f rfl rfl hq20 ?_
    refine w_skip ?_
    refine w_seq ?_
    refine w_region ?_
    refine rw_val (v := .int .i64 0) (w' := w14) rfl rfl rfl rfl rfl ?_
    refine rw_end ?_
    refine w_seq ?_
    refine w_seq ?_
    refine w_region ?_
    refine rw_val (v := .slice A1 rows.length c1) (w' := w14) rfl rfl rfl rfl rfl ?_
    refine rw_val (v := .int .i64 ((rows.length : Nat) : Int)) (w' := w14) rfl rfl rfl rfl (by simp [go_sem, sEv, sLook, nbeq, i64_w, -List.getD_eq_getElem?_getD]) ?_
    refine rw_val (v := .int .i64 0) (w' := w14) rfl rfl rfl rfl rfl ?_
    refine rw_end ?_
    refine w_block ?_
    refine w_loop (fun m_ G W_ => ∃ (j : Nat) (gd : Nat) (md : Nat), j + m_ = rows.length ∧ Below w.heap.size w W_ ∧ (DiaryAt w W_ g6 gd md (PD (rows.take j) j)) ∧ (∀ p ∈ rows.take j, p.length ≤ 2000) ∧ ((FC (rows.take j)).length ≤ 2008 * j) ∧ G = [(0, .slice A1 rows.length c1), (1, .slice A2 ops.length c2), (5, .pointer (some ⟨g6, 0, none⟩)), (6, .pointer (some ⟨gd, 0, none⟩)), (9, .int .i64 (((FC (rows.take j)).length : Nat) : Int)), (29, .slice A1 rows.length c1), (30, .int .i64 ((rows.length : Nat) : Int)), (31, .int .i64 ((j : Nat) : Int))]) rows.length [(0, .slice A1 rows.length c1), (1, .slice A2 ops.length c2), (5, .pointer (some ⟨g6, 0, none⟩)), (6, .pointer (some ⟨gd10, 0, none⟩)), (9, .int .i64 (((FC (rows.take 0)).length : Nat) : Int)), (29, .slice A1 rows.length c1), (30, .int .i64 ((rows.length : Nat) : Int)), (31, .int .i64 0)] ⟨0, gd10, m11, by omega, hD15t.1, ⟨hD15t, hD15b, hD15g, hD15z⟩, (by simp), (by simp [FC]), rfl⟩ ⟨rfl, rfl, rfl, rfl, rfl, rfl, rfl, rfl, trivial⟩ ?_
    rintro m_ G w_L21 ⟨j, gd, md, hp22, hB_L21, hf23, hf24, hf25, rfl⟩
    have hs_w_L21 := hB_L21.size
    obtain ⟨hDt_, hDb_, hDg_, hDz_⟩ := hf23
    have hzD_ := hDt_.size
    have hlD_ := hDb_.lt
    refine w_seq ?_
    refine w_region ?_
    refine rw_val (v := .bool (decide (((j : Nat) : Int) < ((rows.length : Nat) : Int)))) (w' := w_L21) rfl rfl rfl rfl (by simp [go_sem, sEv, sLook, nbeq, i64_w, -List.getD_eq_getElem?_getD]) ?_
    refine rw_end ?_
    refine w_seq ?_
    refine w_cond rfl rfl (fun cJ => ?_) (fun cJ => ?_)
    · have l26 : (((j : Nat) : Int) < ((rows.length : Nat) : Int)) := of_decide_eq_true cJ
      refine w_skip ?_
      refine w_seq ?_
      refine w_block ?_
      refine w_seq ?_
      refine w_region ?_
      refine rw_val (v := .int .i64 ((j : Nat) : Int)) (w' := w_L21) rfl rfl rfl rfl rfl ?_
      obtain ⟨ad27, A30, c31, hA28, he32, hle33, hC34⟩ := rows_at (Kd.C_below hr hB_L21) j (by first | omega | decide)
      subst hA28
      refine rw_val (v := .pointer (some (ad27.add (j)))) (w' := w_L21) rfl rfl rfl rfl (run_as (run_at_1 (P := Try.prog) (e := 32) (by kernel_rfl) (by kernel_rfl) j (by first | omega | decide) _)) ?_
      refine rw_val (v := .slice A30 ((rows.getD j []).length) c31) (w' := w_L21) rfl rfl rfl rfl (by have e0_ := cellOn he32 (Below.refl _ _); simp [go_sem, sEv, sLook, nbeq, i64_w, -List.getD_eq_getElem?_getD, e0_, Try.underlying32]) ?_
      refine rw_val (v := .int .i64 ((j : Nat) : Int)) (w' := w_L21) rfl rfl rfl rfl rfl ?_
      refine rw_val (v := .slice A30 ((rows.getD j []).length) c31) (w' := w_L21) rfl rfl rfl rfl rfl ?_
      refine rw_end ?_
      refine w_weaken (G' := [(0, .slice (some ad27) rows.length c1), (1, .slice A2 ops.length c2), (5, .pointer (some ⟨g6, 0, none⟩)), (6, .pointer (some ⟨gd, 0, none⟩)), (9, .int .i64 (((FC (rows.take j)).length : Nat) : Int)), (10, .int .i64 ((j : Nat) : Int)), (11, .slice A30 ((rows.getD j []).length) c31), (29, .slice (some ad27) rows.length c1), (30, .int .i64 ((rows.length : Nat) : Int)), (31, .int .i64 ((j : Nat) : Int))]) ⟨rfl, rfl, rfl, rfl, rfl, rfl, rfl, rfl, rfl, rfl, trivial⟩ ?_
      refine w_seq ?_
      refine w_seq ?_
      refine w_region ?_
      refine rw_val (v := .slice A30 ((rows.getD j []).length) c31) (w' := w_L21) rfl rfl rfl rfl rfl ?_
      refine rw_val (v := .int .i64 (((rows.getD j []).length : Nat) : Int)) (w' := w_L21) rfl rfl rfl rfl (by simp [go_sem, sEv, sLook, nbeq, i64_w, -List.getD_eq_getElem?_getD]) ?_
      refine rw_val (v := .bool (decide (2000 < (((rows.getD j []).length : Nat) : Int)))) (w' := w_L21) rfl rfl rfl rfl (by simp [go_sem, sEv, sLook, nbeq, i64_w, -List.getD_eq_getElem?_getD]) ?_
      refine rw_end ?_
      refine w_cond rfl rfl (fun cL => ?_) (fun cL => ?_)
      · have l35 : (2000 < (((rows.getD j []).length : Nat) : Int)) := of_decide_eq_true cL
        refine w_seq ?_
        refine w_region ?_
        refine rw_val (v := .bool true) (w' := w_L21) rfl rfl rfl rfl rfl ?_
        refine rw_end ?_
        refine w_ret (post_ret1 rfl rfl ?_)
        exact ⟨rfl, hB_L21⟩
      · have l36 : ¬ (2000 < (((rows.getD j []).length : Nat) : Int)) := of_decide_eq_false cL
        refine w_skip ?_
        refine w_seq ?_
        refine w_seq ?_
        refine w_region ?_
        refine rw_val (v := .pointer (some ⟨gd, 0, none⟩)) (w' := w_L21) rfl rfl rfl rfl rfl ?_
        refine rw_val (v := .slice A30 ((rows.getD j []).length) c31) (w' := w_L21) rfl rfl rfl rfl rfl ?_
        have hadd_ := add_PDt rows j (by omega) (by omega) (by omega)
        have hfs_ := FC_len_succ rows j (by omega) (by omega)
        have hall1_ : ∀ p ∈ (rows.take (j + 1)), p.length ≤ 2000 := fun p hp => by rw [take_snoc rows j (by omega)] at hp; exact (List.mem_append.1 hp).elim (fun hp => hf24 p hp) (fun hp => by rw [List.mem_singleton.1 hp]; omega)
        refine rw_call rfl rfl rfl rfl (f := 12) (args := #[.pointer (some ⟨gd, 0, none⟩), .slice A30 ((rows.getD j []).length) c31]) (by simp [go_sem, sEv, sLook, nbeq, i64_w, -List.getD_eq_getElem?_getD]) (add_D w w_L21 g6 gd md (PD (rows.take j) j) ⟨hDt_, hDb_, hDg_, hDz_⟩ (PD_ok _ _ (by omega) (by omega)) (show ((2 * j : Nat) : Int) ≤ 999999990 by omega) (show -1000000000 ≤ (((rows.take j).length : Nat) : Int) ∧ (((rows.take j).length : Nat) : Int) ≤ 1000000000 by rw [List.length_take]; omega) (show -1000000000 ≤ (((FC (rows.take j)).length : Nat) : Int) ∧ (((FC (rows.take j)).length : Nat) : Int) ≤ 1000000000 by omega) A30 c31 (rows.getD j []) (Kd.C_below hC34 (Below.refl _ _)) hle33 (by first | omega | (simp only [List.length_cons, List.length_nil]; omega))) ?_
        rintro e_ w38 ⟨rfl, m37, hD39, hs40⟩
        refine ⟨_, rfl, ?_⟩
        rw [hadd_.1]
        rw [hadd_.2] at hD39
        obtain ⟨hD39t, hD39b, hD39g, hD39z⟩ := hD39
        have hz_w38 := hD39t.size
        have hlt_w38 := hD39b.lt
        refine rw_val (v := .bool ((none : Option Int).isSome)) (w' := w38) rfl rfl rfl rfl (run_as (guard_err_neq _ (none : Option Int) _)) ?_
        refine rw_end ?_
        refine w_weaken (G' := [(0, .slice (some ad27) rows.length c1), (1, .slice A2 ops.length c2), (5, .pointer (some ⟨g6, 0, none⟩)), (6, .pointer (some ⟨gd, 0, none⟩)), (9, .int .i64 (((FC (rows.take j)).length : Nat) : Int)), (10, .int .i64 ((j : Nat) : Int)), (11, .slice A30 ((rows.getD j []).length) c31), (29, .slice (some ad27) rows.length c1), (30, .int .i64 ((rows.length : Nat) : Int)), (31, .int .i64 ((j : Nat) : Int)), (42, .bool ((none : Option Int).isSome))]) ⟨rfl, rfl, rfl, rfl, rfl, rfl, rfl, rfl, rfl, rfl, rfl, trivial⟩ ?_
        refine w_cond_f rfl rfl hq20 ?_
        refine w_skip ?_
        refine w_seq ?_
        refine w_region ?_
        refine rw_val (v := .int .i64 (((FC (rows.take j)).length : Nat) : Int)) (w' := w38) rfl rfl rfl rfl rfl ?_
        refine rw_val (v := .slice A30 ((rows.getD j []).length) c31) (w' := w38) rfl rfl rfl rfl rfl ?_
        refine rw_val (v := .int .i64 (((rows.getD j []).length : Nat) : Int)) (w' := w38) rfl rfl rfl rfl (by simp [go_sem, sEv, sLook, nbeq, i64_w, -List.getD_eq_getElem?_getD]) ?_
        refine rw_val (v := .int .i64 ((8 + ((rows.getD j []).length) : Nat) : Int)) (w' := w38) rfl rfl rfl rfl (by simp [go_sem, sEv, sLook, nbeq, i64_w, -List.getD_eq_getElem?_getD]; exact wrap_id (by omega) (by omega)) ?_
        refine rw_val (v := .int .i64 (((FC (rows.take (j + 1))).length : Nat) : Int)) (w' := w38) rfl rfl rfl rfl (by simp [go_sem, sEv, sLook, nbeq, i64_w, -List.getD_eq_getElem?_getD]; rw [wrap_id (by omega) (by omega)]; omega) ?_
        refine rw_val (v := .int .i64 (((FC (rows.take (j + 1))).length : Nat) : Int)) (w' := w38) rfl rfl rfl rfl rfl ?_
        refine rw_end ?_
        refine w_weaken (G' := [(0, .slice (some ad27) rows.length c1), (1, .slice A2 ops.length c2), (5, .pointer (some ⟨g6, 0, none⟩)), (6, .pointer (some ⟨gd, 0, none⟩)), (9, .int .i64 (((FC (rows.take (j + 1))).length : Nat) : Int)), (10, .int .i64 ((j : Nat) : Int)), (29, .slice (some ad27) rows.length c1), (30, .int .i64 ((rows.length : Nat) : Int)), (31, .int .i64 ((j : Nat) : Int))]) ⟨rfl, rfl, rfl, rfl, rfl, rfl, rfl, rfl, rfl, trivial⟩ ?_
        refine w_seq ?_
        refine w_region ?_
        refine rw_val (v := .int .i64 ((j : Nat) : Int)) (w' := w38) rfl rfl rfl rfl rfl ?_
        refine rw_val (v := .slice A2 ops.length c2) (w' := w38) rfl rfl rfl rfl rfl ?_
        refine rw_val (v := .int .i64 ((ops.length : Nat) : Int)) (w' := w38) rfl rfl rfl rfl (by simp [go_sem, sEv, sLook, nbeq, i64_w, -List.getD_eq_getElem?_getD]) ?_
        refine rw_val (v := .bool (decide (((j : Nat) : Int) < ((ops.length : Nat) : Int)))) (w' := w38) rfl rfl rfl rfl (by simp [go_sem, sEv, sLook, nbeq, i64_w, -List.getD_eq_getElem?_getD]) ?_
        refine rw_val (v := .bool (decide (((j : Nat) : Int) < ((ops.length : Nat) : Int)))) (w' := w38) rfl rfl rfl rfl rfl ?_
        rcases bcase (decide (((j : Nat) : Int) < ((ops.length : Nat) : Int))) with c41 | c41
        · have l42 : ¬ (((j : Nat) : Int) < ((ops.length : Nat) : Int)) := of_decide_eq_false c41
          refine rw_off (c := decide (((j : Nat) : Int) < ((ops.length : Nat) : Int))) rfl rfl rfl (by first | (rw [c41]; rfl) | simp [c41]) rfl rfl ?_
          refine rw_off (c := decide (((j : Nat) : Int) < ((ops.length : Nat) : Int))) rfl rfl rfl (by first | (rw [c41]; rfl) | simp [c41]) rfl rfl ?_
          refine rw_off (c := decide (((j : Nat) : Int) < ((ops.length : Nat) : Int))) rfl rfl rfl (by first | (rw [c41]; rfl) | simp [c41]) rfl rfl ?_
          refine rw_off (c := decide (((j : Nat) : Int) < ((ops.length : Nat) : Int))) rfl rfl rfl (by first | (rw [c41]; rfl) | simp [c41]) rfl rfl ?_
          refine rw_val (v := .bool false) (w' := w38) rfl rfl rfl rfl (by first | (simp [go_sem, sEv, sLook, nbeq, i64_w, -List.getD_eq_getElem?_getD, c41]; done) | (rw [c41]; simp [go_sem, sEv, sLook, nbeq, i64_w, -List.getD_eq_getElem?_getD]; done) | (simp [go_sem, sEv, sLook, nbeq, i64_w, -List.getD_eq_getElem?_getD] <;> omega) | (simp [go_sem, sEv, sLook, nbeq, i64_w, -List.getD_eq_getElem?_getD]; intro h_; exact absurd (by omega) h_)) ?_
          refine rw_end ?_
          refine w_weaken (G' := [(0, .slice (some ad27) rows.length c1), (1, .slice A2 ops.length c2), (5, .pointer (some ⟨g6, 0, none⟩)), (6, .pointer (some ⟨gd, 0, none⟩)), (9, .int .i64 (((FC (rows.take (j + 1))).length : Nat) : Int)), (10, .int .i64 ((j : Nat) : Int)), (29, .slice (some ad27) rows.length c1), (30, .int .i64 ((rows.length : Nat) : Int)), (31, .int .i64 ((j : Nat) : Int)), (57, .bool false)]) ⟨rfl, rfl, rfl, rfl, rfl, rfl, rfl, rfl, rfl, rfl, trivial⟩ ?_
          refine w_cond_f rfl rfl rfl ?_
          refine w_skip ?_
          refine w_blk ?_
          refine w_region ?_
          refine rw_val (v := .int .i64 ((j + 1 : Nat) : Int)) (w' := w38) rfl rfl rfl rfl (by simp [go_sem, sEv, sLook, nbeq, i64_w, -List.getD_eq_getElem?_getD]; exact wrap_id (by omega) (by omega)) ?_
          refine rw_val (v := .int .i64 ((j + 1 : Nat) : Int)) (w' := w38) rfl rfl rfl rfl rfl ?_
          refine rw_end ?_
          exact w_back (m_ - 1) [(0, .slice (some ad27) rows.length c1), (1, .slice A2 ops.length c2), (5, .pointer (some ⟨g6, 0, none⟩)), (6, .pointer (some ⟨gd, 0, none⟩)), (9, .int .i64 (((FC (rows.take (j + 1))).length : Nat) : Int)), (29, .slice (some ad27) rows.length c1), (30, .int .i64 ((rows.length : Nat) : Int)), (31, .int .i64 ((j + 1 : Nat) : Int))] (by omega) ⟨rfl, rfl, rfl, rfl, rfl, rfl, rfl, rfl, trivial⟩ ⟨(j + 1), gd, m37, by omega, hD39t.1, ⟨hD39t, hD39b, hD39g, hD39z⟩, hall1_, (by rw [hfs_]; omega), rfl⟩
        · have l43 : (((j : Nat) : Int) < ((ops.length : Nat) : Int)) := of_decide_eq_true c41
          refine rw_on (c := decide (((j : Nat) : Int) < ((ops.length : Nat) : Int))) rfl rfl rfl (by first | (rw [c41]; rfl) | simp [c41]) ?_
          refine rw_val (v := .slice A2 ops.length c2) (w' := w38) rfl rfl rfl rfl rfl ?_
          refine rw_on (c := decide (((j : Nat) : Int) < ((ops.length : Nat) : Int))) rfl rfl rfl (by first | (rw [c41]; rfl) | simp [c41]) ?_
          refine rw_val (v := .int .i64 ((j : Nat) : Int)) (w' := w38) rfl rfl rfl rfl rfl ?_
          refine rw_on (c := decide (((j : Nat) : Int) < ((ops.length : Nat) : Int))) rfl rfl rfl (by first | (rw [c41]; rfl) | simp [c41]) ?_
          obtain ⟨ad44, hA45, hc46⟩ := bool_el (Kd.C_below ho hD39t.1) false j (by first | omega | decide)
          subst hA45
          have he47 : w38.cell? (ad44.add (j)) = some (.bool (ops.getD j false)) := cell_0 (hc46 0 _ rfl)
          refine rw_val (v := .pointer (some (ad44.add (j)))) (w' := w38) rfl rfl rfl rfl (run_as (run_at_1 (P := Try.prog) (e := 4) (by kernel_rfl) (by kernel_rfl) j (by first | omega | decide) _)) ?_
          refine rw_on (c := decide (((j : Nat) : Int) < ((ops.length : Nat) : Int))) rfl rfl rfl (by first | (rw [c41]; rfl) | simp [c41]) ?_
          refine rw_val (v := .bool (ops.getD j false)) (w' := w38) rfl rfl rfl rfl (by have e0_ := cellOn he47 (Below.refl _ _); simp [go_sem, sEv, sLook, nbeq, i64_w, -List.getD_eq_getElem?_getD, e0_]) ?_
          refine rw_val (v := .bool (ops.getD j false)) (w' := w38) rfl rfl rfl rfl (by first | (simp [go_sem, sEv, sLook, nbeq, i64_w, -List.getD_eq_getElem?_getD, c41]; done) | (rw [c41]; simp [go_sem, sEv, sLook, nbeq, i64_w, -List.getD_eq_getElem?_getD]; done) | (simp [go_sem, sEv, sLook, nbeq, i64_w, -List.getD_eq_getElem?_getD] <;> omega) | (simp [go_sem, sEv, sLook, nbeq, i64_w, -List.getD_eq_getElem?_getD]; intro h_; exact absurd (by omega) h_)) ?_
          refine rw_end ?_
          refine w_weaken (G' := [(0, .slice (some ad27) rows.length c1), (1, .slice (some ad44) ops.length c2), (5, .pointer (some ⟨g6, 0, none⟩)), (6, .pointer (some ⟨gd, 0, none⟩)), (9, .int .i64 (((FC (rows.take (j + 1))).length : Nat) : Int)), (10, .int .i64 ((j : Nat) : Int)), (29, .slice (some ad27) rows.length c1), (30, .int .i64 ((rows.length : Nat) : Int)), (31, .int .i64 ((j : Nat) : Int)), (57, .bool (ops.getD j false))]) ⟨rfl, rfl, rfl, rfl, rfl, rfl, rfl, rfl, rfl, rfl, trivial⟩ ?_
          refine w_cond rfl rfl (fun c48 => ?_) (fun c48 => ?_)
          · refine w_seq ?_
            refine w_region ?_
            refine rw_val (v := .slice none 0 0) (w' := w38) rfl rfl rfl rfl rfl ?_
            refine rw_end ?_
            refine w_seq ?_
            refine w_region ?_
            refine rw_val (v := .pointer (some ⟨g6, 0, none⟩)) (w' := w38) rfl rfl rfl rfl rfl ?_
            refine rw_call rfl rfl rfl rfl (f := 11) (args := #[.pointer (some ⟨g6, 0, none⟩)]) (by simp [go_sem, sEv, sLook, nbeq, i64_w, -List.getD_eq_getElem?_getD]) (open_full w w38 g6 m37 gd (by omega) ((PD (rows.take (j + 1)) (j + 1)).s) hD39t (PD_ok _ _ (by omega) (by omega)) (rows.take (j + 1)) rfl (fun r hr_ => by have := hall1_ r hr_; omega) (fun r hr_ => hby r (List.mem_of_mem_take hr_)) rfl) ?_
            rintro e_ w53 ⟨gd49, m50, A51, c52, rfl, hD54, hO55, hs56, hK58⟩
            refine ⟨_, rfl, ?_⟩
            have hold_w53 : Blk w53 gd 80 (dcells g6 (PD (rows.take (j + 1)) (j + 1)).r (PD (rows.take (j + 1)) (j + 1)).b) := (hK58.2 gd (by have h_ := (hD39b).lt; omega) hD39g).trans (hD39b)
            obtain ⟨hD54t, hD54b, hD54g, hD54z⟩ := hD54
            have hz_w53 := hD54t.size
            have hlt_w53 := hD54b.lt
            have hL57 : OwnK (Kd.slice 5 (Kd.int .u8)) 32 w53 w.heap.size w.heap.size A51 ((rows.take (j + 1))).length c52 (rows.take (j + 1)) := OwnK.mono (d := (Kd.slice 5 (Kd.int .u8))) (OwnK.lower (d := (Kd.slice 5 (Kd.int .u8))) hO55 (by omega)) (by omega)
            refine rw_val (v := .tuple #[.pointer (some ⟨gd49, 0, none⟩), .slice A51 (((rows.take (j + 1))).length) c52, errT none]) (w' := w53) rfl rfl rfl rfl rfl ?_
            refine rw_val (v := .pointer (some ⟨gd49, 0, none⟩)) (w' := w53) rfl rfl rfl rfl (by simp [go_sem, sEv, sLook, nbeq, i64_w, -List.getD_eq_getElem?_getD]) ?_
            refine rw_val (v := .slice A51 (((rows.take (j + 1))).length) c52) (w' := w53) rfl rfl rfl rfl (by simp [go_sem, sEv, sLook, nbeq, i64_w, -List.getD_eq_getElem?_getD]) ?_
            refine rw_val (v := errT none) (w' := w53) rfl rfl rfl rfl (by simp [go_sem, sEv, sLook, nbeq, i64_w, -List.getD_eq_getElem?_getD]) ?_
            refine rw_val (v := .pointer (some ⟨gd49, 0, none⟩)) (w' := w53) rfl rfl rfl rfl rfl ?_
            refine rw_val (v := .slice A51 (((rows.take (j + 1))).length) c52) (w' := w53) rfl rfl rfl rfl rfl ?_
            refine rw_val (v := errT none) (w' := w53) rfl rfl rfl rfl rfl ?_
            refine rw_end ?_
            refine w_weaken (G' := [(0, .slice (some ad27) rows.length c1), (1, .slice (some ad44) ops.length c2), (5, .pointer (some ⟨g6, 0, none⟩)), (6, .pointer (some ⟨gd49, 0, none⟩)), (8, errT none), (9, .int .i64 (((FC (rows.take (j + 1))).length : Nat) : Int)), (10, .int .i64 ((j : Nat) : Int)), (12, .slice A51 (((rows.take (j + 1))).length) c52), (29, .slice (some ad27) rows.length c1), (30, .int .i64 ((rows.length : Nat) : Int)), (31, .int .i64 ((j : Nat) : Int))]) ⟨rfl, rfl, rfl, rfl, rfl, rfl, rfl, rfl, rfl, rfl, rfl, trivial⟩ ?_
            refine w_seq ?_
            refine w_region ?_
            refine rw_val (v := errT none) (w' := w53) rfl rfl rfl rfl rfl ?_
            refine rw_val (v := .bool ((none : Option Int).isSome)) (w' := w53) rfl rfl rfl rfl (run_as (guard_err_neq _ (none : Option Int) _)) ?_
            refine rw_val (v := .bool ((none : Option Int).isSome)) (w' := w53) rfl rfl rfl rfl rfl ?_
            refine rw_on (c := (none : Option Int).isSome) rfl rfl rfl (by first | (rw [hq20]; rfl) | simp [hq20]) ?_
            refine rw_val (v := .slice A51 (((rows.take (j + 1))).length) c52) (w' := w53) rfl rfl rfl rfl rfl ?_
            refine rw_on (c := (none : Option Int).isSome) rfl rfl rfl (by first | (rw [hq20]; rfl) | simp [hq20]) ?_
            refine rw_val (v := .int .i64 ((((rows.take (j + 1))).length : Nat) : Int)) (w' := w53) rfl rfl rfl rfl (by simp [go_sem, sEv, sLook, nbeq, i64_w, -List.getD_eq_getElem?_getD]) ?_
            refine rw_on (c := (none : Option Int).isSome) rfl rfl rfl (by first | (rw [hq20]; rfl) | simp [hq20]) ?_
            refine rw_val (v := .int .i64 ((j : Nat) : Int)) (w' := w53) rfl rfl rfl rfl rfl ?_
            refine rw_on (c := (none : Option Int).isSome) rfl rfl rfl (by first | (rw [hq20]; rfl) | simp [hq20]) ?_
            refine rw_val (v := .int .i64 ((j + 1 : Nat) : Int)) (w' := w53) rfl rfl rfl rfl (by simp [go_sem, sEv, sLook, nbeq, i64_w, -List.getD_eq_getElem?_getD]; exact wrap_id (by omega) (by omega)) ?_
            refine rw_on (c := (none : Option Int).isSome) rfl rfl rfl (by first | (rw [hq20]; rfl) | simp [hq20]) ?_
            refine rw_val (v := .bool (((((rows.take (j + 1))).length : Nat) : Int) != ((j + 1 : Nat) : Int))) (w' := w53) rfl rfl rfl rfl (by simp [go_sem, sEv, sLook, nbeq, i64_w, -List.getD_eq_getElem?_getD]) ?_
            refine rw_val (v := .bool (((((rows.take (j + 1))).length : Nat) : Int) != ((j + 1 : Nat) : Int))) (w' := w53) rfl rfl rfl rfl (by first | (simp [go_sem, sEv, sLook, nbeq, i64_w, -List.getD_eq_getElem?_getD, hq20]; done) | (rw [hq20]; simp [go_sem, sEv, sLook, nbeq, i64_w, -List.getD_eq_getElem?_getD]; done) | (simp [go_sem, sEv, sLook, nbeq, i64_w, -List.getD_eq_getElem?_getD] <;> omega) | (simp [go_sem, sEv, sLook, nbeq, i64_w, -List.getD_eq_getElem?_getD]; intro h_; exact absurd (by omega) h_)) ?_
            refine rw_end ?_
            refine w_weaken (G' := [(0, .slice (some ad27) rows.length c1), (1, .slice (some ad44) ops.length c2), (5, .pointer (some ⟨g6, 0, none⟩)), (6, .pointer (some ⟨gd49, 0, none⟩)), (8, errT none), (9, .int .i64 (((FC (rows.take (j + 1))).length : Nat) : Int)), (29, .slice (some ad27) rows.length c1), (30, .int .i64 ((rows.length : Nat) : Int)), (31, .int .i64 ((j : Nat) : Int)), (72, .bool (((((rows.take (j + 1))).length : Nat) : Int) != ((j + 1 : Nat) : Int)))]) ⟨rfl, rfl, rfl, rfl, rfl, rfl, rfl, rfl, rfl, rfl, trivial⟩ ?_
            have hq59 : (((((rows.take (j + 1))).length : Nat) : Int) != ((j + 1 : Nat) : Int)) = false := by have h_ : (rows.take (j + 1)).length = j + 1 := (by rw [List.length_take]; omega); simp [h_]
            refine w_cond_f rfl rfl hq59 ?_
            refine w_skip ?_
            refine w_blk ?_
            refine w_region ?_
            refine rw_val (v := .int .i64 ((j + 1 : Nat) : Int)) (w' := w53) rfl rfl rfl rfl (by simp [go_sem, sEv, sLook, nbeq, i64_w, -List.getD_eq_getElem?_getD]; exact wrap_id (by omega) (by omega)) ?_
            refine rw_val (v := .int .i64 ((j + 1 : Nat) : Int)) (w' := w53) rfl rfl rfl rfl rfl ?_
            refine rw_end ?_
            exact w_back (m_ - 1) [(0, .slice (some ad27) rows.length c1), (1, .slice (some ad44) ops.length c2), (5, .pointer (some ⟨g6, 0, none⟩)), (6, .pointer (some ⟨gd49, 0, none⟩)), (9, .int .i64 (((FC (rows.take (j + 1))).length : Nat) : Int)), (29, .slice (some ad27) rows.length c1), (30, .int .i64 ((rows.length : Nat) : Int)), (31, .int .i64 ((j + 1 : Nat) : Int))] (by omega) ⟨rfl, rfl, rfl, rfl, rfl, rfl, rfl, rfl, trivial⟩ ⟨(j + 1), gd49, m50, by omega, hD54t.1, ⟨hD54t, hD54b, hD54g, hD54z⟩, hall1_, (by rw [hfs_]; omega), rfl⟩
          · refine w_skip ?_
            refine w_blk ?_
            refine w_region ?_
            refine rw_val (v := .int .i64 ((j + 1 : Nat) : Int)) (w' := w38) rfl rfl rfl rfl (by simp [go_sem, sEv, sLook, nbeq, i64_w, -List.getD_eq_getElem?_getD]; exact wrap_id (by omega) (by omega)) ?_
            refine rw_val (v := .int .i64 ((j + 1 : Nat) : Int)) (w' := w38) rfl rfl rfl rfl rfl ?_
            refine rw_end ?_
            exact w_back (m_ - 1) [(0, .slice (some ad27) rows.length c1), (1, .slice (some ad44) ops.length c2), (5, .pointer (some ⟨g6, 0, none⟩)), (6, .pointer (some ⟨gd, 0, none⟩)), (9, .int .i64 (((FC (rows.take (j + 1))).length : Nat) : Int)), (29, .slice (some ad27) rows.length c1), (30, .int .i64 ((rows.length : Nat) : Int)), (31, .int .i64 ((j + 1 : Nat) : Int))] (by omega) ⟨rfl, rfl, rfl, rfl, rfl, rfl, rfl, rfl, trivial⟩ ⟨(j + 1), gd, m37, by omega, hD39t.1, ⟨hD39t, hD39b, hD39g, hD39z⟩, hall1_, (by rw [hfs_]; omega), rfl⟩
    · have l60 : ¬ (((j : Nat) : Int) < ((rows.length : Nat) : Int)) := of_decide_eq_false cJ
      refine w_exit rfl ?_
      refine w_seq ?_
      refine w_region ?_
      refine rw_val (v := .pointer (some ⟨g6, 0, none⟩)) (w' := w_L21) rfl rfl rfl rfl rfl ?_
      refine rw_call rfl rfl rfl rfl (f := 11) (args := #[.pointer (some ⟨g6, 0, none⟩)]) (by simp [go_sem, sEv, sLook, nbeq, i64_w, -List.getD_eq_getElem?_getD]) (open_full w w_L21 g6 md gd (by omega) ((PD (rows.take j) j).s) hDt_ (PD_ok _ _ (by omega) (by omega)) (rows.take j) rfl (fun r hr_ => by have := hf24 r hr_; omega) (fun r hr_ => hby r (List.mem_of_mem_take hr_)) rfl) ?_
      rintro e_ w65 ⟨gd61, m62, A63, c64, rfl, hD66, hO67, hs68, hK70⟩
      refine ⟨_, rfl, ?_⟩
      have hold_w65 : Blk w65 gd 80 (dcells g6 (PD (rows.take j) j).r (PD (rows.take j) j).b) := (hK70.2 gd (by have h_ := (hDb_).lt; omega) hDg_).trans (hDb_)
      obtain ⟨hD66t, hD66b, hD66g, hD66z⟩ := hD66
      have hz_w65 := hD66t.size
      have hlt_w65 := hD66b.lt
      have hL69 : OwnK (Kd.slice 5 (Kd.int .u8)) 32 w65 w.heap.size w.heap.size A63 ((rows.take j)).length c64 (rows.take j) := OwnK.mono (d := (Kd.slice 5 (Kd.int .u8))) (OwnK.lower (d := (Kd.slice 5 (Kd.int .u8))) hO67 (by omega)) (by omega)
      refine rw_val (v := .tuple #[.pointer (some ⟨gd61, 0, none⟩), .slice A63 (((rows.take j)).length) c64, errT none]) (w' := w65) rfl rfl rfl rfl rfl ?_
      refine rw_val (v := .pointer (some ⟨gd61, 0, none⟩)) (w' := w65) rfl rfl rfl rfl (by simp [go_sem, sEv, sLook, nbeq, i64_w, -List.getD_eq_getElem?_getD]) ?_
      refine rw_val (v := .slice A63 (((rows.take j)).length) c64) (w' := w65) rfl rfl rfl rfl (by simp [go_sem, sEv, sLook, nbeq, i64_w, -List.getD_eq_getElem?_getD]) ?_
      refine rw_val (v := errT none) (w' := w65) rfl rfl rfl rfl (by simp [go_sem, sEv, sLook, nbeq, i64_w, -List.getD_eq_getElem?_getD]) ?_
      refine rw_val (v := .pointer (some ⟨gd61, 0, none⟩)) (w' := w65) rfl rfl rfl rfl rfl ?_
      refine rw_val (v := .slice A63 (((rows.take j)).length) c64) (w' := w65) rfl rfl rfl rfl rfl ?_
      refine rw_val (v := errT none) (w' := w65) rfl rfl rfl rfl rfl ?_
      refine rw_end ?_
      refine w_weaken (G' := [(0, .slice A1 rows.length c1), (5, .pointer (some ⟨g6, 0, none⟩)), (6, .pointer (some ⟨gd, 0, none⟩)), (8, errT none), (9, .int .i64 (((FC (rows.take j)).length : Nat) : Int)), (14, .slice A63 (((rows.take j)).length) c64)]) ⟨rfl, rfl, rfl, rfl, rfl, rfl, trivial⟩ ?_
      refine w_seq ?_
      refine w_region ?_
      refine rw_val (v := errT none) (w' := w65) rfl rfl rfl rfl rfl ?_
      refine rw_val (v := .bool ((none : Option Int).isNone)) (w' := w65) rfl rfl rfl rfl (run_as (guard_err_eq0 _ (none : Option Int) _)) ?_
      refine rw_val (v := .bool ((none : Option Int).isNone)) (w' := w65) rfl rfl rfl rfl rfl ?_
      have hq71 : ((none : Option Int).isNone) = true := by rfl
      refine rw_on (c := (none : Option Int).isNone) rfl rfl rfl (by first | (rw [hq71]; rfl) | simp [hq71]) ?_
      refine rw_val (v := .slice A63 (((rows.take j)).length) c64) (w' := w65) rfl rfl rfl rfl rfl ?_
      refine rw_on (c := (none : Option Int).isNone) rfl rfl rfl (by first | (rw [hq71]; rfl) | simp [hq71]) ?_
      refine rw_val (v := .slice A1 rows.length c1) (w' := w65) rfl rfl rfl rfl rfl ?_
      refine rw_on (c := (none : Option Int).isNone) rfl rfl rfl (by first | (rw [hq71]; rfl) | simp [hq71]) ?_
      refine rw_call rfl rfl rfl rfl (f := 14) (args := #[.slice A1 rows.length c1]) (by simp [go_sem, sEv, sLook, nbeq, i64_w, -List.getD_eq_getElem?_getD]) (texts_calls w65 A1 c1 rows (Kd.C_below hr hD66t.1) hc1 (by omega)) ?_
      rintro e_ w74 ⟨A72, c73, rfl, hO75, hB76⟩
      refine ⟨_, rfl, ?_⟩
      have hs_w74 := hB76.size
      have hL77 : OwnK Kd.string 9 w74 w.heap.size w65.heap.size A72 (rows.map strOfNums).length c73 (rows.map strOfNums) := OwnK.lower hO75 (by omega)
      refine rw_on (c := (none : Option Int).isNone) rfl rfl rfl (by first | (rw [hq71]; rfl) | simp [hq71]) ?_
      refine rw_call rfl rfl rfl rfl (f := 13) (args := #[.slice A63 (((rows.take j)).length) c64, .slice A72 ((rows.map strOfNums).length) c73]) (by simp [go_sem, sEv, sLook, nbeq, i64_w, -List.getD_eq_getElem?_getD]) (same_calls w74 A63 A72 c64 c73 (rows.take j) (rows.map strOfNums) (Kd.C_below (OwnK.C (d := (Kd.slice 5 (Kd.int .u8))) hL69) hB76) (OwnK.cap (d := (Kd.slice 5 (Kd.int .u8))) hL69) (Kd.C_below (OwnK.C (d := Kd.string) hL77) (Below.refl _ _)) (OwnK.cap (d := Kd.string) hL77) (by rw [List.length_map]; omega)) ?_
      rintro e_ w78 ⟨rfl, hb79⟩
      refine ⟨_, rfl, ?_⟩
      have hs_w78 := hb79.size
      refine rw_val (v := .bool (decide ((rows.take j).map strOfNums = rows.map strOfNums))) (w' := w78) rfl rfl rfl rfl (by first | (simp [go_sem, sEv, sLook, nbeq, i64_w, -List.getD_eq_getElem?_getD, hq71]; done) | (rw [hq71]; simp [go_sem, sEv, sLook, nbeq, i64_w, -List.getD_eq_getElem?_getD]; done) | (simp [go_sem, sEv, sLook, nbeq, i64_w, -List.getD_eq_getElem?_getD] <;> omega) | (simp [go_sem, sEv, sLook, nbeq, i64_w, -List.getD_eq_getElem?_getD]; intro h_; exact absurd (by omega) h_)) ?_
      refine rw_val (v := .bool (decide ((rows.take j).map strOfNums = rows.map strOfNums))) (w' := w78) rfl rfl rfl rfl rfl ?_
      have hq80 : (decide ((rows.take j).map strOfNums = rows.map strOfNums)) = true := by rw [show j = rows.length by omega, List.take_length]; simp
      refine rw_on (c := decide ((rows.take j).map strOfNums = rows.map strOfNums)) rfl rfl rfl (by first | (rw [hq80]; rfl) | simp [hq80]) ?_
      refine rw_val (v := .pointer (some ⟨gd, 0, none⟩)) (w' := w78) rfl rfl rfl rfl rfl ?_
      refine rw_on (c := decide ((rows.take j).map strOfNums = rows.map strOfNums)) rfl rfl rfl (by first | (rw [hq80]; rfl) | simp [hq80]) ?_
      refine rw_call rfl rfl rfl rfl (f := 15) (args := #[.pointer (some ⟨gd, 0, none⟩)]) (by simp [go_sem, sEv, sLook, nbeq, i64_w, -List.getD_eq_getElem?_getD]) (len_B w78 g6 gd (PD (rows.take j) j).r (PD (rows.take j) j).b ((hold_w65.on hB76).on hb79)) ?_
      rintro e_ w81 ⟨rfl, hb82⟩
      refine ⟨_, rfl, ?_⟩
      have hs_w81 := hb82.size
      refine rw_on (c := decide ((rows.take j).map strOfNums = rows.map strOfNums)) rfl rfl rfl (by first | (rw [hq80]; rfl) | simp [hq80]) ?_
      refine rw_val (v := .slice A1 rows.length c1) (w' := w81) rfl rfl rfl rfl rfl ?_
      refine rw_on (c := decide ((rows.take j).map strOfNums = rows.map strOfNums)) rfl rfl rfl (by first | (rw [hq80]; rfl) | simp [hq80]) ?_
      refine rw_val (v := .int .i64 ((rows.length : Nat) : Int)) (w' := w81) rfl rfl rfl rfl (by simp [go_sem, sEv, sLook, nbeq, i64_w, -List.getD_eq_getElem?_getD]) ?_
      refine rw_on (c := decide ((rows.take j).map strOfNums = rows.map strOfNums)) rfl rfl rfl (by first | (rw [hq80]; rfl) | simp [hq80]) ?_
      refine rw_val (v := .bool (((PD (rows.take j) j).r) == ((rows.length : Nat) : Int))) (w' := w81) rfl rfl rfl rfl (by simp [go_sem, sEv, sLook, nbeq, i64_w, -List.getD_eq_getElem?_getD]) ?_
      refine rw_val (v := .bool (((PD (rows.take j) j).r) == ((rows.length : Nat) : Int))) (w' := w81) rfl rfl rfl rfl (by first | (simp [go_sem, sEv, sLook, nbeq, i64_w, -List.getD_eq_getElem?_getD, hq80]; done) | (rw [hq80]; simp [go_sem, sEv, sLook, nbeq, i64_w, -List.getD_eq_getElem?_getD]; done) | (simp [go_sem, sEv, sLook, nbeq, i64_w, -List.getD_eq_getElem?_getD] <;> omega) | (simp [go_sem, sEv, sLook, nbeq, i64_w, -List.getD_eq_getElem?_getD]; intro h_; exact absurd (by omega) h_)) ?_
      refine rw_val (v := .bool (((PD (rows.take j) j).r) == ((rows.length : Nat) : Int))) (w' := w81) rfl rfl rfl rfl rfl ?_
      have hq83 : (((PD (rows.take j) j).r) == ((rows.length : Nat) : Int)) = true := by show (((((rows.take j).length : Nat) : Int)) == _) = true; rw [List.length_take]; simp; omega
      refine rw_on (c := (((PD (rows.take j) j).r) == ((rows.length : Nat) : Int))) rfl rfl rfl (by first | (rw [hq83]; rfl) | simp [hq83]) ?_
      refine rw_val (v := .pointer (some ⟨gd, 0, none⟩)) (w' := w81) rfl rfl rfl rfl rfl ?_
      refine rw_on (c := (((PD (rows.take j) j).r) == ((rows.length : Nat) : Int))) rfl rfl rfl (by first | (rw [hq83]; rfl) | simp [hq83]) ?_
      refine rw_call rfl rfl rfl rfl (f := 16) (args := #[.pointer (some ⟨gd, 0, none⟩)]) (by simp [go_sem, sEv, sLook, nbeq, i64_w, -List.getD_eq_getElem?_getD]) (bytes_B w81 g6 gd (PD (rows.take j) j).r (PD (rows.take j) j).b (((hold_w65.on hB76).on hb79).on hb82)) ?_
      rintro e_ w84 ⟨rfl, hb85⟩
      refine ⟨_, rfl, ?_⟩
      have hs_w84 := hb85.size
      refine rw_on (c := (((PD (rows.take j) j).r) == ((rows.length : Nat) : Int))) rfl rfl rfl (by first | (rw [hq83]; rfl) | simp [hq83]) ?_
      refine rw_val (v := .int .i64 (((FC (rows.take j)).length : Nat) : Int)) (w' := w84) rfl rfl rfl rfl rfl ?_
      refine rw_on (c := (((PD (rows.take j) j).r) == ((rows.length : Nat) : Int))) rfl rfl rfl (by first | (rw [hq83]; rfl) | simp [hq83]) ?_
      refine rw_val (v := .bool (((PD (rows.take j) j).b) == (((FC (rows.take j)).length : Nat) : Int))) (w' := w84) rfl rfl rfl rfl (by simp [go_sem, sEv, sLook, nbeq, i64_w, -List.getD_eq_getElem?_getD]) ?_
      refine rw_val (v := .bool (((PD (rows.take j) j).b) == (((FC (rows.take j)).length : Nat) : Int))) (w' := w84) rfl rfl rfl rfl (by first | (simp [go_sem, sEv, sLook, nbeq, i64_w, -List.getD_eq_getElem?_getD, hq83]; done) | (rw [hq83]; simp [go_sem, sEv, sLook, nbeq, i64_w, -List.getD_eq_getElem?_getD]; done) | (simp [go_sem, sEv, sLook, nbeq, i64_w, -List.getD_eq_getElem?_getD] <;> omega) | (simp [go_sem, sEv, sLook, nbeq, i64_w, -List.getD_eq_getElem?_getD]; intro h_; exact absurd (by omega) h_)) ?_
      refine rw_val (v := .bool (((PD (rows.take j) j).b) == (((FC (rows.take j)).length : Nat) : Int))) (w' := w84) rfl rfl rfl rfl rfl ?_
      have hq86 : (((PD (rows.take j) j).b) == (((FC (rows.take j)).length : Nat) : Int)) = true := by show (((((FC (rows.take j)).length : Nat) : Int)) == _) = true; simp
      refine rw_on (c := (((PD (rows.take j) j).b) == (((FC (rows.take j)).length : Nat) : Int))) rfl rfl rfl (by first | (rw [hq86]; rfl) | simp [hq86]) ?_
      refine rw_val (v := .pointer (some ⟨g6, 0, none⟩)) (w' := w84) rfl rfl rfl rfl rfl ?_
      refine rw_on (c := (((PD (rows.take j) j).b) == (((FC (rows.take j)).length : Nat) : Int))) rfl rfl rfl (by first | (rw [hq86]; rfl) | simp [hq86]) ?_
      refine rw_call rfl rfl rfl rfl (f := 17) (args := #[.pointer (some ⟨g6, 0, none⟩)]) (by simp [go_sem, sEv, sLook, nbeq, i64_w, -List.getD_eq_getElem?_getD]) (read_T w w84 g6 m62 gd61 (by omega) ((PD (rows.take j) j).s) (TapeAt.on (TapeAt.on (TapeAt.on (TapeAt.on hD66t hB76) hb79) hb82) hb85) (PD_ok _ _ (by omega) (by omega))) ?_
      rintro e_ w90 ⟨A87, n88, c89, rfl, hO91, hB92⟩
      refine ⟨_, rfl, ?_⟩
      have hl93 : n88 = (FC (rows.take j)).length := Own.len hO91
      subst hl93
      have hs_w90 := hB92.size
      have hL94 : OwnK (Kd.int .u8) 5 w90 w.heap.size w84.heap.size A87 (FC (rows.take j)).length c89 (FC (rows.take j)) := OwnK.lower (d := (Kd.int .u8)) hO91 (by omega)
      refine rw_on (c := (((PD (rows.take j) j).b) == (((FC (rows.take j)).length : Nat) : Int))) rfl rfl rfl (by first | (rw [hq86]; rfl) | simp [hq86]) ?_
      refine rw_val (v := .int .i64 (((FC (rows.take j)).length : Nat) : Int)) (w' := w90) rfl rfl rfl rfl (by simp [go_sem, sEv, sLook, nbeq, i64_w, -List.getD_eq_getElem?_getD]) ?_
      refine rw_on (c := (((PD (rows.take j) j).b) == (((FC (rows.take j)).length : Nat) : Int))) rfl rfl rfl (by first | (rw [hq86]; rfl) | simp [hq86]) ?_
      refine rw_val (v := .int .i64 (((FC (rows.take j)).length : Nat) : Int)) (w' := w90) rfl rfl rfl rfl rfl ?_
      refine rw_on (c := (((PD (rows.take j) j).b) == (((FC (rows.take j)).length : Nat) : Int))) rfl rfl rfl (by first | (rw [hq86]; rfl) | simp [hq86]) ?_
      refine rw_val (v := .bool true) (w' := w90) rfl rfl rfl rfl (by simp [go_sem, sEv, sLook, nbeq, i64_w, -List.getD_eq_getElem?_getD]) ?_
      refine rw_val (v := .bool true) (w' := w90) rfl rfl rfl rfl (by first | (simp [go_sem, sEv, sLook, nbeq, i64_w, -List.getD_eq_getElem?_getD, hq86]; done) | (rw [hq86]; simp [go_sem, sEv, sLook, nbeq, i64_w, -List.getD_eq_getElem?_getD]; done) | (simp [go_sem, sEv, sLook, nbeq, i64_w, -List.getD_eq_getElem?_getD] <;> omega) | (simp [go_sem, sEv, sLook, nbeq, i64_w, -List.getD_eq_getElem?_getD]; intro h_; exact absurd (by omega) h_)) ?_
      refine rw_val (v := .bool true) (w' := w90) rfl rfl rfl rfl rfl ?_
      refine rw_end ?_
      refine w_weaken (G' := [(4, .bool true)]) ⟨rfl, trivial⟩ ?_
      refine w_ret (post_ret1 rfl rfl ?_)
      exact ⟨rfl, (chain (chain (chain (chain (chain hD66t.1 hB76) hb79) hb82) hb85) hB92)⟩
end Go.Proofs.Ytiiljpaedelhlaa.Tp
