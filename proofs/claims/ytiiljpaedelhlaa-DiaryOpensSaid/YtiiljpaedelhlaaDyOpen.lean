/- Open: the walk. -/
import Derived.Test.YtiiljpaedelhlaaDyOps
namespace Go.Proofs.Ytiiljpaedelhlaa.Tp
open Go.RowKit Go.Proofs.YtiiljpaedelhlaaW.PrintWords Go.Proofs.YtiiljpaedelhlaaW.PrintLast Go.Proofs.YtiiljpaedelhlaaW.PrintMore
open Go.Proofs.Ytiiljpaedelhlaa.Flow
open Go.Proofs.Ytiiljpaedelhlaa.PDiaryPlays (SplitR Bytes frameB frameE FC wholeP errW wrap_calls split_calls frameB_len frameB_bytes wholeP_le)
set_option linter.unusedVariables false
set_option linter.unusedSimpArgs false


theorem splitR_bound {b : List Int} {l : List (List Int)} {n : Nat} (h : SplitR b l n) : n ≤ b.length ∧ l.length ≤ b.length := by
  induction h with
  | none => simp
  | some b l n h0 _ ih =>
    have h1 := wholeP_le b
    rw [List.length_drop] at ih
    rw [List.length_cons]
    omega
set_option maxHeartbeats 4000000 in
theorem down_N (w : World) :
    Calls Try.prog 35 #[.pointer none] w fun e w' => e = .returned (.bool true) ∧ Below w.heap.size w w' := by
  refine calls_flow Try.func35 rfl 11 rfl (Nat.le_of_ble_eq_true rfl) [(0, .pointer none)] ?_ ?_
  · intro t v h; exact args_look rfl t v h
  refine w_seq ?_
  refine w_region ?_
  refine rw_val (v := .bool false) (w' := w) rfl rfl rfl rfl rfl ?_
  refine rw_end ?_
  refine w_seq ?_
  refine w_region ?_
  refine rw_val (v := .pointer none) (w' := w) rfl rfl rfl rfl rfl ?_
  refine rw_val (v := .bool true) (w' := w) rfl rfl rfl rfl (run_as (run_ptr_eql (e := 76) (by kernel_rfl) _ _)) ?_
  refine rw_val (v := .bool true) (w' := w) rfl rfl rfl rfl rfl ?_
  refine rw_off (c := true) rfl rfl rfl rfl rfl rfl ?_
  refine rw_off (c := true) rfl rfl rfl rfl rfl rfl ?_
  refine rw_off (c := true) rfl rfl rfl rfl rfl rfl ?_
  refine rw_off (c := true) rfl rfl rfl rfl rfl rfl ?_
  refine rw_val (v := .bool true) (w' := w) rfl rfl rfl rfl (by simp [go_sem, sEv, sLook, nbeq, i64_w, -List.getD_eq_getElem?_getD]) ?_
  refine rw_val (v := .bool true) (w' := w) rfl rfl rfl rfl rfl ?_
  refine rw_end ?_
  refine w_weaken (G' := [(2, .bool true)]) ⟨rfl, trivial⟩ ?_
  refine w_ret (post_ret1 rfl rfl ?_)
  exact ⟨rfl, (Below.refl _ _)⟩
set_option maxHeartbeats 4000000 in
theorem open_N (w : World) :
    Calls Try.prog 11 #[.pointer none] w fun e w' => e = .returned (.tuple #[.pointer none, .slice none 0 0, errT (some 5)]) ∧ Below w.heap.size w w' := by
  refine calls_flow Try.func11 rfl 38 rfl (Nat.le_of_ble_eq_true rfl) [(0, .pointer none)] ?_ ?_
  · intro t v h; exact args_look rfl t v h
  refine w_seq ?_
  refine w_region ?_
  refine rw_val (v := .pointer none) (w' := w) rfl rfl rfl rfl rfl ?_
  refine rw_val (v := .slice none 0 0) (w' := w) rfl rfl rfl rfl rfl ?_
  refine rw_val (v := .nilIface) (w' := w) rfl rfl rfl rfl rfl ?_
  refine rw_end ?_
  refine w_seq ?_
  refine w_seq ?_
  refine w_region ?_
  refine rw_val (v := .pointer none) (w' := w) rfl rfl rfl rfl rfl ?_
  refine rw_call rfl rfl rfl rfl (f := 35) (args := #[.pointer none]) (by simp [go_sem, sEv, sLook, nbeq, i64_w, -List.getD_eq_getElem?_getD]) (down_N w) ?_
  rintro e_ w1 ⟨rfl, hb2⟩
  refine ⟨_, rfl, ?_⟩
  have hs_w1 := hb2.size
  refine rw_end ?_
  refine w_cond_t rfl rfl rfl ?_
  refine w_seq ?_
  refine w_region ?_
  refine rw_val (v := errT (some 5)) (w' := w1) rfl rfl rfl rfl (by simp [go_sem, sEv, sLook, nbeq, i64_w, -List.getD_eq_getElem?_getD, errT]) ?_
  refine rw_val (v := .pointer none) (w' := w1) rfl rfl rfl rfl rfl ?_
  refine rw_val (v := .slice none 0 0) (w' := w1) rfl rfl rfl rfl rfl ?_
  refine rw_val (v := errT (some 5)) (w' := w1) rfl rfl rfl rfl rfl ?_
  refine rw_end ?_
  refine w_weaken (G' := [(0, .pointer none), (2, .pointer none), (3, .slice none 0 0), (4, errT (some 5))]) ⟨rfl, rfl, rfl, rfl, trivial⟩ ?_
  refine w_ret (post_ret3 rfl rfl rfl rfl ?_)
  exact ⟨rfl, hb2⟩
set_option maxHeartbeats 4000000 in
theorem open_D (w0 w : World) (g m x : Nat) (hx : x < w.heap.size) (s : TS) (hT : TapeAt w0 w g m x s) (hok : s.Ok) (hby : Bytes s.xs) :
    Calls Try.prog 11 #[.pointer (some ⟨g, 0, none⟩)] w fun e w' => w.heap.size ≤ w'.heap.size ∧ Kept w w' (fun k => k = g) ∧ ((s.dn = true ∧ e = .returned (.tuple #[.pointer none, .slice none 0 0, errT (some 5)]) ∧ ∃ m', TapeAt w0 w' g m' g s) ∨ (s.dn = false ∧ ∃ (out : List (List Int)) (n : Nat), SplitR s.xs out n ∧ ((∃ c, openE s n = some c ∧ e = .returned (.tuple #[.pointer none, .slice none 0 0, errT (some c)]) ∧ ∃ m', TapeAt w0 w' g m' g (openS s n)) ∨ (openE s n = none ∧ ∃ (gd m' : Nat) (A : Option Addr) (c : Nat), e = .returned (.tuple #[.pointer (some ⟨gd, 0, none⟩), .slice A out.length c, errT none]) ∧ DiaryAt w0 w' g gd m' ⟨openS s n, (out.length : Int), (n : Int)⟩ ∧ OwnK (Kd.slice 5 (Kd.int .u8)) 32 w' w.heap.size w.heap.size A out.length c out)))) := by
  have hts_ := hT.size
  have hln_ := hok.len
  refine calls_flow Try.func11 rfl 38 rfl (Nat.le_of_ble_eq_true rfl) [(0, .pointer (some ⟨g, 0, none⟩))] ?_ ?_
  · intro t v h; exact args_look rfl t v h
  refine w_seq ?_
  refine w_region ?_
  refine rw_val (v := .pointer none) (w' := w) rfl rfl rfl rfl rfl ?_
  refine rw_val (v := .slice none 0 0) (w' := w) rfl rfl rfl rfl rfl ?_
  refine rw_val (v := .nilIface) (w' := w) rfl rfl rfl rfl rfl ?_
  refine rw_end ?_
  refine w_seq ?_
  refine w_seq ?_
  refine w_region ?_
  refine rw_val (v := .pointer (some ⟨g, 0, none⟩)) (w' := w) rfl rfl rfl rfl rfl ?_
  refine rw_call rfl rfl rfl rfl (f := 35) (args := #[.pointer (some ⟨g, 0, none⟩)]) (by simp [go_sem, sEv, sLook, nbeq, i64_w, -List.getD_eq_getElem?_getD]) (down_T w0 w g m x (by omega) s hT hok) ?_
  rintro e_ w1 ⟨rfl, rfl⟩
  refine ⟨_, rfl, ?_⟩
  refine rw_end ?_
  refine w_cond rfl rfl (fun cD => ?_) (fun cD => ?_)
  · refine w_seq ?_
    refine w_region ?_
    refine rw_val (v := errT (some 5)) (w' := w) rfl rfl rfl rfl (by simp [go_sem, sEv, sLook, nbeq, i64_w, -List.getD_eq_getElem?_getD, errT]) ?_
    refine rw_val (v := .pointer none) (w' := w) rfl rfl rfl rfl rfl ?_
    refine rw_val (v := .slice none 0 0) (w' := w) rfl rfl rfl rfl rfl ?_
    refine rw_val (v := errT (some 5)) (w' := w) rfl rfl rfl rfl rfl ?_
    refine rw_end ?_
    refine w_weaken (G' := [(0, .pointer (some ⟨g, 0, none⟩)), (2, .pointer none), (3, .slice none 0 0), (4, errT (some 5))]) ⟨rfl, rfl, rfl, rfl, trivial⟩ ?_
    refine w_ret (post_ret3 rfl rfl rfl rfl ?_)
    exact ⟨by omega, (Kept.of_below (Below.refl _ _) (fun k => k = g)), .inl ⟨cD, rfl, m, TapeAt.hole hT g (.inl rfl)⟩⟩
  · refine w_skip ?_
    refine w_seq ?_
    refine w_region ?_
    refine rw_val (v := .pointer (some ⟨g, 0, none⟩)) (w' := w) rfl rfl rfl rfl rfl ?_
    refine rw_call rfl rfl rfl rfl (f := 17) (args := #[.pointer (some ⟨g, 0, none⟩)]) (by simp [go_sem, sEv, sLook, nbeq, i64_w, -List.getD_eq_getElem?_getD]) (read_T w0 w g m x (by omega) s hT hok) ?_
    rintro e_ w5 ⟨A2, n3, c4, rfl, hO6, hB7⟩
    refine ⟨_, rfl, ?_⟩
    have hl8 := Own.len hO6
    subst hl8
    have hs_w5 := hB7.size
    have hL9 : OwnK (Kd.int .u8) 5 w5 w.heap.size w.heap.size A2 s.xs.length c4 s.xs := OwnK.lower hO6 (by omega)
    refine rw_val (v := .slice A2 s.xs.length c4) (w' := w5) rfl rfl rfl rfl rfl ?_
    refine rw_end ?_
    refine w_seq ?_
    refine w_region ?_
    refine rw_val (v := .slice A2 s.xs.length c4) (w' := w5) rfl rfl rfl rfl rfl ?_
    refine rw_call rfl rfl rfl rfl (f := 36) (args := #[.slice A2 s.xs.length c4]) (by simp [go_sem, sEv, sLook, nbeq, i64_w, -List.getD_eq_getElem?_getD]) (split_calls w5 A2 c4 s.xs (Kd.C_below (OwnK.C (d := (Kd.int .u8)) hL9) (Below.refl _ _)) (OwnK.cap (d := (Kd.int .u8)) hL9) hby (by omega)) ?_
    rintro e_ w14 ⟨out10, n11, A12, c13, rfl, hS15, hR16, hB17⟩
    refine ⟨_, rfl, ?_⟩
    have hs_w14 := hB17.size
    have hsp_ := splitR_bound hS15
    have hL18 : OwnK (Kd.slice 5 (Kd.int .u8)) 32 w14 w.heap.size w5.heap.size A12 out10.length c13 out10 := OwnK.lower hR16 (by omega)
    refine rw_val (v := .tuple #[.slice A12 out10.length c13, .int .i64 ((n11 : Nat) : Int)]) (w' := w14) rfl rfl rfl rfl rfl ?_
    refine rw_val (v := .slice A12 out10.length c13) (w' := w14) rfl rfl rfl rfl (by simp [go_sem, sEv, sLook, nbeq, i64_w, -List.getD_eq_getElem?_getD]) ?_
    refine rw_val (v := .int .i64 ((n11 : Nat) : Int)) (w' := w14) rfl rfl rfl rfl (by simp [go_sem, sEv, sLook, nbeq, i64_w, -List.getD_eq_getElem?_getD]) ?_
    refine rw_val (v := .slice A12 out10.length c13) (w' := w14) rfl rfl rfl rfl rfl ?_
    refine rw_val (v := .int .i64 ((n11 : Nat) : Int)) (w' := w14) rfl rfl rfl rfl rfl ?_
    refine rw_end ?_
    refine w_weaken (G' := [(0, .pointer (some ⟨g, 0, none⟩)), (2, .pointer none), (3, .slice none 0 0), (4, .nilIface), (5, .slice A2 s.xs.length c4), (6, .slice A12 out10.length c13), (7, .int .i64 ((n11 : Nat) : Int))]) ⟨rfl, rfl, rfl, rfl, rfl, rfl, rfl, trivial⟩ ?_
    refine w_seq ?_
    refine w_seq ?_
    refine w_region ?_
    refine rw_val (v := .int .i64 ((n11 : Nat) : Int)) (w' := w14) rfl rfl rfl rfl rfl ?_
    refine rw_val (v := .slice A2 s.xs.length c4) (w' := w14) rfl rfl rfl rfl rfl ?_
    refine rw_val (v := .int .i64 ((s.xs.length : Nat) : Int)) (w' := w14) rfl rfl rfl rfl (by simp [go_sem, sEv, sLook, nbeq, i64_w, -List.getD_eq_getElem?_getD]) ?_
    refine rw_val (v := .bool (decide (((n11 : Nat) : Int) < ((s.xs.length : Nat) : Int)))) (w' := w14) rfl rfl rfl rfl (by simp [go_sem, sEv, sLook, nbeq, i64_w, -List.getD_eq_getElem?_getD]) ?_
    refine rw_end ?_
    refine w_weaken (G' := [(0, .pointer (some ⟨g, 0, none⟩)), (2, .pointer none), (3, .slice none 0 0), (4, .nilIface), (5, .slice A2 s.xs.length c4), (6, .slice A12 out10.length c13), (7, .int .i64 ((n11 : Nat) : Int)), (22, .bool (decide (((n11 : Nat) : Int) < ((s.xs.length : Nat) : Int))))]) ⟨rfl, rfl, rfl, rfl, rfl, rfl, rfl, rfl, trivial⟩ ?_
    refine w_cond rfl rfl (fun cL => ?_) (fun cL => ?_)
    · have l19 : (((n11 : Nat) : Int) < ((s.xs.length : Nat) : Int)) := of_decide_eq_true cL
      refine w_seq ?_
      refine w_region ?_
      refine rw_val (v := .pointer (some ⟨g, 0, none⟩)) (w' := w14) rfl rfl rfl rfl rfl ?_
      refine rw_val (v := .slice A2 s.xs.length c4) (w' := w14) rfl rfl rfl rfl rfl ?_
      refine rw_val (v := .int .i64 ((n11 : Nat) : Int)) (w' := w14) rfl rfl rfl rfl rfl ?_
      have hP20 : (Kd.int .u8).C w14 A2 (s.xs.take n11).length (s.xs.take n11) := Kd.C_take (Kd.C_below (OwnK.C (d := (Kd.int .u8)) hL9) hB17) (by omega)
      have hP20_ : (s.xs.take n11).length = n11 := by rw [List.length_take]; omega
      refine rw_val (v := .slice A2 ((s.xs.take n11).length) c4) (w' := w14) rfl rfl rfl rfl (by rw [hP20_]; exact run_as (sl_to (sz := 1) (e := 5) (by kernel_rfl) (fun _ => by kernel_rfl) n11 _ (by first | rfl | (simp; done) | omega) (by have q_ := OwnK.cap (d := (Kd.int .u8)) hL9; omega) _)) ?_
      refine rw_call rfl rfl rfl rfl (f := 37) (args := #[.pointer (some ⟨g, 0, none⟩), .slice A2 ((s.xs.take n11).length) c4]) (by simp [go_sem, sEv, sLook, nbeq, i64_w, -List.getD_eq_getElem?_getD]) (replace_T w0 w14 g m x (by omega) s (TapeAt.on (TapeAt.on hT hB7) hB17) hok A2 (s.xs.take n11) c4 (fun W_ hk_ => Kd.C_take (ownK_kept (S := fun k => k = g) (OwnK.on (d := (Kd.int .u8)) hL9 hB17) (fun q hq h => by omega) W_ hk_) (by omega))) ?_
      rintro e_ w21 ⟨rfl, hT22, hs23, hx24, hq25⟩
      refine ⟨_, rfl, ?_⟩
      have hts_w21 := hT22.size
      have hO27 : OwnK (Kd.slice 5 (Kd.int .u8)) 32 w21 w.heap.size w5.heap.size A12 out10.length c13 out10 := OwnK.step (d := (Kd.slice 5 (Kd.int .u8))) hL18 (fun q hq_ hlt_ => hq25.2 q hlt_ (fun e_ => by omega))
      refine rw_val (v := errT (s.repE (s.xs.take n11))) (w' := w21) rfl rfl rfl rfl rfl ?_
      refine rw_end ?_
      refine w_weaken (G' := [(0, .pointer (some ⟨g, 0, none⟩)), (2, .pointer none), (3, .slice none 0 0), (4, .nilIface), (6, .slice A12 out10.length c13), (7, .int .i64 ((n11 : Nat) : Int)), (8, errT (s.repE (s.xs.take n11)))]) ⟨rfl, rfl, rfl, rfl, rfl, rfl, rfl, trivial⟩ ?_
      refine w_seq ?_
      refine w_region ?_
      refine rw_val (v := errT (s.repE (s.xs.take n11))) (w' := w21) rfl rfl rfl rfl rfl ?_
      refine rw_val (v := .bool ((s.repE (s.xs.take n11)).isSome)) (w' := w21) rfl rfl rfl rfl (run_as (guard_err_neq _ (s.repE (s.xs.take n11)) _)) ?_
      refine rw_end ?_
      refine w_cond rfl rfl (fun cE => ?_) (fun cE => ?_)
      · refine w_seq ?_
        refine w_region ?_
        refine rw_val (v := errT (s.repE (s.xs.take n11))) (w' := w21) rfl rfl rfl rfl rfl ?_
        refine rw_val (v := .pointer none) (w' := w21) rfl rfl rfl rfl rfl ?_
        refine rw_val (v := .slice none 0 0) (w' := w21) rfl rfl rfl rfl rfl ?_
        refine rw_val (v := errT (s.repE (s.xs.take n11))) (w' := w21) rfl rfl rfl rfl rfl ?_
        refine rw_end ?_
        refine w_weaken (G' := [(0, .pointer (some ⟨g, 0, none⟩)), (2, .pointer none), (3, .slice none 0 0), (4, errT (s.repE (s.xs.take n11))), (6, .slice A12 out10.length c13), (7, .int .i64 ((n11 : Nat) : Int))]) ⟨rfl, rfl, rfl, rfl, rfl, rfl, trivial⟩ ?_
        refine w_ret (post_ret3 rfl rfl rfl rfl ?_)
        have nd_ : ¬ s.dn = true := by rw [cD]; simp
        refine ⟨by omega, (Kept.then_ (Kept.of_below (chain hB7 hB17) (fun k => k = g)) hq25 (fun _ h => .inl h)), .inr ⟨cD, out10, n11, hS15, ?_⟩⟩
        have eE_ : openE s n11 = s.repE (s.xs.take n11) := by rw [openE, if_neg nd_, if_pos (by omega)]
        have eS_ : openS s n11 = s.rep (s.xs.take n11) := by rw [openS, if_neg nd_, if_pos (by omega)]
        rw [eE_, eS_]
        obtain ⟨c_, hc_⟩ := Option.isSome_iff_exists.1 cE
        exact .inl ⟨c_, hc_, by rw [← hc_], _, TapeAt.hole hT22 g (.inl rfl)⟩
      · refine w_skip ?_
        refine w_seq ?_
        refine w_region ?_
        refine rw_val (v := .pointer (some ⟨g, 0, none⟩)) (w' := w21) rfl rfl rfl rfl rfl ?_
        refine rw_val (v := .slice A12 out10.length c13) (w' := w21) rfl rfl rfl rfl rfl ?_
        refine rw_val (v := .int .i64 ((out10.length : Nat) : Int)) (w' := w21) rfl rfl rfl rfl (by simp [go_sem, sEv, sLook, nbeq, i64_w, -List.getD_eq_getElem?_getD]) ?_
        refine rw_val (v := .int .i64 ((n11 : Nat) : Int)) (w' := w21) rfl rfl rfl rfl rfl ?_
        refine rw_val (v := .agg #[.pointer (some ⟨g, 0, none⟩), .int .i64 ((out10.length : Nat) : Int), .int .i64 ((n11 : Nat) : Int)]) (w' := w21) rfl rfl rfl rfl (by kernel_rfl) ?_
        refine rw_new (cs := #[.pointer (some ⟨g, 0, none⟩), .int .i64 ((out10.length : Nat) : Int), .int .i64 ((n11 : Nat) : Int)]) (t := 80) (fun g => .pointer (some ⟨g, 0, none⟩)) rfl rfl rfl rfl (by simp [go_sem, sEv, sLook, nbeq, i64_w, -List.getD_eq_getElem?_getD]) ?_
        intro g28 w29 hg33 hz32 hb30 hk31
        have hs_w29 := hb30.size
        refine rw_val (v := .slice A12 out10.length c13) (w' := w29) rfl rfl rfl rfl rfl ?_
        refine rw_val (v := .pointer (some ⟨g28, 0, none⟩)) (w' := w29) rfl rfl rfl rfl rfl ?_
        refine rw_val (v := .slice A12 out10.length c13) (w' := w29) rfl rfl rfl rfl rfl ?_
        refine rw_val (v := .nilIface) (w' := w29) rfl rfl rfl rfl rfl ?_
        refine rw_end ?_
        refine w_weaken (G' := [(2, .pointer (some ⟨g28, 0, none⟩)), (3, .slice A12 out10.length c13), (4, .nilIface)]) ⟨rfl, rfl, rfl, trivial⟩ ?_
        refine w_ret (post_ret3 rfl rfl rfl rfl ?_)
        have nd_ : ¬ s.dn = true := by rw [cD]; simp
        refine ⟨by omega, (Kept.below (Kept.then_ (Kept.of_below (chain hB7 hB17) (fun k => k = g)) hq25 (fun _ h => .inl h)) hb30), .inr ⟨cD, out10, n11, hS15, ?_⟩⟩
        have eE_ : openE s n11 = s.repE (s.xs.take n11) := by rw [openE, if_neg nd_, if_pos (by omega)]
        have eS_ : openS s n11 = s.rep (s.xs.take n11) := by rw [openS, if_neg nd_, if_pos (by omega)]
        rw [eE_, eS_]
        have hT_ := TapeAt.hole (TapeAt.on hT22 hb30) g28 (.inr (by omega))
        have hz_ := hT_.size
        refine .inr ⟨by simpa using cE, g28, _, A12, c13, rfl, ⟨hT_, hk31, by omega, by omega⟩, OwnK.mono (d := (Kd.slice 5 (Kd.int .u8))) (OwnK.on (d := (Kd.slice 5 (Kd.int .u8))) hO27 hb30) (by omega)⟩
    · have l34 : ¬ (((n11 : Nat) : Int) < ((s.xs.length : Nat) : Int)) := of_decide_eq_false cL
      refine w_skip ?_
      refine w_seq ?_
      refine w_region ?_
      refine rw_val (v := .pointer (some ⟨g, 0, none⟩)) (w' := w14) rfl rfl rfl rfl rfl ?_
      refine rw_val (v := .slice A12 out10.length c13) (w' := w14) rfl rfl rfl rfl rfl ?_
      refine rw_val (v := .int .i64 ((out10.length : Nat) : Int)) (w' := w14) rfl rfl rfl rfl (by simp [go_sem, sEv, sLook, nbeq, i64_w, -List.getD_eq_getElem?_getD]) ?_
      refine rw_val (v := .int .i64 ((n11 : Nat) : Int)) (w' := w14) rfl rfl rfl rfl rfl ?_
      refine rw_val (v := .agg #[.pointer (some ⟨g, 0, none⟩), .int .i64 ((out10.length : Nat) : Int), .int .i64 ((n11 : Nat) : Int)]) (w' := w14) rfl rfl rfl rfl (by kernel_rfl) ?_
      refine rw_new (cs := #[.pointer (some ⟨g, 0, none⟩), .int .i64 ((out10.length : Nat) : Int), .int .i64 ((n11 : Nat) : Int)]) (t := 80) (fun g => .pointer (some ⟨g, 0, none⟩)) rfl rfl rfl rfl (by simp [go_sem, sEv, sLook, nbeq, i64_w, -List.getD_eq_getElem?_getD]) ?_
      intro g35 w36 hg40 hz39 hb37 hk38
      have hs_w36 := hb37.size
      refine rw_val (v := .slice A12 out10.length c13) (w' := w36) rfl rfl rfl rfl rfl ?_
      refine rw_val (v := .pointer (some ⟨g35, 0, none⟩)) (w' := w36) rfl rfl rfl rfl rfl ?_
      refine rw_val (v := .slice A12 out10.length c13) (w' := w36) rfl rfl rfl rfl rfl ?_
      refine rw_val (v := .nilIface) (w' := w36) rfl rfl rfl rfl rfl ?_
      refine rw_end ?_
      refine w_weaken (G' := [(2, .pointer (some ⟨g35, 0, none⟩)), (3, .slice A12 out10.length c13), (4, .nilIface)]) ⟨rfl, rfl, rfl, trivial⟩ ?_
      refine w_ret (post_ret3 rfl rfl rfl rfl ?_)
      have nd_ : ¬ s.dn = true := by rw [cD]; simp
      refine ⟨by omega, (Kept.of_below (chain (chain hB7 hB17) hb37) (fun k => k = g)), .inr ⟨cD, out10, n11, hS15, ?_⟩⟩
      have eE_ : openE s n11 = none := by rw [openE, if_neg nd_, if_neg (by omega)]
      have eS_ : openS s n11 = s := by rw [openS, if_neg nd_, if_neg (by omega)]
      rw [eE_, eS_]
      have hT_ := TapeAt.hole (TapeAt.on (TapeAt.on (TapeAt.on hT hB7) hB17) hb37) g35 (.inr (by omega))
      have hz_ := hT_.size
      refine .inr ⟨rfl, g35, _, A12, c13, rfl, ⟨hT_, hk38, by omega, by omega⟩, OwnK.mono (d := (Kd.slice 5 (Kd.int .u8))) (OwnK.on (d := (Kd.slice 5 (Kd.int .u8))) hL18 hb37) (by omega)⟩
end Go.Proofs.Ytiiljpaedelhlaa.Tp
