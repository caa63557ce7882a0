/- Rows as texts: the walks. -/
import Derived.Test.YtiiljpaedelhlaaDyAlive
namespace Go.Proofs.Ytiiljpaedelhlaa.Tp
open Go.RowKit Go.Proofs.YtiiljpaedelhlaaW.PrintWords Go.Proofs.YtiiljpaedelhlaaW.PrintLast Go.Proofs.YtiiljpaedelhlaaW.PrintMore
open Go.Proofs.Ytiiljpaedelhlaa.Flow
open Go.Proofs.Ytiiljpaedelhlaa.PDiaryPlays (SplitR Bytes frameB frameE FC wholeP errW wrap_calls split_calls frameB_len frameB_bytes)
set_option linter.unusedVariables false
set_option linter.unusedSimpArgs false

set_option maxHeartbeats 4000000 in
theorem texts_calls (w : World) (A1 : Option Addr) (c1 : Nat) (rows : List (List Int)) (hr : (Kd.slice 5 (Kd.int .u8)).C w A1 rows.length rows) (hc1 : rows.length ≤ c1) (hn : rows.length ≤ 1000000) :
    Calls Try.prog 14 #[.slice A1 rows.length c1] w fun e w' => ∃ A c, e = .returned (.slice A (rows.map strOfNums).length c) ∧ OwnK Kd.string 9 w' w.heap.size w.heap.size A (rows.map strOfNums).length c (rows.map strOfNums) ∧ Below w.heap.size w w' := by
  refine calls_flow Try.func14 rfl 20 rfl (Nat.le_of_ble_eq_true rfl) [(0, .slice A1 rows.length c1)] ?_ ?_
  · intro t v h; exact args_look rfl t v h
  refine w_seq ?_
  refine w_region ?_
  refine rw_val (v := .slice none 0 0) (w' := w) rfl rfl rfl rfl rfl ?_
  refine rw_end ?_
  refine w_seq ?_
  refine w_region ?_
  refine rw_new (cs := #[]) (t := 9) (fun g => .slice (some ⟨g, 0, none⟩) 0 0) rfl rfl rfl rfl (by kernel_rfl) ?_
  intro g1 w2 hg6 hz5 hb3 hk4
  have hs_w2 := hb3.size
  have hk4r : OwnK Kd.string 9 w2 w.heap.size g1 (some ⟨g1, 0, none⟩) 0 0 ([] : List ByteArray) := lit_nilK _ w.heap.size hk4 (by omega)
  refine rw_val (v := .slice (some ⟨g1, 0, none⟩) 0 0) (w' := w2) rfl rfl rfl rfl rfl ?_
  refine rw_end ?_
  refine w_seq ?_
  refine w_seq ?_
  refine w_region ?_
  refine rw_val (v := .slice A1 rows.length c1) (w' := w2) rfl rfl rfl rfl rfl ?_
  refine rw_val (v := .int .i64 ((rows.length : Nat) : Int)) (w' := w2) rfl rfl rfl rfl (by simp [go_sem, sEv, sLook, nbeq, i64_w, -List.getD_eq_getElem?_getD]) ?_
  refine rw_val (v := .int .i64 0) (w' := w2) rfl rfl rfl rfl rfl ?_
  refine rw_end ?_
  refine w_block ?_
  refine w_loop (fun m_ G W_ => ∃ (j : Nat) (A3_ : Option Addr) (c3_ : Nat), j + m_ = rows.length ∧ Below w.heap.size w W_ ∧ OwnK Kd.string 9 W_ w.heap.size w.heap.size A3_ ((rows.take j).map strOfNums).length c3_ ((rows.take j).map strOfNums) ∧ G = [(0, .slice A1 rows.length c1), (3, .slice A3_ (((rows.take j).map strOfNums).length) c3_), (7, .slice A1 rows.length c1), (8, .int .i64 ((rows.length : Nat) : Int)), (9, .int .i64 ((j : Nat) : Int))]) rows.length [(0, .slice A1 rows.length c1), (3, .slice (some ⟨g1, 0, none⟩) (((rows.take 0).map strOfNums).length) 0), (7, .slice A1 rows.length c1), (8, .int .i64 ((rows.length : Nat) : Int)), (9, .int .i64 0)] ⟨0, (some ⟨g1, 0, none⟩), 0, by omega, hb3, (OwnK.mono (d := Kd.string) hk4r (by omega)), rfl⟩ ⟨rfl, rfl, rfl, rfl, rfl, trivial⟩ ?_
  rintro m_ G w_L7 ⟨j, A3_, c3_, hp8, hB_L7, hO3_, rfl⟩
  have hs_w_L7 := hB_L7.size
  refine w_seq ?_
  refine w_region ?_
  refine rw_val (v := .bool (decide (((j : Nat) : Int) < ((rows.length : Nat) : Int)))) (w' := w_L7) rfl rfl rfl rfl (by simp [go_sem, sEv, sLook, nbeq, i64_w, -List.getD_eq_getElem?_getD]) ?_
  refine rw_end ?_
  refine w_seq ?_
  refine w_cond rfl rfl (fun c9 => ?_) (fun c9 => ?_)
  · have l10 : (((j : Nat) : Int) < ((rows.length : Nat) : Int)) := of_decide_eq_true c9
    refine w_skip ?_
    refine w_seq ?_
    refine w_block ?_
    refine w_seq ?_
    refine w_region ?_
    obtain ⟨ad11, A14, c15, hA12, he16, hle17, hC18⟩ := rows_at (Kd.C_below hr hB_L7) j (by first | omega | decide)
    subst hA12
    refine rw_val (v := .pointer (some (ad11.add (j)))) (w' := w_L7) rfl rfl rfl rfl (run_as (run_at_1 (P := Try.prog) (e := 32) (by kernel_rfl) (by kernel_rfl) j (by first | omega | decide) _)) ?_
    refine rw_val (v := .slice A14 ((rows.getD j []).length) c15) (w' := w_L7) rfl rfl rfl rfl (by have e0_ := cellOn he16 (Below.refl _ _); simp [go_sem, sEv, sLook, nbeq, i64_w, -List.getD_eq_getElem?_getD, e0_, Try.underlying32]) ?_
    refine rw_val (v := .slice A14 ((rows.getD j []).length) c15) (w' := w_L7) rfl rfl rfl rfl rfl ?_
    refine rw_end ?_
    refine w_region ?_
    refine rw_val (v := .slice A3_ (((rows.take j).map strOfNums).length) c3_) (w' := w_L7) rfl rfl rfl rfl rfl ?_
    refine rw_val (v := .slice A14 ((rows.getD j []).length) c15) (w' := w_L7) rfl rfl rfl rfl rfl ?_
    refine rw_val (v := .string (strOfNums (rows.getD j []))) (w' := w_L7) rfl rfl rfl rfl (run_as (run_str_of (P := Try.prog) (e := 5) (by kernel_rfl) (by kernel_rfl) (by kernel_rfl) (Kd.C_below hC18 (Below.refl _ _)))) ?_
    refine rw_new (cs := #[.string (strOfNums (rows.getD j []))]) (t := 9) (fun g => .slice (some ⟨g, 0, none⟩) 1 1) rfl rfl rfl rfl (by kernel_rfl) ?_
    intro g19 w20 hg24 hz23 hb21 hk22
    have hs_w20 := hb21.size
    have hk22r : OwnK Kd.string 9 w20 w.heap.size g19 (some ⟨g19, 0, none⟩) 1 1 ([strOfNums (rows.getD j [])] : List ByteArray) := scal_own w.heap.size hk22 (by omega) rfl rfl (by simp)
    have oA31 : OwnK Kd.string 9 w20 w.heap.size w.heap.size A3_ (((rows.take j).map strOfNums).length) c3_ ((rows.take j).map strOfNums) := (OwnK.on (d := Kd.string) hO3_ hb21)
    refine rw_append_kd (d := Kd.string) w.heap.size rfl rfl rfl (.tmp 13) (.tmp 16) rfl rfl 35 9 (.string ByteArray.empty) 16 rfl (by kernel_rfl) (by kernel_rfl) rfl (show 0 < 1 by decide) (by decide) (fun _ _ h => h) (b := w.heap.size) rfl rfl (by omega) oA31 (OwnK.Cn (d := Kd.string) hk22r) (chain hB_L7 hb21) (by omega) (by first | omega | (simp only [List.length_map, List.length_take, List.length_cons, List.length_nil]; omega)) ?_
    intro A25 c26 w27 hO28 hB29 hG30
    have hs_w27 := hB29.size
    have hgs_w27 := hG30.size
    refine rw_val (v := .slice A25 ((((rows.take j).map strOfNums) ++ ([strOfNums (rows.getD j [])] : List ByteArray)).length) c26) (w' := w27) rfl rfl rfl rfl rfl ?_
    refine rw_end ?_
    refine w_weaken (G' := [(0, .slice (some ad11) rows.length c1), (3, .slice A25 ((((rows.take j).map strOfNums) ++ ([strOfNums (rows.getD j [])] : List ByteArray)).length) c26), (7, .slice (some ad11) rows.length c1), (8, .int .i64 ((rows.length : Nat) : Int)), (9, .int .i64 ((j : Nat) : Int))]) ⟨rfl, rfl, rfl, rfl, rfl, trivial⟩ ?_
    refine w_blk ?_
    refine w_region ?_
    refine rw_val (v := .int .i64 ((j + 1 : Nat) : Int)) (w' := w27) rfl rfl rfl rfl (by simp [go_sem, sEv, sLook, nbeq, i64_w, -List.getD_eq_getElem?_getD]; exact wrap_id (by omega) (by omega)) ?_
    refine rw_val (v := .int .i64 ((j + 1 : Nat) : Int)) (w' := w27) rfl rfl rfl rfl rfl ?_
    refine rw_end ?_
    have e33 : (((rows.take j).map strOfNums) ++ ([strOfNums (rows.getD j [])] : List ByteArray)) = ((rows.take (j + 1)).map strOfNums) := by rw [List.take_succ_eq_append_getElem (by omega), List.map_append, List.getD_eq_getElem?_getD, List.getElem?_eq_getElem (by omega)]; rfl
    have hO34 : OwnK Kd.string 9 w27 w.heap.size w.heap.size A25 ((rows.take (j + 1)).map strOfNums).length c26 ((rows.take (j + 1)).map strOfNums) := by rw [← e33]; exact OwnK.full hO28
    have en35 : (((rows.take j).map strOfNums) ++ ([strOfNums (rows.getD j [])] : List ByteArray)).length = ((rows.take (j + 1)).map strOfNums).length := by rw [← e33] <;> exact OwnK.len (d := Kd.string) hO28
    exact w_back (m_ - 1) [(0, .slice (some ad11) rows.length c1), (3, .slice A25 (((rows.take (j + 1)).map strOfNums).length) c26), (7, .slice (some ad11) rows.length c1), (8, .int .i64 ((rows.length : Nat) : Int)), (9, .int .i64 ((j + 1 : Nat) : Int))] (by omega) ⟨rfl, (by first | rfl | (rw [← en35]; rfl)), rfl, rfl, rfl, trivial⟩ ⟨(j + 1), A25, c26, by omega, hB29, (OwnK.mono (d := Kd.string) hO34 (by omega)), rfl⟩
  · have l36 : ¬ (((j : Nat) : Int) < ((rows.length : Nat) : Int)) := of_decide_eq_false c9
    refine w_exit rfl ?_
    refine w_seq ?_
    refine w_region ?_
    refine rw_val (v := .slice A3_ (((rows.take j).map strOfNums).length) c3_) (w' := w_L7) rfl rfl rfl rfl rfl ?_
    refine rw_val (v := .slice A3_ (((rows.take j).map strOfNums).length) c3_) (w' := w_L7) rfl rfl rfl rfl rfl ?_
    refine rw_end ?_
    refine w_ret (post_ret1 rfl rfl ?_)
    have ej_ : j = rows.length := by omega
    have et_ : (rows.take j).map strOfNums = rows.map strOfNums := by rw [ej_, List.take_length]
    rw [et_]
    have hO_ : OwnK Kd.string 9 w_L7 w.heap.size w.heap.size A3_ ((rows.take j).map strOfNums).length c3_ (rows.map strOfNums) := by rw [← et_]; exact hO3_
    rw [et_] at hO_
    exact ⟨_, _, rfl, OwnK.mono (d := Kd.string) hO_ (by omega), hB_L7⟩

theorem map_getD {rows : List (List Int)} {l : List ByteArray} (h : rows.map strOfNums = l) (j : Nat) (hj : j < rows.length) : strOfNums (rows.getD j []) = l.getD j (⟨#[]⟩ : ByteArray) := by
  subst h
  rw [List.getD_eq_getElem?_getD, List.getD_eq_getElem?_getD, List.getElem?_map, List.getElem?_eq_getElem hj]
  rfl
theorem map_ext {rows : List (List Int)} {l : List ByteArray} (hl : rows.length = l.length) (h : ∀ i, i < l.length → strOfNums (rows.getD i []) = l.getD i (⟨#[]⟩ : ByteArray)) : rows.map strOfNums = l := by
  apply List.ext_getElem
  · rw [List.length_map, hl]
  · intro i h1 h2
    have h3 := h i h2
    rw [List.getD_eq_getElem?_getD, List.getD_eq_getElem?_getD, List.getElem?_eq_getElem h2, List.getElem?_eq_getElem (by omega)] at h3
    rw [List.getElem_map]
    exact h3
set_option maxHeartbeats 4000000 in
theorem same_calls (w : World) (A1 A2 : Option Addr) (c1 c2 : Nat) (rows : List (List Int)) (l : List ByteArray) (hr : (Kd.slice 5 (Kd.int .u8)).C w A1 rows.length rows) (hc1 : rows.length ≤ c1) (hl : Kd.string.C w A2 l.length l) (hc2 : l.length ≤ c2) (hn : l.length ≤ 1000000) :
    Calls Try.prog 13 #[.slice A1 rows.length c1, .slice A2 l.length c2] w fun e w' => e = .returned (.bool (decide (rows.map strOfNums = l))) ∧ Below w.heap.size w w' := by
  refine calls_flow Try.func13 rfl 27 rfl (Nat.le_of_ble_eq_true rfl) [(0, .slice A1 rows.length c1), (1, .slice A2 l.length c2)] ?_ ?_
  · intro t v h; exact args_look rfl t v h
  refine w_seq ?_
  refine w_region ?_
  refine rw_val (v := .bool false) (w' := w) rfl rfl rfl rfl rfl ?_
  refine rw_end ?_
  refine w_seq ?_
  refine w_seq ?_
  refine w_region ?_
  refine rw_val (v := .slice A1 rows.length c1) (w' := w) rfl rfl rfl rfl rfl ?_
  refine rw_val (v := .int .i64 ((rows.length : Nat) : Int)) (w' := w) rfl rfl rfl rfl (by simp [go_sem, sEv, sLook, nbeq, i64_w, -List.getD_eq_getElem?_getD]) ?_
  refine rw_val (v := .slice A2 l.length c2) (w' := w) rfl rfl rfl rfl rfl ?_
  refine rw_val (v := .int .i64 ((l.length : Nat) : Int)) (w' := w) rfl rfl rfl rfl (by simp [go_sem, sEv, sLook, nbeq, i64_w, -List.getD_eq_getElem?_getD]) ?_
  refine rw_val (v := .bool (((rows.length : Nat) : Int) != ((l.length : Nat) : Int))) (w' := w) rfl rfl rfl rfl (by simp [go_sem, sEv, sLook, nbeq, i64_w, -List.getD_eq_getElem?_getD]) ?_
  refine rw_end ?_
  refine w_weaken (G' := [(0, .slice A1 rows.length c1), (1, .slice A2 l.length c2), (4, .bool false), (10, .bool (((rows.length : Nat) : Int) != ((l.length : Nat) : Int)))]) ⟨rfl, rfl, rfl, rfl, trivial⟩ ?_
  refine w_cond rfl rfl (fun cL => ?_) (fun cL => ?_)
  · have l1 : ¬ ((rows.length : Nat) : Int) = ((l.length : Nat) : Int) := by simpa using cL
    refine w_seq ?_
    refine w_region ?_
    refine rw_val (v := .bool false) (w' := w) rfl rfl rfl rfl rfl ?_
    refine rw_end ?_
    refine w_ret (post_ret1 rfl rfl ?_)
    refine ⟨congrArg (fun z => Ending.returned (Value.bool z)) ?_, (Below.refl _ _)⟩
    symm
    rw [decide_eq_false_iff_not]
    intro h_
    have h2_ := congrArg List.length h_
    rw [List.length_map] at h2_
    omega
  · have l2 : ((rows.length : Nat) : Int) = ((l.length : Nat) : Int) := by simpa using cL
    refine w_skip ?_
    refine w_seq ?_
    refine w_seq ?_
    refine w_region ?_
    refine rw_val (v := .slice A2 l.length c2) (w' := w) rfl rfl rfl rfl rfl ?_
    refine rw_val (v := .int .i64 ((l.length : Nat) : Int)) (w' := w) rfl rfl rfl rfl (by simp [go_sem, sEv, sLook, nbeq, i64_w, -List.getD_eq_getElem?_getD]) ?_
    refine rw_val (v := .int .i64 0) (w' := w) rfl rfl rfl rfl rfl ?_
    refine rw_end ?_
    refine w_block ?_
    refine w_loop (fun m_ G W_ => ∃ (j : Nat), j + m_ = l.length ∧ rows.length = l.length ∧ Below w.heap.size w W_ ∧ (∀ i, i < j → strOfNums (rows.getD i []) = l.getD i (⟨#[]⟩ : ByteArray)) ∧ G = [(0, .slice A1 rows.length c1), (1, .slice A2 l.length c2), (12, .int .i64 ((l.length : Nat) : Int)), (13, .int .i64 ((j : Nat) : Int))]) l.length [(0, .slice A1 rows.length c1), (1, .slice A2 l.length c2), (12, .int .i64 ((l.length : Nat) : Int)), (13, .int .i64 0)] ⟨0, by omega, by omega, (Below.refl _ _), (fun i hi => absurd hi (by omega)), rfl⟩ ⟨rfl, rfl, rfl, rfl, trivial⟩ ?_
    rintro m_ G w_L3 ⟨j, hp4, hp5, hB_L3, hf6, rfl⟩
    have hs_w_L3 := hB_L3.size
    refine w_seq ?_
    refine w_region ?_
    refine rw_val (v := .bool (decide (((j : Nat) : Int) < ((l.length : Nat) : Int)))) (w' := w_L3) rfl rfl rfl rfl (by simp [go_sem, sEv, sLook, nbeq, i64_w, -List.getD_eq_getElem?_getD]) ?_
    refine rw_end ?_
    refine w_seq ?_
    refine w_cond rfl rfl (fun cJ => ?_) (fun cJ => ?_)
    · have l7 : (((j : Nat) : Int) < ((l.length : Nat) : Int)) := of_decide_eq_true cJ
      refine w_skip ?_
      refine w_seq ?_
      refine w_block ?_
      refine w_seq ?_
      refine w_region ?_
      refine rw_val (v := .int .i64 ((j : Nat) : Int)) (w' := w_L3) rfl rfl rfl rfl rfl ?_
      refine rw_val (v := .int .i64 ((j : Nat) : Int)) (w' := w_L3) rfl rfl rfl rfl rfl ?_
      refine rw_end ?_
      refine w_seq ?_
      obtain ⟨ad8, A11, c12, hA9, he13, hle14, hC15⟩ := rows_at (Kd.C_below hr hB_L3) j (by first | omega | decide)
      subst hA9
      obtain ⟨ad16, hA17, hc18⟩ := str_el (Kd.C_below hl hB_L3) (⟨#[]⟩ : ByteArray) j (by first | omega | decide)
      subst hA17
      have he19 : w_L3.cell? (ad16.add (j)) = some (.string (l.getD j (⟨#[]⟩ : ByteArray))) := cell_0 (hc18 0 _ rfl)
      refine w_drawk (M := [0, 0, 3, 7, 15, 0, 0, 96, 224, 511]) (ss := [Is (.slice (some ad8) rows.length c1), Is (.int .i64 ((j : Nat) : Int)), Is (.pointer (some (ad8.add (j)))), Is (.slice A11 ((rows.getD j []).length) c12), Is (.string (strOfNums (rows.getD j []))), Is (.slice (some ad16) l.length c2), Is (.int .i64 ((j : Nat) : Int)), Is (.pointer (some (ad16.add (j)))), Is (.string (l.getD j (⟨#[]⟩ : ByteArray)))]) 9 rfl (by decide +kernel) ?_
      refine t_is (.slice (some ad8) rows.length c1) rfl rfl rfl rfl (fun W_ hW_ F_ => rfl) ?_
      refine t_is (.int .i64 ((j : Nat) : Int)) rfl rfl rfl rfl (fun W_ hW_ F_ => rfl) ?_
      refine t_is (.pointer (some (ad8.add (j)))) rfl rfl rfl rfl (fun W_ hW_ F_ => (run_as (run_at_1 (P := Try.prog) (e := 32) (by kernel_rfl) (by kernel_rfl) j (by first | omega | decide) _))) ?_
      refine t_is (.slice A11 ((rows.getD j []).length) c12) rfl rfl rfl rfl (fun W_ hW_ F_ => by have e0_ := cellOn he13 (below_of_drew hW_); simp [go_sem, sEv, sLook, nbeq, i64_w, -List.getD_eq_getElem?_getD, e0_, Try.underlying32]) ?_
      refine t_is (.string (strOfNums (rows.getD j []))) rfl rfl rfl rfl (fun W_ hW_ F_ => (run_as (run_str_of (P := Try.prog) (e := 5) (by kernel_rfl) (by kernel_rfl) (by kernel_rfl) (Kd.C_below hC15 (chain (Below.refl _ _) (below_of_drew hW_)))))) ?_
      refine t_is (.slice (some ad16) l.length c2) rfl rfl rfl rfl (fun W_ hW_ F_ => rfl) ?_
      refine t_is (.int .i64 ((j : Nat) : Int)) rfl rfl rfl rfl (fun W_ hW_ F_ => rfl) ?_
      refine t_is (.pointer (some (ad16.add (j)))) rfl rfl rfl rfl (fun W_ hW_ F_ => (run_as (run_at_1 (P := Try.prog) (e := 9) (by kernel_rfl) (by kernel_rfl) j (by first | omega | decide) _))) ?_
      refine t_is (.string (l.getD j (⟨#[]⟩ : ByteArray))) rfl rfl rfl rfl (fun W_ hW_ F_ => by have e0_ := cellOn he19 (below_of_drew hW_); simp [go_sem, sEv, sLook, nbeq, i64_w, -List.getD_eq_getElem?_getD, e0_]) ?_
      refine t_tail ?_
      intro w20 hb21_ F22
      have hb21 := below_of_drew hb21_
      have hs_w20 := hb21.size
      refine rw_val (v := .bool (!decide (strOfNums (rows.getD j []) = (l.getD j (⟨#[]⟩ : ByteArray))))) (w' := w20) rfl rfl rfl rfl (run_as (run_str_neq 9 _ _ _)) ?_
      refine rw_end ?_
      refine w_weaken (G' := [(0, .slice (some ad8) rows.length c1), (1, .slice (some ad16) l.length c2), (12, .int .i64 ((l.length : Nat) : Int)), (13, .int .i64 ((j : Nat) : Int)), (25, .bool (!decide (strOfNums (rows.getD j []) = (l.getD j (⟨#[]⟩ : ByteArray)))))]) ⟨rfl, rfl, rfl, rfl, rfl, trivial⟩ ?_
      refine w_cond rfl rfl (fun cN => ?_) (fun cN => ?_)
      · refine w_seq ?_
        refine w_region ?_
        refine rw_val (v := .bool false) (w' := w20) rfl rfl rfl rfl rfl ?_
        refine rw_end ?_
        refine w_ret (post_ret1 rfl rfl ?_)
        refine ⟨congrArg (fun z => Ending.returned (Value.bool z)) ?_, (chain hB_L3 hb21)⟩
        symm
        rw [decide_eq_false_iff_not]
        intro h_
        exact absurd (map_getD h_ j (by omega)) (of_decide_eq_false (not_true cN))
      · refine w_skip ?_
        refine w_blk ?_
        refine w_region ?_
        refine rw_val (v := .int .i64 ((j + 1 : Nat) : Int)) (w' := w20) rfl rfl rfl rfl (by simp [go_sem, sEv, sLook, nbeq, i64_w, -List.getD_eq_getElem?_getD]; exact wrap_id (by omega) (by omega)) ?_
        refine rw_val (v := .int .i64 ((j + 1 : Nat) : Int)) (w' := w20) rfl rfl rfl rfl rfl ?_
        refine rw_end ?_
        exact w_back (m_ - 1) [(0, .slice (some ad8) rows.length c1), (1, .slice (some ad16) l.length c2), (12, .int .i64 ((l.length : Nat) : Int)), (13, .int .i64 ((j + 1 : Nat) : Int))] (by omega) ⟨rfl, rfl, rfl, rfl, trivial⟩ ⟨(j + 1), by omega, by omega, (chain hB_L3 hb21), (fun i hi => (Nat.lt_succ_iff_lt_or_eq.1 hi).elim (fun h => hf6 i h) (fun h => by subst h; exact of_decide_eq_true (not_false cN))), rfl⟩
    · have l23 : ¬ (((j : Nat) : Int) < ((l.length : Nat) : Int)) := of_decide_eq_false cJ
      refine w_exit rfl ?_
      refine w_seq ?_
      refine w_region ?_
      refine rw_val (v := .bool true) (w' := w_L3) rfl rfl rfl rfl rfl ?_
      refine rw_end ?_
      refine w_ret (post_ret1 rfl rfl ?_)
      refine ⟨congrArg (fun z => Ending.returned (Value.bool z)) ?_, hB_L3⟩
      symm
      rw [decide_eq_true_iff]
      exact map_ext (by omega) (fun i hi => hf6 i (by omega))
end Go.Proofs.Ytiiljpaedelhlaa.Tp
