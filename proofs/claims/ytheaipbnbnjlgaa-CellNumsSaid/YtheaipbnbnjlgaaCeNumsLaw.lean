/- What numbers a cell has, and which begin with one: the law's walk. -/
import Derived.Test.YtheaipbnbnjlgaaCeRTake
namespace Go.Proofs.Ytheaipbnbnjlgaa.Ce
open Go.RowKit Go.Proofs.YtheaipbnbnjlgaaW.PrintWords Go.Proofs.YtheaipbnbnjlgaaW.PrintLast Go.Proofs.YtheaipbnbnjlgaaW.PrintMore
open Go.Proofs.Ytheaipbnbnjlgaa.Flow
set_option linter.unusedVariables false
set_option linter.unusedSimpArgs false


theorem getD_I64 {l : List Int} (h : ∀ x ∈ l, I64 x) (i : Nat) : I64 (l.getD i 0) := by
  rw [List.getD_eq_getElem?_getD]
  cases e : l[i]? with
  | none => exact ⟨by decide, by decide⟩
  | some x => exact h x (List.mem_of_getElem? e)
theorem take_none (w : World) (A1 : Option Addr) (c1 : Nat) (l : List Int) (hl : (Kd.int .i64).C w A1 l.length l) (hc : l.length ≤ c1) (hln : l.length ≤ 100000) (h : takeC l = none) : Calls Try.prog 21 #[.slice A1 l.length c1] w fun e w' => e = .returned (.tuple #[.agg (carr CL.unit), .slice none 0 0, .bool false]) ∧ Below w.heap.size w w' :=
  (take_calls w A1 c1 l hl hc hln).mono fun e w' q => by
    rcases q with ⟨⟨_, q⟩ | ⟨c, r, A', c', q, _⟩, hb⟩
    · exact ⟨q, hb⟩
    · rw [h] at q; cases q
theorem take_some (w : World) (A1 : Option Addr) (c1 : Nat) (l : List Int) (hl : (Kd.int .i64).C w A1 l.length l) (hc : l.length ≤ c1) (hln : l.length ≤ 100000) (c : CL) (r : List Int) (h : takeC l = some (c, r)) : Calls Try.prog 21 #[.slice A1 l.length c1] w fun e w' => ∃ A' c', e = .returned (.tuple #[.agg (carr c), .slice A' r.length c', .bool true]) ∧ OwnK (Kd.int .i64) 3 w' w.heap.size w.heap.size A' r.length c' r ∧ Below w.heap.size w w' :=
  (take_calls w A1 c1 l hl hc hln).mono fun e w' q => by
    rcases q with ⟨⟨q, _⟩ | ⟨c2, r2, A', c', q, q2, q3⟩, hb⟩
    · rw [h] at q; cases q
    · rw [h] at q
      cases q
      exact ⟨A', c', q2, q3, hb⟩

theorem rtake_none (w : World) (A1 : Option Addr) (c1 : Nat) (l : List Int) (hl : (Kd.int .i64).C w A1 l.length l) (hc : l.length ≤ c1) (hln : l.length ≤ 100000) (hv : ∀ x ∈ l, I64 x) (h : takeC l = none) : Calls Try.prog 22 #[.slice A1 l.length c1] w fun e w' => e = .returned (.tuple #[.agg (carr CL.unit), .int .i64 0]) ∧ Below w.heap.size w w' :=
  (rtake_calls w A1 c1 l hl hc hln (fun _ => getD_I64 hv 2)).mono fun e w' q => by
    rcases q with ⟨⟨_, q⟩ | ⟨c, r, q, _⟩, hb⟩
    · exact ⟨q, hb⟩
    · rw [h] at q; cases q
theorem rtake_some (w : World) (A1 : Option Addr) (c1 : Nat) (l : List Int) (hl : (Kd.int .i64).C w A1 l.length l) (hc : l.length ≤ c1) (hln : l.length ≤ 100000) (hv : ∀ x ∈ l, I64 x) (c : CL) (r : List Int) (h : takeC l = some (c, r)) : Calls Try.prog 22 #[.slice A1 l.length c1] w fun e w' => e = .returned (.tuple #[.agg (carr c), .int .i64 ((10 + 2 * nC l : Nat) : Int)]) ∧ Below w.heap.size w w' :=
  (rtake_calls w A1 c1 l hl hc hln (fun _ => getD_I64 hv 2)).mono fun e w' q => by
    rcases q with ⟨⟨q, _⟩ | ⟨c2, r2, q, q2⟩, hb⟩
    · rw [h] at q; cases q
    · rw [h] at q
      cases q
      exact ⟨q2, hb⟩
set_option maxHeartbeats 4000000 in
theorem walkNums (w : World) (c : CL) (A1 : Option Addr) (c1 : Nat) (l : List Int) (hl : (Kd.int .i64).C w A1 l.length l) (hc : l.length ≤ c1) (hln : l.length ≤ 140737488355328) (hv : ∀ x ∈ l, I64 x) (hlo : LoOk c) :
    Calls Try.prog 8 #[.agg (carr c), .slice A1 l.length c1] w fun e w' => e = .returned (.bool true) ∧ Below w.heap.size w w' := by
  refine calls_flow Try.func8 rfl 86 rfl (Nat.le_of_ble_eq_true rfl) [(0, .agg (carr c)), (1, .slice A1 l.length c1)] ?_ ?_
  · intro t v h; exact args_look rfl t v h
  refine w_seq ?_
  refine w_region ?_
  refine rw_new (cs := carr c) (t := 31) (fun g => .pointer (some ⟨g, 0, none⟩)) rfl rfl rfl rfl (by simp [go_sem, sEv, sLook, nbeq, i64_w, -List.getD_eq_getElem?_getD]) ?_
  intro g1 w2 hg6 hz5 hb3 hk4
  have hs_w2 := hb3.size
  refine rw_val (v := .bool false) (w' := w2) rfl rfl rfl rfl rfl ?_
  refine rw_end ?_
  refine w_seq ?_
  refine w_seq ?_
  refine w_region ?_
  refine rw_call rfl rfl rfl rfl (f := 10) (args := #[]) (by simp [go_sem, sEv, sLook, nbeq, i64_w, -List.getD_eq_getElem?_getD]) (alive_calls w2) ?_
  rintro e_ w7 ⟨rfl, hb8⟩
  refine ⟨_, rfl, ?_⟩
  have hs_w7 := hb8.size
  refine rw_val (v := .bool false) (w' := w7) rfl rfl rfl rfl (by simp [go_sem, sEv, sLook, nbeq, i64_w, -List.getD_eq_getElem?_getD]) ?_
  refine rw_end ?_
  refine w_cond_f rfl rfl rfl ?_
  refine w_skip ?_
  refine w_seq ?_
  refine w_seq ?_
  rcases bcase (decide (2000 < ((l.length : Nat) : Int))) with cL | cL
  · have l9 : ¬ (2000 < ((l.length : Nat) : Int)) := of_decide_eq_false cL
    refine w_drawk (M := [0, 1, 3, 7, 15, 31, 15, 127, 255, 511, 1023]) (ss := [Is (.slice A1 l.length c1), Is (.int .i64 ((l.length : Nat) : Int)), Is (.bool (decide (2000 < ((l.length : Nat) : Int)))), Is (.bool (decide (2000 < ((l.length : Nat) : Int)))), Is (.agg (carr c)), (OwnKSpec (Kd.int .i64) 3 w7.heap.size w7.heap.size (numsC c)), Is (.agg (carr c))]) 7 rfl (by decide +kernel) ?_
    refine t_is (.slice A1 l.length c1) rfl rfl rfl rfl (fun W_ hW_ F_ => rfl) ?_
    refine t_is (.int .i64 ((l.length : Nat) : Int)) rfl rfl rfl rfl (fun W_ hW_ F_ => (by simp [go_sem, sEv, sLook, nbeq, i64_w, -List.getD_eq_getElem?_getD])) ?_
    refine t_is (.bool (decide (2000 < ((l.length : Nat) : Int)))) rfl rfl rfl rfl (fun W_ hW_ F_ => by simp [go_sem, sEv, sLook, nbeq, i64_w, -List.getD_eq_getElem?_getD]) ?_
    refine t_is (.bool (decide (2000 < ((l.length : Nat) : Int)))) rfl rfl rfl rfl (fun W_ hW_ F_ => rfl) ?_
    refine t_gis (c := decide (2000 < ((l.length : Nat) : Int))) (.agg (carr c)) rfl rfl rfl (by first | (rw [cL]; rfl) | simp [cL]) rfl rfl rfl (fun W_ hW_ F_ => (run_as (load_cell (c := c) ((hk4.on hb8).on (below_of_drew hW_))))) ?_
    refine t_gcall (c := decide (2000 < ((l.length : Nat) : Int))) (f := 19) (args := #[.agg (carr c)]) (OwnKSpec (Kd.int .i64) 3 w7.heap.size w7.heap.size (numsC c)) rfl rfl rfl (by first | (rw [cL]; rfl) | simp [cL]) rfl rfl rfl (fun W_ => by simp [go_sem, sEv, sLook, nbeq, i64_w, -List.getD_eq_getElem?_getD]) (fun W_ hW_ F_ => ?_) ?_
    · have hs_ := (below_of_drew hW_).size
      refine ((nums_calls W_ c)).mono ?_
      rintro e_ w_ ⟨A_, c_, rfl, hO_, hb_⟩
      exact ⟨_, rfl, ⟨A_, c_, rfl, OwnK.mono (OwnK.lower hO_ (by omega)) (by omega)⟩, hb_⟩
    rintro _ ⟨A10, c11, rfl, hle12⟩
    refine t_gis (c := decide (2000 < ((l.length : Nat) : Int))) (.agg (carr c)) rfl rfl rfl (by first | (rw [cL]; rfl) | simp [cL]) rfl rfl rfl (fun W_ hW_ F_ => (run_as (load_cell (c := c) ((hk4.on hb8).on (below_of_drew hW_))))) ?_
    refine t_tail ?_
    intro w14 hb15_ F16
    have hb15 := below_of_drew hb15_
    have hs_w14 := hb15.size
    have hO13 : OwnK (Kd.int .i64) 3 w14 w.heap.size w7.heap.size A10 (numsC c).length c11 (numsC c) := OwnK.lower (ownk_fact (F16 5 (OwnKSpec (Kd.int .i64) 3 w7.heap.size w7.heap.size (numsC c)) (.slice A10 (numsC c).length c11) (by kernel_rfl))) (by omega)
    clear F16
    refine rw_on (c := decide (2000 < ((l.length : Nat) : Int))) rfl rfl rfl (by first | (rw [cL]; rfl) | simp [cL]) ?_
    refine rw_call rfl rfl rfl rfl (f := 20) (args := #[.agg (carr c)]) (by simp [go_sem, sEv, sLook, nbeq, i64_w, -List.getD_eq_getElem?_getD]) ((rnums_calls w14 c)) ?_
    rintro e_ w19 ⟨A17, c18, rfl, hO20, hB21⟩
    refine ⟨_, rfl, ?_⟩
    have hs_w19 := hB21.size
    have hL22 : OwnK (Kd.int .i64) 3 w19 w.heap.size w14.heap.size A17 (numsC c).length c18 (numsC c) := OwnK.lower hO20 (by omega)
    refine rw_on (c := decide (2000 < ((l.length : Nat) : Int))) rfl rfl rfl (by first | (rw [cL]; rfl) | simp [cL]) ?_
    refine rw_call rfl rfl rfl rfl (f := 18) (args := #[.slice A10 ((numsC c).length) c11, .slice A17 ((numsC c).length) c18]) (by simp [go_sem, sEv, sLook, nbeq, i64_w, -List.getD_eq_getElem?_getD]) (ints_calls w19 A10 c11 A17 c18 (numsC c) (Kd.C_below (OwnK.C (d := (Kd.int .i64)) hO13) hB21) (OwnK.cap (d := (Kd.int .i64)) hO13) (Kd.C_below (OwnK.C (d := (Kd.int .i64)) hL22) (Below.refl _ _)) (OwnK.cap (d := (Kd.int .i64)) hL22) (by first | omega | (have q_ := nums_len c; have q2_ := pr_len c.h 65; omega) | (simp only [List.length_drop, List.length_append]; omega))) ?_
    rintro e_ w23 ⟨rfl, hb24⟩
    refine ⟨_, rfl, ?_⟩
    have hs_w23 := hb24.size
    refine rw_on (c := decide (2000 < ((l.length : Nat) : Int))) rfl rfl rfl (by first | (rw [cL]; rfl) | simp [cL]) ?_
    refine rw_val (v := .bool false) (w' := w23) rfl rfl rfl rfl (by simp [go_sem, sEv, sLook, nbeq, i64_w, -List.getD_eq_getElem?_getD]) ?_
    refine rw_val (v := .bool false) (w' := w23) rfl rfl rfl rfl (by first | (simp [go_sem, sEv, sLook, nbeq, i64_w, -List.getD_eq_getElem?_getD, cL]; done) | (rw [cL]; simp [go_sem, sEv, sLook, nbeq, i64_w, -List.getD_eq_getElem?_getD]; done) | (simp [go_sem, sEv, sLook, nbeq, i64_w, -List.getD_eq_getElem?_getD] <;> omega) | (simp [go_sem, sEv, sLook, nbeq, i64_w, -List.getD_eq_getElem?_getD]; intro h_; exact absurd (by omega) h_)) ?_
    refine rw_end ?_
    refine w_weaken (G' := [(1, .slice A1 l.length c1), (4, .bool false), (23, .bool false)]) ⟨rfl, rfl, rfl, trivial⟩ ?_
    refine w_cond_f rfl rfl rfl ?_
    refine w_skip ?_
    refine w_seq ?_
    refine w_region ?_
    refine rw_val (v := .slice A1 l.length c1) (w' := w23) rfl rfl rfl rfl rfl ?_
    refine rw_val (v := .int .i64 ((l.length : Nat) : Int)) (w' := w23) rfl rfl rfl rfl (by simp [go_sem, sEv, sLook, nbeq, i64_w, -List.getD_eq_getElem?_getD]) ?_
    refine rw_val (v := .int .i64 ((l.length + 1 : Nat) : Int)) (w' := w23) rfl rfl rfl rfl (by simp [go_sem, sEv, sLook, nbeq, i64_w, -List.getD_eq_getElem?_getD]; exact wrap_id (by omega) (by omega)) ?_
    refine rw_new (cs := madeCells #[.int .i64 0] (l.length + 1)) (t := 3) (fun g => .slice (some ⟨g, 0, none⟩) 0 (l.length + 1)) rfl rfl rfl rfl (run_as (make_run (bytes := 8) (by kernel_rfl) (by kernel_rfl) rfl 0 (l.length + 1) _ _ (by first | rfl | simp) (by first | rfl | simp) (by omega) (by omega) (by decide) _ _ _)) ?_
    intro g25 w26 hg30 hz29 hb27 hk28
    have hs_w26 := hb27.size
    have hO31 : OwnK (Kd.int .i64) 3 w26 w.heap.size g25 (some ⟨g25, 0, none⟩) 0 (l.length + 1) ([] : List Int) := made_own 0 0 w.heap.size hk28 (by omega) (by omega) (by omega)
    refine rw_val (v := .slice A1 l.length c1) (w' := w26) rfl rfl rfl rfl rfl ?_
    have oA38 : OwnK (Kd.int .i64) 3 w26 w.heap.size g25 (some ⟨g25, 0, none⟩) 0 (l.length + 1) ([] : List Int) := hO31
    refine rw_append_kd (d := (Kd.int .i64)) w.heap.size rfl rfl rfl (.tmp 30) (.tmp 31) rfl rfl 38 3 (.int .i64 0) 8 rfl (by kernel_rfl) (by kernel_rfl) rfl (show 0 < 1 by decide) (by decide) (fun _ _ h => h) (b := g25) rfl rfl (by omega) oA38 (Kd.C_below hl (chain (chain (chain (chain (chain hb3 hb8) hb15) hB21) hb24) hb27)) (chain (chain (chain (chain (chain hb3 hb8) hb15) hB21) hb24) hb27) (by omega) (by first | omega | (have q_ := nums_len c; have q2_ := pr_len c.h 65; simp only [List.length_append, List.length_nil, List.length_cons]; omega) | (simp only [List.length_append, List.length_nil, List.length_cons]; omega)) ?_
    intro A32 c33 w34 hO35 hB36 hG37
    rw [List.nil_append] at hO35
    try rw [List.nil_append]
    have hs_w34 := hB36.size
    have hgs_w34 := hG37.size
    have hk39 := OwnK.blk_grown (((((hk4.on hb8).on hb15).on hB21).on hb24).on hb27) oA38 (.inr (by decide)) hG37
    refine rw_new (cs := #[.int .i64 (-77)]) (t := 3) (fun g => .slice (some ⟨g, 0, none⟩) 1 1) rfl rfl rfl rfl (by kernel_rfl) ?_
    intro g40 w41 hg45 hz44 hb42 hk43
    have hs_w41 := hb42.size
    have hk43r : OwnK (Kd.int .i64) 3 w41 w.heap.size g40 (some ⟨g40, 0, none⟩) 1 1 ([(-77)] : List Int) := scal_own w.heap.size hk43 (by omega) rfl rfl (by simp)
    have oA52 : OwnK (Kd.int .i64) 3 w41 w.heap.size g25 A32 l.length c33 l := (OwnK.on (d := (Kd.int .i64)) hO35 hb42)
    refine rw_append_kd (d := (Kd.int .i64)) w.heap.size rfl rfl rfl (.tmp 32) (.tmp 33) rfl rfl 38 3 (.int .i64 0) 8 rfl (by kernel_rfl) (by kernel_rfl) rfl (show 0 < 1 by decide) (by decide) (fun _ _ h => h) (b := g25) rfl rfl (by omega) oA52 (OwnK.Cn (d := (Kd.int .i64)) hk43r) (chain hB36 hb42) (by omega) (by first | omega | (have q_ := nums_len c; have q2_ := pr_len c.h 65; simp only [List.length_append, List.length_nil, List.length_cons]; omega) | (simp only [List.length_append, List.length_nil, List.length_cons]; omega)) ?_
    intro A46 c47 w48 hO49 hB50 hG51
    have hs_w48 := hB50.size
    have hgs_w48 := hG51.size
    have hk54 := OwnK.blk_grown (hk39.on hb42) oA52 (.inr (by decide)) hG51
    refine rw_val (v := .slice A1 l.length c1) (w' := w48) rfl rfl rfl rfl rfl ?_
    refine rw_val (v := .int .i64 ((l.length : Nat) : Int)) (w' := w48) rfl rfl rfl rfl (by simp [go_sem, sEv, sLook, nbeq, i64_w, -List.getD_eq_getElem?_getD]) ?_
    have hl55 : (l ++ ([(-77)] : List Int)).length = l.length + ([(-77)] : List Int).length := List.length_append
    have hl55_ : ([(-77)] : List Int).length = 1 := rfl
    refine rw_val (v := .slice A46 l.length c47) (w' := w48) rfl rfl rfl rfl (run_as (sl_to (sz := 1) (e := 3) (by kernel_rfl) (fun _ => by kernel_rfl) l.length _ (by first | rfl | (simp; done) | omega) (by have q_ := OwnK.cap (d := (Kd.int .i64)) hO49; omega) _)) ?_
    refine rw_val (v := .slice A46 l.length c47) (w' := w48) rfl rfl rfl rfl rfl ?_
    refine rw_end ?_
    refine w_weaken (G' := [(1, .slice A1 l.length c1), (4, .bool false), (5, .slice A46 l.length c47)]) ⟨rfl, rfl, rfl, trivial⟩ ?_
    refine w_seq ?_
    refine w_region ?_
    rcases hT_ : takeC l with _ | ⟨cc_, rr_⟩
    · refine rw_val (v := .slice A46 l.length c47) (w' := w48) rfl rfl rfl rfl rfl ?_
      refine rw_call rfl rfl rfl rfl (f := 21) (args := #[.slice A46 l.length c47]) (by simp [go_sem, sEv, sLook, nbeq, i64_w, -List.getD_eq_getElem?_getD]) (take_none w48 A46 c47 l (Kd.C_below (OwnK.front (d := (Kd.int .i64)) hO49) (Below.refl _ _)) (show l.length ≤ c47 by have q_ := OwnK.cap (d := (Kd.int .i64)) hO49; omega) (by omega) hT_) ?_
      rintro e_ w56 ⟨rfl, hb57⟩
      refine ⟨_, rfl, ?_⟩
      have hs_w56 := hb57.size
      refine rw_val (v := .tuple #[.agg (carr CL.unit), .slice none 0 0, .bool false]) (w' := w56) rfl rfl rfl rfl rfl ?_
      refine rw_val (v := .agg (carr CL.unit)) (w' := w56) rfl rfl rfl rfl (by simp [go_sem, sEv, sLook, nbeq, i64_w, -List.getD_eq_getElem?_getD]) ?_
      refine rw_val (v := .slice none 0 0) (w' := w56) rfl rfl rfl rfl (by simp [go_sem, sEv, sLook, nbeq, i64_w, -List.getD_eq_getElem?_getD]) ?_
      refine rw_val (v := .bool false) (w' := w56) rfl rfl rfl rfl (by simp [go_sem, sEv, sLook, nbeq, i64_w, -List.getD_eq_getElem?_getD]) ?_
      refine rw_new (cs := carr CL.unit) (t := 31) (fun g => .pointer (some ⟨g, 0, none⟩)) rfl rfl rfl rfl (by kernel_rfl) ?_
      intro g58 w59 hg63 hz62 hb60 hk61
      have hs_w59 := hb60.size
      refine rw_seg (g := g58) (off := 0) (ty := 31) (p := .tmp 6) (x := .tmp 41) (v := .agg (carr CL.unit)) (cs' := carr CL.unit) rfl rfl rfl rfl rfl rfl hk61 (by show (sizeOf 31).run _ _ = .ok (carr _).size _; rw [carr_size]; kernel_rfl) (Nat.le_of_eq (by rw [Nat.zero_add]; exact (carr_size _).trans (carr_size _).symm)) (encC_one _) (seg_all CL.unit CL.unit) ?_
      intro w64 hk65 hb66
      have hs_w64 := hk65.size
      refine rw_val (v := .slice none 0 0) (w' := w64) rfl rfl rfl rfl rfl ?_
      refine rw_val (v := .bool false) (w' := w64) rfl rfl rfl rfl rfl ?_
      refine rw_end ?_
      refine w_weaken (G' := [(1, .slice A1 l.length c1), (4, .bool false), (5, .slice A46 l.length c47), (6, .pointer (some ⟨g58, 0, none⟩)), (7, .slice none 0 0), (8, .bool false)]) ⟨rfl, rfl, rfl, rfl, rfl, rfl, trivial⟩ ?_
      refine w_seq ?_
      refine w_region ?_
      refine rw_val (v := .slice A1 l.length c1) (w' := w64) rfl rfl rfl rfl rfl ?_
      refine rw_call rfl rfl rfl rfl (f := 22) (args := #[.slice A1 l.length c1]) (by simp [go_sem, sEv, sLook, nbeq, i64_w, -List.getD_eq_getElem?_getD]) (rtake_none w64 A1 c1 l (Kd.C_below hl (hk65.below (by omega) (chain (chain hB50 hb57) hb60))) hc (by omega) hv hT_) ?_
      rintro e_ w67 ⟨rfl, hb68⟩
      refine ⟨_, rfl, ?_⟩
      have hs_w67 := hb68.size
      refine rw_val (v := .tuple #[.agg (carr CL.unit), .int .i64 0]) (w' := w67) rfl rfl rfl rfl rfl ?_
      refine rw_val (v := .agg (carr CL.unit)) (w' := w67) rfl rfl rfl rfl (by simp [go_sem, sEv, sLook, nbeq, i64_w, -List.getD_eq_getElem?_getD]) ?_
      refine rw_val (v := .int .i64 0) (w' := w67) rfl rfl rfl rfl (by simp [go_sem, sEv, sLook, nbeq, i64_w, -List.getD_eq_getElem?_getD]) ?_
      refine rw_new (cs := carr CL.unit) (t := 31) (fun g => .pointer (some ⟨g, 0, none⟩)) rfl rfl rfl rfl (by kernel_rfl) ?_
      intro g69 w70 hg74 hz73 hb71 hk72
      have hs_w70 := hb71.size
      refine rw_seg (g := g69) (off := 0) (ty := 31) (p := .tmp 9) (x := .tmp 47) (v := .agg (carr CL.unit)) (cs' := carr CL.unit) rfl rfl rfl rfl rfl rfl hk72 (by show (sizeOf 31).run _ _ = .ok (carr _).size _; rw [carr_size]; kernel_rfl) (Nat.le_of_eq (by rw [Nat.zero_add]; exact (carr_size _).trans (carr_size _).symm)) (encC_one _) (seg_all CL.unit CL.unit) ?_
      intro w75 hk76 hb77
      have hs_w75 := hk76.size
      refine rw_val (v := .int .i64 0) (w' := w75) rfl rfl rfl rfl rfl ?_
      refine rw_end ?_
      refine w_weaken (G' := [(1, .slice A1 l.length c1), (4, .bool false), (5, .slice A46 l.length c47), (6, .pointer (some ⟨g58, 0, none⟩)), (7, .slice none 0 0), (8, .bool false), (9, .pointer (some ⟨g69, 0, none⟩)), (10, .int .i64 0)]) ⟨rfl, rfl, rfl, rfl, rfl, rfl, rfl, rfl, trivial⟩ ?_
      refine w_seq ?_
      refine w_seq ?_
      refine w_region ?_
      refine rw_val (v := .bool false) (w' := w75) rfl rfl rfl rfl rfl ?_
      refine rw_val (v := .int .i64 0) (w' := w75) rfl rfl rfl rfl rfl ?_
      refine rw_val (v := .bool false) (w' := w75) rfl rfl rfl rfl (by simp [go_sem, sEv, sLook, nbeq, i64_w, -List.getD_eq_getElem?_getD]) ?_
      refine rw_val (v := .bool false) (w' := w75) rfl rfl rfl rfl (by simp [go_sem, sEv, sLook, nbeq, i64_w, -List.getD_eq_getElem?_getD]) ?_
      refine rw_val (v := .bool false) (w' := w75) rfl rfl rfl rfl rfl ?_
      refine rw_on (c := false) rfl rfl rfl rfl ?_
      refine rw_val (v := .agg (carr CL.unit)) (w' := w75) rfl rfl rfl rfl (run_as (load_cell (c := CL.unit) (((hb66.on hb68).on hb71).keep hk76 (by omega)))) ?_
      refine rw_on (c := false) rfl rfl rfl rfl ?_
      refine rw_val (v := .agg (carr CL.unit)) (w' := w75) rfl rfl rfl rfl (run_as (load_cell (c := CL.unit) hb77)) ?_
      refine rw_on (c := false) rfl rfl rfl rfl ?_
      refine rw_val (v := .bool (!(eqC CL.unit CL.unit))) (w' := w75) rfl rfl rfl rfl (run_as (guard_ne_cell _ _ _ _ _)) ?_
      refine rw_val (v := .bool (!(eqC CL.unit CL.unit))) (w' := w75) rfl rfl rfl rfl (by simp [go_sem, sEv, sLook, nbeq, i64_w, -List.getD_eq_getElem?_getD]) ?_
      refine rw_val (v := .bool (!(eqC CL.unit CL.unit))) (w' := w75) rfl rfl rfl rfl rfl ?_
      have hq78 : (!(eqC CL.unit CL.unit)) = false := by rw [(eqC_iff _ _).2 rfl]; rfl
      refine rw_on (c := !(eqC CL.unit CL.unit)) rfl rfl rfl (by first | (rw [hq78]; rfl) | simp [hq78]) ?_
      refine rw_val (v := .slice A46 l.length c47) (w' := w75) rfl rfl rfl rfl rfl ?_
      refine rw_on (c := !(eqC CL.unit CL.unit)) rfl rfl rfl (by first | (rw [hq78]; rfl) | simp [hq78]) ?_
      refine rw_val (v := .slice A1 l.length c1) (w' := w75) rfl rfl rfl rfl rfl ?_
      refine rw_on (c := !(eqC CL.unit CL.unit)) rfl rfl rfl (by first | (rw [hq78]; rfl) | simp [hq78]) ?_
      refine rw_call rfl rfl rfl rfl (f := 18) (args := #[.slice A46 l.length c47, .slice A1 l.length c1]) (by simp [go_sem, sEv, sLook, nbeq, i64_w, -List.getD_eq_getElem?_getD]) (ints_calls w75 A46 c47 A1 c1 l (Kd.C_below (OwnK.front (d := (Kd.int .i64)) hO49) (hk76.below (by omega) (chain (chain (hk65.below (by omega) (chain hb57 hb60)) hb68) hb71))) (show l.length ≤ c47 by have q_ := OwnK.cap (d := (Kd.int .i64)) hO49; omega) (Kd.C_below hl (hk76.below (by omega) (chain (chain (hk65.below (by omega) (chain (chain hB50 hb57) hb60)) hb68) hb71))) hc (by first | omega | (have q_ := nums_len c; have q2_ := pr_len c.h 65; omega) | (simp only [List.length_drop, List.length_append]; omega))) ?_
      rintro e_ w79 ⟨rfl, hb80⟩
      refine ⟨_, rfl, ?_⟩
      have hs_w79 := hb80.size
      refine rw_on (c := !(eqC CL.unit CL.unit)) rfl rfl rfl (by first | (rw [hq78]; rfl) | simp [hq78]) ?_
      refine rw_val (v := .bool false) (w' := w79) rfl rfl rfl rfl (by simp [go_sem, sEv, sLook, nbeq, i64_w, -List.getD_eq_getElem?_getD]) ?_
      refine rw_val (v := .bool false) (w' := w79) rfl rfl rfl rfl (by first | (simp [go_sem, sEv, sLook, nbeq, i64_w, -List.getD_eq_getElem?_getD, hq78]; done) | (rw [hq78]; simp [go_sem, sEv, sLook, nbeq, i64_w, -List.getD_eq_getElem?_getD]; done) | (simp [go_sem, sEv, sLook, nbeq, i64_w, -List.getD_eq_getElem?_getD] <;> omega) | (simp [go_sem, sEv, sLook, nbeq, i64_w, -List.getD_eq_getElem?_getD]; intro h_; exact absurd (by omega) h_)) ?_
      refine rw_val (v := .bool false) (w' := w79) rfl rfl rfl rfl rfl ?_
      refine rw_on (c := false) rfl rfl rfl rfl ?_
      refine rw_val (v := .slice A46 l.length c47) (w' := w79) rfl rfl rfl rfl rfl ?_
      refine rw_on (c := false) rfl rfl rfl rfl ?_
      refine rw_val (v := .slice A46 l.length c47) (w' := w79) rfl rfl rfl rfl rfl ?_
      refine rw_on (c := false) rfl rfl rfl rfl ?_
      refine rw_val (v := .int .i64 ((l.length : Nat) : Int)) (w' := w79) rfl rfl rfl rfl (by simp [go_sem, sEv, sLook, nbeq, i64_w, -List.getD_eq_getElem?_getD]) ?_
      refine rw_on (c := false) rfl rfl rfl rfl ?_
      refine rw_val (v := .int .i64 ((l.length + 1 : Nat) : Int)) (w' := w79) rfl rfl rfl rfl (by simp [go_sem, sEv, sLook, nbeq, i64_w, -List.getD_eq_getElem?_getD]; exact wrap_id (by omega) (by omega)) ?_
      refine rw_on (c := false) rfl rfl rfl rfl ?_
      have hP81 : (Kd.int .i64).C w79 A46 (l.length + 1) ((l ++ ([(-77)] : List Int))) := by rw [show l.length + 1 = (l ++ ([(-77)] : List Int)).length by simp]; exact OwnK.C (d := (Kd.int .i64)) (OwnK.on (d := (Kd.int .i64)) hO49 (chain (hk76.below (by omega) (chain (chain (hk65.below (by omega) (chain hb57 hb60)) hb68) hb71)) hb80))
      refine rw_val (v := .slice A46 (l.length + 1) c47) (w' := w79) rfl rfl rfl rfl (run_as (sl_to (sz := 1) (e := 3) (by kernel_rfl) (fun _ => by kernel_rfl) (l.length + 1) _ (by first | rfl | (simp; done) | omega) (by have q_ := OwnK.cap (d := (Kd.int .i64)) hO49; omega) _)) ?_
      refine rw_on (c := false) rfl rfl rfl rfl ?_
      refine rw_val (v := .slice A46 l.length c47) (w' := w79) rfl rfl rfl rfl rfl ?_
      refine rw_on (c := false) rfl rfl rfl rfl ?_
      refine rw_val (v := .int .i64 ((l.length : Nat) : Int)) (w' := w79) rfl rfl rfl rfl (by simp [go_sem, sEv, sLook, nbeq, i64_w, -List.getD_eq_getElem?_getD]) ?_
      refine rw_on (c := false) rfl rfl rfl rfl ?_
      obtain ⟨ad82, hA83, hc84⟩ := int_at (Kd.C_below hP81 (Below.refl _ _)) 0 l.length (by first | omega | decide)
      subst hA83
      have he85 : w79.cell? (ad82.add (l.length)) = some (.int .i64 ((l ++ ([(-77)] : List Int)).getD l.length 0)) := cell_0 (hc84 0 _ rfl)
      refine rw_val (v := .pointer (some (ad82.add (l.length)))) (w' := w79) rfl rfl rfl rfl (run_as (run_at_1 (P := Try.prog) (e := 3) (by kernel_rfl) (by kernel_rfl) l.length (by first | omega | decide) _)) ?_
      refine rw_on (c := false) rfl rfl rfl rfl ?_
      refine rw_val (v := .int .i64 ((l ++ ([(-77)] : List Int)).getD l.length 0)) (w' := w79) rfl rfl rfl rfl (by have e0_ := cellOn he85 (Below.refl _ _); simp [go_sem, sEv, sLook, nbeq, i64_w, -List.getD_eq_getElem?_getD, e0_]) ?_
      refine rw_on (c := false) rfl rfl rfl rfl ?_
      refine rw_val (v := .bool (((l ++ ([(-77)] : List Int)).getD l.length 0) != (-77))) (w' := w79) rfl rfl rfl rfl (by simp [go_sem, sEv, sLook, nbeq, i64_w, -List.getD_eq_getElem?_getD]) ?_
      refine rw_val (v := .bool (((l ++ ([(-77)] : List Int)).getD l.length 0) != (-77))) (w' := w79) rfl rfl rfl rfl (by simp [go_sem, sEv, sLook, nbeq, i64_w, -List.getD_eq_getElem?_getD]) ?_
      refine rw_end ?_
      refine w_weaken (G' := [(1, .slice A1 l.length c1), (4, .bool false), (7, .slice none 0 0), (8, .bool false), (10, .int .i64 0), (75, .bool (((l ++ ([(-77)] : List Int)).getD l.length 0) != (-77)))]) ⟨rfl, rfl, rfl, rfl, rfl, rfl, trivial⟩ ?_
      have hq86 : (((l ++ ([(-77)] : List Int)).getD l.length 0) != (-77)) = false := by simp [List.getD_eq_getElem?_getD]
      refine w_cond_f rfl rfl hq86 ?_
      refine w_skip ?_
      refine w_seq ?_
      refine w_seq ?_
      refine w_region ?_
      refine rw_val (v := .bool false) (w' := w79) rfl rfl rfl rfl rfl ?_
      refine rw_val (v := .bool true) (w' := w79) rfl rfl rfl rfl (by simp [go_sem, sEv, sLook, nbeq, i64_w, -List.getD_eq_getElem?_getD]) ?_
      refine rw_end ?_
      refine w_cond_t rfl rfl rfl ?_
      refine w_seq ?_
      refine w_region ?_
      refine rw_val (v := .slice none 0 0) (w' := w79) rfl rfl rfl rfl rfl ?_
      refine rw_val (v := .int .i64 0) (w' := w79) rfl rfl rfl rfl (by simp [go_sem, sEv, sLook, nbeq, i64_w, -List.getD_eq_getElem?_getD]) ?_
      refine rw_val (v := .bool true) (w' := w79) rfl rfl rfl rfl (by simp [go_sem, sEv, sLook, nbeq, i64_w, -List.getD_eq_getElem?_getD]) ?_
      refine rw_val (v := .bool true) (w' := w79) rfl rfl rfl rfl rfl ?_
      refine rw_end ?_
      refine w_weaken (G' := [(1, .slice A1 l.length c1), (4, .bool true), (7, .slice none 0 0), (10, .int .i64 0)]) ⟨rfl, rfl, rfl, rfl, trivial⟩ ?_
      refine w_ret (post_ret1 rfl rfl ?_)
      exact ⟨rfl, (chain (hk76.below (by omega) (chain (chain (hk65.below (by omega) (chain (chain hB50 hb57) hb60)) hb68) hb71)) hb80)⟩
    · obtain ⟨_, _, rfl, hsh_⟩ := takeC_nums hT_ (getD_I64 hv 2)
      obtain ⟨s1_, s2_, s3_, s4_⟩ := shape_spec hsh_
      refine rw_val (v := .slice A46 l.length c47) (w' := w48) rfl rfl rfl rfl rfl ?_
      refine rw_call rfl rfl rfl rfl (f := 21) (args := #[.slice A46 l.length c47]) (by simp [go_sem, sEv, sLook, nbeq, i64_w, -List.getD_eq_getElem?_getD]) (take_some w48 A46 c47 l (Kd.C_below (OwnK.front (d := (Kd.int .i64)) hO49) (Below.refl _ _)) (show l.length ≤ c47 by have q_ := OwnK.cap (d := (Kd.int .i64)) hO49; omega) (by omega) cc_ (l.drop (10 + 2 * nC l)) hT_) ?_
      rintro e_ w87 ⟨A89, c90, rfl, hO91, hb88⟩
      refine ⟨_, rfl, ?_⟩
      have hs_w87 := hb88.size
      have hL92 : OwnK (Kd.int .i64) 3 w87 w.heap.size w48.heap.size A89 (l.drop (10 + 2 * nC l)).length c90 (l.drop (10 + 2 * nC l)) := OwnK.lower hO91 (by omega)
      refine rw_val (v := .tuple #[.agg (carr cc_), .slice A89 ((l.drop (10 + 2 * nC l)).length) c90, .bool true]) (w' := w87) rfl rfl rfl rfl rfl ?_
      refine rw_val (v := .agg (carr cc_)) (w' := w87) rfl rfl rfl rfl (by simp [go_sem, sEv, sLook, nbeq, i64_w, -List.getD_eq_getElem?_getD]) ?_
      refine rw_val (v := .slice A89 ((l.drop (10 + 2 * nC l)).length) c90) (w' := w87) rfl rfl rfl rfl (by simp [go_sem, sEv, sLook, nbeq, i64_w, -List.getD_eq_getElem?_getD]) ?_
      refine rw_val (v := .bool true) (w' := w87) rfl rfl rfl rfl (by simp [go_sem, sEv, sLook, nbeq, i64_w, -List.getD_eq_getElem?_getD]) ?_
      refine rw_new (cs := carr CL.unit) (t := 31) (fun g => .pointer (some ⟨g, 0, none⟩)) rfl rfl rfl rfl (by kernel_rfl) ?_
      intro g93 w94 hg98 hz97 hb95 hk96
      have hs_w94 := hb95.size
      refine rw_seg (g := g93) (off := 0) (ty := 31) (p := .tmp 6) (x := .tmp 41) (v := .agg (carr cc_)) (cs' := carr cc_) rfl rfl rfl rfl rfl rfl hk96 (by show (sizeOf 31).run _ _ = .ok (carr _).size _; rw [carr_size]; kernel_rfl) (Nat.le_of_eq (by rw [Nat.zero_add]; exact (carr_size _).trans (carr_size _).symm)) (encC_one _) (seg_all CL.unit cc_) ?_
      intro w99 hk100 hb101
      have hs_w99 := hk100.size
      refine rw_val (v := .slice A89 ((l.drop (10 + 2 * nC l)).length) c90) (w' := w99) rfl rfl rfl rfl rfl ?_
      refine rw_val (v := .bool true) (w' := w99) rfl rfl rfl rfl rfl ?_
      refine rw_end ?_
      refine w_weaken (G' := [(1, .slice A1 l.length c1), (4, .bool false), (5, .slice A46 l.length c47), (6, .pointer (some ⟨g93, 0, none⟩)), (7, .slice A89 ((l.drop (10 + 2 * nC l)).length) c90), (8, .bool true)]) ⟨rfl, rfl, rfl, rfl, rfl, rfl, trivial⟩ ?_
      refine w_seq ?_
      refine w_region ?_
      refine rw_val (v := .slice A1 l.length c1) (w' := w99) rfl rfl rfl rfl rfl ?_
      refine rw_call rfl rfl rfl rfl (f := 22) (args := #[.slice A1 l.length c1]) (by simp [go_sem, sEv, sLook, nbeq, i64_w, -List.getD_eq_getElem?_getD]) (rtake_some w99 A1 c1 l (Kd.C_below hl (hk100.below (by omega) (chain (chain hB50 hb88) hb95))) hc (by omega) hv cc_ (l.drop (10 + 2 * nC l)) hT_) ?_
      rintro e_ w102 ⟨rfl, hb103⟩
      refine ⟨_, rfl, ?_⟩
      have hs_w102 := hb103.size
      refine rw_val (v := .tuple #[.agg (carr cc_), .int .i64 ((10 + 2 * nC l : Nat) : Int)]) (w' := w102) rfl rfl rfl rfl rfl ?_
      refine rw_val (v := .agg (carr cc_)) (w' := w102) rfl rfl rfl rfl (by simp [go_sem, sEv, sLook, nbeq, i64_w, -List.getD_eq_getElem?_getD]) ?_
      refine rw_val (v := .int .i64 ((10 + 2 * nC l : Nat) : Int)) (w' := w102) rfl rfl rfl rfl (by simp [go_sem, sEv, sLook, nbeq, i64_w, -List.getD_eq_getElem?_getD]) ?_
      refine rw_new (cs := carr CL.unit) (t := 31) (fun g => .pointer (some ⟨g, 0, none⟩)) rfl rfl rfl rfl (by kernel_rfl) ?_
      intro g104 w105 hg109 hz108 hb106 hk107
      have hs_w105 := hb106.size
      refine rw_seg (g := g104) (off := 0) (ty := 31) (p := .tmp 9) (x := .tmp 47) (v := .agg (carr cc_)) (cs' := carr cc_) rfl rfl rfl rfl rfl rfl hk107 (by show (sizeOf 31).run _ _ = .ok (carr _).size _; rw [carr_size]; kernel_rfl) (Nat.le_of_eq (by rw [Nat.zero_add]; exact (carr_size _).trans (carr_size _).symm)) (encC_one _) (seg_all CL.unit cc_) ?_
      intro w110 hk111 hb112
      have hs_w110 := hk111.size
      refine rw_val (v := .int .i64 ((10 + 2 * nC l : Nat) : Int)) (w' := w110) rfl rfl rfl rfl rfl ?_
      refine rw_end ?_
      refine w_weaken (G' := [(1, .slice A1 l.length c1), (4, .bool false), (5, .slice A46 l.length c47), (6, .pointer (some ⟨g93, 0, none⟩)), (7, .slice A89 ((l.drop (10 + 2 * nC l)).length) c90), (8, .bool true), (9, .pointer (some ⟨g104, 0, none⟩)), (10, .int .i64 ((10 + 2 * nC l : Nat) : Int))]) ⟨rfl, rfl, rfl, rfl, rfl, rfl, rfl, rfl, trivial⟩ ?_
      refine w_seq ?_
      refine w_seq ?_
      refine w_region ?_
      refine rw_val (v := .bool true) (w' := w110) rfl rfl rfl rfl rfl ?_
      refine rw_val (v := .int .i64 ((10 + 2 * nC l : Nat) : Int)) (w' := w110) rfl rfl rfl rfl rfl ?_
      refine rw_val (v := .bool true) (w' := w110) rfl rfl rfl rfl (by simp [go_sem, sEv, sLook, nbeq, i64_w, -List.getD_eq_getElem?_getD] <;> omega) ?_
      refine rw_val (v := .bool false) (w' := w110) rfl rfl rfl rfl (by simp [go_sem, sEv, sLook, nbeq, i64_w, -List.getD_eq_getElem?_getD]) ?_
      refine rw_val (v := .bool false) (w' := w110) rfl rfl rfl rfl rfl ?_
      refine rw_on (c := false) rfl rfl rfl rfl ?_
      refine rw_val (v := .agg (carr cc_)) (w' := w110) rfl rfl rfl rfl (run_as (load_cell (c := cc_) (((hb101.on hb103).on hb106).keep hk111 (by omega)))) ?_
      refine rw_on (c := false) rfl rfl rfl rfl ?_
      refine rw_val (v := .agg (carr cc_)) (w' := w110) rfl rfl rfl rfl (run_as (load_cell (c := cc_) hb112)) ?_
      refine rw_on (c := false) rfl rfl rfl rfl ?_
      refine rw_val (v := .bool (!(eqC cc_ cc_))) (w' := w110) rfl rfl rfl rfl (run_as (guard_ne_cell _ _ _ _ _)) ?_
      refine rw_val (v := .bool (!(eqC cc_ cc_))) (w' := w110) rfl rfl rfl rfl (by simp [go_sem, sEv, sLook, nbeq, i64_w, -List.getD_eq_getElem?_getD]) ?_
      refine rw_val (v := .bool (!(eqC cc_ cc_))) (w' := w110) rfl rfl rfl rfl rfl ?_
      have hq113 : (!(eqC cc_ cc_)) = false := by rw [(eqC_iff _ _).2 rfl]; rfl
      refine rw_on (c := !(eqC cc_ cc_)) rfl rfl rfl (by first | (rw [hq113]; rfl) | simp [hq113]) ?_
      refine rw_val (v := .slice A46 l.length c47) (w' := w110) rfl rfl rfl rfl rfl ?_
      refine rw_on (c := !(eqC cc_ cc_)) rfl rfl rfl (by first | (rw [hq113]; rfl) | simp [hq113]) ?_
      refine rw_val (v := .slice A1 l.length c1) (w' := w110) rfl rfl rfl rfl rfl ?_
      refine rw_on (c := !(eqC cc_ cc_)) rfl rfl rfl (by first | (rw [hq113]; rfl) | simp [hq113]) ?_
      refine rw_call rfl rfl rfl rfl (f := 18) (args := #[.slice A46 l.length c47, .slice A1 l.length c1]) (by simp [go_sem, sEv, sLook, nbeq, i64_w, -List.getD_eq_getElem?_getD]) (ints_calls w110 A46 c47 A1 c1 l (Kd.C_below (OwnK.front (d := (Kd.int .i64)) hO49) (hk111.below (by omega) (chain (chain (hk100.below (by omega) (chain hb88 hb95)) hb103) hb106))) (show l.length ≤ c47 by have q_ := OwnK.cap (d := (Kd.int .i64)) hO49; omega) (Kd.C_below hl (hk111.below (by omega) (chain (chain (hk100.below (by omega) (chain (chain hB50 hb88) hb95)) hb103) hb106))) hc (by first | omega | (have q_ := nums_len c; have q2_ := pr_len c.h 65; omega) | (simp only [List.length_drop, List.length_append]; omega))) ?_
      rintro e_ w114 ⟨rfl, hb115⟩
      refine ⟨_, rfl, ?_⟩
      have hs_w114 := hb115.size
      refine rw_on (c := !(eqC cc_ cc_)) rfl rfl rfl (by first | (rw [hq113]; rfl) | simp [hq113]) ?_
      refine rw_val (v := .bool false) (w' := w114) rfl rfl rfl rfl (by simp [go_sem, sEv, sLook, nbeq, i64_w, -List.getD_eq_getElem?_getD]) ?_
      refine rw_val (v := .bool false) (w' := w114) rfl rfl rfl rfl (by first | (simp [go_sem, sEv, sLook, nbeq, i64_w, -List.getD_eq_getElem?_getD, hq113]; done) | (rw [hq113]; simp [go_sem, sEv, sLook, nbeq, i64_w, -List.getD_eq_getElem?_getD]; done) | (simp [go_sem, sEv, sLook, nbeq, i64_w, -List.getD_eq_getElem?_getD] <;> omega) | (simp [go_sem, sEv, sLook, nbeq, i64_w, -List.getD_eq_getElem?_getD]; intro h_; exact absurd (by omega) h_)) ?_
      refine rw_val (v := .bool false) (w' := w114) rfl rfl rfl rfl rfl ?_
      refine rw_on (c := false) rfl rfl rfl rfl ?_
      refine rw_val (v := .slice A46 l.length c47) (w' := w114) rfl rfl rfl rfl rfl ?_
      refine rw_on (c := false) rfl rfl rfl rfl ?_
      refine rw_val (v := .slice A46 l.length c47) (w' := w114) rfl rfl rfl rfl rfl ?_
      refine rw_on (c := false) rfl rfl rfl rfl ?_
      refine rw_val (v := .int .i64 ((l.length : Nat) : Int)) (w' := w114) rfl rfl rfl rfl (by simp [go_sem, sEv, sLook, nbeq, i64_w, -List.getD_eq_getElem?_getD]) ?_
      refine rw_on (c := false) rfl rfl rfl rfl ?_
      refine rw_val (v := .int .i64 ((l.length + 1 : Nat) : Int)) (w' := w114) rfl rfl rfl rfl (by simp [go_sem, sEv, sLook, nbeq, i64_w, -List.getD_eq_getElem?_getD]; exact wrap_id (by omega) (by omega)) ?_
      refine rw_on (c := false) rfl rfl rfl rfl ?_
      have hP116 : (Kd.int .i64).C w114 A46 (l.length + 1) ((l ++ ([(-77)] : List Int))) := by rw [show l.length + 1 = (l ++ ([(-77)] : List Int)).length by simp]; exact OwnK.C (d := (Kd.int .i64)) (OwnK.on (d := (Kd.int .i64)) hO49 (chain (hk111.below (by omega) (chain (chain (hk100.below (by omega) (chain hb88 hb95)) hb103) hb106)) hb115))
      refine rw_val (v := .slice A46 (l.length + 1) c47) (w' := w114) rfl rfl rfl rfl (run_as (sl_to (sz := 1) (e := 3) (by kernel_rfl) (fun _ => by kernel_rfl) (l.length + 1) _ (by first | rfl | (simp; done) | omega) (by have q_ := OwnK.cap (d := (Kd.int .i64)) hO49; omega) _)) ?_
      refine rw_on (c := false) rfl rfl rfl rfl ?_
      refine rw_val (v := .slice A46 l.length c47) (w' := w114) rfl rfl rfl rfl rfl ?_
      refine rw_on (c := false) rfl rfl rfl rfl ?_
      refine rw_val (v := .int .i64 ((l.length : Nat) : Int)) (w' := w114) rfl rfl rfl rfl (by simp [go_sem, sEv, sLook, nbeq, i64_w, -List.getD_eq_getElem?_getD]) ?_
      refine rw_on (c := false) rfl rfl rfl rfl ?_
      obtain ⟨ad117, hA118, hc119⟩ := int_at (Kd.C_below hP116 (Below.refl _ _)) 0 l.length (by first | omega | decide)
      subst hA118
      have he120 : w114.cell? (ad117.add (l.length)) = some (.int .i64 ((l ++ ([(-77)] : List Int)).getD l.length 0)) := cell_0 (hc119 0 _ rfl)
      refine rw_val (v := .pointer (some (ad117.add (l.length)))) (w' := w114) rfl rfl rfl rfl (run_as (run_at_1 (P := Try.prog) (e := 3) (by kernel_rfl) (by kernel_rfl) l.length (by first | omega | decide) _)) ?_
      refine rw_on (c := false) rfl rfl rfl rfl ?_
      refine rw_val (v := .int .i64 ((l ++ ([(-77)] : List Int)).getD l.length 0)) (w' := w114) rfl rfl rfl rfl (by have e0_ := cellOn he120 (Below.refl _ _); simp [go_sem, sEv, sLook, nbeq, i64_w, -List.getD_eq_getElem?_getD, e0_]) ?_
      refine rw_on (c := false) rfl rfl rfl rfl ?_
      refine rw_val (v := .bool (((l ++ ([(-77)] : List Int)).getD l.length 0) != (-77))) (w' := w114) rfl rfl rfl rfl (by simp [go_sem, sEv, sLook, nbeq, i64_w, -List.getD_eq_getElem?_getD]) ?_
      refine rw_val (v := .bool (((l ++ ([(-77)] : List Int)).getD l.length 0) != (-77))) (w' := w114) rfl rfl rfl rfl (by simp [go_sem, sEv, sLook, nbeq, i64_w, -List.getD_eq_getElem?_getD]) ?_
      refine rw_end ?_
      refine w_weaken (G' := [(1, .slice A1 l.length c1), (4, .bool false), (7, .slice A89 ((l.drop (10 + 2 * nC l)).length) c90), (8, .bool true), (10, .int .i64 ((10 + 2 * nC l : Nat) : Int)), (75, .bool (((l ++ ([(-77)] : List Int)).getD l.length 0) != (-77)))]) ⟨rfl, rfl, rfl, rfl, rfl, rfl, trivial⟩ ?_
      have hq121 : (((l ++ ([(-77)] : List Int)).getD l.length 0) != (-77)) = false := by simp [List.getD_eq_getElem?_getD]
      refine w_cond_f rfl rfl hq121 ?_
      refine w_skip ?_
      refine w_seq ?_
      refine w_seq ?_
      refine w_region ?_
      refine rw_val (v := .bool true) (w' := w114) rfl rfl rfl rfl rfl ?_
      refine rw_val (v := .bool false) (w' := w114) rfl rfl rfl rfl (by simp [go_sem, sEv, sLook, nbeq, i64_w, -List.getD_eq_getElem?_getD]) ?_
      refine rw_end ?_
      refine w_cond_f rfl rfl rfl ?_
      refine w_skip ?_
      refine w_seq ?_
      refine w_region ?_
      refine rw_val (v := .slice A89 ((l.drop (10 + 2 * nC l)).length) c90) (w' := w114) rfl rfl rfl rfl rfl ?_
      refine rw_val (v := .slice A1 l.length c1) (w' := w114) rfl rfl rfl rfl rfl ?_
      refine rw_val (v := .int .i64 ((10 + 2 * nC l : Nat) : Int)) (w' := w114) rfl rfl rfl rfl rfl ?_
      have hP122 : (Kd.int .i64).C w114 (adrS 1 A1 c1 (10 + 2 * nC l)) (l.drop (10 + 2 * nC l)).length (l.drop (10 + 2 * nC l)) := Kd.C_drop (Kd.C_below hl (chain (hk111.below (by omega) (chain (chain (hk100.below (by omega) (chain (chain hB50 hb88) hb95)) hb103) hb106)) hb115)) (by omega) (by have q_ := hc; omega)
      have hP122_ : (l.drop (10 + 2 * nC l)).length = l.length - (10 + 2 * nC l) := List.length_drop
      refine rw_val (v := .slice (adrS 1 A1 c1 (10 + 2 * nC l)) ((l.drop (10 + 2 * nC l)).length) (c1 - (10 + 2 * nC l))) (w' := w114) rfl rfl rfl rfl (by rw [hP122_]; exact run_as (sl_from (sz := 1) (e := 3) (by kernel_rfl) (fun _ => by kernel_rfl) (10 + 2 * nC l) _ (by first | rfl | (simp; done) | omega) (by omega) (by have q_ := hc; omega) _)) ?_
      refine rw_call rfl rfl rfl rfl (f := 18) (args := #[.slice A89 ((l.drop (10 + 2 * nC l)).length) c90, .slice (adrS 1 A1 c1 (10 + 2 * nC l)) ((l.drop (10 + 2 * nC l)).length) (c1 - (10 + 2 * nC l))]) (by simp [go_sem, sEv, sLook, nbeq, i64_w, -List.getD_eq_getElem?_getD]) (ints_calls w114 A89 c90 (adrS 1 A1 c1 (10 + 2 * nC l)) (c1 - (10 + 2 * nC l)) (l.drop (10 + 2 * nC l)) (Kd.C_below (OwnK.C (d := (Kd.int .i64)) hL92) (chain (hk111.below (by omega) (chain (chain (hk100.below (by omega) hb95) hb103) hb106)) hb115)) (OwnK.cap (d := (Kd.int .i64)) hL92) (Kd.C_below hP122 (Below.refl _ _)) (by rw [hP122_]; have q_ := hc; omega) (by first | omega | (have q_ := nums_len c; have q2_ := pr_len c.h 65; omega) | (simp only [List.length_drop, List.length_append]; omega))) ?_
      rintro e_ w123 ⟨rfl, hb124⟩
      refine ⟨_, rfl, ?_⟩
      have hs_w123 := hb124.size
      refine rw_val (v := .bool true) (w' := w123) rfl rfl rfl rfl rfl ?_
      refine rw_end ?_
      refine w_weaken (G' := [(4, .bool true)]) ⟨rfl, trivial⟩ ?_
      refine w_ret (post_ret1 rfl rfl ?_)
      exact ⟨rfl, (chain (chain (hk111.below (by omega) (chain (chain (hk100.below (by omega) (chain (chain hB50 hb88) hb95)) hb103) hb106)) hb115) hb124)⟩
  · have l125 : (2000 < ((l.length : Nat) : Int)) := of_decide_eq_true cL
    refine w_drawk (M := [0, 1, 3, 7, 15, 31, 15, 127, 255, 511, 1023]) (ss := [Is (.slice A1 l.length c1), Is (.int .i64 ((l.length : Nat) : Int)), Is (.bool (decide (2000 < ((l.length : Nat) : Int)))), Is (.bool (decide (2000 < ((l.length : Nat) : Int)))), Is undef, Is undef, Is undef]) 7 rfl (by decide +kernel) ?_
    refine t_is (.slice A1 l.length c1) rfl rfl rfl rfl (fun W_ hW_ F_ => rfl) ?_
    refine t_is (.int .i64 ((l.length : Nat) : Int)) rfl rfl rfl rfl (fun W_ hW_ F_ => (by simp [go_sem, sEv, sLook, nbeq, i64_w, -List.getD_eq_getElem?_getD])) ?_
    refine t_is (.bool (decide (2000 < ((l.length : Nat) : Int)))) rfl rfl rfl rfl (fun W_ hW_ F_ => by simp [go_sem, sEv, sLook, nbeq, i64_w, -List.getD_eq_getElem?_getD]) ?_
    refine t_is (.bool (decide (2000 < ((l.length : Nat) : Int)))) rfl rfl rfl rfl (fun W_ hW_ F_ => rfl) ?_
    refine t_off (c := decide (2000 < ((l.length : Nat) : Int))) rfl rfl rfl (by first | (rw [cL]; rfl) | simp [cL]) rfl rfl ?_
    refine t_off (c := decide (2000 < ((l.length : Nat) : Int))) rfl rfl rfl (by first | (rw [cL]; rfl) | simp [cL]) rfl rfl ?_
    refine t_off (c := decide (2000 < ((l.length : Nat) : Int))) rfl rfl rfl (by first | (rw [cL]; rfl) | simp [cL]) rfl rfl ?_
    refine t_tail ?_
    intro w126 hb127_ F128
    have hb127 := below_of_drew hb127_
    have hs_w126 := hb127.size
    clear F128
    refine rw_off (c := decide (2000 < ((l.length : Nat) : Int))) rfl rfl rfl (by first | (rw [cL]; rfl) | simp [cL]) rfl rfl ?_
    refine rw_off (c := decide (2000 < ((l.length : Nat) : Int))) rfl rfl rfl (by first | (rw [cL]; rfl) | simp [cL]) rfl rfl ?_
    refine rw_off (c := decide (2000 < ((l.length : Nat) : Int))) rfl rfl rfl (by first | (rw [cL]; rfl) | simp [cL]) rfl rfl ?_
    refine rw_val (v := .bool true) (w' := w126) rfl rfl rfl rfl (by first | (simp [go_sem, sEv, sLook, nbeq, i64_w, -List.getD_eq_getElem?_getD, cL]; done) | (rw [cL]; simp [go_sem, sEv, sLook, nbeq, i64_w, -List.getD_eq_getElem?_getD]; done) | (simp [go_sem, sEv, sLook, nbeq, i64_w, -List.getD_eq_getElem?_getD] <;> omega) | (simp [go_sem, sEv, sLook, nbeq, i64_w, -List.getD_eq_getElem?_getD]; intro h_; exact absurd (by omega) h_)) ?_
    refine rw_end ?_
    refine w_weaken (G' := [(1, .slice A1 l.length c1), (4, .bool false), (23, .bool true)]) ⟨rfl, rfl, rfl, trivial⟩ ?_
    refine w_cond_t rfl rfl rfl ?_
    refine w_seq ?_
    refine w_region ?_
    refine rw_val (v := .slice A1 l.length c1) (w' := w126) rfl rfl rfl rfl rfl ?_
    refine rw_val (v := .int .i64 ((l.length : Nat) : Int)) (w' := w126) rfl rfl rfl rfl (by simp [go_sem, sEv, sLook, nbeq, i64_w, -List.getD_eq_getElem?_getD]) ?_
    refine rw_val (v := .bool (decide (2000 < ((l.length : Nat) : Int)))) (w' := w126) rfl rfl rfl rfl (by simp [go_sem, sEv, sLook, nbeq, i64_w, -List.getD_eq_getElem?_getD]) ?_
    refine rw_val (v := .bool (decide (2000 < ((l.length : Nat) : Int)))) (w' := w126) rfl rfl rfl rfl rfl ?_
    refine rw_end ?_
    refine w_weaken (G' := [(1, .slice A1 l.length c1), (4, .bool (decide (2000 < ((l.length : Nat) : Int))))]) ⟨rfl, rfl, trivial⟩ ?_
    refine w_ret (post_ret1 rfl rfl ?_)
    exact ⟨by simp only [cL], (chain (chain hb3 hb8) hb127)⟩
end Go.Proofs.Ytheaipbnbnjlgaa.Ce
