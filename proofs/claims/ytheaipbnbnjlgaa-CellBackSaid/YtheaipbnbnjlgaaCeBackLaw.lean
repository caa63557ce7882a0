/- A cell comes back from its numbers: the law's walk. -/
import Derived.Test.YtheaipbnbnjlgaaCeTake
namespace Go.Proofs.Ytheaipbnbnjlgaa.Ce
open Go.RowKit Go.Proofs.YtheaipbnbnjlgaaW.PrintWords Go.Proofs.YtheaipbnbnjlgaaW.PrintLast Go.Proofs.YtheaipbnbnjlgaaW.PrintMore
open Go.Proofs.Ytheaipbnbnjlgaa.Flow
set_option linter.unusedVariables false
set_option linter.unusedSimpArgs false


theorem getD_I64 {l : List Int} (h : ∀ x ∈ l, I64 x) (i : Nat) : I64 (l.getD i 0) := by
  rw [List.getD_eq_getElem?_getD]
  cases e : l[i]? with
  | none => exact ⟨by decide, by decide⟩
  | some x => exact h x (List.mem_of_getElem? e)
theorem take_none (w : World) (A1 : Option Addr) (c1 : Nat) (l : List Int) (hl : (Kd.int .i64).C w A1 l.length l) (hc : l.length ≤ c1) (hln : l.length ≤ 100000) (h : takeC l = none) : Calls Try.prog 21 #[.slice A1 l.length c1] w fun e w' => e = .returned (.tuple #[.agg (carr CL.unit), .slice none 0 0, .bool false]) ∧ Below w.heap.size w w' :=
  (take_calls w A1 c1 l hl hc hln).mono fun e w' q => by
    rcases q with ⟨⟨_, q⟩ | ⟨c, r, A', c', q, _⟩, hb⟩
    · exact ⟨q, hb⟩
    · rw [h] at q; cases q
theorem take_some (w : World) (A1 : Option Addr) (c1 : Nat) (l : List Int) (hl : (Kd.int .i64).C w A1 l.length l) (hc : l.length ≤ c1) (hln : l.length ≤ 100000) (c : CL) (r : List Int) (h : takeC l = some (c, r)) : Calls Try.prog 21 #[.slice A1 l.length c1] w fun e w' => ∃ A' c', e = .returned (.tuple #[.agg (carr c), .slice A' r.length c', .bool true]) ∧ OwnK (Kd.int .i64) 3 w' w.heap.size w.heap.size A' r.length c' r ∧ Below w.heap.size w w' :=
  (take_calls w A1 c1 l hl hc hln).mono fun e w' q => by
    rcases q with ⟨⟨q, _⟩ | ⟨c2, r2, A', c', q, q2, q3⟩, hb⟩
    · rw [h] at q; cases q
    · rw [h] at q
      cases q
      exact ⟨A', c', q2, q3, hb⟩
set_option maxHeartbeats 4000000 in
theorem walkBack (w : World) (c : CL) (A1 : Option Addr) (c1 : Nat) (l : List Int) (hl : (Kd.int .i64).C w A1 l.length l) (hc : l.length ≤ c1) (hln : l.length ≤ 140737488355328) (hv : ∀ x ∈ l, I64 x) (hlo : LoOk c) :
    Calls Try.prog 9 #[.agg (carr c), .slice A1 l.length c1] w fun e w' => e = .returned (.bool true) ∧ Below w.heap.size w w' := by
  refine calls_flow Try.func9 rfl 52 rfl (Nat.le_of_ble_eq_true rfl) [(0, .agg (carr c)), (1, .slice A1 l.length c1)] ?_ ?_
  · intro t v h; exact args_look rfl t v h
  refine w_seq ?_
  refine w_region ?_
  refine rw_new (cs := carr c) (t := 31) (fun g => .pointer (some ⟨g, 0, none⟩)) rfl rfl rfl rfl (by simp [go_sem, sEv, sLook, nbeq, i64_w, -List.getD_eq_getElem?_getD]) ?_
  intro g1 w2 hg6 hz5 hb3 hk4
  have hs_w2 := hb3.size
  refine rw_val (v := .bool false) (w' := w2) rfl rfl rfl rfl rfl ?_
  refine rw_end ?_
  refine w_seq ?_
  refine w_seq ?_
  refine w_region ?_
  refine rw_call rfl rfl rfl rfl (f := 10) (args := #[]) (by simp [go_sem, sEv, sLook, nbeq, i64_w, -List.getD_eq_getElem?_getD]) (alive_calls w2) ?_
  rintro e_ w7 ⟨rfl, hb8⟩
  refine ⟨_, rfl, ?_⟩
  have hs_w7 := hb8.size
  refine rw_val (v := .bool false) (w' := w7) rfl rfl rfl rfl (by simp [go_sem, sEv, sLook, nbeq, i64_w, -List.getD_eq_getElem?_getD]) ?_
  refine rw_end ?_
  refine w_cond_f rfl rfl rfl ?_
  refine w_skip ?_
  refine w_seq ?_
  refine w_seq ?_
  refine w_region ?_
  refine rw_val (v := .slice A1 l.length c1) (w' := w7) rfl rfl rfl rfl rfl ?_
  refine rw_val (v := .int .i64 ((l.length : Nat) : Int)) (w' := w7) rfl rfl rfl rfl (by simp [go_sem, sEv, sLook, nbeq, i64_w, -List.getD_eq_getElem?_getD]) ?_
  refine rw_val (v := .bool (decide (2000 < ((l.length : Nat) : Int)))) (w' := w7) rfl rfl rfl rfl (by simp [go_sem, sEv, sLook, nbeq, i64_w, -List.getD_eq_getElem?_getD]) ?_
  refine rw_end ?_
  refine w_cond rfl rfl (fun cL => ?_) (fun cL => ?_)
  · have l9 : (2000 < ((l.length : Nat) : Int)) := of_decide_eq_true cL
    refine w_seq ?_
    refine w_region ?_
    refine rw_val (v := .bool true) (w' := w7) rfl rfl rfl rfl rfl ?_
    refine rw_end ?_
    refine w_ret (post_ret1 rfl rfl ?_)
    exact ⟨rfl, (chain hb3 hb8)⟩
  · have l10 : ¬ (2000 < ((l.length : Nat) : Int)) := of_decide_eq_false cL
    refine w_skip ?_
    refine w_seq ?_
    refine w_region ?_
    have qn_ := nums_len c
    have qp_ := pr_len c.h 65
    have qa_ : (numsC c ++ l).length = (numsC c).length + l.length := List.length_append
    refine rw_val (v := .agg (carr c)) (w' := w7) rfl rfl rfl rfl (run_as (load_cell (c := c) (hk4.on hb8))) ?_
    refine rw_call rfl rfl rfl rfl (f := 19) (args := #[.agg (carr c)]) (by simp [go_sem, sEv, sLook, nbeq, i64_w, -List.getD_eq_getElem?_getD]) ((nums_calls w7 c)) ?_
    rintro e_ w13 ⟨A11, c12, rfl, hO14, hB15⟩
    refine ⟨_, rfl, ?_⟩
    have hs_w13 := hB15.size
    have hL16 : OwnK (Kd.int .i64) 3 w13 w.heap.size w7.heap.size A11 (numsC c).length c12 (numsC c) := OwnK.lower hO14 (by omega)
    refine rw_val (v := .slice A1 l.length c1) (w' := w13) rfl rfl rfl rfl rfl ?_
    have oA23 : OwnK (Kd.int .i64) 3 w13 w.heap.size w7.heap.size A11 ((numsC c).length) c12 (numsC c) := hL16
    refine rw_append_kd (d := (Kd.int .i64)) w.heap.size rfl rfl rfl (.tmp 16) (.tmp 17) rfl rfl 38 3 (.int .i64 0) 8 rfl (by kernel_rfl) (by kernel_rfl) rfl (show 0 < 1 by decide) (by decide) (fun _ _ h => h) (b := w7.heap.size) rfl rfl (by omega) oA23 (Kd.C_below hl (chain (chain hb3 hb8) hB15)) (chain (chain hb3 hb8) hB15) (by omega) (by first | omega | (have q_ := nums_len c; have q2_ := pr_len c.h 65; simp only [List.length_append, List.length_nil, List.length_cons]; omega) | (simp only [List.length_append, List.length_nil, List.length_cons]; omega)) ?_
    intro A17 c18 w19 hO20 hB21 hG22
    have hs_w19 := hB21.size
    have hgs_w19 := hG22.size
    have hk24 := OwnK.blk_grown ((hk4.on hb8).on hB15) oA23 (.inr (by decide)) hG22
    refine rw_call rfl rfl rfl rfl (f := 21) (args := #[.slice A17 (((numsC c) ++ l).length) c18]) (by simp [go_sem, sEv, sLook, nbeq, i64_w, -List.getD_eq_getElem?_getD]) (take_some w19 A17 c18 (numsC c ++ l) (Kd.C_below (OwnK.C (d := (Kd.int .i64)) hO20) (Below.refl _ _)) (OwnK.cap (d := (Kd.int .i64)) hO20) (by omega) c l (takeC_back c l hlo)) ?_
    rintro e_ w25 ⟨A27, c28, rfl, hO29, hb26⟩
    refine ⟨_, rfl, ?_⟩
    have hs_w25 := hb26.size
    have hL30 : OwnK (Kd.int .i64) 3 w25 w.heap.size w19.heap.size A27 l.length c28 l := OwnK.lower hO29 (by omega)
    refine rw_val (v := .tuple #[.agg (carr c), .slice A27 l.length c28, .bool true]) (w' := w25) rfl rfl rfl rfl rfl ?_
    refine rw_val (v := .agg (carr c)) (w' := w25) rfl rfl rfl rfl (by simp [go_sem, sEv, sLook, nbeq, i64_w, -List.getD_eq_getElem?_getD]) ?_
    refine rw_val (v := .slice A27 l.length c28) (w' := w25) rfl rfl rfl rfl (by simp [go_sem, sEv, sLook, nbeq, i64_w, -List.getD_eq_getElem?_getD]) ?_
    refine rw_val (v := .bool true) (w' := w25) rfl rfl rfl rfl (by simp [go_sem, sEv, sLook, nbeq, i64_w, -List.getD_eq_getElem?_getD]) ?_
    refine rw_new (cs := carr CL.unit) (t := 31) (fun g => .pointer (some ⟨g, 0, none⟩)) rfl rfl rfl rfl (by kernel_rfl) ?_
    intro g31 w32 hg36 hz35 hb33 hk34
    have hs_w32 := hb33.size
    refine rw_seg (g := g31) (off := 0) (ty := 31) (p := .tmp 5) (x := .tmp 20) (v := .agg (carr c)) (cs' := carr c) rfl rfl rfl rfl rfl rfl hk34 (by show (sizeOf 31).run _ _ = .ok (carr _).size _; rw [carr_size]; kernel_rfl) (Nat.le_of_eq (by rw [Nat.zero_add]; exact (carr_size _).trans (carr_size _).symm)) (encC_one _) (seg_all CL.unit c) ?_
    intro w37 hk38 hb39
    have hs_w37 := hk38.size
    refine rw_val (v := .slice A27 l.length c28) (w' := w37) rfl rfl rfl rfl rfl ?_
    refine rw_val (v := .bool true) (w' := w37) rfl rfl rfl rfl rfl ?_
    refine rw_end ?_
    refine w_weaken (G' := [(1, .slice A1 l.length c1), (2, .pointer (some ⟨g1, 0, none⟩)), (4, .bool false), (5, .pointer (some ⟨g31, 0, none⟩)), (6, .slice A27 l.length c28), (7, .bool true)]) ⟨rfl, rfl, rfl, rfl, rfl, rfl, trivial⟩ ?_
    refine w_seq ?_
    refine w_seq ?_
    refine w_region ?_
    refine rw_val (v := .bool true) (w' := w37) rfl rfl rfl rfl rfl ?_
    refine rw_val (v := .bool false) (w' := w37) rfl rfl rfl rfl (by simp [go_sem, sEv, sLook, nbeq, i64_w, -List.getD_eq_getElem?_getD]) ?_
    refine rw_val (v := .bool false) (w' := w37) rfl rfl rfl rfl rfl ?_
    refine rw_on (c := false) rfl rfl rfl rfl ?_
    refine rw_val (v := .agg (carr c)) (w' := w37) rfl rfl rfl rfl (run_as (load_cell (c := c) hb39)) ?_
    refine rw_on (c := false) rfl rfl rfl rfl ?_
    refine rw_val (v := .agg (carr c)) (w' := w37) rfl rfl rfl rfl (run_as (load_cell (c := c) (((hk24.on hb26).on hb33).keep hk38 (by omega)))) ?_
    refine rw_on (c := false) rfl rfl rfl rfl ?_
    refine rw_val (v := .bool (!(eqC c c))) (w' := w37) rfl rfl rfl rfl (run_as (guard_ne_cell _ _ _ _ _)) ?_
    refine rw_val (v := .bool (!(eqC c c))) (w' := w37) rfl rfl rfl rfl (by simp [go_sem, sEv, sLook, nbeq, i64_w, -List.getD_eq_getElem?_getD]) ?_
    refine rw_val (v := .bool (!(eqC c c))) (w' := w37) rfl rfl rfl rfl rfl ?_
    have hq40 : (!(eqC c c)) = false := by rw [(eqC_iff _ _).2 rfl]; rfl
    refine rw_on (c := !(eqC c c)) rfl rfl rfl (by first | (rw [hq40]; rfl) | simp [hq40]) ?_
    refine rw_val (v := .slice A27 l.length c28) (w' := w37) rfl rfl rfl rfl rfl ?_
    refine rw_on (c := !(eqC c c)) rfl rfl rfl (by first | (rw [hq40]; rfl) | simp [hq40]) ?_
    refine rw_val (v := .slice A1 l.length c1) (w' := w37) rfl rfl rfl rfl rfl ?_
    refine rw_on (c := !(eqC c c)) rfl rfl rfl (by first | (rw [hq40]; rfl) | simp [hq40]) ?_
    refine rw_call rfl rfl rfl rfl (f := 18) (args := #[.slice A27 l.length c28, .slice A1 l.length c1]) (by simp [go_sem, sEv, sLook, nbeq, i64_w, -List.getD_eq_getElem?_getD]) (ints_calls w37 A27 c28 A1 c1 l (Kd.C_below (OwnK.C (d := (Kd.int .i64)) hL30) (hk38.below (by omega) hb33)) (OwnK.cap (d := (Kd.int .i64)) hL30) (Kd.C_below hl (hk38.below (by omega) (chain (chain hB21 hb26) hb33))) hc (by first | omega | (have q_ := nums_len c; have q2_ := pr_len c.h 65; omega) | (simp only [List.length_drop, List.length_append]; omega))) ?_
    rintro e_ w41 ⟨rfl, hb42⟩
    refine ⟨_, rfl, ?_⟩
    have hs_w41 := hb42.size
    refine rw_on (c := !(eqC c c)) rfl rfl rfl (by first | (rw [hq40]; rfl) | simp [hq40]) ?_
    refine rw_val (v := .bool false) (w' := w41) rfl rfl rfl rfl (by simp [go_sem, sEv, sLook, nbeq, i64_w, -List.getD_eq_getElem?_getD]) ?_
    refine rw_val (v := .bool false) (w' := w41) rfl rfl rfl rfl (by first | (simp [go_sem, sEv, sLook, nbeq, i64_w, -List.getD_eq_getElem?_getD, hq40]; done) | (rw [hq40]; simp [go_sem, sEv, sLook, nbeq, i64_w, -List.getD_eq_getElem?_getD]; done) | (simp [go_sem, sEv, sLook, nbeq, i64_w, -List.getD_eq_getElem?_getD] <;> omega) | (simp [go_sem, sEv, sLook, nbeq, i64_w, -List.getD_eq_getElem?_getD]; intro h_; exact absurd (by omega) h_)) ?_
    refine rw_end ?_
    refine w_weaken (G' := [(1, .slice A1 l.length c1), (4, .bool false), (6, .slice A27 l.length c28), (7, .bool true), (35, .bool false)]) ⟨rfl, rfl, rfl, rfl, rfl, trivial⟩ ?_
    refine w_cond_f rfl rfl rfl ?_
    refine w_skip ?_
    refine w_seq ?_
    refine w_region ?_
    rcases hT_ : takeC l with _ | ⟨cc_, rr_⟩
    · refine rw_val (v := .slice A1 l.length c1) (w' := w41) rfl rfl rfl rfl rfl ?_
      refine rw_call rfl rfl rfl rfl (f := 21) (args := #[.slice A1 l.length c1]) (by simp [go_sem, sEv, sLook, nbeq, i64_w, -List.getD_eq_getElem?_getD]) (take_none w41 A1 c1 l (Kd.C_below hl (chain (hk38.below (by omega) (chain (chain hB21 hb26) hb33)) hb42)) hc (by omega) hT_) ?_
      rintro e_ w43 ⟨rfl, hb44⟩
      refine ⟨_, rfl, ?_⟩
      have hs_w43 := hb44.size
      refine rw_val (v := .tuple #[.agg (carr CL.unit), .slice none 0 0, .bool false]) (w' := w43) rfl rfl rfl rfl rfl ?_
      refine rw_val (v := .agg (carr CL.unit)) (w' := w43) rfl rfl rfl rfl (by simp [go_sem, sEv, sLook, nbeq, i64_w, -List.getD_eq_getElem?_getD]) ?_
      refine rw_val (v := .slice none 0 0) (w' := w43) rfl rfl rfl rfl (by simp [go_sem, sEv, sLook, nbeq, i64_w, -List.getD_eq_getElem?_getD]) ?_
      refine rw_val (v := .bool false) (w' := w43) rfl rfl rfl rfl (by simp [go_sem, sEv, sLook, nbeq, i64_w, -List.getD_eq_getElem?_getD]) ?_
      refine rw_new (cs := carr CL.unit) (t := 31) (fun g => .pointer (some ⟨g, 0, none⟩)) rfl rfl rfl rfl (by kernel_rfl) ?_
      intro g45 w46 hg50 hz49 hb47 hk48
      have hs_w46 := hb47.size
      refine rw_seg (g := g45) (off := 0) (ty := 31) (p := .tmp 8) (x := .tmp 39) (v := .agg (carr CL.unit)) (cs' := carr CL.unit) rfl rfl rfl rfl rfl rfl hk48 (by show (sizeOf 31).run _ _ = .ok (carr _).size _; rw [carr_size]; kernel_rfl) (Nat.le_of_eq (by rw [Nat.zero_add]; exact (carr_size _).trans (carr_size _).symm)) (encC_one _) (seg_all CL.unit CL.unit) ?_
      intro w51 hk52 hb53
      have hs_w51 := hk52.size
      refine rw_val (v := .slice none 0 0) (w' := w51) rfl rfl rfl rfl rfl ?_
      refine rw_val (v := .bool false) (w' := w51) rfl rfl rfl rfl rfl ?_
      refine rw_end ?_
      refine w_weaken (G' := [(1, .slice A1 l.length c1), (4, .bool false), (6, .slice none 0 0), (7, .bool false), (8, .pointer (some ⟨g45, 0, none⟩))]) ⟨rfl, rfl, rfl, rfl, rfl, trivial⟩ ?_
      refine w_seq ?_
      refine w_region ?_
      refine rw_val (v := .bool false) (w' := w51) rfl rfl rfl rfl rfl ?_
      refine rw_val (v := .bool true) (w' := w51) rfl rfl rfl rfl (by simp [go_sem, sEv, sLook, nbeq, i64_w, -List.getD_eq_getElem?_getD]) ?_
      refine rw_val (v := .bool true) (w' := w51) rfl rfl rfl rfl rfl ?_
      refine rw_off (c := true) rfl rfl rfl rfl rfl rfl ?_
      refine rw_off (c := true) rfl rfl rfl rfl rfl rfl ?_
      refine rw_off (c := true) rfl rfl rfl rfl rfl rfl ?_
      refine rw_off (c := true) rfl rfl rfl rfl rfl rfl ?_
      refine rw_off (c := true) rfl rfl rfl rfl rfl rfl ?_
      refine rw_off (c := true) rfl rfl rfl rfl rfl rfl ?_
      refine rw_val (v := .bool true) (w' := w51) rfl rfl rfl rfl (by simp [go_sem, sEv, sLook, nbeq, i64_w, -List.getD_eq_getElem?_getD]) ?_
      refine rw_val (v := .bool true) (w' := w51) rfl rfl rfl rfl rfl ?_
      refine rw_end ?_
      refine w_weaken (G' := [(4, .bool true)]) ⟨rfl, trivial⟩ ?_
      refine w_ret (post_ret1 rfl rfl ?_)
      exact ⟨rfl, (hk52.below (by omega) (chain (chain (chain (hk38.below (by omega) (chain (chain hB21 hb26) hb33)) hb42) hb44) hb47))⟩
    · have htn_ := (takeC_nums hT_ (getD_I64 hv 2)).1
      have hle_ : (numsC cc_).length + rr_.length = l.length := by rw [← List.length_append, htn_]
      refine rw_val (v := .slice A1 l.length c1) (w' := w41) rfl rfl rfl rfl rfl ?_
      refine rw_call rfl rfl rfl rfl (f := 21) (args := #[.slice A1 l.length c1]) (by simp [go_sem, sEv, sLook, nbeq, i64_w, -List.getD_eq_getElem?_getD]) (take_some w41 A1 c1 l (Kd.C_below hl (chain (hk38.below (by omega) (chain (chain hB21 hb26) hb33)) hb42)) hc (by omega) cc_ rr_ hT_) ?_
      rintro e_ w54 ⟨A56, c57, rfl, hO58, hb55⟩
      refine ⟨_, rfl, ?_⟩
      have hs_w54 := hb55.size
      have hL59 : OwnK (Kd.int .i64) 3 w54 w.heap.size w41.heap.size A56 rr_.length c57 rr_ := OwnK.lower hO58 (by omega)
      refine rw_val (v := .tuple #[.agg (carr cc_), .slice A56 rr_.length c57, .bool true]) (w' := w54) rfl rfl rfl rfl rfl ?_
      refine rw_val (v := .agg (carr cc_)) (w' := w54) rfl rfl rfl rfl (by simp [go_sem, sEv, sLook, nbeq, i64_w, -List.getD_eq_getElem?_getD]) ?_
      refine rw_val (v := .slice A56 rr_.length c57) (w' := w54) rfl rfl rfl rfl (by simp [go_sem, sEv, sLook, nbeq, i64_w, -List.getD_eq_getElem?_getD]) ?_
      refine rw_val (v := .bool true) (w' := w54) rfl rfl rfl rfl (by simp [go_sem, sEv, sLook, nbeq, i64_w, -List.getD_eq_getElem?_getD]) ?_
      refine rw_new (cs := carr CL.unit) (t := 31) (fun g => .pointer (some ⟨g, 0, none⟩)) rfl rfl rfl rfl (by kernel_rfl) ?_
      intro g60 w61 hg65 hz64 hb62 hk63
      have hs_w61 := hb62.size
      refine rw_seg (g := g60) (off := 0) (ty := 31) (p := .tmp 8) (x := .tmp 39) (v := .agg (carr cc_)) (cs' := carr cc_) rfl rfl rfl rfl rfl rfl hk63 (by show (sizeOf 31).run _ _ = .ok (carr _).size _; rw [carr_size]; kernel_rfl) (Nat.le_of_eq (by rw [Nat.zero_add]; exact (carr_size _).trans (carr_size _).symm)) (encC_one _) (seg_all CL.unit cc_) ?_
      intro w66 hk67 hb68
      have hs_w66 := hk67.size
      refine rw_val (v := .slice A56 rr_.length c57) (w' := w66) rfl rfl rfl rfl rfl ?_
      refine rw_val (v := .bool true) (w' := w66) rfl rfl rfl rfl rfl ?_
      refine rw_end ?_
      refine w_weaken (G' := [(1, .slice A1 l.length c1), (4, .bool false), (6, .slice A56 rr_.length c57), (7, .bool true), (8, .pointer (some ⟨g60, 0, none⟩))]) ⟨rfl, rfl, rfl, rfl, rfl, trivial⟩ ?_
      refine w_seq ?_
      refine w_region ?_
      refine rw_val (v := .bool true) (w' := w66) rfl rfl rfl rfl rfl ?_
      refine rw_val (v := .bool false) (w' := w66) rfl rfl rfl rfl (by simp [go_sem, sEv, sLook, nbeq, i64_w, -List.getD_eq_getElem?_getD]) ?_
      refine rw_val (v := .bool false) (w' := w66) rfl rfl rfl rfl rfl ?_
      refine rw_on (c := false) rfl rfl rfl rfl ?_
      refine rw_val (v := .agg (carr cc_)) (w' := w66) rfl rfl rfl rfl (run_as (load_cell (c := cc_) hb68)) ?_
      refine rw_on (c := false) rfl rfl rfl rfl ?_
      refine rw_call rfl rfl rfl rfl (f := 19) (args := #[.agg (carr cc_)]) (by simp [go_sem, sEv, sLook, nbeq, i64_w, -List.getD_eq_getElem?_getD]) ((nums_calls w66 cc_)) ?_
      rintro e_ w71 ⟨A69, c70, rfl, hO72, hB73⟩
      refine ⟨_, rfl, ?_⟩
      have hs_w71 := hB73.size
      have hL74 : OwnK (Kd.int .i64) 3 w71 w.heap.size w66.heap.size A69 (numsC cc_).length c70 (numsC cc_) := OwnK.lower hO72 (by omega)
      refine rw_on (c := false) rfl rfl rfl rfl ?_
      refine rw_val (v := .slice A56 rr_.length c57) (w' := w71) rfl rfl rfl rfl rfl ?_
      refine rw_on (c := false) rfl rfl rfl rfl ?_
      have oA81 : OwnK (Kd.int .i64) 3 w71 w.heap.size w66.heap.size A69 ((numsC cc_).length) c70 (numsC cc_) := hL74
      refine rw_append_kd (d := (Kd.int .i64)) w.heap.size rfl rfl rfl (.tmp 46) (.tmp 47) rfl rfl 38 3 (.int .i64 0) 8 rfl (by kernel_rfl) (by kernel_rfl) rfl (show 0 < 1 by decide) (by decide) (fun _ _ h => h) (b := w66.heap.size) rfl rfl (by omega) oA81 (OwnK.Cn (d := (Kd.int .i64)) (OwnK.on (d := (Kd.int .i64)) hL59 (chain (hk67.below (by omega) hb62) hB73))) (chain (hk67.below (by omega) (chain (chain (chain (hk38.below (by omega) (chain (chain hB21 hb26) hb33)) hb42) hb55) hb62)) hB73) (by omega) (by first | omega | (have q_ := nums_len c; have q2_ := pr_len c.h 65; simp only [List.length_append, List.length_nil, List.length_cons]; omega) | (simp only [List.length_append, List.length_nil, List.length_cons]; omega)) ?_
      intro A75 c76 w77 hO78 hB79 hG80
      have hs_w77 := hB79.size
      have hgs_w77 := hG80.size
      have hO82 := OwnK.elder (d := (Kd.int .i64)) hL59 (chain (hk67.below (by omega) hb62) hB73) hG80 (fun q hq => Nat.le_trans (by omega) (OwnK.blk_ge (d := (Kd.int .i64)) oA81 hq))
      have hk83 := OwnK.blk_grown ((((((((hk24.on hb26).on hb33).keep hk38 (by omega)).on hb42).on hb55).on hb62).keep hk67 (by omega)).on hB73) oA81 (.inr (by decide)) hG80
      have hk84 := OwnK.blk_grown (((((hb39.on hb42).on hb55).on hb62).keep hk67 (by omega)).on hB73) oA81 (.inr (by decide)) hG80
      have hk85 := OwnK.blk_grown (hb68.on hB73) oA81 (.inr (by decide)) hG80
      refine rw_on (c := false) rfl rfl rfl rfl ?_
      refine rw_val (v := .slice A1 l.length c1) (w' := w77) rfl rfl rfl rfl rfl ?_
      refine rw_on (c := false) rfl rfl rfl rfl ?_
      refine rw_call rfl rfl rfl rfl (f := 18) (args := #[.slice A75 (((numsC cc_) ++ rr_).length) c76, .slice A1 l.length c1]) (by simp [go_sem, sEv, sLook, nbeq, i64_w, -List.getD_eq_getElem?_getD]) (by rw [show ((numsC cc_) ++ rr_).length = l.length by rw [htn_]]; exact (ints_calls w77 A75 c76 A1 c1 l (by have h_ := (Kd.C_below (OwnK.C (d := (Kd.int .i64)) hO78) (Below.refl _ _)); rw [htn_] at h_; exact h_) (by have h_ := (OwnK.cap (d := (Kd.int .i64)) hO78); rw [htn_] at h_; exact h_) (Kd.C_below hl hB79) hc (by first | omega | (have q_ := nums_len c; have q2_ := pr_len c.h 65; omega) | (simp only [List.length_drop, List.length_append]; omega)))) ?_
      rintro e_ w86 ⟨rfl, hb87⟩
      refine ⟨_, rfl, ?_⟩
      have hs_w86 := hb87.size
      refine rw_val (v := .bool true) (w' := w86) rfl rfl rfl rfl (by simp [go_sem, sEv, sLook, nbeq, i64_w, -List.getD_eq_getElem?_getD]) ?_
      refine rw_val (v := .bool true) (w' := w86) rfl rfl rfl rfl rfl ?_
      refine rw_end ?_
      refine w_weaken (G' := [(4, .bool true)]) ⟨rfl, trivial⟩ ?_
      refine w_ret (post_ret1 rfl rfl ?_)
      exact ⟨rfl, (chain hB79 hb87)⟩
end Go.Proofs.Ytheaipbnbnjlgaa.Ce
