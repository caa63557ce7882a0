/- Copies with marks: the walks. -/
import Derived.Test.YtpbpeklbmmbigaaTpRef6
namespace Go.Proofs.Ytpbpeklbmmbigaa.Tp
open Go.RowKit Go.Proofs.YtpbpeklbmmbigaaW.PrintWords Go.Proofs.YtpbpeklbmmbigaaW.PrintLast Go.Proofs.YtpbpeklbmmbigaaW.PrintMore
open Go.Proofs.Ytpbpeklbmmbigaa.Flow
set_option linter.unusedVariables false
set_option linter.unusedSimpArgs false


theorem make0_run (w : World) (l : Int) (n : Nat) (hl : l = (n : Int)) (hn : n ≤ 16777216) : (Instr.makeSlice 27 (.int .i64 0) (.int .i64 l)).run Try.prog w = .ok (.slice (some ⟨w.heap.size, 0, none⟩) 0 n) (w.alloc (.cells (madeCells #[Value.int .u8 0] n) 5)) := by
  subst hl
  obtain ⟨i5, hi5, hz5⟩ := Option.map_eq_some_iff.1 info5
  simp only [Prod.mk.injEq] at hz5
  have h := run_makeSlice (P := Try.prog) w 27 5 i5 (.int .u8 0) (by kernel_rfl) hi5 hz5.1 .i64 .i64 0 (n : Int) (by omega) (by omega) (by rw [hz5.2.1]; omega) (by rw [hz5.2.2]; omega) (by omega)
  simp only [Int.toNat_natCast, hz5.2.1, Nat.mul_one] at h
  exact h
theorem upto_run {P : Program} {t e : TypeId} (hu : P.underlying t = some (.slice e)) {sz : Nat} (hz : ∀ w, (sizeOf e).run P w = .ok sz w) {A : Option Addr} {n c : Nat} {x : Int} (h0 : 0 ≤ x) (h1 : x ≤ c) (w : World) : (Instr.sliceAt t (.slice A n c) none (some (.int .i64 x)) none).run P w = .ok (.slice A x.toNat c) w := by
  simp [go_sem, hu, h0, h1, hz]
theorem made_size (n : Nat) : (madeCells #[Value.int .u8 0] n).size = n := by
  rw [← Array.length_toList, toList_madeCells_one]
  simp
set_option maxHeartbeats 4000000 in
theorem copy_calls (w : World) (A0 : Option Addr) (c0 : Nat) (b : List Int) (hC : (Kd.int .u8).C w A0 b.length b) (hc : b.length ≤ c0) (hl : b.length ≤ 1000000) :
    Calls Try.prog 31 #[.slice A0 b.length c0] w fun e w' => ∃ A' c', e = .returned (.slice A' b.length c') ∧ Own .u8 5 w' w.heap.size w.heap.size A' (b.length + 2) c' (b ++ [165, 90]) ∧ Below w.heap.size w w' := by
  refine calls_flow Try.func31 rfl 14 rfl (Nat.le_of_ble_eq_true rfl) [(0, .slice A0 b.length c0)] ?_ ?_
  · intro t v h; exact args_look rfl t v h
  refine w_seq ?_
  refine w_region ?_
  refine rw_val (v := .slice none 0 0) (w' := w) rfl rfl rfl rfl rfl ?_
  refine rw_end ?_
  refine w_seq ?_
  refine w_region ?_
  refine rw_val (v := .slice A0 b.length c0) (w' := w) rfl rfl rfl rfl rfl ?_
  refine rw_val (v := .int .i64 (b.length : Int)) (w' := w) rfl rfl rfl rfl (by simp [go_sem, sEv, sLook, nbeq, i64_w, -List.length_flatten]) ?_
  refine rw_val (v := .int .i64 ((b.length + 2 : Nat) : Int)) (w' := w) rfl rfl rfl rfl (by simp [go_sem, sEv, sLook, nbeq, i64_w, -List.length_flatten]; exact wrap_id (by omega) (by omega)) ?_
  refine rw_new (cs := madeCells #[Value.int .u8 0] (b.length + 2)) (t := 5) (fun g => .slice (some ⟨g, 0, none⟩) 0 (b.length + 2)) rfl rfl rfl rfl (run_as (make0_run _ _ (b.length + 2) (by omega) (by omega))) ?_
  intro g1 w2 hg6 hz5 hb3 hk4
  have hs_w2 := hb3.size
  have hO7 : Own .u8 5 w2 w.heap.size w.heap.size (some ⟨g1, 0, none⟩) 0 (b.length + 2) [] := Own.mono (own_blk (xs := []) w.heap.size hk4 (by omega) (made_size _) (by simp) (by omega) (Nums.nil _ _)) (by omega)
  refine rw_val (v := .slice A0 b.length c0) (w' := w2) rfl rfl rfl rfl rfl ?_
  refine rw_append_row .u8 w.heap.size rfl rfl rfl (.tmp 6) (.tmp 7) rfl rfl 27 5 1 rfl (by kernel_rfl) info5 (by decide) (b := w.heap.size) rfl rfl (by omega) (hO7.on (Below.refl _ _)) (Kd.C_below hC hb3) hb3 (by omega) (by simp; omega) ?_
  intro A8 n9 c10 w11 hn12 hO13 hB14 hG15
  have hs_w11 := hB14.size
  have hgs_w11 := hG15.size
  refine rw_new (cs := #[.int .u8 165, .int .u8 90]) (t := 5) (fun g => .slice (some ⟨g, 0, none⟩) 2 2) rfl rfl rfl rfl (by kernel_rfl) ?_
  intro g16 w17 hg21 hz20 hb18 hk19
  have hs_w17 := hb18.size
  have hO22 : Own .u8 5 w17 w.heap.size g16 (some ⟨g16, 0, none⟩) 2 2 [165, 90] := own_blk (xs := [165, 90]) w.heap.size hk19 (by omega) rfl (by simp) (by omega) (fun j hj => by
    match j, hj with
    | 0, _ => rfl
    | 1, _ => rfl
    | j + 2, hj => simp at hj; omega)
  refine rw_append_row .u8 w.heap.size rfl rfl rfl (.tmp 8) (.tmp 9) rfl rfl 27 5 1 rfl (by kernel_rfl) info5 (by decide) (b := w.heap.size) rfl rfl (by omega) (hO13.on hb18) (Kd.C_below (Own.C hO22) (Below.refl _ _)) (chain hB14 hb18) (by omega) (by simp; omega) ?_
  intro A23 n24 c25 w26 hn27 hO28 hB29 hG30
  have hs_w26 := hB29.size
  have hgs_w26 := hG30.size
  refine rw_val (v := .slice A0 b.length c0) (w' := w26) rfl rfl rfl rfl rfl ?_
  refine rw_val (v := .int .i64 (b.length : Int)) (w' := w26) rfl rfl rfl rfl (by simp [go_sem, sEv, sLook, nbeq, i64_w, -List.length_flatten]) ?_
  have hn_ := hO28.len
  have hcp_ := hO28.cap
  simp only [List.nil_append, List.length_append, List.length_cons, List.length_nil] at hn_
  refine rw_val (v := .slice A23 b.length c25) (w' := w26) rfl rfl rfl rfl (by have h_ := upto_run (P := Try.prog) (t := 27) (e := 5) (sz := 1) (by kernel_rfl) (fun _ => by kernel_rfl) (A := A23) (n := n24) (c := c25) (x := (b.length : Int)) (by omega) (by omega) w26; rw [Int.toNat_natCast] at h_; exact run_as h_) ?_
  refine rw_val (v := .slice A23 b.length c25) (w' := w26) rfl rfl rfl rfl rfl ?_
  refine rw_end ?_
  refine w_weaken (G' := [(2, .slice A23 b.length c25)]) ⟨rfl, trivial⟩ ?_
  refine w_ret (post_ret1 rfl rfl ?_)
  have hf_ : Own .u8 5 w26 w.heap.size w.heap.size A23 (b.length + 2) c25 (b ++ [165, 90]) := by have h_ := (hO28.on (Below.refl _ _)); rw [show n24 = b.length + 2 by omega] at h_; simpa using h_
  exact ⟨_, _, rfl, hf_, hB29⟩

theorem rd_mark0 (b : List Int) : rd (b ++ [165, 90]) ((b.length : Nat) : Int) = 165 := by
  rw [rd_at _ b.length (by simp)]
  simp
theorem rd_mark1 (b : List Int) : rd (b ++ [165, 90]) ((b.length + 1 : Nat) : Int) = 90 := by
  rw [rd_at _ (b.length + 1) (by simp)]
  simp
set_option maxHeartbeats 4000000 in
theorem kept_calls (w : World) (A0 B0 : Option Addr) (c0 cb : Nat) (b : List Int) (hM : (Kd.int .u8).C w A0 (b.length + 2) (b ++ [165, 90])) (hMs : (Kd.int .u8).C w A0 b.length b) (hM2 : b.length + 2 ≤ c0) (hMc : b.length ≤ c0) (hC : (Kd.int .u8).C w B0 b.length b) (hc : b.length ≤ cb) (hl : b.length ≤ 1000000) :
    Calls Try.prog 37 #[.slice A0 b.length c0, .slice B0 b.length cb] w fun e w' => e = .returned (.bool true) ∧ Below w.heap.size w w' := by
  refine calls_flow Try.func37 rfl 39 rfl (Nat.le_of_ble_eq_true rfl) [(0, .slice A0 b.length c0), (1, .slice B0 b.length cb)] ?_ ?_
  · intro t v h; exact args_look rfl t v h
  refine w_seq ?_
  refine w_region ?_
  refine rw_val (v := .bool false) (w' := w) rfl rfl rfl rfl rfl ?_
  refine rw_end ?_
  refine w_seq ?_
  refine w_seq ?_
  refine w_region ?_
  refine rw_val (v := .slice A0 b.length c0) (w' := w) rfl rfl rfl rfl rfl ?_
  refine rw_val (v := .string (strOfNums b)) (w' := w) rfl rfl rfl rfl (run_as (run_str_of (P := Try.prog) (e := 5) (by kernel_rfl) (by kernel_rfl) (by kernel_rfl) (Kd.C_below hMs (Below.refl _ _)))) ?_
  refine rw_val (v := .slice B0 b.length cb) (w' := w) rfl rfl rfl rfl rfl ?_
  refine rw_val (v := .string (strOfNums b)) (w' := w) rfl rfl rfl rfl (run_as (run_str_of (P := Try.prog) (e := 5) (by kernel_rfl) (by kernel_rfl) (by kernel_rfl) (Kd.C_below hC (Below.refl _ _)))) ?_
  refine rw_val (v := .bool false) (w' := w) rfl rfl rfl rfl (run_bool (run_as (run_str_neq 9 _ _ _)) (by simp)) ?_
  refine rw_val (v := .bool false) (w' := w) rfl rfl rfl rfl rfl ?_
  refine rw_on (c := false) rfl rfl rfl rfl ?_
  refine rw_val (v := .slice A0 b.length c0) (w' := w) rfl rfl rfl rfl rfl ?_
  refine rw_on (c := false) rfl rfl rfl rfl ?_
  refine rw_val (v := .int .i64 (c0 : Int)) (w' := w) rfl rfl rfl rfl (by simp [go_sem, sEv, sLook, nbeq, i64_w, -List.length_flatten]) ?_
  refine rw_on (c := false) rfl rfl rfl rfl ?_
  refine rw_val (v := .slice B0 b.length cb) (w' := w) rfl rfl rfl rfl rfl ?_
  refine rw_on (c := false) rfl rfl rfl rfl ?_
  refine rw_val (v := .int .i64 (b.length : Int)) (w' := w) rfl rfl rfl rfl (by simp [go_sem, sEv, sLook, nbeq, i64_w, -List.length_flatten]) ?_
  refine rw_on (c := false) rfl rfl rfl rfl ?_
  refine rw_val (v := .int .i64 ((b.length + 2 : Nat) : Int)) (w' := w) rfl rfl rfl rfl (by simp [go_sem, sEv, sLook, nbeq, i64_w, -List.length_flatten]; exact wrap_id (by omega) (by omega)) ?_
  refine rw_on (c := false) rfl rfl rfl rfl ?_
  refine rw_val (v := .bool (decide ((c0 : Int) < ((b.length + 2 : Nat) : Int)))) (w' := w) rfl rfl rfl rfl (by simp [go_sem, sEv, sLook, nbeq, i64_w, -List.length_flatten]) ?_
  refine rw_val (v := .bool (decide ((c0 : Int) < ((b.length + 2 : Nat) : Int)))) (w' := w) rfl rfl rfl rfl (by simp [go_sem, sEv, sLook, nbeq, i64_w, -List.length_flatten]) ?_
  refine rw_end ?_
  refine w_weaken (G' := [(0, .slice A0 b.length c0), (1, .slice B0 b.length cb), (4, .bool false), (18, .bool (decide ((c0 : Int) < ((b.length + 2 : Nat) : Int))))]) ⟨rfl, rfl, rfl, rfl, trivial⟩ ?_
  have hq1 : (decide ((c0 : Int) < ((b.length + 2 : Nat) : Int))) = false := by exact decide_eq_false (by omega)
  refine w_cond_f rfl rfl hq1 ?_
  refine w_skip ?_
  refine w_seq ?_
  refine w_region ?_
  refine rw_val (v := .slice A0 b.length c0) (w' := w) rfl rfl rfl rfl rfl ?_
  refine rw_val (v := .slice B0 b.length cb) (w' := w) rfl rfl rfl rfl rfl ?_
  refine rw_val (v := .int .i64 (b.length : Int)) (w' := w) rfl rfl rfl rfl (by simp [go_sem, sEv, sLook, nbeq, i64_w, -List.length_flatten]) ?_
  refine rw_val (v := .int .i64 ((b.length + 2 : Nat) : Int)) (w' := w) rfl rfl rfl rfl (by simp [go_sem, sEv, sLook, nbeq, i64_w, -List.length_flatten]; exact wrap_id (by omega) (by omega)) ?_
  refine rw_val (v := .slice A0 (b.length + 2) c0) (w' := w) rfl rfl rfl rfl (by have h_ := upto_run (P := Try.prog) (t := 27) (e := 5) (sz := 1) (by kernel_rfl) (fun _ => by kernel_rfl) (A := A0) (n := b.length) (c := c0) (x := ((b.length + 2 : Nat) : Int)) (by omega) (by omega) w; rw [Int.toNat_natCast] at h_; exact run_as h_) ?_
  refine rw_val (v := .slice A0 (b.length + 2) c0) (w' := w) rfl rfl rfl rfl rfl ?_
  refine rw_end ?_
  refine w_weaken (G' := [(1, .slice B0 b.length cb), (4, .bool false), (5, .slice A0 (b.length + 2) c0)]) ⟨rfl, rfl, rfl, trivial⟩ ?_
  refine w_seq ?_
  refine w_region ?_
  refine rw_val (v := .slice A0 (b.length + 2) c0) (w' := w) rfl rfl rfl rfl rfl ?_
  refine rw_val (v := .slice B0 b.length cb) (w' := w) rfl rfl rfl rfl rfl ?_
  refine rw_val (v := .int .i64 (b.length : Int)) (w' := w) rfl rfl rfl rfl (by simp [go_sem, sEv, sLook, nbeq, i64_w, -List.length_flatten]) ?_
  obtain ⟨ad, hA_, hcell0_⟩ := Kd.at_int hM ((b.length : Nat) : Int) (by omega) (by omega)
  obtain ⟨ad2, hA2_, hcell1_⟩ := Kd.at_int hM ((b.length + 1 : Nat) : Int) (by omega) (by omega)
  rw [hA_] at hA2_
  obtain rfl := Option.some.inj hA2_
  rw [Int.toNat_natCast] at hcell0_ hcell1_
  rw [rd_mark0] at hcell0_
  rw [rd_mark1, Flow.add_pos] at hcell1_
  refine rw_val (v := .pointer (some (ad.add b.length))) (w' := w) rfl rfl rfl rfl (by simp [go_sem, sEv, sLook, nbeq, i64_w, -List.length_flatten, Try.underlying27, hA_]; try omega) ?_
  refine rw_val (v := .int .u8 165) (w' := w) rfl rfl rfl rfl (by simp [go_sem, sEv, sLook, nbeq, i64_w, -List.length_flatten, hcell0_]) ?_
  refine rw_val (v := .bool true) (w' := w) rfl rfl rfl rfl (by simp [go_sem, sEv, sLook, nbeq, i64_w, -List.length_flatten]) ?_
  refine rw_val (v := .bool true) (w' := w) rfl rfl rfl rfl rfl ?_
  refine rw_on (c := true) rfl rfl rfl rfl ?_
  refine rw_val (v := .slice A0 (b.length + 2) c0) (w' := w) rfl rfl rfl rfl rfl ?_
  refine rw_on (c := true) rfl rfl rfl rfl ?_
  refine rw_val (v := .slice B0 b.length cb) (w' := w) rfl rfl rfl rfl rfl ?_
  refine rw_on (c := true) rfl rfl rfl rfl ?_
  refine rw_val (v := .int .i64 (b.length : Int)) (w' := w) rfl rfl rfl rfl (by simp [go_sem, sEv, sLook, nbeq, i64_w, -List.length_flatten]) ?_
  refine rw_on (c := true) rfl rfl rfl rfl ?_
  refine rw_val (v := .int .i64 ((b.length + 1 : Nat) : Int)) (w' := w) rfl rfl rfl rfl (by simp [go_sem, sEv, sLook, nbeq, i64_w, -List.length_flatten]; exact wrap_id (by omega) (by omega)) ?_
  refine rw_on (c := true) rfl rfl rfl rfl ?_
  refine rw_val (v := .pointer (some (ad.add (b.length + 1)))) (w' := w) rfl rfl rfl rfl (by simp [go_sem, sEv, sLook, nbeq, i64_w, -List.length_flatten, Try.underlying27, hA_]; try omega) ?_
  refine rw_on (c := true) rfl rfl rfl rfl ?_
  refine rw_val (v := .int .u8 90) (w' := w) rfl rfl rfl rfl (by simp [go_sem, sEv, sLook, nbeq, i64_w, -List.length_flatten, hcell1_]) ?_
  refine rw_on (c := true) rfl rfl rfl rfl ?_
  refine rw_val (v := .bool true) (w' := w) rfl rfl rfl rfl (by simp [go_sem, sEv, sLook, nbeq, i64_w, -List.length_flatten]) ?_
  refine rw_val (v := .bool true) (w' := w) rfl rfl rfl rfl (by simp [go_sem, sEv, sLook, nbeq, i64_w, -List.length_flatten]) ?_
  refine rw_val (v := .bool true) (w' := w) rfl rfl rfl rfl rfl ?_
  refine rw_end ?_
  refine w_weaken (G' := [(4, .bool true)]) ⟨rfl, trivial⟩ ?_
  refine w_ret (post_ret1 rfl rfl ?_)
  exact ⟨rfl, (Below.refl _ _)⟩
end Go.Proofs.Ytpbpeklbmmbigaa.Tp
