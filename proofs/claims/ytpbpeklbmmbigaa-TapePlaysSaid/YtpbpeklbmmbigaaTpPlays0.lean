/- The fixed fact of the tape's laws: the walk. -/
import Derived.Test.YtpbpeklbmmbigaaTpSide
namespace Go.Proofs.Ytpbpeklbmmbigaa.Tp
open Go.RowKit Go.Proofs.YtpbpeklbmmbigaaW.PrintWords Go.Proofs.YtpbpeklbmmbigaaW.PrintLast Go.Proofs.YtpbpeklbmmbigaaW.PrintMore
open Go.Proofs.Ytpbpeklbmmbigaa.Flow
set_option linter.unusedVariables false
set_option linter.unusedSimpArgs false

set_option maxHeartbeats 4000000 in
theorem alive_calls  (w : World) :
    Calls Try.prog 10 #[] w fun e w' => e = .returned (.bool true) ∧ Below w.heap.size w w' := by
  refine calls_flow Try.func10 rfl 49 rfl (Nat.le_of_ble_eq_true rfl) [] ?_ ?_
  · intro t v h; exact args_look rfl t v h
  refine w_seq ?_
  refine w_region ?_
  refine rw_val (v := .bool false) (w' := w) rfl rfl rfl rfl rfl ?_
  refine rw_end ?_
  refine w_seq ?_
  refine w_region ?_
  refine rw_call rfl rfl rfl rfl (f := 11) (args := #[]) (by simp [go_sem, sEv, sLook, nbeq, i64_w, -List.getD_eq_getElem?_getD]) (new_T w) ?_
  rintro e_ w2 ⟨g1, rfl, hT3, hs4⟩
  refine ⟨_, rfl, ?_⟩
  have hT3o : TapeAt w w2 g1 w2.heap.size (fun _ => False) TS.start := new_on (Below.refl _ _) hT3
  have hz_w2 := hT3o.size
  refine rw_val (v := .pointer (some ⟨g1, 0, none⟩)) (w' := w2) rfl rfl rfl rfl rfl ?_
  refine rw_end ?_
  refine w_seq ?_
  refine w_seq ?_
  refine w_region ?_
  refine rw_val (v := .pointer (some ⟨g1, 0, none⟩)) (w' := w2) rfl rfl rfl rfl rfl ?_
  refine rw_val (v := .bool false) (w' := w2) rfl rfl rfl rfl (run_as (run_ptr_eql (e := 60) (by kernel_rfl) _ _)) ?_
  refine rw_val (v := .bool false) (w' := w2) rfl rfl rfl rfl rfl ?_
  refine rw_on (c := false) rfl rfl rfl rfl ?_
  refine rw_val (v := .pointer (some ⟨g1, 0, none⟩)) (w' := w2) rfl rfl rfl rfl rfl ?_
  refine rw_on (c := false) rfl rfl rfl rfl ?_
  refine rw_new (cs := #[.int .u8 97]) (t := 5) (fun g => .slice (some ⟨g, 0, none⟩) 1 1) rfl rfl rfl rfl (by kernel_rfl) ?_
  intro g5 w6 hg10 hz9 hb7 hk8
  have hs_w6 := hb7.size
  have hk8r : OwnK (Kd.int .u8) 5 w6 w.heap.size g5 (some ⟨g5, 0, none⟩) 1 1 ([97] : List Int) := scal_own w.heap.size hk8 (by omega) rfl rfl (by simp)
  refine rw_on (c := false) rfl rfl rfl rfl ?_
  obtain ⟨w11, hr12, hk13, hf14⟩ := conv_same hk8 1 1
  refine rw_val (v := .slice (some ⟨g5, 0, none⟩) 1 1) (w' := w11) rfl rfl rfl rfl (run_as hr12) ?_
  have hs_w11 := hk13.size
  obtain ⟨hf14c, hf14f⟩ : ∃ cs_, FB w11 g5 5 cs_ ∧ Nums .u8 cs_ ([97] : List Int) := ⟨_, hf14, fun j hj => by
    match j, hj with
    | 0, _ => rfl
    | j + 1, hj => simp only [List.length_cons, List.length_nil] at hj; omega⟩
  have hN16 := hf14f.2
  have hC15 : (Kd.int .u8).C w11 (some ⟨g5, 0, none⟩) 1 ([97] : List Int) := FB.C hf14f.1 hN16 (by decide)
  refine rw_on (c := false) rfl rfl rfl rfl ?_
  refine rw_new (cs := #[.int .u8 98]) (t := 5) (fun g => .slice (some ⟨g, 0, none⟩) 1 1) rfl rfl rfl rfl (by kernel_rfl) ?_
  intro g18 w19 hg23 hz22 hb20 hk21
  have hs_w19 := hb20.size
  have hk21r : OwnK (Kd.int .u8) 5 w19 w.heap.size g18 (some ⟨g18, 0, none⟩) 1 1 ([98] : List Int) := scal_own w.heap.size hk21 (by omega) rfl rfl (by simp)
  refine rw_on (c := false) rfl rfl rfl rfl ?_
  obtain ⟨w24, hr25, hk26, hf27⟩ := conv_same hk21 1 1
  refine rw_val (v := .slice (some ⟨g18, 0, none⟩) 1 1) (w' := w24) rfl rfl rfl rfl (run_as hr25) ?_
  have hs_w24 := hk26.size
  obtain ⟨hf27c, hf27f⟩ : ∃ cs_, FB w24 g18 5 cs_ ∧ Nums .u8 cs_ ([98] : List Int) := ⟨_, hf27, fun j hj => by
    match j, hj with
    | 0, _ => rfl
    | j + 1, hj => simp only [List.length_cons, List.length_nil] at hj; omega⟩
  have hN29 := hf27f.2
  have hC28 : (Kd.int .u8).C w24 (some ⟨g18, 0, none⟩) 1 ([98] : List Int) := FB.C hf27f.1 hN29 (by decide)
  refine rw_on (c := false) rfl rfl rfl rfl ?_
  refine rw_new (cs := #[.slice (some ⟨g5, 0, none⟩) 1 1, .slice (some ⟨g18, 0, none⟩) 1 1]) (t := 27) (fun g => .slice (some ⟨g, 0, none⟩) 2 2) rfl rfl rfl rfl (by kernel_rfl) ?_
  intro g31 w32 hg36 hz35 hb33 hk34
  have hs_w32 := hb33.size
  refine rw_on (c := false) rfl rfl rfl rfl ?_
  refine rw_call rfl rfl rfl rfl (f := 12) (args := #[.pointer (some ⟨g1, 0, none⟩), .slice (some ⟨g31, 0, none⟩) 2 2]) (by simp [go_sem, sEv, sLook, nbeq, i64_w, -List.getD_eq_getElem?_getD]) (append_T w w32 g1 w2.heap.size (fun _ => False) (fun q h_ => h_.elim) (⟨[], 0, 0, false, 0, false, 0, false⟩ : TS) (TapeAt.on (TapeAt.far (TapeAt.on (TapeAt.far (TapeAt.on hT3o hb7) hk13 (by omega) (by omega)) hb20) hk26 (by omega) (by omega)) hb33) (okB_ok (by decide +kernel)) (some ⟨g31, 0, none⟩) [([97] : List Int), ([98] : List Int)] 2 (rowsK2 (S := (fun k => k = g1 ∨ (g1 < k ∧ k < w2.heap.size ∧ ¬ (fun _ => False) k))) hk34 (fun h => by omega) (Nat.le_refl _) (FB.K (S := (fun k => k = g1 ∨ (g1 < k ∧ k < w2.heap.size ∧ ¬ (fun _ => False) k))) (FB.on (FB.keep (FB.on hf14f.1 hb20) hk26 (by omega)) hb33) hN16 (by decide) (fun h => by omega)) (Nat.le_refl _) (FB.K (S := (fun k => k = g1 ∨ (g1 < k ∧ k < w2.heap.size ∧ ¬ (fun _ => False) k))) (FB.on hf27f.1 hb33) hN29 (by decide) (fun h => by omega))) (by simp) (by decide)) ?_
  rintro e_ w37 ⟨rfl, hT38, hs39, hx40⟩
  refine ⟨errT (TS.appE (⟨[], 0, 0, false, 0, false, 0, false⟩ : TS) [([97] : List Int), ([98] : List Int)].flatten), rfl, ?_⟩
  have ee_ : TS.appE (⟨[], 0, 0, false, 0, false, 0, false⟩ : TS) [([97] : List Int), ([98] : List Int)].flatten = none := by kernel_rfl
  rw [ee_]
  have es_ : TS.app (⟨[], 0, 0, false, 0, false, 0, false⟩ : TS) [([97] : List Int), ([98] : List Int)].flatten = (⟨[97, 98], 0, 1, false, 0, false, 0, false⟩ : TS) := by kernel_rfl
  rw [es_] at hT38
  have hz_w37 := hT38.size
  refine rw_on (c := false) rfl rfl rfl rfl ?_
  refine rw_val (v := .bool ((none : Option Int).isSome)) (w' := w37) rfl rfl rfl rfl (run_as (guard_err_neq _ (none : Option Int) _)) ?_
  refine rw_val (v := .bool ((none : Option Int).isSome)) (w' := w37) rfl rfl rfl rfl (by simp [go_sem, sEv, sLook, nbeq, i64_w, -List.getD_eq_getElem?_getD]) ?_
  refine rw_val (v := .bool ((none : Option Int).isSome)) (w' := w37) rfl rfl rfl rfl rfl ?_
  have hq41 : ((none : Option Int).isSome) = false := by rfl
  refine rw_on (c := (none : Option Int).isSome) rfl rfl rfl (by first | (rw [hq41]; rfl) | simp [hq41]) ?_
  refine rw_val (v := .pointer (some ⟨g1, 0, none⟩)) (w' := w37) rfl rfl rfl rfl rfl ?_
  refine rw_on (c := (none : Option Int).isSome) rfl rfl rfl (by first | (rw [hq41]; rfl) | simp [hq41]) ?_
  refine rw_call rfl rfl rfl rfl (f := 13) (args := #[.pointer (some ⟨g1, 0, none⟩)]) (by simp [go_sem, sEv, sLook, nbeq, i64_w, -List.getD_eq_getElem?_getD]) (sync_T w w37 g1 w37.heap.size (fun _ => False) (fun q h_ => h_.elim) (⟨[97, 98], 0, 1, false, 0, false, 0, false⟩ : TS) hT38 (okB_ok (by decide +kernel))) ?_
  rintro e_ w42 ⟨rfl, hT43, hs44, hx45⟩
  refine ⟨errT (TS.err (⟨[97, 98], 0, 1, false, 0, false, 0, false⟩ : TS)), rfl, ?_⟩
  have ee_ : TS.err (⟨[97, 98], 0, 1, false, 0, false, 0, false⟩ : TS) = none := by kernel_rfl
  rw [ee_]
  have es_ : TS.sync (⟨[97, 98], 0, 1, false, 0, false, 0, false⟩ : TS) = (⟨[97, 98], 2, 2, false, 0, false, 0, false⟩ : TS) := by kernel_rfl
  rw [es_] at hT43
  have hz_w42 := hT43.size
  refine rw_on (c := (none : Option Int).isSome) rfl rfl rfl (by first | (rw [hq41]; rfl) | simp [hq41]) ?_
  refine rw_val (v := .bool ((none : Option Int).isSome)) (w' := w42) rfl rfl rfl rfl (run_as (guard_err_neq _ (none : Option Int) _)) ?_
  refine rw_val (v := .bool ((none : Option Int).isSome)) (w' := w42) rfl rfl rfl rfl (by first | (simp [go_sem, sEv, sLook, nbeq, i64_w, -List.getD_eq_getElem?_getD, hq41]; done) | (rw [hq41]; simp [go_sem, sEv, sLook, nbeq, i64_w, -List.getD_eq_getElem?_getD]; done) | (simp [go_sem, sEv, sLook, nbeq, i64_w, -List.getD_eq_getElem?_getD] <;> omega) | (simp [go_sem, sEv, sLook, nbeq, i64_w, -List.getD_eq_getElem?_getD]; intro h_; exact absurd (by omega) h_)) ?_
  refine rw_val (v := .bool ((none : Option Int).isSome)) (w' := w42) rfl rfl rfl rfl rfl ?_
  refine rw_on (c := (none : Option Int).isSome) rfl rfl rfl (by first | (rw [hq41]; rfl) | simp [hq41]) ?_
  refine rw_val (v := .pointer (some ⟨g1, 0, none⟩)) (w' := w42) rfl rfl rfl rfl rfl ?_
  refine rw_on (c := (none : Option Int).isSome) rfl rfl rfl (by first | (rw [hq41]; rfl) | simp [hq41]) ?_
  refine rw_new (cs := #[.int .u8 99, .int .u8 100]) (t := 5) (fun g => .slice (some ⟨g, 0, none⟩) 2 2) rfl rfl rfl rfl (by kernel_rfl) ?_
  intro g46 w47 hg51 hz50 hb48 hk49
  have hs_w47 := hb48.size
  have hk49r : OwnK (Kd.int .u8) 5 w47 w.heap.size g46 (some ⟨g46, 0, none⟩) 2 2 ([99, 100] : List Int) := scal_own w.heap.size hk49 (by omega) rfl rfl (by simp)
  refine rw_on (c := (none : Option Int).isSome) rfl rfl rfl (by first | (rw [hq41]; rfl) | simp [hq41]) ?_
  obtain ⟨w52, hr53, hk54, hf55⟩ := conv_same hk49 2 2
  refine rw_val (v := .slice (some ⟨g46, 0, none⟩) 2 2) (w' := w52) rfl rfl rfl rfl (run_as hr53) ?_
  have hs_w52 := hk54.size
  obtain ⟨hf55c, hf55f⟩ : ∃ cs_, FB w52 g46 5 cs_ ∧ Nums .u8 cs_ ([99, 100] : List Int) := ⟨_, hf55, fun j hj => by
    match j, hj with
    | 0, _ => rfl
    | 1, _ => rfl
    | j + 2, hj => simp only [List.length_cons, List.length_nil] at hj; omega⟩
  have hN57 := hf55f.2
  have hC56 : (Kd.int .u8).C w52 (some ⟨g46, 0, none⟩) 2 ([99, 100] : List Int) := FB.C hf55f.1 hN57 (by decide)
  refine rw_on (c := (none : Option Int).isSome) rfl rfl rfl (by first | (rw [hq41]; rfl) | simp [hq41]) ?_
  refine rw_new (cs := #[.slice (some ⟨g46, 0, none⟩) 2 2]) (t := 27) (fun g => .slice (some ⟨g, 0, none⟩) 1 1) rfl rfl rfl rfl (by kernel_rfl) ?_
  intro g59 w60 hg64 hz63 hb61 hk62
  have hs_w60 := hb61.size
  refine rw_on (c := (none : Option Int).isSome) rfl rfl rfl (by first | (rw [hq41]; rfl) | simp [hq41]) ?_
  refine rw_call rfl rfl rfl rfl (f := 12) (args := #[.pointer (some ⟨g1, 0, none⟩), .slice (some ⟨g59, 0, none⟩) 1 1]) (by simp [go_sem, sEv, sLook, nbeq, i64_w, -List.getD_eq_getElem?_getD]) (append_T w w60 g1 w42.heap.size (fun _ => False) (fun q h_ => h_.elim) (⟨[97, 98], 2, 2, false, 0, false, 0, false⟩ : TS) (TapeAt.on (TapeAt.far (TapeAt.on hT43 hb48) hk54 (by omega) (by omega)) hb61) (okB_ok (by decide +kernel)) (some ⟨g59, 0, none⟩) [([99, 100] : List Int)] 1 (rowsK1 (S := (fun k => k = g1 ∨ (g1 < k ∧ k < w42.heap.size ∧ ¬ (fun _ => False) k))) hk62 (fun h => by omega) (Nat.le_refl _) (FB.K (S := (fun k => k = g1 ∨ (g1 < k ∧ k < w42.heap.size ∧ ¬ (fun _ => False) k))) (FB.on hf55f.1 hb61) hN57 (by decide) (fun h => by omega))) (by simp) (by decide)) ?_
  rintro e_ w65 ⟨rfl, hT66, hs67, hx68⟩
  refine ⟨errT (TS.appE (⟨[97, 98], 2, 2, false, 0, false, 0, false⟩ : TS) [([99, 100] : List Int)].flatten), rfl, ?_⟩
  have ee_ : TS.appE (⟨[97, 98], 2, 2, false, 0, false, 0, false⟩ : TS) [([99, 100] : List Int)].flatten = none := by kernel_rfl
  rw [ee_]
  have es_ : TS.app (⟨[97, 98], 2, 2, false, 0, false, 0, false⟩ : TS) [([99, 100] : List Int)].flatten = (⟨[97, 98, 99, 100], 2, 3, false, 0, false, 0, false⟩ : TS) := by kernel_rfl
  rw [es_] at hT66
  have hz_w65 := hT66.size
  refine rw_on (c := (none : Option Int).isSome) rfl rfl rfl (by first | (rw [hq41]; rfl) | simp [hq41]) ?_
  refine rw_val (v := .bool ((none : Option Int).isSome)) (w' := w65) rfl rfl rfl rfl (run_as (guard_err_neq _ (none : Option Int) _)) ?_
  refine rw_val (v := .bool ((none : Option Int).isSome)) (w' := w65) rfl rfl rfl rfl (by first | (simp [go_sem, sEv, sLook, nbeq, i64_w, -List.getD_eq_getElem?_getD, hq41]; done) | (rw [hq41]; simp [go_sem, sEv, sLook, nbeq, i64_w, -List.getD_eq_getElem?_getD]; done) | (simp [go_sem, sEv, sLook, nbeq, i64_w, -List.getD_eq_getElem?_getD] <;> omega) | (simp [go_sem, sEv, sLook, nbeq, i64_w, -List.getD_eq_getElem?_getD]; intro h_; exact absurd (by omega) h_)) ?_
  refine rw_val (v := .bool ((none : Option Int).isSome)) (w' := w65) rfl rfl rfl rfl rfl ?_
  refine rw_on (c := (none : Option Int).isSome) rfl rfl rfl (by first | (rw [hq41]; rfl) | simp [hq41]) ?_
  refine rw_val (v := .pointer (some ⟨g1, 0, none⟩)) (w' := w65) rfl rfl rfl rfl rfl ?_
  refine rw_on (c := (none : Option Int).isSome) rfl rfl rfl (by first | (rw [hq41]; rfl) | simp [hq41]) ?_
  refine rw_call rfl rfl rfl rfl (f := 16) (args := #[.pointer (some ⟨g1, 0, none⟩)]) (by simp [go_sem, sEv, sLook, nbeq, i64_w, -List.getD_eq_getElem?_getD]) (sure_T w w65 g1 w65.heap.size (fun _ => False) (fun q h_ => h_.elim) (⟨[97, 98, 99, 100], 2, 3, false, 0, false, 0, false⟩ : TS) hT66 (okB_ok (by decide +kernel))) ?_
  rintro e_ w69 ⟨rfl, rfl⟩
  refine ⟨_, rfl, ?_⟩
  refine rw_on (c := (none : Option Int).isSome) rfl rfl rfl (by first | (rw [hq41]; rfl) | simp [hq41]) ?_
  refine rw_val (v := .bool false) (w' := w65) rfl rfl rfl rfl (by simp [go_sem, sEv, sLook, nbeq, i64_w, -List.getD_eq_getElem?_getD]) ?_
  refine rw_val (v := .bool false) (w' := w65) rfl rfl rfl rfl (by first | (simp [go_sem, sEv, sLook, nbeq, i64_w, -List.getD_eq_getElem?_getD, hq41]; done) | (rw [hq41]; simp [go_sem, sEv, sLook, nbeq, i64_w, -List.getD_eq_getElem?_getD]; done) | (simp [go_sem, sEv, sLook, nbeq, i64_w, -List.getD_eq_getElem?_getD] <;> omega) | (simp [go_sem, sEv, sLook, nbeq, i64_w, -List.getD_eq_getElem?_getD]; intro h_; exact absurd (by omega) h_)) ?_
  refine rw_end ?_
  refine w_weaken (G' := [(0, .bool false), (1, .pointer (some ⟨g1, 0, none⟩)), (32, .bool false)]) ⟨rfl, rfl, rfl, trivial⟩ ?_
  refine w_cond_f rfl rfl rfl ?_
  refine w_skip ?_
  refine w_seq ?_
  refine w_region ?_
  refine rw_val (v := .pointer (some ⟨g1, 0, none⟩)) (w' := w65) rfl rfl rfl rfl rfl ?_
  refine rw_call rfl rfl rfl rfl (f := 14) (args := #[.pointer (some ⟨g1, 0, none⟩), .int .i64 1]) (by simp [go_sem, sEv, sLook, nbeq, i64_w, -List.getD_eq_getElem?_getD]) (crash_T w w65 g1 w65.heap.size (fun _ => False) (fun q h_ => h_.elim) (⟨[97, 98, 99, 100], 2, 3, false, 0, false, 0, false⟩ : TS) hT66 (okB_ok (by decide +kernel)) 1) ?_
  rintro e_ w70 ⟨rfl, hT71, hs72, hx73⟩
  refine ⟨.tuple #[], rfl, ?_⟩
  have es_ : TS.crash (⟨[97, 98, 99, 100], 2, 3, false, 0, false, 0, false⟩ : TS) 1 = (⟨[97, 98, 99], 3, 3, false, 0, false, 0, false⟩ : TS) := by kernel_rfl
  rw [es_] at hT71
  have hz_w70 := hT71.size
  refine rw_end ?_
  refine w_seq ?_
  refine w_region ?_
  refine rw_val (v := .pointer (some ⟨g1, 0, none⟩)) (w' := w70) rfl rfl rfl rfl rfl ?_
  refine rw_call rfl rfl rfl rfl (f := 15) (args := #[.pointer (some ⟨g1, 0, none⟩)]) (by simp [go_sem, sEv, sLook, nbeq, i64_w, -List.getD_eq_getElem?_getD]) (read_T w w70 g1 w70.heap.size (fun _ => False) (fun q h_ => h_.elim) (⟨[97, 98, 99], 3, 3, false, 0, false, 0, false⟩ : TS) hT71 (okB_ok (by decide +kernel))) ?_
  rintro e_ w77 ⟨A74, n75, c76, rfl, hO78, hB79⟩
  refine ⟨_, rfl, ?_⟩
  have hl80 : n75 = [97, 98, 99].length := Own.len hO78
  subst hl80
  have hs_w77 := hB79.size
  have hL81 : OwnK (Kd.int .u8) 5 w77 w.heap.size w70.heap.size A74 [97, 98, 99].length c76 [97, 98, 99] := OwnK.lower (d := (Kd.int .u8)) hO78 (by omega)
  refine rw_val (v := .string (strOfNums [97, 98, 99])) (w' := w77) rfl rfl rfl rfl (run_as (run_str_of (P := Try.prog) (e := 5) (by kernel_rfl) (by kernel_rfl) (by kernel_rfl) (Kd.C_below (OwnK.C (d := (Kd.int .u8)) hL81) (Below.refl _ _)))) ?_
  refine rw_val (v := .bool (decide (strOfNums [97, 98, 99] = (⟨#[97, 98, 99]⟩ : ByteArray)))) (w' := w77) rfl rfl rfl rfl (run_as (run_str_eql 9 _ _ _)) ?_
  refine rw_val (v := .bool (decide (strOfNums [97, 98, 99] = (⟨#[97, 98, 99]⟩ : ByteArray)))) (w' := w77) rfl rfl rfl rfl rfl ?_
  have hq82 : (decide (strOfNums [97, 98, 99] = (⟨#[97, 98, 99]⟩ : ByteArray))) = true := by decide +kernel
  refine rw_on (c := decide (strOfNums [97, 98, 99] = (⟨#[97, 98, 99]⟩ : ByteArray))) rfl rfl rfl (by first | (rw [hq82]; rfl) | simp [hq82]) ?_
  refine rw_val (v := .pointer (some ⟨g1, 0, none⟩)) (w' := w77) rfl rfl rfl rfl rfl ?_
  refine rw_on (c := decide (strOfNums [97, 98, 99] = (⟨#[97, 98, 99]⟩ : ByteArray))) rfl rfl rfl (by first | (rw [hq82]; rfl) | simp [hq82]) ?_
  refine rw_call rfl rfl rfl rfl (f := 16) (args := #[.pointer (some ⟨g1, 0, none⟩)]) (by simp [go_sem, sEv, sLook, nbeq, i64_w, -List.getD_eq_getElem?_getD]) (sure_T w w77 g1 w70.heap.size (fun _ => False) (fun q h_ => h_.elim) (⟨[97, 98, 99], 3, 3, false, 0, false, 0, false⟩ : TS) (TapeAt.on hT71 hB79) (okB_ok (by decide +kernel))) ?_
  rintro e_ w83 ⟨rfl, rfl⟩
  refine ⟨_, rfl, ?_⟩
  refine rw_on (c := decide (strOfNums [97, 98, 99] = (⟨#[97, 98, 99]⟩ : ByteArray))) rfl rfl rfl (by first | (rw [hq82]; rfl) | simp [hq82]) ?_
  refine rw_val (v := .bool true) (w' := w77) rfl rfl rfl rfl (by simp [go_sem, sEv, sLook, nbeq, i64_w, -List.getD_eq_getElem?_getD]) ?_
  refine rw_val (v := .bool true) (w' := w77) rfl rfl rfl rfl (by first | (simp [go_sem, sEv, sLook, nbeq, i64_w, -List.getD_eq_getElem?_getD, hq82]; done) | (rw [hq82]; simp [go_sem, sEv, sLook, nbeq, i64_w, -List.getD_eq_getElem?_getD]; done) | (simp [go_sem, sEv, sLook, nbeq, i64_w, -List.getD_eq_getElem?_getD] <;> omega) | (simp [go_sem, sEv, sLook, nbeq, i64_w, -List.getD_eq_getElem?_getD]; intro h_; exact absurd (by omega) h_)) ?_
  refine rw_val (v := .bool true) (w' := w77) rfl rfl rfl rfl rfl ?_
  refine rw_on (c := true) rfl rfl rfl rfl ?_
  refine rw_val (v := .pointer (some ⟨g1, 0, none⟩)) (w' := w77) rfl rfl rfl rfl rfl ?_
  refine rw_on (c := true) rfl rfl rfl rfl ?_
  refine rw_call rfl rfl rfl rfl (f := 19) (args := #[.pointer (some ⟨g1, 0, none⟩)]) (by simp [go_sem, sEv, sLook, nbeq, i64_w, -List.getD_eq_getElem?_getD]) (steps_T w w77 g1 w70.heap.size (fun _ => False) (fun q h_ => h_.elim) (⟨[97, 98, 99], 3, 3, false, 0, false, 0, false⟩ : TS) (TapeAt.on hT71 hB79) (okB_ok (by decide +kernel))) ?_
  rintro e_ w84 ⟨rfl, rfl⟩
  refine ⟨_, rfl, ?_⟩
  refine rw_on (c := true) rfl rfl rfl rfl ?_
  refine rw_val (v := .bool true) (w' := w77) rfl rfl rfl rfl (by simp [go_sem, sEv, sLook, nbeq, i64_w, -List.getD_eq_getElem?_getD]) ?_
  refine rw_val (v := .bool true) (w' := w77) rfl rfl rfl rfl (by simp [go_sem, sEv, sLook, nbeq, i64_w, -List.getD_eq_getElem?_getD]) ?_
  refine rw_val (v := .bool true) (w' := w77) rfl rfl rfl rfl rfl ?_
  refine rw_end ?_
  refine w_weaken (G' := [(0, .bool true)]) ⟨rfl, trivial⟩ ?_
  refine w_ret (post_ret1 rfl rfl ?_)
  exact ⟨rfl, (chain hT71.1 hB79)⟩
end Go.Proofs.Ytpbpeklbmmbigaa.Tp
