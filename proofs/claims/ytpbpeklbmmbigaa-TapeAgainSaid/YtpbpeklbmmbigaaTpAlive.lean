/- The fixed fact of the tape's laws: the walk. -/
import Derived.Test.YtpbpeklbmmbigaaTpLaw
namespace Go.Proofs.Ytpbpeklbmmbigaa.Tp
open Go.RowKit Go.Proofs.YtpbpeklbmmbigaaW.PrintWords Go.Proofs.YtpbpeklbmmbigaaW.PrintLast Go.Proofs.YtpbpeklbmmbigaaW.PrintMore
open Go.Proofs.Ytpbpeklbmmbigaa.Flow
set_option linter.unusedVariables false
set_option linter.unusedSimpArgs false


theorem new_on {w w1 w2 : World} {g : Nat} (hb : Below w.heap.size w w1) (h : TapeAt w1 w2 g w2.heap.size TS.start) : TapeAt w w2 g w2.heap.size (pl [] 0 0) := by
  obtain ⟨h1, h2, h3, A, n, c, h4, h5⟩ := h
  have hs := hb.size
  exact ⟨chain hb h1, by omega, h3, A, n, c, h4, BR.lower h5 hs⟩
set_option maxHeartbeats 4000000 in
theorem alive_calls  (w : World) :
    Calls Try.prog 10 #[] w fun e w' => e = .returned (.bool true) ∧ Below w.heap.size w w' := by
  refine calls_flow Try.func10 rfl 49 rfl (Nat.le_of_ble_eq_true rfl) [] ?_ ?_
  · intro t v h; exact args_look rfl t v h
  refine w_seq ?_
  refine w_region ?_
  refine rw_val (v := .bool false) (w' := w) rfl rfl rfl rfl rfl ?_
  refine rw_end ?_
  refine w_seq ?_
  refine w_region ?_
  refine rw_call rfl rfl rfl rfl (f := 11) (args := #[]) (by simp [go_sem, sEv, sLook, nbeq, i64_w]) (new_T w) ?_
  rintro e_ w2 ⟨g1, rfl, hT3_, hs4⟩
  refine ⟨_, rfl, ?_⟩
  have hT3 : TapeAt w w2 g1 w2.heap.size (pl [] 0 0) := new_on (Below.refl _ _) hT3_
  have hs_w2 := hT3.1.size
  refine rw_val (v := .pointer (some ⟨g1, 0, none⟩)) (w' := w2) rfl rfl rfl rfl rfl ?_
  refine rw_end ?_
  refine w_seq ?_
  refine w_seq ?_
  refine w_region ?_
  refine rw_val (v := .pointer (some ⟨g1, 0, none⟩)) (w' := w2) rfl rfl rfl rfl rfl ?_
  refine rw_val (v := .bool false) (w' := w2) rfl rfl rfl rfl (run_as (run_ptr_eql (e := 60) (by kernel_rfl) _ _)) ?_
  refine rw_val (v := .bool false) (w' := w2) rfl rfl rfl rfl rfl ?_
  refine rw_on (c := false) rfl rfl rfl rfl ?_
  refine rw_val (v := .pointer (some ⟨g1, 0, none⟩)) (w' := w2) rfl rfl rfl rfl rfl ?_
  refine rw_on (c := false) rfl rfl rfl rfl ?_
  refine rw_new (cs := #[.int .u8 97]) (t := 5) (fun g => .slice (some ⟨g, 0, none⟩) 1 1) rfl rfl rfl rfl (by kernel_rfl) ?_
  intro g5 w6 hg10 hz9 hb7 hk8
  have hs_w6 := hb7.size
  have hO11 : Nums .u8 #[.int .u8 97] [97] := (fun j hj => by
    match j, hj with
    | 0, _ => rfl
    | j + 1, hj => simp only [List.length_cons, List.length_nil] at hj; omega)
  refine rw_on (c := false) rfl rfl rfl rfl ?_
  obtain ⟨w12, hr13, hk14, hf15⟩ := conv_same (hk8) 1 1
  refine rw_val (v := .slice (some ⟨g5, 0, none⟩) 1 1) (w' := w12) rfl rfl rfl rfl (run_as hr13) ?_
  have hs_w12 := hk14.size
  refine rw_on (c := false) rfl rfl rfl rfl ?_
  refine rw_new (cs := #[.int .u8 98]) (t := 5) (fun g => .slice (some ⟨g, 0, none⟩) 1 1) rfl rfl rfl rfl (by kernel_rfl) ?_
  intro g16 w17 hg21 hz20 hb18 hk19
  have hs_w17 := hb18.size
  have hO22 : Nums .u8 #[.int .u8 98] [98] := (fun j hj => by
    match j, hj with
    | 0, _ => rfl
    | j + 1, hj => simp only [List.length_cons, List.length_nil] at hj; omega)
  refine rw_on (c := false) rfl rfl rfl rfl ?_
  obtain ⟨w23, hr24, hk25, hf26⟩ := conv_same (hk19) 1 1
  refine rw_val (v := .slice (some ⟨g16, 0, none⟩) 1 1) (w' := w23) rfl rfl rfl rfl (run_as hr24) ?_
  have hs_w23 := hk25.size
  refine rw_on (c := false) rfl rfl rfl rfl ?_
  refine rw_new (cs := #[.slice (some ⟨g5, 0, none⟩) 1 1, .slice (some ⟨g16, 0, none⟩) 1 1]) (t := 27) (fun g => .slice (some ⟨g, 0, none⟩) 2 2) rfl rfl rfl rfl (by kernel_rfl) ?_
  intro g27 w28 hg32 hz31 hb29 hk30
  have hs_w28 := hb29.size
  refine rw_on (c := false) rfl rfl rfl rfl ?_
  refine rw_call rfl rfl rfl rfl (f := 12) (args := #[.pointer (some ⟨g1, 0, none⟩), .slice (some ⟨g27, 0, none⟩) 2 2]) (by simp [go_sem, sEv, sLook, nbeq, i64_w]) (append_pl w w28 g1 w2.heap.size [] 0 0 (TapeAt.on hT3 (chain (hk25.below (by omega) (chain (hk14.below (by omega) hb7) hb18)) hb29)) (by simp) (by simp) (by simp) _ [[97], [98]] 2 (rowsK2 (hk30) (fun hq => by omega) (by simp) (FB.K (FB.on (FB.keep (FB.on hf15 hb18) hk25 (by omega)) hb29) hO11 (by first | omega | simp) (fun hq => by (try simp only at hq); omega)) (by simp) (FB.K (FB.on hf26 hb29) hO22 (by first | omega | simp) (fun hq => by (try simp only at hq); omega))) (by simp) (by simp) (by simp)) ?_
  rintro e_ w33 ⟨rfl, hT34, hs35⟩
  refine ⟨_, rfl, ?_⟩
  have hs_w33 := hT34.1.size
  have hT34_ : TapeAt w w33 g1 w33.heap.size (pl [97, 98] 0 1) := by have h_ := hT34; simpa using h_
  refine rw_on (c := false) rfl rfl rfl rfl ?_
  refine rw_val (v := .bool ((none : Option Int).isSome)) (w' := w33) rfl rfl rfl rfl (run_as (guard_err_neq _ (none : Option Int) _)) ?_
  refine rw_val (v := .bool ((none : Option Int).isSome)) (w' := w33) rfl rfl rfl rfl (by simp [go_sem, sEv, sLook, nbeq, i64_w]) ?_
  refine rw_val (v := .bool ((none : Option Int).isSome)) (w' := w33) rfl rfl rfl rfl rfl ?_
  have hq36 : ((none : Option Int).isSome) = false := by rfl
  refine rw_on (c := (none : Option Int).isSome) rfl rfl rfl (by simp [hq36]) ?_
  refine rw_val (v := .pointer (some ⟨g1, 0, none⟩)) (w' := w33) rfl rfl rfl rfl rfl ?_
  refine rw_on (c := (none : Option Int).isSome) rfl rfl rfl (by simp [hq36]) ?_
  refine rw_call rfl rfl rfl rfl (f := 13) (args := #[.pointer (some ⟨g1, 0, none⟩)]) (by simp [go_sem, sEv, sLook, nbeq, i64_w]) (sync_pl w w33 g1 w33.heap.size [97, 98] 0 1 hT34_ (by simp) (by simp) (by simp)) ?_
  rintro e_ w37 ⟨rfl, hT38, hs39⟩
  refine ⟨_, rfl, ?_⟩
  have hs_w37 := hT38.1.size
  have hT38_ : TapeAt w w37 g1 w37.heap.size (pl [97, 98] 2 2) := by have h_ := hT38; simpa using h_
  refine rw_on (c := (none : Option Int).isSome) rfl rfl rfl (by simp [hq36]) ?_
  refine rw_val (v := .bool ((none : Option Int).isSome)) (w' := w37) rfl rfl rfl rfl (run_as (guard_err_neq _ (none : Option Int) _)) ?_
  refine rw_val (v := .bool ((none : Option Int).isSome)) (w' := w37) rfl rfl rfl rfl (by simp [go_sem, sEv, sLook, nbeq, i64_w, hq36]) ?_
  refine rw_val (v := .bool ((none : Option Int).isSome)) (w' := w37) rfl rfl rfl rfl rfl ?_
  refine rw_on (c := (none : Option Int).isSome) rfl rfl rfl (by simp [hq36]) ?_
  refine rw_val (v := .pointer (some ⟨g1, 0, none⟩)) (w' := w37) rfl rfl rfl rfl rfl ?_
  refine rw_on (c := (none : Option Int).isSome) rfl rfl rfl (by simp [hq36]) ?_
  refine rw_new (cs := #[.int .u8 99, .int .u8 100]) (t := 5) (fun g => .slice (some ⟨g, 0, none⟩) 2 2) rfl rfl rfl rfl (by kernel_rfl) ?_
  intro g40 w41 hg45 hz44 hb42 hk43
  have hs_w41 := hb42.size
  have hO46 : Nums .u8 #[.int .u8 99, .int .u8 100] [99, 100] := (fun j hj => by
    match j, hj with
    | 0, _ => rfl
    | 1, _ => rfl
    | j + 2, hj => simp only [List.length_cons, List.length_nil] at hj; omega)
  refine rw_on (c := (none : Option Int).isSome) rfl rfl rfl (by simp [hq36]) ?_
  obtain ⟨w47, hr48, hk49, hf50⟩ := conv_same (hk43) 2 2
  refine rw_val (v := .slice (some ⟨g40, 0, none⟩) 2 2) (w' := w47) rfl rfl rfl rfl (run_as hr48) ?_
  have hs_w47 := hk49.size
  refine rw_on (c := (none : Option Int).isSome) rfl rfl rfl (by simp [hq36]) ?_
  refine rw_new (cs := #[.slice (some ⟨g40, 0, none⟩) 2 2]) (t := 27) (fun g => .slice (some ⟨g, 0, none⟩) 1 1) rfl rfl rfl rfl (by kernel_rfl) ?_
  intro g51 w52 hg56 hz55 hb53 hk54
  have hs_w52 := hb53.size
  refine rw_on (c := (none : Option Int).isSome) rfl rfl rfl (by simp [hq36]) ?_
  refine rw_call rfl rfl rfl rfl (f := 12) (args := #[.pointer (some ⟨g1, 0, none⟩), .slice (some ⟨g51, 0, none⟩) 1 1]) (by simp [go_sem, sEv, sLook, nbeq, i64_w]) (append_pl w w52 g1 w37.heap.size [97, 98] 2 2 (TapeAt.on hT38_ (chain (hk49.below (by omega) hb42) hb53)) (by simp) (by simp) (by simp) _ [[99, 100]] 1 (rowsK1 (hk54) (fun hq => by omega) (by simp) (FB.K (FB.on hf50 hb53) hO46 (by first | omega | simp) (fun hq => by (try simp only at hq); omega))) (by simp) (by simp) (by simp)) ?_
  rintro e_ w57 ⟨rfl, hT58, hs59⟩
  refine ⟨_, rfl, ?_⟩
  have hs_w57 := hT58.1.size
  have hT58_ : TapeAt w w57 g1 w57.heap.size (pl [97, 98, 99, 100] 2 3) := by have h_ := hT58; simpa using h_
  refine rw_on (c := (none : Option Int).isSome) rfl rfl rfl (by simp [hq36]) ?_
  refine rw_val (v := .bool ((none : Option Int).isSome)) (w' := w57) rfl rfl rfl rfl (run_as (guard_err_neq _ (none : Option Int) _)) ?_
  refine rw_val (v := .bool ((none : Option Int).isSome)) (w' := w57) rfl rfl rfl rfl (by simp [go_sem, sEv, sLook, nbeq, i64_w, hq36]) ?_
  refine rw_val (v := .bool ((none : Option Int).isSome)) (w' := w57) rfl rfl rfl rfl rfl ?_
  refine rw_on (c := (none : Option Int).isSome) rfl rfl rfl (by simp [hq36]) ?_
  refine rw_val (v := .pointer (some ⟨g1, 0, none⟩)) (w' := w57) rfl rfl rfl rfl rfl ?_
  refine rw_on (c := (none : Option Int).isSome) rfl rfl rfl (by simp [hq36]) ?_
  refine rw_call rfl rfl rfl rfl (f := 16) (args := #[.pointer (some ⟨g1, 0, none⟩)]) (by simp [go_sem, sEv, sLook, nbeq, i64_w]) (sure_pl w w57 g1 w57.heap.size [97, 98, 99, 100] 2 3 hT58_ (by simp) (by simp) (by simp)) ?_
  rintro e_ w60 ⟨rfl, rfl⟩
  refine ⟨_, rfl, ?_⟩
  refine rw_on (c := (none : Option Int).isSome) rfl rfl rfl (by simp [hq36]) ?_
  refine rw_val (v := .bool false) (w' := w57) rfl rfl rfl rfl (by simp [go_sem, sEv, sLook, nbeq, i64_w]) ?_
  refine rw_val (v := .bool false) (w' := w57) rfl rfl rfl rfl (by simp [go_sem, sEv, sLook, nbeq, i64_w, hq36]) ?_
  refine rw_end ?_
  refine w_weaken (G' := [(0, .bool false), (1, .pointer (some ⟨g1, 0, none⟩)), (32, .bool false)]) ⟨rfl, rfl, rfl, trivial⟩ ?_
  refine w_cond_f rfl rfl rfl ?_
  refine w_skip ?_
  refine w_seq ?_
  refine w_region ?_
  refine rw_val (v := .pointer (some ⟨g1, 0, none⟩)) (w' := w57) rfl rfl rfl rfl rfl ?_
  refine rw_call rfl rfl rfl rfl (f := 14) (args := #[.pointer (some ⟨g1, 0, none⟩), .int .i64 1]) (by simp [go_sem, sEv, sLook, nbeq, i64_w]) (crash_pl w w57 g1 w57.heap.size [97, 98, 99, 100] 2 3 hT58_ (by simp) (by simp) (by simp) 1 [97, 98, 99] (by decide +kernel)) ?_
  rintro e_ w61 ⟨rfl, hT62, hs63⟩
  refine ⟨.tuple #[], rfl, ?_⟩
  have hs_w61 := hT62.1.size
  have hT62_ : TapeAt w w61 g1 w61.heap.size (pl [97, 98, 99] 3 3) := by have h_ := hT62; simpa using h_
  refine rw_end ?_
  refine w_seq ?_
  refine w_region ?_
  refine rw_val (v := .pointer (some ⟨g1, 0, none⟩)) (w' := w61) rfl rfl rfl rfl rfl ?_
  refine rw_call rfl rfl rfl rfl (f := 15) (args := #[.pointer (some ⟨g1, 0, none⟩)]) (by simp [go_sem, sEv, sLook, nbeq, i64_w]) (read_pl w w61 g1 w61.heap.size [97, 98, 99] 3 3 hT62_ (by simp) (by simp) (by simp)) ?_
  rintro e_ w67 ⟨A64, n65, c66, rfl, hO68, hB69⟩
  refine ⟨_, rfl, ?_⟩
  have hs_w67 := hB69.size
  have hL70 : Own .u8 5 w67 w.heap.size w61.heap.size A64 n65 c66 [97, 98, 99] := Own.lower hO68 (by omega)
  refine rw_val (v := .string (strOfNums [97, 98, 99])) (w' := w67) rfl rfl rfl rfl (run_as (run_str_of (P := Try.prog) (e := 5) (by kernel_rfl) (by kernel_rfl) (by kernel_rfl) (show (Kd.int .u8).C _ _ n65 [97, 98, 99] by rw [hL70.len]; exact (Own.C (hL70.on (Below.refl _ _)))))) ?_
  refine rw_val (v := .bool (decide (strOfNums [97, 98, 99] = (⟨#[97, 98, 99]⟩ : ByteArray)))) (w' := w67) rfl rfl rfl rfl (run_as (run_str_eql 9 _ _ _)) ?_
  refine rw_val (v := .bool (decide (strOfNums [97, 98, 99] = (⟨#[97, 98, 99]⟩ : ByteArray)))) (w' := w67) rfl rfl rfl rfl rfl ?_
  have hq71 : (decide (strOfNums [97, 98, 99] = (⟨#[97, 98, 99]⟩ : ByteArray))) = true := by decide +kernel
  refine rw_on (c := decide (strOfNums [97, 98, 99] = (⟨#[97, 98, 99]⟩ : ByteArray))) rfl rfl rfl (by simp [hq71]) ?_
  refine rw_val (v := .pointer (some ⟨g1, 0, none⟩)) (w' := w67) rfl rfl rfl rfl rfl ?_
  refine rw_on (c := decide (strOfNums [97, 98, 99] = (⟨#[97, 98, 99]⟩ : ByteArray))) rfl rfl rfl (by simp [hq71]) ?_
  refine rw_call rfl rfl rfl rfl (f := 16) (args := #[.pointer (some ⟨g1, 0, none⟩)]) (by simp [go_sem, sEv, sLook, nbeq, i64_w]) (sure_pl w w67 g1 w61.heap.size [97, 98, 99] 3 3 (TapeAt.on hT62_ hB69) (by simp) (by simp) (by simp)) ?_
  rintro e_ w72 ⟨rfl, rfl⟩
  refine ⟨_, rfl, ?_⟩
  refine rw_on (c := decide (strOfNums [97, 98, 99] = (⟨#[97, 98, 99]⟩ : ByteArray))) rfl rfl rfl (by simp [hq71]) ?_
  refine rw_val (v := .bool true) (w' := w67) rfl rfl rfl rfl (by simp [go_sem, sEv, sLook, nbeq, i64_w]) ?_
  refine rw_val (v := .bool true) (w' := w67) rfl rfl rfl rfl (by simp [go_sem, sEv, sLook, nbeq, i64_w, hq71]) ?_
  refine rw_val (v := .bool true) (w' := w67) rfl rfl rfl rfl rfl ?_
  refine rw_on (c := true) rfl rfl rfl rfl ?_
  refine rw_val (v := .pointer (some ⟨g1, 0, none⟩)) (w' := w67) rfl rfl rfl rfl rfl ?_
  refine rw_on (c := true) rfl rfl rfl rfl ?_
  refine rw_call rfl rfl rfl rfl (f := 19) (args := #[.pointer (some ⟨g1, 0, none⟩)]) (by simp [go_sem, sEv, sLook, nbeq, i64_w]) (steps_pl w w67 g1 w61.heap.size [97, 98, 99] 3 3 (TapeAt.on hT62_ hB69) (by simp) (by simp) (by simp)) ?_
  rintro e_ w73 ⟨rfl, rfl⟩
  refine ⟨_, rfl, ?_⟩
  refine rw_on (c := true) rfl rfl rfl rfl ?_
  refine rw_val (v := .bool true) (w' := w67) rfl rfl rfl rfl (by simp [go_sem, sEv, sLook, nbeq, i64_w]) ?_
  refine rw_val (v := .bool true) (w' := w67) rfl rfl rfl rfl (by simp [go_sem, sEv, sLook, nbeq, i64_w]) ?_
  refine rw_val (v := .bool true) (w' := w67) rfl rfl rfl rfl rfl ?_
  refine rw_end ?_
  refine w_weaken (G' := [(0, .bool true)]) ⟨rfl, trivial⟩ ?_
  refine w_ret (post_ret1 rfl rfl ?_)
  exact ⟨rfl, (chain hT62_.1 hB69)⟩
end Go.Proofs.Ytpbpeklbmmbigaa.Tp
