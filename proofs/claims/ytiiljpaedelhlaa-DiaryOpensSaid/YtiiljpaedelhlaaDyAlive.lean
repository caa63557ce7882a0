/- The fixed fact of the diary's laws: the walk. -/
import Derived.Test.YtiiljpaedelhlaaDyLaw
namespace Go.Proofs.Ytiiljpaedelhlaa.Tp
open Go.RowKit Go.Proofs.YtiiljpaedelhlaaW.PrintWords Go.Proofs.YtiiljpaedelhlaaW.PrintLast Go.Proofs.YtiiljpaedelhlaaW.PrintMore
open Go.Proofs.Ytiiljpaedelhlaa.Flow
open Go.Proofs.Ytiiljpaedelhlaa.PDiaryPlays (SplitR Bytes frameB frameE FC wholeP errW wrap_calls split_calls frameB_len frameB_bytes)
set_option linter.unusedVariables false
set_option linter.unusedSimpArgs false


theorem run_err_neqs (o : Option Int) (c : Int) (w : World) : (binOp .neq 29 (errT o) (.iface 50 (.int .i64 c))).run Try.prog w = .ok (.bool (!decide (o = some c))) w := by
  cases o with
  | none =>
    have h : (binOp .neq 29 .nilIface (.iface 50 (.int .i64 c))).run Try.prog w = .ok (.bool true) w := by kernel_rfl
    simpa [errT] using h
  | some d =>
    have e : (!decide (some d = some c)) = (d != c) := by
      rw [Bool.eq_iff_iff]
      simp
    rw [e]
    have h1 := int_step 9998 d c w
    have h2 : (Op.equalIn Op.maxDepth 29 (errT (some d)) (.iface 50 (.int .i64 c))).run Try.prog w = .ok (d == c) w := h1
    simp only [errT] at h2 ⊢
    simp [binOp, Op.equal, h2]
    simp only [bne, Bool.not_not]
theorem guard_err_neqs (t u : Nat) (o : Option Int) (c : Int) (w : World) : (do eqGuard .neq 29 (.tmp t) (.tmp u) (errT o) (.iface 50 (.int .i64 c)); binOp .neq 29 (errT o) (.iface 50 (.int .i64 c)) : Sem Value).run Try.prog w = .ok (.bool (!decide (o = some c))) w := by
  have h := run_err_neqs o c w
  cases o with
  | none => simpa [eqGuard, errT] using h
  | some d => simpa [eqGuard, errT] using h
set_option maxHeartbeats 4000000 in
theorem alive_calls  (w : World) :
    Calls Try.prog 9 #[] w fun e w' => e = .returned (.bool true) ∧ Below w.heap.size w w' := by
  refine calls_flow Try.func9 rfl 72 rfl (Nat.le_of_ble_eq_true rfl) [] ?_ ?_
  · intro t v h; exact args_look rfl t v h
  refine w_seq ?_
  refine w_region ?_
  refine rw_val (v := .bool false) (w' := w) rfl rfl rfl rfl rfl ?_
  refine rw_end ?_
  refine w_seq ?_
  refine w_region ?_
  refine rw_call rfl rfl rfl rfl (f := 10) (args := #[]) (by simp [go_sem, sEv, sLook, nbeq, i64_w, -List.getD_eq_getElem?_getD]) (new_T w) ?_
  rintro e_ w2 ⟨g1, rfl, hT3, hs4⟩
  refine ⟨_, rfl, ?_⟩
  have hT3o : TapeAt w w2 g1 w2.heap.size g1 TS.start := new_on (Below.refl _ _) hT3
  have hz_w2 := hT3o.size
  refine rw_val (v := .pointer (some ⟨g1, 0, none⟩)) (w' := w2) rfl rfl rfl rfl rfl ?_
  refine rw_end ?_
  refine w_seq ?_
  refine w_region ?_
  refine rw_val (v := .pointer (some ⟨g1, 0, none⟩)) (w' := w2) rfl rfl rfl rfl rfl ?_
  refine rw_call rfl rfl rfl rfl (f := 11) (args := #[.pointer (some ⟨g1, 0, none⟩)]) (by simp [go_sem, sEv, sLook, nbeq, i64_w, -List.getD_eq_getElem?_getD]) (open_full w w2 g1 w2.heap.size g1 (by omega) TS.start hT3o (okB_ok (by decide +kernel)) ([] : List (List Int)) (by rfl) (by intro r hr; cases hr) (by intro r hr; cases hr) rfl) ?_
  rintro e_ w9 ⟨gd5, m6, A7, c8, rfl, hD10, hO11, hs12, hK14⟩
  refine ⟨_, rfl, ?_⟩
  obtain ⟨hD10t, hD10b, hD10g, hD10z⟩ := hD10
  have hz_w9 := hD10t.size
  have hlt_w9 := hD10b.lt
  have hL13 : OwnK (Kd.slice 5 (Kd.int .u8)) 32 w9 w.heap.size w.heap.size A7 (([] : List (List Int))).length c8 ([] : List (List Int)) := OwnK.mono (d := (Kd.slice 5 (Kd.int .u8))) (OwnK.lower (d := (Kd.slice 5 (Kd.int .u8))) hO11 (by omega)) (by omega)
  refine rw_val (v := .tuple #[.pointer (some ⟨gd5, 0, none⟩), .slice A7 ((([] : List (List Int))).length) c8, errT none]) (w' := w9) rfl rfl rfl rfl rfl ?_
  refine rw_val (v := .pointer (some ⟨gd5, 0, none⟩)) (w' := w9) rfl rfl rfl rfl (by simp [go_sem, sEv, sLook, nbeq, i64_w, -List.getD_eq_getElem?_getD]) ?_
  refine rw_val (v := .slice A7 ((([] : List (List Int))).length) c8) (w' := w9) rfl rfl rfl rfl (by simp [go_sem, sEv, sLook, nbeq, i64_w, -List.getD_eq_getElem?_getD]) ?_
  refine rw_val (v := errT none) (w' := w9) rfl rfl rfl rfl (by simp [go_sem, sEv, sLook, nbeq, i64_w, -List.getD_eq_getElem?_getD]) ?_
  refine rw_val (v := .pointer (some ⟨gd5, 0, none⟩)) (w' := w9) rfl rfl rfl rfl rfl ?_
  refine rw_val (v := .slice A7 ((([] : List (List Int))).length) c8) (w' := w9) rfl rfl rfl rfl rfl ?_
  refine rw_val (v := errT none) (w' := w9) rfl rfl rfl rfl rfl ?_
  refine rw_end ?_
  refine w_weaken (G' := [(0, .bool false), (1, .pointer (some ⟨g1, 0, none⟩)), (2, .pointer (some ⟨gd5, 0, none⟩)), (3, .slice A7 ((([] : List (List Int))).length) c8), (4, errT none)]) ⟨rfl, rfl, rfl, rfl, rfl, trivial⟩ ?_
  refine w_seq ?_
  refine w_seq ?_
  refine w_region ?_
  refine rw_val (v := errT none) (w' := w9) rfl rfl rfl rfl rfl ?_
  refine rw_val (v := .bool ((none : Option Int).isSome)) (w' := w9) rfl rfl rfl rfl (run_as (guard_err_neq _ (none : Option Int) _)) ?_
  refine rw_val (v := .bool ((none : Option Int).isSome)) (w' := w9) rfl rfl rfl rfl rfl ?_
  have hq15 : ((none : Option Int).isSome) = false := by rfl
  refine rw_on (c := (none : Option Int).isSome) rfl rfl rfl (by first | (rw [hq15]; rfl) | simp [hq15]) ?_
  refine rw_val (v := .pointer (some ⟨gd5, 0, none⟩)) (w' := w9) rfl rfl rfl rfl rfl ?_
  refine rw_on (c := (none : Option Int).isSome) rfl rfl rfl (by first | (rw [hq15]; rfl) | simp [hq15]) ?_
  refine rw_val (v := .bool false) (w' := w9) rfl rfl rfl rfl (run_as (run_ptr_eql (e := 80) (by kernel_rfl) _ _)) ?_
  refine rw_val (v := .bool false) (w' := w9) rfl rfl rfl rfl (by first | (simp [go_sem, sEv, sLook, nbeq, i64_w, -List.getD_eq_getElem?_getD, hq15]; done) | (rw [hq15]; simp [go_sem, sEv, sLook, nbeq, i64_w, -List.getD_eq_getElem?_getD]; done) | (simp [go_sem, sEv, sLook, nbeq, i64_w, -List.getD_eq_getElem?_getD] <;> omega) | (simp [go_sem, sEv, sLook, nbeq, i64_w, -List.getD_eq_getElem?_getD]; intro h_; exact absurd (by omega) h_)) ?_
  refine rw_val (v := .bool false) (w' := w9) rfl rfl rfl rfl rfl ?_
  refine rw_on (c := false) rfl rfl rfl rfl ?_
  refine rw_val (v := .slice A7 ((([] : List (List Int))).length) c8) (w' := w9) rfl rfl rfl rfl rfl ?_
  refine rw_on (c := false) rfl rfl rfl rfl ?_
  refine rw_val (v := .int .i64 (((([] : List (List Int))).length : Nat) : Int)) (w' := w9) rfl rfl rfl rfl (by simp [go_sem, sEv, sLook, nbeq, i64_w, -List.getD_eq_getElem?_getD]) ?_
  refine rw_on (c := false) rfl rfl rfl rfl ?_
  refine rw_val (v := .bool ((((([] : List (List Int))).length : Nat) : Int) != 0)) (w' := w9) rfl rfl rfl rfl (by simp [go_sem, sEv, sLook, nbeq, i64_w, -List.getD_eq_getElem?_getD]) ?_
  refine rw_val (v := .bool ((((([] : List (List Int))).length : Nat) : Int) != 0)) (w' := w9) rfl rfl rfl rfl (by simp [go_sem, sEv, sLook, nbeq, i64_w, -List.getD_eq_getElem?_getD]) ?_
  refine rw_val (v := .bool ((((([] : List (List Int))).length : Nat) : Int) != 0)) (w' := w9) rfl rfl rfl rfl rfl ?_
  have hq16 : ((((([] : List (List Int))).length : Nat) : Int) != 0) = false := by rfl
  refine rw_on (c := ((((([] : List (List Int))).length : Nat) : Int) != 0)) rfl rfl rfl (by first | (rw [hq16]; rfl) | simp [hq16]) ?_
  refine rw_val (v := .pointer (some ⟨gd5, 0, none⟩)) (w' := w9) rfl rfl rfl rfl rfl ?_
  refine rw_on (c := ((((([] : List (List Int))).length : Nat) : Int) != 0)) rfl rfl rfl (by first | (rw [hq16]; rfl) | simp [hq16]) ?_
  refine rw_new (cs := #[.int .u8 97]) (t := 5) (fun g => .slice (some ⟨g, 0, none⟩) 1 1) rfl rfl rfl rfl (by kernel_rfl) ?_
  intro g17 w18 hg22 hz21 hb19 hk20
  have hs_w18 := hb19.size
  have hk20r : OwnK (Kd.int .u8) 5 w18 w.heap.size g17 (some ⟨g17, 0, none⟩) 1 1 ([97] : List Int) := scal_own w.heap.size hk20 (by omega) rfl rfl (by decide)
  refine rw_on (c := ((((([] : List (List Int))).length : Nat) : Int) != 0)) rfl rfl rfl (by first | (rw [hq16]; rfl) | simp [hq16]) ?_
  obtain ⟨w23, hr24, hk25, hf26⟩ := conv_same hk20 1 1
  refine rw_val (v := .slice (some ⟨g17, 0, none⟩) 1 1) (w' := w23) rfl rfl rfl rfl (run_as hr24) ?_
  have hs_w23 := hk25.size
  have hC27 : (Kd.int .u8).C w23 (some ⟨g17, 0, none⟩) 1 ([97] : List Int) := FB.C hf26 (fun j hj => by
    match j, hj with
    | 0, _ => rfl
    | j + 1, hj => simp only [List.length_cons, List.length_nil] at hj; omega) (by decide)
  refine rw_on (c := ((((([] : List (List Int))).length : Nat) : Int) != 0)) rfl rfl rfl (by first | (rw [hq16]; rfl) | simp [hq16]) ?_
  refine rw_call rfl rfl rfl rfl (f := 12) (args := #[.pointer (some ⟨gd5, 0, none⟩), .slice (some ⟨g17, 0, none⟩) 1 1]) (by simp [go_sem, sEv, sLook, nbeq, i64_w, -List.getD_eq_getElem?_getD]) (add_D w w23 g1 gd5 m6 (⟨TS.start, ((([] : List (List Int))).length : Int), ((FC ([] : List (List Int))).length : Int)⟩ : DS) ⟨(TapeAt.far (TapeAt.on hD10t hb19) hk25 (by omega) (by omega)), ((hD10b.on hb19).keep hk25 (by omega)), hD10g, hD10z⟩ (okB_ok (by decide +kernel)) (by decide +kernel) (by decide +kernel) (by decide +kernel) (some ⟨g17, 0, none⟩) 1 ([97] : List Int) (Kd.C_below hC27 (Below.refl _ _)) (Nat.le_refl _) (by first | omega | (simp only [List.length_cons, List.length_nil]; omega))) ?_
  rintro e_ w30 ⟨rfl, m29, hD31, hs32⟩
  refine ⟨errT ((⟨TS.start, ((([] : List (List Int))).length : Int), ((FC ([] : List (List Int))).length : Int)⟩ : DS).addE ([97] : List Int)), rfl, ?_⟩
  obtain ⟨hD31t, hD31b, hD31g, hD31z⟩ := hD31
  have hz_w30 := hD31t.size
  have hlt_w30 := hD31b.lt
  refine rw_on (c := ((((([] : List (List Int))).length : Nat) : Int) != 0)) rfl rfl rfl (by first | (rw [hq16]; rfl) | simp [hq16]) ?_
  refine rw_val (v := .bool (((⟨TS.start, ((([] : List (List Int))).length : Int), ((FC ([] : List (List Int))).length : Int)⟩ : DS).addE ([97] : List Int)).isSome)) (w' := w30) rfl rfl rfl rfl (run_as (guard_err_neq _ ((⟨TS.start, ((([] : List (List Int))).length : Int), ((FC ([] : List (List Int))).length : Int)⟩ : DS).addE ([97] : List Int)) _)) ?_
  refine rw_val (v := .bool (((⟨TS.start, ((([] : List (List Int))).length : Int), ((FC ([] : List (List Int))).length : Int)⟩ : DS).addE ([97] : List Int)).isSome)) (w' := w30) rfl rfl rfl rfl (by first | (simp [go_sem, sEv, sLook, nbeq, i64_w, -List.getD_eq_getElem?_getD, hq16]; done) | (rw [hq16]; simp [go_sem, sEv, sLook, nbeq, i64_w, -List.getD_eq_getElem?_getD]; done) | (simp [go_sem, sEv, sLook, nbeq, i64_w, -List.getD_eq_getElem?_getD] <;> omega) | (simp [go_sem, sEv, sLook, nbeq, i64_w, -List.getD_eq_getElem?_getD]; intro h_; exact absurd (by omega) h_)) ?_
  refine rw_val (v := .bool (((⟨TS.start, ((([] : List (List Int))).length : Int), ((FC ([] : List (List Int))).length : Int)⟩ : DS).addE ([97] : List Int)).isSome)) (w' := w30) rfl rfl rfl rfl rfl ?_
  have hq33 : (((⟨TS.start, ((([] : List (List Int))).length : Int), ((FC ([] : List (List Int))).length : Int)⟩ : DS).addE ([97] : List Int)).isSome) = false := by kernel_rfl
  refine rw_on (c := ((⟨TS.start, ((([] : List (List Int))).length : Int), ((FC ([] : List (List Int))).length : Int)⟩ : DS).addE ([97] : List Int)).isSome) rfl rfl rfl (by first | (rw [hq33]; rfl) | simp [hq33]) ?_
  refine rw_val (v := .pointer (some ⟨g1, 0, none⟩)) (w' := w30) rfl rfl rfl rfl rfl ?_
  refine rw_on (c := ((⟨TS.start, ((([] : List (List Int))).length : Int), ((FC ([] : List (List Int))).length : Int)⟩ : DS).addE ([97] : List Int)).isSome) rfl rfl rfl (by first | (rw [hq33]; rfl) | simp [hq33]) ?_
  refine rw_call rfl rfl rfl rfl (f := 19) (args := #[.pointer (some ⟨g1, 0, none⟩), .int .i64 1]) (by simp [go_sem, sEv, sLook, nbeq, i64_w, -List.getD_eq_getElem?_getD]) (arm_T w w30 g1 m29 gd5 (by omega) (((⟨TS.start, ((([] : List (List Int))).length : Int), ((FC ([] : List (List Int))).length : Int)⟩ : DS).add ([97] : List Int)).s) hD31t (okB_ok (by decide +kernel)) 1 rfl) ?_
  rintro e_ w34 ⟨rfl, hT35, hs36, hx37⟩
  refine ⟨_, rfl, ?_⟩
  have hz_w34 := hT35.size
  have hk_w34 : Blk w34 gd5 80 _ := (hx37 hD31g).trans (hD31b)
  have hlt_w34 := hk_w34.lt
  refine rw_on (c := ((⟨TS.start, ((([] : List (List Int))).length : Int), ((FC ([] : List (List Int))).length : Int)⟩ : DS).addE ([97] : List Int)).isSome) rfl rfl rfl (by first | (rw [hq33]; rfl) | simp [hq33]) ?_
  refine rw_val (v := .bool ((none : Option Int).isSome)) (w' := w34) rfl rfl rfl rfl (run_as (guard_err_neq _ (none : Option Int) _)) ?_
  refine rw_val (v := .bool ((none : Option Int).isSome)) (w' := w34) rfl rfl rfl rfl (by first | (simp [go_sem, sEv, sLook, nbeq, i64_w, -List.getD_eq_getElem?_getD, hq33]; done) | (rw [hq33]; simp [go_sem, sEv, sLook, nbeq, i64_w, -List.getD_eq_getElem?_getD]; done) | (simp [go_sem, sEv, sLook, nbeq, i64_w, -List.getD_eq_getElem?_getD] <;> omega) | (simp [go_sem, sEv, sLook, nbeq, i64_w, -List.getD_eq_getElem?_getD]; intro h_; exact absurd (by omega) h_)) ?_
  refine rw_val (v := .bool ((none : Option Int).isSome)) (w' := w34) rfl rfl rfl rfl rfl ?_
  refine rw_on (c := (none : Option Int).isSome) rfl rfl rfl (by first | (rw [hq15]; rfl) | simp [hq15]) ?_
  refine rw_val (v := .pointer (some ⟨gd5, 0, none⟩)) (w' := w34) rfl rfl rfl rfl rfl ?_
  refine rw_on (c := (none : Option Int).isSome) rfl rfl rfl (by first | (rw [hq15]; rfl) | simp [hq15]) ?_
  refine rw_new (cs := #[.int .u8 98]) (t := 5) (fun g => .slice (some ⟨g, 0, none⟩) 1 1) rfl rfl rfl rfl (by kernel_rfl) ?_
  intro g38 w39 hg43 hz42 hb40 hk41
  have hs_w39 := hb40.size
  have hk41r : OwnK (Kd.int .u8) 5 w39 w.heap.size g38 (some ⟨g38, 0, none⟩) 1 1 ([98] : List Int) := scal_own w.heap.size hk41 (by omega) rfl rfl (by decide)
  refine rw_on (c := (none : Option Int).isSome) rfl rfl rfl (by first | (rw [hq15]; rfl) | simp [hq15]) ?_
  obtain ⟨w44, hr45, hk46, hf47⟩ := conv_same hk41 1 1
  refine rw_val (v := .slice (some ⟨g38, 0, none⟩) 1 1) (w' := w44) rfl rfl rfl rfl (run_as hr45) ?_
  have hs_w44 := hk46.size
  have hC48 : (Kd.int .u8).C w44 (some ⟨g38, 0, none⟩) 1 ([98] : List Int) := FB.C hf47 (fun j hj => by
    match j, hj with
    | 0, _ => rfl
    | j + 1, hj => simp only [List.length_cons, List.length_nil] at hj; omega) (by decide)
  refine rw_on (c := (none : Option Int).isSome) rfl rfl rfl (by first | (rw [hq15]; rfl) | simp [hq15]) ?_
  refine rw_call rfl rfl rfl rfl (f := 12) (args := #[.pointer (some ⟨gd5, 0, none⟩), .slice (some ⟨g38, 0, none⟩) 1 1]) (by simp [go_sem, sEv, sLook, nbeq, i64_w, -List.getD_eq_getElem?_getD]) (add_D w w44 g1 gd5 w34.heap.size (⟨({ ((⟨TS.start, ((([] : List (List Int))).length : Int), ((FC ([] : List (List Int))).length : Int)⟩ : DS).add ([97] : List Int)).s with ps := true, pl := 1 } : TS), ((⟨TS.start, ((([] : List (List Int))).length : Int), ((FC ([] : List (List Int))).length : Int)⟩ : DS).add ([97] : List Int)).r, ((⟨TS.start, ((([] : List (List Int))).length : Int), ((FC ([] : List (List Int))).length : Int)⟩ : DS).add ([97] : List Int)).b⟩ : DS) ⟨(TapeAt.far (TapeAt.on hT35 hb40) hk46 (by omega) (by omega)), ((hk_w34.on hb40).keep hk46 (by omega)), hD31g, hD31z⟩ (okB_ok (by decide +kernel)) (by decide +kernel) (by decide +kernel) (by decide +kernel) (some ⟨g38, 0, none⟩) 1 ([98] : List Int) (Kd.C_below hC48 (Below.refl _ _)) (Nat.le_refl _) (by first | omega | (simp only [List.length_cons, List.length_nil]; omega))) ?_
  rintro e_ w51 ⟨rfl, m50, hD52, hs53⟩
  refine ⟨errT ((⟨({ ((⟨TS.start, ((([] : List (List Int))).length : Int), ((FC ([] : List (List Int))).length : Int)⟩ : DS).add ([97] : List Int)).s with ps := true, pl := 1 } : TS), ((⟨TS.start, ((([] : List (List Int))).length : Int), ((FC ([] : List (List Int))).length : Int)⟩ : DS).add ([97] : List Int)).r, ((⟨TS.start, ((([] : List (List Int))).length : Int), ((FC ([] : List (List Int))).length : Int)⟩ : DS).add ([97] : List Int)).b⟩ : DS).addE ([98] : List Int)), rfl, ?_⟩
  obtain ⟨hD52t, hD52b, hD52g, hD52z⟩ := hD52
  have hz_w51 := hD52t.size
  have hlt_w51 := hD52b.lt
  refine rw_on (c := (none : Option Int).isSome) rfl rfl rfl (by first | (rw [hq15]; rfl) | simp [hq15]) ?_
  refine rw_val (v := errT (some 5)) (w' := w51) rfl rfl rfl rfl (by simp [go_sem, sEv, sLook, nbeq, i64_w, -List.getD_eq_getElem?_getD, errT]) ?_
  refine rw_on (c := (none : Option Int).isSome) rfl rfl rfl (by first | (rw [hq15]; rfl) | simp [hq15]) ?_
  refine rw_val (v := .bool false) (w' := w51) rfl rfl rfl rfl (run_bool (run_as (guard_err_neqs _ _ ((⟨({ ((⟨TS.start, ((([] : List (List Int))).length : Int), ((FC ([] : List (List Int))).length : Int)⟩ : DS).add ([97] : List Int)).s with ps := true, pl := 1 } : TS), ((⟨TS.start, ((([] : List (List Int))).length : Int), ((FC ([] : List (List Int))).length : Int)⟩ : DS).add ([97] : List Int)).r, ((⟨TS.start, ((([] : List (List Int))).length : Int), ((FC ([] : List (List Int))).length : Int)⟩ : DS).add ([97] : List Int)).b⟩ : DS).addE ([98] : List Int)) 5 _)) (by decide +kernel)) ?_
  refine rw_val (v := .bool false) (w' := w51) rfl rfl rfl rfl (by first | (simp [go_sem, sEv, sLook, nbeq, i64_w, -List.getD_eq_getElem?_getD, hq15]; done) | (rw [hq15]; simp [go_sem, sEv, sLook, nbeq, i64_w, -List.getD_eq_getElem?_getD]; done) | (simp [go_sem, sEv, sLook, nbeq, i64_w, -List.getD_eq_getElem?_getD] <;> omega) | (simp [go_sem, sEv, sLook, nbeq, i64_w, -List.getD_eq_getElem?_getD]; intro h_; exact absurd (by omega) h_)) ?_
  refine rw_end ?_
  refine w_weaken (G' := [(0, .bool false), (1, .pointer (some ⟨g1, 0, none⟩)), (3, .slice A7 ((([] : List (List Int))).length) c8), (4, errT none), (42, .bool false)]) ⟨rfl, rfl, rfl, rfl, rfl, trivial⟩ ?_
  refine w_cond_f rfl rfl rfl ?_
  refine w_skip ?_
  refine w_seq ?_
  refine w_region ?_
  refine rw_val (v := .pointer (some ⟨g1, 0, none⟩)) (w' := w51) rfl rfl rfl rfl rfl ?_
  refine rw_call rfl rfl rfl rfl (f := 22) (args := #[.pointer (some ⟨g1, 0, none⟩), .int .i64 100]) (by simp [go_sem, sEv, sLook, nbeq, i64_w, -List.getD_eq_getElem?_getD]) (crash_T w w51 g1 m50 gd5 (by omega) (((⟨({ ((⟨TS.start, ((([] : List (List Int))).length : Int), ((FC ([] : List (List Int))).length : Int)⟩ : DS).add ([97] : List Int)).s with ps := true, pl := 1 } : TS), ((⟨TS.start, ((([] : List (List Int))).length : Int), ((FC ([] : List (List Int))).length : Int)⟩ : DS).add ([97] : List Int)).r, ((⟨TS.start, ((([] : List (List Int))).length : Int), ((FC ([] : List (List Int))).length : Int)⟩ : DS).add ([97] : List Int)).b⟩ : DS).add ([98] : List Int)).s) hD52t (okB_ok (by decide +kernel)) 100) ?_
  rintro e_ w54 ⟨rfl, hT55, hs56, hx57⟩
  refine ⟨.tuple #[], rfl, ?_⟩
  have hz_w54 := hT55.size
  have hk_w54 : Blk w54 gd5 80 _ := (hx57 hD52g).trans (hD52b)
  have hlt_w54 := hk_w54.lt
  refine rw_end ?_
  refine w_seq ?_
  refine w_region ?_
  refine rw_val (v := .pointer (some ⟨g1, 0, none⟩)) (w' := w54) rfl rfl rfl rfl rfl ?_
  refine rw_call rfl rfl rfl rfl (f := 11) (args := #[.pointer (some ⟨g1, 0, none⟩)]) (by simp [go_sem, sEv, sLook, nbeq, i64_w, -List.getD_eq_getElem?_getD]) (open_full w w54 g1 w54.heap.size gd5 (by omega) (TS.crash (((⟨({ ((⟨TS.start, ((([] : List (List Int))).length : Int), ((FC ([] : List (List Int))).length : Int)⟩ : DS).add ([97] : List Int)).s with ps := true, pl := 1 } : TS), ((⟨TS.start, ((([] : List (List Int))).length : Int), ((FC ([] : List (List Int))).length : Int)⟩ : DS).add ([97] : List Int)).r, ((⟨TS.start, ((([] : List (List Int))).length : Int), ((FC ([] : List (List Int))).length : Int)⟩ : DS).add ([97] : List Int)).b⟩ : DS).add ([98] : List Int)).s) 100) hT55 (okB_ok (by decide +kernel)) ([[97], [98]] : List (List Int)) (by kernel_rfl) (by decide +kernel) (by intro r hr; simp only [List.mem_cons, List.not_mem_nil, or_false] at hr; rcases hr with rfl | rfl <;> (intro c hc; rw [List.mem_singleton.1 hc]; omega)) (by kernel_rfl)) ?_
  rintro e_ w62 ⟨gd58, m59, A60, c61, rfl, hD63, hO64, hs65, hK67⟩
  refine ⟨_, rfl, ?_⟩
  have hold_w62 : Blk w62 gd5 80 (dcells g1 (⟨(TS.crash (((⟨({ ((⟨TS.start, ((([] : List (List Int))).length : Int), ((FC ([] : List (List Int))).length : Int)⟩ : DS).add ([97] : List Int)).s with ps := true, pl := 1 } : TS), ((⟨TS.start, ((([] : List (List Int))).length : Int), ((FC ([] : List (List Int))).length : Int)⟩ : DS).add ([97] : List Int)).r, ((⟨TS.start, ((([] : List (List Int))).length : Int), ((FC ([] : List (List Int))).length : Int)⟩ : DS).add ([97] : List Int)).b⟩ : DS).add ([98] : List Int)).s) 100), ((⟨({ ((⟨TS.start, ((([] : List (List Int))).length : Int), ((FC ([] : List (List Int))).length : Int)⟩ : DS).add ([97] : List Int)).s with ps := true, pl := 1 } : TS), ((⟨TS.start, ((([] : List (List Int))).length : Int), ((FC ([] : List (List Int))).length : Int)⟩ : DS).add ([97] : List Int)).r, ((⟨TS.start, ((([] : List (List Int))).length : Int), ((FC ([] : List (List Int))).length : Int)⟩ : DS).add ([97] : List Int)).b⟩ : DS).add ([98] : List Int)).r, ((⟨({ ((⟨TS.start, ((([] : List (List Int))).length : Int), ((FC ([] : List (List Int))).length : Int)⟩ : DS).add ([97] : List Int)).s with ps := true, pl := 1 } : TS), ((⟨TS.start, ((([] : List (List Int))).length : Int), ((FC ([] : List (List Int))).length : Int)⟩ : DS).add ([97] : List Int)).r, ((⟨TS.start, ((([] : List (List Int))).length : Int), ((FC ([] : List (List Int))).length : Int)⟩ : DS).add ([97] : List Int)).b⟩ : DS).add ([98] : List Int)).b⟩ : DS).r (⟨(TS.crash (((⟨({ ((⟨TS.start, ((([] : List (List Int))).length : Int), ((FC ([] : List (List Int))).length : Int)⟩ : DS).add ([97] : List Int)).s with ps := true, pl := 1 } : TS), ((⟨TS.start, ((([] : List (List Int))).length : Int), ((FC ([] : List (List Int))).length : Int)⟩ : DS).add ([97] : List Int)).r, ((⟨TS.start, ((([] : List (List Int))).length : Int), ((FC ([] : List (List Int))).length : Int)⟩ : DS).add ([97] : List Int)).b⟩ : DS).add ([98] : List Int)).s) 100), ((⟨({ ((⟨TS.start, ((([] : List (List Int))).length : Int), ((FC ([] : List (List Int))).length : Int)⟩ : DS).add ([97] : List Int)).s with ps := true, pl := 1 } : TS), ((⟨TS.start, ((([] : List (List Int))).length : Int), ((FC ([] : List (List Int))).length : Int)⟩ : DS).add ([97] : List Int)).r, ((⟨TS.start, ((([] : List (List Int))).length : Int), ((FC ([] : List (List Int))).length : Int)⟩ : DS).add ([97] : List Int)).b⟩ : DS).add ([98] : List Int)).r, ((⟨({ ((⟨TS.start, ((([] : List (List Int))).length : Int), ((FC ([] : List (List Int))).length : Int)⟩ : DS).add ([97] : List Int)).s with ps := true, pl := 1 } : TS), ((⟨TS.start, ((([] : List (List Int))).length : Int), ((FC ([] : List (List Int))).length : Int)⟩ : DS).add ([97] : List Int)).r, ((⟨TS.start, ((([] : List (List Int))).length : Int), ((FC ([] : List (List Int))).length : Int)⟩ : DS).add ([97] : List Int)).b⟩ : DS).add ([98] : List Int)).b⟩ : DS).b) := (hK67.2 gd5 (by have h_ := (hk_w54).lt; omega) hD52g).trans (hk_w54)
  obtain ⟨hD63t, hD63b, hD63g, hD63z⟩ := hD63
  have hz_w62 := hD63t.size
  have hlt_w62 := hD63b.lt
  have hL66 : OwnK (Kd.slice 5 (Kd.int .u8)) 32 w62 w.heap.size w.heap.size A60 (([[97], [98]] : List (List Int))).length c61 ([[97], [98]] : List (List Int)) := OwnK.mono (d := (Kd.slice 5 (Kd.int .u8))) (OwnK.lower (d := (Kd.slice 5 (Kd.int .u8))) hO64 (by omega)) (by omega)
  refine rw_val (v := .tuple #[.pointer (some ⟨gd58, 0, none⟩), .slice A60 ((([[97], [98]] : List (List Int))).length) c61, errT none]) (w' := w62) rfl rfl rfl rfl rfl ?_
  refine rw_val (v := .pointer (some ⟨gd58, 0, none⟩)) (w' := w62) rfl rfl rfl rfl (by simp [go_sem, sEv, sLook, nbeq, i64_w, -List.getD_eq_getElem?_getD]) ?_
  refine rw_val (v := .slice A60 ((([[97], [98]] : List (List Int))).length) c61) (w' := w62) rfl rfl rfl rfl (by simp [go_sem, sEv, sLook, nbeq, i64_w, -List.getD_eq_getElem?_getD]) ?_
  refine rw_val (v := errT none) (w' := w62) rfl rfl rfl rfl (by simp [go_sem, sEv, sLook, nbeq, i64_w, -List.getD_eq_getElem?_getD]) ?_
  refine rw_val (v := .slice A60 ((([[97], [98]] : List (List Int))).length) c61) (w' := w62) rfl rfl rfl rfl rfl ?_
  refine rw_val (v := errT none) (w' := w62) rfl rfl rfl rfl rfl ?_
  refine rw_end ?_
  refine w_weaken (G' := [(0, .bool false), (3, .slice A60 ((([[97], [98]] : List (List Int))).length) c61), (4, errT none)]) ⟨rfl, rfl, rfl, trivial⟩ ?_
  refine w_seq ?_
  refine w_region ?_
  refine rw_val (v := errT none) (w' := w62) rfl rfl rfl rfl rfl ?_
  refine rw_val (v := .bool ((none : Option Int).isNone)) (w' := w62) rfl rfl rfl rfl (run_as (guard_err_eq0 _ (none : Option Int) _)) ?_
  refine rw_val (v := .bool ((none : Option Int).isNone)) (w' := w62) rfl rfl rfl rfl rfl ?_
  have hq68 : ((none : Option Int).isNone) = true := by rfl
  refine rw_on (c := (none : Option Int).isNone) rfl rfl rfl (by first | (rw [hq68]; rfl) | simp [hq68]) ?_
  refine rw_val (v := .slice A60 ((([[97], [98]] : List (List Int))).length) c61) (w' := w62) rfl rfl rfl rfl rfl ?_
  refine rw_on (c := (none : Option Int).isNone) rfl rfl rfl (by first | (rw [hq68]; rfl) | simp [hq68]) ?_
  refine rw_val (v := .int .i64 (((([[97], [98]] : List (List Int))).length : Nat) : Int)) (w' := w62) rfl rfl rfl rfl (by simp [go_sem, sEv, sLook, nbeq, i64_w, -List.getD_eq_getElem?_getD]) ?_
  refine rw_on (c := (none : Option Int).isNone) rfl rfl rfl (by first | (rw [hq68]; rfl) | simp [hq68]) ?_
  refine rw_val (v := .bool ((((([[97], [98]] : List (List Int))).length : Nat) : Int) == 2)) (w' := w62) rfl rfl rfl rfl (by simp [go_sem, sEv, sLook, nbeq, i64_w, -List.getD_eq_getElem?_getD]) ?_
  refine rw_val (v := .bool ((((([[97], [98]] : List (List Int))).length : Nat) : Int) == 2)) (w' := w62) rfl rfl rfl rfl (by first | (simp [go_sem, sEv, sLook, nbeq, i64_w, -List.getD_eq_getElem?_getD, hq68]; done) | (rw [hq68]; simp [go_sem, sEv, sLook, nbeq, i64_w, -List.getD_eq_getElem?_getD]; done) | (simp [go_sem, sEv, sLook, nbeq, i64_w, -List.getD_eq_getElem?_getD] <;> omega) | (simp [go_sem, sEv, sLook, nbeq, i64_w, -List.getD_eq_getElem?_getD]; intro h_; exact absurd (by omega) h_)) ?_
  refine rw_val (v := .bool ((((([[97], [98]] : List (List Int))).length : Nat) : Int) == 2)) (w' := w62) rfl rfl rfl rfl rfl ?_
  have hq69 : ((((([[97], [98]] : List (List Int))).length : Nat) : Int) == 2) = true := by rfl
  refine rw_on (c := ((((([[97], [98]] : List (List Int))).length : Nat) : Int) == 2)) rfl rfl rfl (by first | (rw [hq69]; rfl) | simp [hq69]) ?_
  refine rw_val (v := .slice A60 ((([[97], [98]] : List (List Int))).length) c61) (w' := w62) rfl rfl rfl rfl rfl ?_
  refine rw_on (c := ((((([[97], [98]] : List (List Int))).length : Nat) : Int) == 2)) rfl rfl rfl (by first | (rw [hq69]; rfl) | simp [hq69]) ?_
  obtain ⟨g73, rfl⟩ := OwnK.adr (d := (Kd.slice 5 (Kd.int .u8))) hL66 (by first | omega | decide)
  obtain ⟨hc72a, A74, c75, hA71, he76, hle77, hC78⟩ := rows_at (Kd.C_below (OwnK.C (d := (Kd.slice 5 (Kd.int .u8))) hL66) (Below.refl _ _)) 0 (by first | omega | decide)
  obtain rfl := Option.some.inj hA71
  have he79 : w62.cell? ⟨g73, 0, none⟩ = some (.slice A74 ((([[97], [98]] : List (List Int)).getD 0 []).length) c75) := cell_g he76 rfl
  refine rw_val (v := .pointer (some ⟨g73, 0, none⟩)) (w' := w62) rfl rfl rfl rfl (run_as (run_at_z (P := Try.prog) (e := 32) (sz := 1) (by kernel_rfl) (by kernel_rfl)  (by first | omega | decide) _)) ?_
  refine rw_on (c := ((((([[97], [98]] : List (List Int))).length : Nat) : Int) == 2)) rfl rfl rfl (by first | (rw [hq69]; rfl) | simp [hq69]) ?_
  refine rw_val (v := .slice A74 ((([[97], [98]] : List (List Int)).getD 0 []).length) c75) (w' := w62) rfl rfl rfl rfl (by have e0_ := cellOn he79 (Below.refl _ _); simp [go_sem, sEv, sLook, nbeq, i64_w, -List.getD_eq_getElem?_getD, e0_, Try.underlying32]) ?_
  refine rw_on (c := ((((([[97], [98]] : List (List Int))).length : Nat) : Int) == 2)) rfl rfl rfl (by first | (rw [hq69]; rfl) | simp [hq69]) ?_
  refine rw_val (v := .string (strOfNums (([[97], [98]] : List (List Int)).getD 0 []))) (w' := w62) rfl rfl rfl rfl (run_as (run_str_of (P := Try.prog) (e := 5) (by kernel_rfl) (by kernel_rfl) (by kernel_rfl) (Kd.C_below hC78 (Below.refl _ _)))) ?_
  refine rw_on (c := ((((([[97], [98]] : List (List Int))).length : Nat) : Int) == 2)) rfl rfl rfl (by first | (rw [hq69]; rfl) | simp [hq69]) ?_
  refine rw_val (v := .bool (decide (strOfNums (([[97], [98]] : List (List Int)).getD 0 []) = (⟨#[97]⟩ : ByteArray)))) (w' := w62) rfl rfl rfl rfl (run_as (run_str_eql 9 _ _ _)) ?_
  refine rw_val (v := .bool (decide (strOfNums (([[97], [98]] : List (List Int)).getD 0 []) = (⟨#[97]⟩ : ByteArray)))) (w' := w62) rfl rfl rfl rfl (by first | (simp [go_sem, sEv, sLook, nbeq, i64_w, -List.getD_eq_getElem?_getD, hq69]; done) | (rw [hq69]; simp [go_sem, sEv, sLook, nbeq, i64_w, -List.getD_eq_getElem?_getD]; done) | (simp [go_sem, sEv, sLook, nbeq, i64_w, -List.getD_eq_getElem?_getD] <;> omega) | (simp [go_sem, sEv, sLook, nbeq, i64_w, -List.getD_eq_getElem?_getD]; intro h_; exact absurd (by omega) h_)) ?_
  refine rw_val (v := .bool (decide (strOfNums (([[97], [98]] : List (List Int)).getD 0 []) = (⟨#[97]⟩ : ByteArray)))) (w' := w62) rfl rfl rfl rfl rfl ?_
  have hq80 : (decide (strOfNums (([[97], [98]] : List (List Int)).getD 0 []) = (⟨#[97]⟩ : ByteArray))) = true := by decide +kernel
  refine rw_on (c := decide (strOfNums (([[97], [98]] : List (List Int)).getD 0 []) = (⟨#[97]⟩ : ByteArray))) rfl rfl rfl (by first | (rw [hq80]; rfl) | simp [hq80]) ?_
  refine rw_val (v := .slice (some ⟨g73, 0, none⟩) ((([[97], [98]] : List (List Int))).length) c61) (w' := w62) rfl rfl rfl rfl rfl ?_
  refine rw_on (c := decide (strOfNums (([[97], [98]] : List (List Int)).getD 0 []) = (⟨#[97]⟩ : ByteArray))) rfl rfl rfl (by first | (rw [hq80]; rfl) | simp [hq80]) ?_
  obtain ⟨hc83a, A84, c85, hA82, he86, hle87, hC88⟩ := rows_at (Kd.C_below (OwnK.C (d := (Kd.slice 5 (Kd.int .u8))) hL66) (Below.refl _ _)) 1 (by first | omega | decide)
  obtain rfl := Option.some.inj hA82
  have he89 : w62.cell? ⟨g73, 1, none⟩ = some (.slice A84 ((([[97], [98]] : List (List Int)).getD 1 []).length) c85) := cell_g he86 rfl
  refine rw_val (v := .pointer (some ⟨g73, 1, none⟩)) (w' := w62) rfl rfl rfl rfl (by rw [← add_plain g73 (1)]; exact (run_as (run_at_1 (P := Try.prog) (e := 32) (by kernel_rfl) (by kernel_rfl) 1 (by first | omega | decide) _))) ?_
  refine rw_on (c := decide (strOfNums (([[97], [98]] : List (List Int)).getD 0 []) = (⟨#[97]⟩ : ByteArray))) rfl rfl rfl (by first | (rw [hq80]; rfl) | simp [hq80]) ?_
  refine rw_val (v := .slice A84 ((([[97], [98]] : List (List Int)).getD 1 []).length) c85) (w' := w62) rfl rfl rfl rfl (by have e0_ := cellOn he89 (Below.refl _ _); simp [go_sem, sEv, sLook, nbeq, i64_w, -List.getD_eq_getElem?_getD, e0_, Try.underlying32]) ?_
  refine rw_on (c := decide (strOfNums (([[97], [98]] : List (List Int)).getD 0 []) = (⟨#[97]⟩ : ByteArray))) rfl rfl rfl (by first | (rw [hq80]; rfl) | simp [hq80]) ?_
  refine rw_val (v := .string (strOfNums (([[97], [98]] : List (List Int)).getD 1 []))) (w' := w62) rfl rfl rfl rfl (run_as (run_str_of (P := Try.prog) (e := 5) (by kernel_rfl) (by kernel_rfl) (by kernel_rfl) (Kd.C_below hC88 (Below.refl _ _)))) ?_
  refine rw_on (c := decide (strOfNums (([[97], [98]] : List (List Int)).getD 0 []) = (⟨#[97]⟩ : ByteArray))) rfl rfl rfl (by first | (rw [hq80]; rfl) | simp [hq80]) ?_
  refine rw_val (v := .bool (decide (strOfNums (([[97], [98]] : List (List Int)).getD 1 []) = (⟨#[98]⟩ : ByteArray)))) (w' := w62) rfl rfl rfl rfl (run_as (run_str_eql 9 _ _ _)) ?_
  refine rw_val (v := .bool (decide (strOfNums (([[97], [98]] : List (List Int)).getD 1 []) = (⟨#[98]⟩ : ByteArray)))) (w' := w62) rfl rfl rfl rfl (by first | (simp [go_sem, sEv, sLook, nbeq, i64_w, -List.getD_eq_getElem?_getD, hq80]; done) | (rw [hq80]; simp [go_sem, sEv, sLook, nbeq, i64_w, -List.getD_eq_getElem?_getD]; done) | (simp [go_sem, sEv, sLook, nbeq, i64_w, -List.getD_eq_getElem?_getD] <;> omega) | (simp [go_sem, sEv, sLook, nbeq, i64_w, -List.getD_eq_getElem?_getD]; intro h_; exact absurd (by omega) h_)) ?_
  refine rw_val (v := .bool (decide (strOfNums (([[97], [98]] : List (List Int)).getD 1 []) = (⟨#[98]⟩ : ByteArray)))) (w' := w62) rfl rfl rfl rfl rfl ?_
  refine rw_end ?_
  refine w_weaken (G' := [(0, .bool (decide (strOfNums (([[97], [98]] : List (List Int)).getD 1 []) = (⟨#[98]⟩ : ByteArray))))]) ⟨rfl, trivial⟩ ?_
  have hq90 : (decide (strOfNums (([[97], [98]] : List (List Int)).getD 1 []) = (⟨#[98]⟩ : ByteArray))) = true := by decide +kernel
  refine w_ret (post_ret1 rfl rfl ?_)
  exact ⟨by simp only [hq90], hD63t.1⟩
end Go.Proofs.Ytiiljpaedelhlaa.Tp
