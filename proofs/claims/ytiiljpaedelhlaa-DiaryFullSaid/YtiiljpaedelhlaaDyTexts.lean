/- Rows as texts: the walks. -/
import Derived.Test.YtiiljpaedelhlaaDyPure
namespace Go.Proofs.Ytiiljpaedelhlaa.Tp
open Go.RowKit Go.Proofs.YtiiljpaedelhlaaW.PrintWords Go.Proofs.YtiiljpaedelhlaaW.PrintLast Go.Proofs.YtiiljpaedelhlaaW.PrintMore
open Go.Proofs.Ytiiljpaedelhlaa.Flow
open Go.Proofs.Ytiiljpaedelhlaa.PDiaryPlays (SplitR Bytes frameB frameE FC wholeP errW wrap_calls split_calls frameB_len frameB_bytes)
set_option linter.unusedVariables false
set_option linter.unusedSimpArgs false


theorem run_err_neqs (o : Option Int) (c : Int) (w : World) : (binOp .neq 29 (errT o) (.iface 50 (.int .i64 c))).run Try.prog w = .ok (.bool (!decide (o = some c))) w := by
  cases o with
  | none =>
    have h : (binOp .neq 29 .nilIface (.iface 50 (.int .i64 c))).run Try.prog w = .ok (.bool true) w := by kernel_rfl
    simpa [errT] using h
  | some d =>
    have e : (!decide (some d = some c)) = (d != c) := by
      rw [Bool.eq_iff_iff]
      simp
    rw [e]
    have h1 := int_step 9998 d c w
    have h2 : (Op.equalIn Op.maxDepth 29 (errT (some d)) (.iface 50 (.int .i64 c))).run Try.prog w = .ok (d == c) w := h1
    simp only [errT] at h2 ⊢
    simp [binOp, Op.equal, h2]
    simp only [bne, Bool.not_not]
theorem guard_err_neqs (t u : Nat) (o : Option Int) (c : Int) (w : World) : (do eqGuard .neq 29 (.tmp t) (.tmp u) (errT o) (.iface 50 (.int .i64 c)); binOp .neq 29 (errT o) (.iface 50 (.int .i64 c)) : Sem Value).run Try.prog w = .ok (.bool (!decide (o = some c))) w := by
  have h := run_err_neqs o c w
  cases o with
  | none => simpa [eqGuard, errT] using h
  | some d => simpa [eqGuard, errT] using h
set_option maxHeartbeats 4000000 in
theorem alive_calls  (w : World) :
    Calls Try.prog 9 #[] w fun e w' => e = .returned (.bool true) ∧ Below w.heap.size w w' := by
  refine calls_flow Try.func9 rfl 72 rfl (Nat.le_of_ble_eq_true rfl) [] ?_ ?_
  · intro t v h; exact args_look rfl t v h
  refine w_seq ?_
  refine w_region ?_
  refine rw_val (v := .bool false) (w' := w) rfl rfl rfl rfl rfl ?_
  refine rw_end ?_
  refine w_seq ?_
  refine w_region ?_
  refine rw_call rfl rfl rfl rfl (f := 10) (args := #[]) (by simp [go_sem, sEv, sLook, nbeq, i64_w, -List.getD_eq_getElem?_getD]) (new_T w) ?_
  rintro e_ w2 ⟨g1, rfl, hT3, hs4⟩
  refine ⟨_, rfl, ?_⟩
  have hT3o : TapeAt w w2 g1 w2.heap.size (fun _ => False) TS.start := new_on (Below.refl _ _) hT3
  have hz_w2 := hT3o.size
  refine rw_val (v := .pointer (some ⟨g1, 0, none⟩)) (w' := w2) rfl rfl rfl rfl rfl ?_
  refine rw_end ?_
  refine w_seq ?_
  refine w_region ?_
  refine rw_val (v := .pointer (some ⟨g1, 0, none⟩)) (w' := w2) rfl rfl rfl rfl rfl ?_
  refine rw_call rfl rfl rfl rfl (f := 11) (args := #[.pointer (some ⟨g1, 0, none⟩)]) (by simp [go_sem, sEv, sLook, nbeq, i64_w, -List.getD_eq_getElem?_getD]) (open_full w w2 g1 w2.heap.size (fun _ => False) (fun q h_ => h_.elim) TS.start (TapeAt.hole hT3o _ (fun _ _ _ _ h => h)) (okB_ok (by decide +kernel)) ([] : List (List Int)) (by rfl) (by intro r hr; cases hr) (by intro r hr; cases hr) rfl) ?_
  rintro e_ w9 ⟨gd5, m6, A7, c8, rfl, hD10, hO11, hs12, hK14⟩
  refine ⟨_, rfl, ?_⟩
  obtain ⟨hD10t, hD10b, hD10g, hD10z, hD10x⟩ := hD10
  have hz_w9 := hD10t.size
  have hlt_w9 := hD10b.lt
  have hL13 : OwnK (Kd.slice 5 (Kd.int .u8)) 32 w9 w.heap.size w.heap.size A7 (([] : List (List Int))).length c8 ([] : List (List Int)) := OwnK.mono (d := (Kd.slice 5 (Kd.int .u8))) (OwnK.lower (d := (Kd.slice 5 (Kd.int .u8))) hO11 (by omega)) (by omega)
  refine rw_val (v := .tuple #[.pointer (some ⟨gd5, 0, none⟩), .slice A7 ((([] : List (List Int))).length) c8, errT none]) (w' := w9) rfl rfl rfl rfl rfl ?_
  refine rw_val (v := .pointer (some ⟨gd5, 0, none⟩)) (w' := w9) rfl rfl rfl rfl (by simp [go_sem, sEv, sLook, nbeq, i64_w, -List.getD_eq_getElem?_getD]) ?_
  refine rw_val (v := .slice A7 ((([] : List (List Int))).length) c8) (w' := w9) rfl rfl rfl rfl (by simp [go_sem, sEv, sLook, nbeq, i64_w, -List.getD_eq_getElem?_getD]) ?_
  refine rw_val (v := errT none) (w' := w9) rfl rfl rfl rfl (by simp [go_sem, sEv, sLook, nbeq, i64_w, -List.getD_eq_getElem?_getD]) ?_
  refine rw_val (v := .pointer (some ⟨gd5, 0, none⟩)) (w' := w9) rfl rfl rfl rfl rfl ?_
  refine rw_val (v := .slice A7 ((([] : List (List Int))).length) c8) (w' := w9) rfl rfl rfl rfl rfl ?_
  refine rw_val (v := errT none) (w' := w9) rfl rfl rfl rfl rfl ?_
  refine rw_end ?_
  refine w_weaken (G' := [(0, .bool false), (1, .pointer (some ⟨g1, 0, none⟩)), (2, .pointer (some ⟨gd5, 0, none⟩)), (3, .slice A7 ((([] : List (List Int))).length) c8), (4, errT none)]) ⟨rfl, rfl, rfl, rfl, rfl, trivial⟩ ?_
  refine w_seq ?_
  refine w_seq ?_
  refine w_region ?_
  refine rw_val (v := errT none) (w' := w9) rfl rfl rfl rfl rfl ?_
  refine rw_val (v := .bool ((none : Option Int).isSome)) (w' := w9) rfl rfl rfl rfl (run_as (guard_err_neq _ (none : Option Int) _)) ?_
  refine rw_val (v := .bool ((none : Option Int).isSome)) (w' := w9) rfl rfl rfl rfl rfl ?_
  have hq15 : ((none : Option Int).isSome) = false := by rfl
  refine rw_on (c := (none : Option Int).isSome) rfl rfl rfl (by first | (rw [hq15]; rfl) | simp [hq15]) ?_
  refine rw_val (v := .pointer (some ⟨gd5, 0, none⟩)) (w' := w9) rfl rfl rfl rfl rfl ?_
  refine rw_on (c := (none : Option Int).isSome) rfl rfl rfl (by first | (rw [hq15]; rfl) | simp [hq15]) ?_
  refine rw_val (v := .bool false) (w' := w9) rfl rfl rfl rfl (run_as (run_ptr_eql (e := 80) (by kernel_rfl) _ _)) ?_
  refine rw_val (v := .bool false) (w' := w9) rfl rfl rfl rfl (by first | (simp [go_sem, sEv, sLook, nbeq, i64_w, -List.getD_eq_getElem?_getD, hq15]; done) | (rw [hq15]; simp [go_sem, sEv, sLook, nbeq, i64_w, -List.getD_eq_getElem?_getD]; done) | (simp [go_sem, sEv, sLook, nbeq, i64_w, -List.getD_eq_getElem?_getD] <;> omega) | (simp [go_sem, sEv, sLook, nbeq, i64_w, -List.getD_eq_getElem?_getD]; intro h_; exact absurd (by omega) h_)) ?_
  refine rw_val (v := .bool false) (w' := w9) rfl rfl rfl rfl rfl ?_
  refine rw_on (c := false) rfl rfl rfl rfl ?_
  refine rw_val (v := .slice A7 ((([] : List (List Int))).length) c8) (w' := w9) rfl rfl rfl rfl rfl ?_
  refine rw_on (c := false) rfl rfl rfl rfl ?_
  refine rw_val (v := .int .i64 (((([] : List (List Int))).length : Nat) : Int)) (w' := w9) rfl rfl rfl rfl (by simp [go_sem, sEv, sLook, nbeq, i64_w, -List.getD_eq_getElem?_getD]) ?_
  refine rw_on (c := false) rfl rfl rfl rfl ?_
  refine rw_val (v := .bool ((((([] : List (List Int))).length : Nat) : Int) != 0)) (w' := w9) rfl rfl rfl rfl (by simp [go_sem, sEv, sLook, nbeq, i64_w, -List.getD_eq_getElem?_getD]) ?_
  refine rw_val (v := .bool ((((([] : List (List Int))).length : Nat) : Int) != 0)) (w' := w9) rfl rfl rfl rfl (by simp [go_sem, sEv, sLook, nbeq, i64_w, -List.getD_eq_getElem?_getD]) ?_
  refine rw_val (v := .bool ((((([] : List (List Int))).length : Nat) : Int) != 0)) (w' := w9) rfl rfl rfl rfl rfl ?_
  have hq16 : ((((([] : List (List Int))).length : Nat) : Int) != 0) = false := by rfl
  refine rw_on (c := ((((([] : List (List Int))).length : Nat) : Int) != 0)) rfl rfl rfl (by first | (rw [hq16]; rfl) | simp [hq16]) ?_
  refine rw_val (v := .pointer (some ⟨gd5, 0, none⟩)) (w' := w9) rfl rfl rfl rfl rfl ?_
  refine rw_on (c := ((((([] : List (List Int))).length : Nat) : Int) != 0)) rfl rfl rfl (by first | (rw [hq16]; rfl) | simp [hq16]) ?_
  refine rw_new (cs := #[.int .u8 97]) (t := 5) (fun g => .slice (some ⟨g, 0, none⟩) 1 1) rfl rfl rfl rfl (by kernel_rfl) ?_
  intro g17 w18 hg22 hz21 hb19 hk20
  have hs_w18 := hb19.size
  have hk20r : OwnK (Kd.int .u8) 5 w18 w.heap.size g17 (some ⟨g17, 0, none⟩) 1 1 ([97] : List Int) := scal_own w.heap.size hk20 (by omega) rfl rfl (by simp)
  refine rw_on (c := ((((([] : List (List Int))).length : Nat) : Int) != 0)) rfl rfl rfl (by first | (rw [hq16]; rfl) | simp [hq16]) ?_
  obtain ⟨w23, hr24, hk25, hf26⟩ := conv_same hk20 1 1
  refine rw_val (v := .slice (some ⟨g17, 0, none⟩) 1 1) (w' := w23) rfl rfl rfl rfl (run_as hr24) ?_
  have hs_w23 := hk25.size
  have hC27 : (Kd.int .u8).C w23 (some ⟨g17, 0, none⟩) 1 ([97] : List Int) := FB.C hf26 (fun j hj => by
    match j, hj with
    | 0, _ => rfl
    | j + 1, hj => simp only [List.length_cons, List.length_nil] at hj; omega) (by decide)
  refine rw_on (c := ((((([] : List (List Int))).length : Nat) : Int) != 0)) rfl rfl rfl (by first | (rw [hq16]; rfl) | simp [hq16]) ?_
  refine rw_call rfl rfl rfl rfl (f := 12) (args := #[.pointer (some ⟨gd5, 0, none⟩), .slice (some ⟨g17, 0, none⟩) 1 1]) (by simp [go_sem, sEv, sLook, nbeq, i64_w, -List.getD_eq_getElem?_getD]) (add_D w w23 g1 gd5 m6 (HX gd5 (fun _ => False)) (HX.lt (by omega) (fun q h_ => h_.elim)) (⟨TS.start, ((([] : List (List Int))).length : Int), ((FC ([] : List (List Int))).length : Int)⟩ : DS) ⟨(TapeAt.far (TapeAt.on hD10t hb19) hk25 (by omega) (by omega)), ((hD10b.on hb19).keep hk25 (by omega)), hD10g, hD10z, (.inl rfl)⟩ (okB_ok (by decide +kernel)) (by decide +kernel) (by decide +kernel) (by decide +kernel) (some ⟨g17, 0, none⟩) 1 ([97] : List Int) (Kd.C_below hC27 (Below.refl _ _)) (Nat.le_refl _) (by first | omega | (simp only [List.length_cons, List.length_nil]; omega))) ?_
  rintro e_ w30 ⟨rfl, m29, hD31, hs32, hk33⟩
  refine ⟨errT ((⟨TS.start, ((([] : List (List Int))).length : Int), ((FC ([] : List (List Int))).length : Int)⟩ : DS).addE ([97] : List Int)), rfl, ?_⟩
  obtain ⟨hD31t, hD31b, hD31g, hD31z, hD31x⟩ := hD31
  have hz_w30 := hD31t.size
  have hlt_w30 := hD31b.lt
  refine rw_on (c := ((((([] : List (List Int))).length : Nat) : Int) != 0)) rfl rfl rfl (by first | (rw [hq16]; rfl) | simp [hq16]) ?_
  refine rw_val (v := .bool (((⟨TS.start, ((([] : List (List Int))).length : Int), ((FC ([] : List (List Int))).length : Int)⟩ : DS).addE ([97] : List Int)).isSome)) (w' := w30) rfl rfl rfl rfl (run_as (guard_err_neq _ ((⟨TS.start, ((([] : List (List Int))).length : Int), ((FC ([] : List (List Int))).length : Int)⟩ : DS).addE ([97] : List Int)) _)) ?_
  refine rw_val (v := .bool (((⟨TS.start, ((([] : List (List Int))).length : Int), ((FC ([] : List (List Int))).length : Int)⟩ : DS).addE ([97] : List Int)).isSome)) (w' := w30) rfl rfl rfl rfl (by first | (simp [go_sem, sEv, sLook, nbeq, i64_w, -List.getD_eq_getElem?_getD, hq16]; done) | (rw [hq16]; simp [go_sem, sEv, sLook, nbeq, i64_w, -List.getD_eq_getElem?_getD]; done) | (simp [go_sem, sEv, sLook, nbeq, i64_w, -List.getD_eq_getElem?_getD] <;> omega) | (simp [go_sem, sEv, sLook, nbeq, i64_w, -List.getD_eq_getElem?_getD]; intro h_; exact absurd (by omega) h_)) ?_
  refine rw_val (v := .bool (((⟨TS.start, ((([] : List (List Int))).length : Int), ((FC ([] : List (List Int))).length : Int)⟩ : DS).addE ([97] : List Int)).isSome)) (w' := w30) rfl rfl rfl rfl rfl ?_
  have hq34 : (((⟨TS.start, ((([] : List (List Int))).length : Int), ((FC ([] : List (List Int))).length : Int)⟩ : DS).addE ([97] : List Int)).isSome) = false := by kernel_rfl
  refine rw_on (c := ((⟨TS.start, ((([] : List (List Int))).length : Int), ((FC ([] : List (List Int))).length : Int)⟩ : DS).addE ([97] : List Int)).isSome) rfl rfl rfl (by first | (rw [hq34]; rfl) | simp [hq34]) ?_
  refine rw_val (v := .pointer (some ⟨g1, 0, none⟩)) (w' := w30) rfl rfl rfl rfl rfl ?_
  refine rw_on (c := ((⟨TS.start, ((([] : List (List Int))).length : Int), ((FC ([] : List (List Int))).length : Int)⟩ : DS).addE ([97] : List Int)).isSome) rfl rfl rfl (by first | (rw [hq34]; rfl) | simp [hq34]) ?_
  refine rw_call rfl rfl rfl rfl (f := 19) (args := #[.pointer (some ⟨g1, 0, none⟩), .int .i64 1]) (by simp [go_sem, sEv, sLook, nbeq, i64_w, -List.getD_eq_getElem?_getD]) (arm_T w w30 g1 m29 (HX gd5 (fun _ => False)) (HX.lt (by omega) (fun q h_ => h_.elim)) (((⟨TS.start, ((([] : List (List Int))).length : Int), ((FC ([] : List (List Int))).length : Int)⟩ : DS).add ([97] : List Int)).s) hD31t (okB_ok (by decide +kernel)) 1 rfl) ?_
  rintro e_ w35 ⟨rfl, hT36, hs37, hx38⟩
  refine ⟨_, rfl, ?_⟩
  have hz_w35 := hT36.size
  have hk_w35 : Blk w35 gd5 80 _ := (hx38 gd5 hD31x hD31g).trans (hD31b)
  have hlt_w35 := hk_w35.lt
  refine rw_on (c := ((⟨TS.start, ((([] : List (List Int))).length : Int), ((FC ([] : List (List Int))).length : Int)⟩ : DS).addE ([97] : List Int)).isSome) rfl rfl rfl (by first | (rw [hq34]; rfl) | simp [hq34]) ?_
  refine rw_val (v := .bool ((none : Option Int).isSome)) (w' := w35) rfl rfl rfl rfl (run_as (guard_err_neq _ (none : Option Int) _)) ?_
  refine rw_val (v := .bool ((none : Option Int).isSome)) (w' := w35) rfl rfl rfl rfl (by first | (simp [go_sem, sEv, sLook, nbeq, i64_w, -List.getD_eq_getElem?_getD, hq34]; done) | (rw [hq34]; simp [go_sem, sEv, sLook, nbeq, i64_w, -List.getD_eq_getElem?_getD]; done) | (simp [go_sem, sEv, sLook, nbeq, i64_w, -List.getD_eq_getElem?_getD] <;> omega) | (simp [go_sem, sEv, sLook, nbeq, i64_w, -List.getD_eq_getElem?_getD]; intro h_; exact absurd (by omega) h_)) ?_
  refine rw_val (v := .bool ((none : Option Int).isSome)) (w' := w35) rfl rfl rfl rfl rfl ?_
  refine rw_on (c := (none : Option Int).isSome) rfl rfl rfl (by first | (rw [hq15]; rfl) | simp [hq15]) ?_
  refine rw_val (v := .pointer (some ⟨gd5, 0, none⟩)) (w' := w35) rfl rfl rfl rfl rfl ?_
  refine rw_on (c := (none : Option Int).isSome) rfl rfl rfl (by first | (rw [hq15]; rfl) | simp [hq15]) ?_
  refine rw_new (cs := #[.int .u8 98]) (t := 5) (fun g => .slice (some ⟨g, 0, none⟩) 1 1) rfl rfl rfl rfl (by kernel_rfl) ?_
  intro g39 w40 hg44 hz43 hb41 hk42
  have hs_w40 := hb41.size
  have hk42r : OwnK (Kd.int .u8) 5 w40 w.heap.size g39 (some ⟨g39, 0, none⟩) 1 1 ([98] : List Int) := scal_own w.heap.size hk42 (by omega) rfl rfl (by simp)
  refine rw_on (c := (none : Option Int).isSome) rfl rfl rfl (by first | (rw [hq15]; rfl) | simp [hq15]) ?_
  obtain ⟨w45, hr46, hk47, hf48⟩ := conv_same hk42 1 1
  refine rw_val (v := .slice (some ⟨g39, 0, none⟩) 1 1) (w' := w45) rfl rfl rfl rfl (run_as hr46) ?_
  have hs_w45 := hk47.size
  have hC49 : (Kd.int .u8).C w45 (some ⟨g39, 0, none⟩) 1 ([98] : List Int) := FB.C hf48 (fun j hj => by
    match j, hj with
    | 0, _ => rfl
    | j + 1, hj => simp only [List.length_cons, List.length_nil] at hj; omega) (by decide)
  refine rw_on (c := (none : Option Int).isSome) rfl rfl rfl (by first | (rw [hq15]; rfl) | simp [hq15]) ?_
  refine rw_call rfl rfl rfl rfl (f := 12) (args := #[.pointer (some ⟨gd5, 0, none⟩), .slice (some ⟨g39, 0, none⟩) 1 1]) (by simp [go_sem, sEv, sLook, nbeq, i64_w, -List.getD_eq_getElem?_getD]) (add_D w w45 g1 gd5 w35.heap.size (HX gd5 (fun _ => False)) (HX.lt (by omega) (fun q h_ => h_.elim)) (⟨({ ((⟨TS.start, ((([] : List (List Int))).length : Int), ((FC ([] : List (List Int))).length : Int)⟩ : DS).add ([97] : List Int)).s with ps := true, pl := 1 } : TS), ((⟨TS.start, ((([] : List (List Int))).length : Int), ((FC ([] : List (List Int))).length : Int)⟩ : DS).add ([97] : List Int)).r, ((⟨TS.start, ((([] : List (List Int))).length : Int), ((FC ([] : List (List Int))).length : Int)⟩ : DS).add ([97] : List Int)).b⟩ : DS) ⟨(TapeAt.far (TapeAt.on hT36 hb41) hk47 (by omega) (by omega)), ((hk_w35.on hb41).keep hk47 (by omega)), hD31g, hD31z, hD31x⟩ (okB_ok (by decide +kernel)) (by decide +kernel) (by decide +kernel) (by decide +kernel) (some ⟨g39, 0, none⟩) 1 ([98] : List Int) (Kd.C_below hC49 (Below.refl _ _)) (Nat.le_refl _) (by first | omega | (simp only [List.length_cons, List.length_nil]; omega))) ?_
  rintro e_ w52 ⟨rfl, m51, hD53, hs54, hk55⟩
  refine ⟨errT ((⟨({ ((⟨TS.start, ((([] : List (List Int))).length : Int), ((FC ([] : List (List Int))).length : Int)⟩ : DS).add ([97] : List Int)).s with ps := true, pl := 1 } : TS), ((⟨TS.start, ((([] : List (List Int))).length : Int), ((FC ([] : List (List Int))).length : Int)⟩ : DS).add ([97] : List Int)).r, ((⟨TS.start, ((([] : List (List Int))).length : Int), ((FC ([] : List (List Int))).length : Int)⟩ : DS).add ([97] : List Int)).b⟩ : DS).addE ([98] : List Int)), rfl, ?_⟩
  obtain ⟨hD53t, hD53b, hD53g, hD53z, hD53x⟩ := hD53
  have hz_w52 := hD53t.size
  have hlt_w52 := hD53b.lt
  refine rw_on (c := (none : Option Int).isSome) rfl rfl rfl (by first | (rw [hq15]; rfl) | simp [hq15]) ?_
  refine rw_val (v := errT (some 5)) (w' := w52) rfl rfl rfl rfl (by simp [go_sem, sEv, sLook, nbeq, i64_w, -List.getD_eq_getElem?_getD, errT]) ?_
  refine rw_on (c := (none : Option Int).isSome) rfl rfl rfl (by first | (rw [hq15]; rfl) | simp [hq15]) ?_
  refine rw_val (v := .bool false) (w' := w52) rfl rfl rfl rfl (run_bool (run_as (guard_err_neqs _ _ ((⟨({ ((⟨TS.start, ((([] : List (List Int))).length : Int), ((FC ([] : List (List Int))).length : Int)⟩ : DS).add ([97] : List Int)).s with ps := true, pl := 1 } : TS), ((⟨TS.start, ((([] : List (List Int))).length : Int), ((FC ([] : List (List Int))).length : Int)⟩ : DS).add ([97] : List Int)).r, ((⟨TS.start, ((([] : List (List Int))).length : Int), ((FC ([] : List (List Int))).length : Int)⟩ : DS).add ([97] : List Int)).b⟩ : DS).addE ([98] : List Int)) 5 _)) (by decide +kernel)) ?_
  refine rw_val (v := .bool false) (w' := w52) rfl rfl rfl rfl (by first | (simp [go_sem, sEv, sLook, nbeq, i64_w, -List.getD_eq_getElem?_getD, hq15]; done) | (rw [hq15]; simp [go_sem, sEv, sLook, nbeq, i64_w, -List.getD_eq_getElem?_getD]; done) | (simp [go_sem, sEv, sLook, nbeq, i64_w, -List.getD_eq_getElem?_getD] <;> omega) | (simp [go_sem, sEv, sLook, nbeq, i64_w, -List.getD_eq_getElem?_getD]; intro h_; exact absurd (by omega) h_)) ?_
  refine rw_end ?_
  refine w_weaken (G' := [(0, .bool false), (1, .pointer (some ⟨g1, 0, none⟩)), (3, .slice A7 ((([] : List (List Int))).length) c8), (4, errT none), (42, .bool false)]) ⟨rfl, rfl, rfl, rfl, rfl, trivial⟩ ?_
  refine w_cond_f rfl rfl rfl ?_
  refine w_skip ?_
  refine w_seq ?_
  refine w_region ?_
  refine rw_val (v := .pointer (some ⟨g1, 0, none⟩)) (w' := w52) rfl rfl rfl rfl rfl ?_
  refine rw_call rfl rfl rfl rfl (f := 22) (args := #[.pointer (some ⟨g1, 0, none⟩), .int .i64 100]) (by simp [go_sem, sEv, sLook, nbeq, i64_w, -List.getD_eq_getElem?_getD]) (crash_T w w52 g1 m51 (HX gd5 (fun _ => False)) (HX.lt (by omega) (fun q h_ => h_.elim)) (((⟨({ ((⟨TS.start, ((([] : List (List Int))).length : Int), ((FC ([] : List (List Int))).length : Int)⟩ : DS).add ([97] : List Int)).s with ps := true, pl := 1 } : TS), ((⟨TS.start, ((([] : List (List Int))).length : Int), ((FC ([] : List (List Int))).length : Int)⟩ : DS).add ([97] : List Int)).r, ((⟨TS.start, ((([] : List (List Int))).length : Int), ((FC ([] : List (List Int))).length : Int)⟩ : DS).add ([97] : List Int)).b⟩ : DS).add ([98] : List Int)).s) hD53t (okB_ok (by decide +kernel)) 100) ?_
  rintro e_ w56 ⟨rfl, hT57, hs58, hx59⟩
  refine ⟨.tuple #[], rfl, ?_⟩
  have hz_w56 := hT57.size
  have hk_w56 : Blk w56 gd5 80 _ := (hx59 gd5 hD53x hD53g).trans (hD53b)
  have hlt_w56 := hk_w56.lt
  refine rw_end ?_
  refine w_seq ?_
  refine w_region ?_
  refine rw_val (v := .pointer (some ⟨g1, 0, none⟩)) (w' := w56) rfl rfl rfl rfl rfl ?_
  refine rw_call rfl rfl rfl rfl (f := 11) (args := #[.pointer (some ⟨g1, 0, none⟩)]) (by simp [go_sem, sEv, sLook, nbeq, i64_w, -List.getD_eq_getElem?_getD]) (open_full w w56 g1 w56.heap.size (fun _ => False) (fun q h_ => h_.elim) (TS.crash (((⟨({ ((⟨TS.start, ((([] : List (List Int))).length : Int), ((FC ([] : List (List Int))).length : Int)⟩ : DS).add ([97] : List Int)).s with ps := true, pl := 1 } : TS), ((⟨TS.start, ((([] : List (List Int))).length : Int), ((FC ([] : List (List Int))).length : Int)⟩ : DS).add ([97] : List Int)).r, ((⟨TS.start, ((([] : List (List Int))).length : Int), ((FC ([] : List (List Int))).length : Int)⟩ : DS).add ([97] : List Int)).b⟩ : DS).add ([98] : List Int)).s) 100) (TapeAt.hole hT57 _ (fun _ _ _ _ h => h)) (okB_ok (by decide +kernel)) ([[97], [98]] : List (List Int)) (by kernel_rfl) (by decide +kernel) (by intro r hr; simp only [List.mem_cons, List.not_mem_nil, or_false] at hr; rcases hr with rfl | rfl <;> (intro c hc; rw [List.mem_singleton.1 hc]; omega)) (by kernel_rfl)) ?_
  rintro e_ w64 ⟨gd60, m61, A62, c63, rfl, hD65, hO66, hs67, hK69⟩
  refine ⟨_, rfl, ?_⟩
  have hold_w64 : Blk w64 gd5 80 (dcells g1 (⟨(TS.crash (((⟨({ ((⟨TS.start, ((([] : List (List Int))).length : Int), ((FC ([] : List (List Int))).length : Int)⟩ : DS).add ([97] : List Int)).s with ps := true, pl := 1 } : TS), ((⟨TS.start, ((([] : List (List Int))).length : Int), ((FC ([] : List (List Int))).length : Int)⟩ : DS).add ([97] : List Int)).r, ((⟨TS.start, ((([] : List (List Int))).length : Int), ((FC ([] : List (List Int))).length : Int)⟩ : DS).add ([97] : List Int)).b⟩ : DS).add ([98] : List Int)).s) 100), ((⟨({ ((⟨TS.start, ((([] : List (List Int))).length : Int), ((FC ([] : List (List Int))).length : Int)⟩ : DS).add ([97] : List Int)).s with ps := true, pl := 1 } : TS), ((⟨TS.start, ((([] : List (List Int))).length : Int), ((FC ([] : List (List Int))).length : Int)⟩ : DS).add ([97] : List Int)).r, ((⟨TS.start, ((([] : List (List Int))).length : Int), ((FC ([] : List (List Int))).length : Int)⟩ : DS).add ([97] : List Int)).b⟩ : DS).add ([98] : List Int)).r, ((⟨({ ((⟨TS.start, ((([] : List (List Int))).length : Int), ((FC ([] : List (List Int))).length : Int)⟩ : DS).add ([97] : List Int)).s with ps := true, pl := 1 } : TS), ((⟨TS.start, ((([] : List (List Int))).length : Int), ((FC ([] : List (List Int))).length : Int)⟩ : DS).add ([97] : List Int)).r, ((⟨TS.start, ((([] : List (List Int))).length : Int), ((FC ([] : List (List Int))).length : Int)⟩ : DS).add ([97] : List Int)).b⟩ : DS).add ([98] : List Int)).b⟩ : DS).r (⟨(TS.crash (((⟨({ ((⟨TS.start, ((([] : List (List Int))).length : Int), ((FC ([] : List (List Int))).length : Int)⟩ : DS).add ([97] : List Int)).s with ps := true, pl := 1 } : TS), ((⟨TS.start, ((([] : List (List Int))).length : Int), ((FC ([] : List (List Int))).length : Int)⟩ : DS).add ([97] : List Int)).r, ((⟨TS.start, ((([] : List (List Int))).length : Int), ((FC ([] : List (List Int))).length : Int)⟩ : DS).add ([97] : List Int)).b⟩ : DS).add ([98] : List Int)).s) 100), ((⟨({ ((⟨TS.start, ((([] : List (List Int))).length : Int), ((FC ([] : List (List Int))).length : Int)⟩ : DS).add ([97] : List Int)).s with ps := true, pl := 1 } : TS), ((⟨TS.start, ((([] : List (List Int))).length : Int), ((FC ([] : List (List Int))).length : Int)⟩ : DS).add ([97] : List Int)).r, ((⟨TS.start, ((([] : List (List Int))).length : Int), ((FC ([] : List (List Int))).length : Int)⟩ : DS).add ([97] : List Int)).b⟩ : DS).add ([98] : List Int)).r, ((⟨({ ((⟨TS.start, ((([] : List (List Int))).length : Int), ((FC ([] : List (List Int))).length : Int)⟩ : DS).add ([97] : List Int)).s with ps := true, pl := 1 } : TS), ((⟨TS.start, ((([] : List (List Int))).length : Int), ((FC ([] : List (List Int))).length : Int)⟩ : DS).add ([97] : List Int)).r, ((⟨TS.start, ((([] : List (List Int))).length : Int), ((FC ([] : List (List Int))).length : Int)⟩ : DS).add ([97] : List Int)).b⟩ : DS).add ([98] : List Int)).b⟩ : DS).b) := (hK69.2 gd5 (by have h_ := (hk_w56).lt; omega) hD53g).trans (hk_w56)
  obtain ⟨hD65t, hD65b, hD65g, hD65z, hD65x⟩ := hD65
  have hz_w64 := hD65t.size
  have hlt_w64 := hD65b.lt
  have hL68 : OwnK (Kd.slice 5 (Kd.int .u8)) 32 w64 w.heap.size w.heap.size A62 (([[97], [98]] : List (List Int))).length c63 ([[97], [98]] : List (List Int)) := OwnK.mono (d := (Kd.slice 5 (Kd.int .u8))) (OwnK.lower (d := (Kd.slice 5 (Kd.int .u8))) hO66 (by omega)) (by omega)
  refine rw_val (v := .tuple #[.pointer (some ⟨gd60, 0, none⟩), .slice A62 ((([[97], [98]] : List (List Int))).length) c63, errT none]) (w' := w64) rfl rfl rfl rfl rfl ?_
  refine rw_val (v := .pointer (some ⟨gd60, 0, none⟩)) (w' := w64) rfl rfl rfl rfl (by simp [go_sem, sEv, sLook, nbeq, i64_w, -List.getD_eq_getElem?_getD]) ?_
  refine rw_val (v := .slice A62 ((([[97], [98]] : List (List Int))).length) c63) (w' := w64) rfl rfl rfl rfl (by simp [go_sem, sEv, sLook, nbeq, i64_w, -List.getD_eq_getElem?_getD]) ?_
  refine rw_val (v := errT none) (w' := w64) rfl rfl rfl rfl (by simp [go_sem, sEv, sLook, nbeq, i64_w, -List.getD_eq_getElem?_getD]) ?_
  refine rw_val (v := .slice A62 ((([[97], [98]] : List (List Int))).length) c63) (w' := w64) rfl rfl rfl rfl rfl ?_
  refine rw_val (v := errT none) (w' := w64) rfl rfl rfl rfl rfl ?_
  refine rw_end ?_
  refine w_weaken (G' := [(0, .bool false), (3, .slice A62 ((([[97], [98]] : List (List Int))).length) c63), (4, errT none)]) ⟨rfl, rfl, rfl, trivial⟩ ?_
  refine w_seq ?_
  refine w_region ?_
  refine rw_val (v := errT none) (w' := w64) rfl rfl rfl rfl rfl ?_
  refine rw_val (v := .bool ((none : Option Int).isNone)) (w' := w64) rfl rfl rfl rfl (run_as (guard_err_eq0 _ (none : Option Int) _)) ?_
  refine rw_val (v := .bool ((none : Option Int).isNone)) (w' := w64) rfl rfl rfl rfl rfl ?_
  have hq70 : ((none : Option Int).isNone) = true := by rfl
  refine rw_on (c := (none : Option Int).isNone) rfl rfl rfl (by first | (rw [hq70]; rfl) | simp [hq70]) ?_
  refine rw_val (v := .slice A62 ((([[97], [98]] : List (List Int))).length) c63) (w' := w64) rfl rfl rfl rfl rfl ?_
  refine rw_on (c := (none : Option Int).isNone) rfl rfl rfl (by first | (rw [hq70]; rfl) | simp [hq70]) ?_
  refine rw_val (v := .int .i64 (((([[97], [98]] : List (List Int))).length : Nat) : Int)) (w' := w64) rfl rfl rfl rfl (by simp [go_sem, sEv, sLook, nbeq, i64_w, -List.getD_eq_getElem?_getD]) ?_
  refine rw_on (c := (none : Option Int).isNone) rfl rfl rfl (by first | (rw [hq70]; rfl) | simp [hq70]) ?_
  refine rw_val (v := .bool ((((([[97], [98]] : List (List Int))).length : Nat) : Int) == 2)) (w' := w64) rfl rfl rfl rfl (by simp [go_sem, sEv, sLook, nbeq, i64_w, -List.getD_eq_getElem?_getD]) ?_
  refine rw_val (v := .bool ((((([[97], [98]] : List (List Int))).length : Nat) : Int) == 2)) (w' := w64) rfl rfl rfl rfl (by first | (simp [go_sem, sEv, sLook, nbeq, i64_w, -List.getD_eq_getElem?_getD, hq70]; done) | (rw [hq70]; simp [go_sem, sEv, sLook, nbeq, i64_w, -List.getD_eq_getElem?_getD]; done) | (simp [go_sem, sEv, sLook, nbeq, i64_w, -List.getD_eq_getElem?_getD] <;> omega) | (simp [go_sem, sEv, sLook, nbeq, i64_w, -List.getD_eq_getElem?_getD]; intro h_; exact absurd (by omega) h_)) ?_
  refine rw_val (v := .bool ((((([[97], [98]] : List (List Int))).length : Nat) : Int) == 2)) (w' := w64) rfl rfl rfl rfl rfl ?_
  have hq71 : ((((([[97], [98]] : List (List Int))).length : Nat) : Int) == 2) = true := by rfl
  refine rw_on (c := ((((([[97], [98]] : List (List Int))).length : Nat) : Int) == 2)) rfl rfl rfl (by first | (rw [hq71]; rfl) | simp [hq71]) ?_
  refine rw_val (v := .slice A62 ((([[97], [98]] : List (List Int))).length) c63) (w' := w64) rfl rfl rfl rfl rfl ?_
  refine rw_on (c := ((((([[97], [98]] : List (List Int))).length : Nat) : Int) == 2)) rfl rfl rfl (by first | (rw [hq71]; rfl) | simp [hq71]) ?_
  obtain ⟨g75, rfl⟩ := OwnK.adr (d := (Kd.slice 5 (Kd.int .u8))) hL68 (by first | omega | decide)
  obtain ⟨hc74a, A76, c77, hA73, he78, hle79, hC80⟩ := rows_at (Kd.C_below (OwnK.C (d := (Kd.slice 5 (Kd.int .u8))) hL68) (Below.refl _ _)) 0 (by first | omega | decide)
  obtain rfl := Option.some.inj hA73
  have he81 : w64.cell? ⟨g75, 0, none⟩ = some (.slice A76 ((([[97], [98]] : List (List Int)).getD 0 []).length) c77) := cell_g he78 rfl
  refine rw_val (v := .pointer (some ⟨g75, 0, none⟩)) (w' := w64) rfl rfl rfl rfl (run_as (run_at_z (P := Try.prog) (e := 32) (sz := 1) (by kernel_rfl) (by kernel_rfl)  (by first | omega | decide) _)) ?_
  refine rw_on (c := ((((([[97], [98]] : List (List Int))).length : Nat) : Int) == 2)) rfl rfl rfl (by first | (rw [hq71]; rfl) | simp [hq71]) ?_
  refine rw_val (v := .slice A76 ((([[97], [98]] : List (List Int)).getD 0 []).length) c77) (w' := w64) rfl rfl rfl rfl (by have e0_ := cellOn he81 (Below.refl _ _); simp [go_sem, sEv, sLook, nbeq, i64_w, -List.getD_eq_getElem?_getD, e0_, Try.underlying32]) ?_
  refine rw_on (c := ((((([[97], [98]] : List (List Int))).length : Nat) : Int) == 2)) rfl rfl rfl (by first | (rw [hq71]; rfl) | simp [hq71]) ?_
  refine rw_val (v := .string (strOfNums (([[97], [98]] : List (List Int)).getD 0 []))) (w' := w64) rfl rfl rfl rfl (run_as (run_str_of (P := Try.prog) (e := 5) (by kernel_rfl) (by kernel_rfl) (by kernel_rfl) (Kd.C_below hC80 (Below.refl _ _)))) ?_
  refine rw_on (c := ((((([[97], [98]] : List (List Int))).length : Nat) : Int) == 2)) rfl rfl rfl (by first | (rw [hq71]; rfl) | simp [hq71]) ?_
  refine rw_val (v := .bool (decide (strOfNums (([[97], [98]] : List (List Int)).getD 0 []) = (⟨#[97]⟩ : ByteArray)))) (w' := w64) rfl rfl rfl rfl (run_as (run_str_eql 9 _ _ _)) ?_
  refine rw_val (v := .bool (decide (strOfNums (([[97], [98]] : List (List Int)).getD 0 []) = (⟨#[97]⟩ : ByteArray)))) (w' := w64) rfl rfl rfl rfl (by first | (simp [go_sem, sEv, sLook, nbeq, i64_w, -List.getD_eq_getElem?_getD, hq71]; done) | (rw [hq71]; simp [go_sem, sEv, sLook, nbeq, i64_w, -List.getD_eq_getElem?_getD]; done) | (simp [go_sem, sEv, sLook, nbeq, i64_w, -List.getD_eq_getElem?_getD] <;> omega) | (simp [go_sem, sEv, sLook, nbeq, i64_w, -List.getD_eq_getElem?_getD]; intro h_; exact absurd (by omega) h_)) ?_
  refine rw_val (v := .bool (decide (strOfNums (([[97], [98]] : List (List Int)).getD 0 []) = (⟨#[97]⟩ : ByteArray)))) (w' := w64) rfl rfl rfl rfl rfl ?_
  have hq82 : (decide (strOfNums (([[97], [98]] : List (List Int)).getD 0 []) = (⟨#[97]⟩ : ByteArray))) = true := by decide +kernel
  refine rw_on (c := decide (strOfNums (([[97], [98]] : List (List Int)).getD 0 []) = (⟨#[97]⟩ : ByteArray))) rfl rfl rfl (by first | (rw [hq82]; rfl) | simp [hq82]) ?_
  refine rw_val (v := .slice (some ⟨g75, 0, none⟩) ((([[97], [98]] : List (List Int))).length) c63) (w' := w64) rfl rfl rfl rfl rfl ?_
  refine rw_on (c := decide (strOfNums (([[97], [98]] : List (List Int)).getD 0 []) = (⟨#[97]⟩ : ByteArray))) rfl rfl rfl (by first | (rw [hq82]; rfl) | simp [hq82]) ?_
  obtain ⟨hc85a, A86, c87, hA84, he88, hle89, hC90⟩ := rows_at (Kd.C_below (OwnK.C (d := (Kd.slice 5 (Kd.int .u8))) hL68) (Below.refl _ _)) 1 (by first | omega | decide)
  obtain rfl := Option.some.inj hA84
  have he91 : w64.cell? ⟨g75, 1, none⟩ = some (.slice A86 ((([[97], [98]] : List (List Int)).getD 1 []).length) c87) := cell_g he88 rfl
  refine rw_val (v := .pointer (some ⟨g75, 1, none⟩)) (w' := w64) rfl rfl rfl rfl (by rw [← add_plain g75 (1)]; exact (run_as (run_at_1 (P := Try.prog) (e := 32) (by kernel_rfl) (by kernel_rfl) 1 (by first | omega | decide) _))) ?_
  refine rw_on (c := decide (strOfNums (([[97], [98]] : List (List Int)).getD 0 []) = (⟨#[97]⟩ : ByteArray))) rfl rfl rfl (by first | (rw [hq82]; rfl) | simp [hq82]) ?_
  refine rw_val (v := .slice A86 ((([[97], [98]] : List (List Int)).getD 1 []).length) c87) (w' := w64) rfl rfl rfl rfl (by have e0_ := cellOn he91 (Below.refl _ _); simp [go_sem, sEv, sLook, nbeq, i64_w, -List.getD_eq_getElem?_getD, e0_, Try.underlying32]) ?_
  refine rw_on (c := decide (strOfNums (([[97], [98]] : List (List Int)).getD 0 []) = (⟨#[97]⟩ : ByteArray))) rfl rfl rfl (by first | (rw [hq82]; rfl) | simp [hq82]) ?_
  refine rw_val (v := .string (strOfNums (([[97], [98]] : List (List Int)).getD 1 []))) (w' := w64) rfl rfl rfl rfl (run_as (run_str_of (P := Try.prog) (e := 5) (by kernel_rfl) (by kernel_rfl) (by kernel_rfl) (Kd.C_below hC90 (Below.refl _ _)))) ?_
  refine rw_on (c := decide (strOfNums (([[97], [98]] : List (List Int)).getD 0 []) = (⟨#[97]⟩ : ByteArray))) rfl rfl rfl (by first | (rw [hq82]; rfl) | simp [hq82]) ?_
  refine rw_val (v := .bool (decide (strOfNums (([[97], [98]] : List (List Int)).getD 1 []) = (⟨#[98]⟩ : ByteArray)))) (w' := w64) rfl rfl rfl rfl (run_as (run_str_eql 9 _ _ _)) ?_
  refine rw_val (v := .bool (decide (strOfNums (([[97], [98]] : List (List Int)).getD 1 []) = (⟨#[98]⟩ : ByteArray)))) (w' := w64) rfl rfl rfl rfl (by first | (simp [go_sem, sEv, sLook, nbeq, i64_w, -List.getD_eq_getElem?_getD, hq82]; done) | (rw [hq82]; simp [go_sem, sEv, sLook, nbeq, i64_w, -List.getD_eq_getElem?_getD]; done) | (simp [go_sem, sEv, sLook, nbeq, i64_w, -List.getD_eq_getElem?_getD] <;> omega) | (simp [go_sem, sEv, sLook, nbeq, i64_w, -List.getD_eq_getElem?_getD]; intro h_; exact absurd (by omega) h_)) ?_
  refine rw_val (v := .bool (decide (strOfNums (([[97], [98]] : List (List Int)).getD 1 []) = (⟨#[98]⟩ : ByteArray)))) (w' := w64) rfl rfl rfl rfl rfl ?_
  refine rw_end ?_
  refine w_weaken (G' := [(0, .bool (decide (strOfNums (([[97], [98]] : List (List Int)).getD 1 []) = (⟨#[98]⟩ : ByteArray))))]) ⟨rfl, trivial⟩ ?_
  have hq92 : (decide (strOfNums (([[97], [98]] : List (List Int)).getD 1 []) = (⟨#[98]⟩ : ByteArray))) = true := by decide +kernel
  refine w_ret (post_ret1 rfl rfl ?_)
  exact ⟨by simp only [hq92], hD65t.1⟩
end Go.Proofs.Ytiiljpaedelhlaa.Tp
namespace Go.Proofs.Ytiiljpaedelhlaa.Tp
open Go.RowKit Go.Proofs.YtiiljpaedelhlaaW.PrintWords Go.Proofs.YtiiljpaedelhlaaW.PrintLast Go.Proofs.YtiiljpaedelhlaaW.PrintMore
open Go.Proofs.Ytiiljpaedelhlaa.Flow
open Go.Proofs.Ytiiljpaedelhlaa.PDiaryPlays (SplitR Bytes frameB frameE FC wholeP errW wrap_calls split_calls frameB_len frameB_bytes)
set_option linter.unusedVariables false
set_option linter.unusedSimpArgs false

set_option maxHeartbeats 4000000 in
theorem texts_calls (w : World) (A1 : Option Addr) (c1 : Nat) (rows : List (List Int)) (hr : (Kd.slice 5 (Kd.int .u8)).C w A1 rows.length rows) (hc1 : rows.length ≤ c1) (hn : rows.length ≤ 1000000) :
    Calls Try.prog 14 #[.slice A1 rows.length c1] w fun e w' => ∃ A c, e = .returned (.slice A (rows.map strOfNums).length c) ∧ OwnK Kd.string 9 w' w.heap.size w.heap.size A (rows.map strOfNums).length c (rows.map strOfNums) ∧ Below w.heap.size w w' := by
  refine calls_flow Try.func14 rfl 20 rfl (Nat.le_of_ble_eq_true rfl) [(0, .slice A1 rows.length c1)] ?_ ?_
  · intro t v h; exact args_look rfl t v h
  refine w_seq ?_
  refine w_region ?_
  refine rw_val (v := .slice none 0 0) (w' := w) rfl rfl rfl rfl rfl ?_
  refine rw_end ?_
  refine w_seq ?_
  refine w_region ?_
  refine rw_new (cs := #[]) (t := 9) (fun g => .slice (some ⟨g, 0, none⟩) 0 0) rfl rfl rfl rfl (by kernel_rfl) ?_
  intro g1 w2 hg6 hz5 hb3 hk4
  have hs_w2 := hb3.size
  have hk4r : OwnK Kd.string 9 w2 w.heap.size g1 (some ⟨g1, 0, none⟩) 0 0 ([] : List ByteArray) := lit_nilK _ w.heap.size hk4 (by omega)
  refine rw_val (v := .slice (some ⟨g1, 0, none⟩) 0 0) (w' := w2) rfl rfl rfl rfl rfl ?_
  refine rw_end ?_
  refine w_seq ?_
  refine w_seq ?_
  refine w_region ?_
  refine rw_val (v := .slice A1 rows.length c1) (w' := w2) rfl rfl rfl rfl rfl ?_
  refine rw_val (v := .int .i64 ((rows.length : Nat) : Int)) (w' := w2) rfl rfl rfl rfl (by simp [go_sem, sEv, sLook, nbeq, i64_w, -List.getD_eq_getElem?_getD]) ?_
  refine rw_val (v := .int .i64 0) (w' := w2) rfl rfl rfl rfl rfl ?_
  refine rw_end ?_
  refine w_block ?_
  refine w_loop (fun m_ G W_ => ∃ (j : Nat) (A3_ : Option Addr) (c3_ : Nat), j + m_ = rows.length ∧ Below w.heap.size w W_ ∧ OwnK Kd.string 9 W_ w.heap.size w.heap.size A3_ ((rows.take j).map strOfNums).length c3_ ((rows.take j).map strOfNums) ∧ G = [(0, .slice A1 rows.length c1), (3, .slice A3_ (((rows.take j).map strOfNums).length) c3_), (7, .slice A1 rows.length c1), (8, .int .i64 ((rows.length : Nat) : Int)), (9, .int .i64 ((j : Nat) : Int))]) rows.length [(0, .slice A1 rows.length c1), (3, .slice (some ⟨g1, 0, none⟩) (((rows.take 0).map strOfNums).length) 0), (7, .slice A1 rows.length c1), (8, .int .i64 ((rows.length : Nat) : Int)), (9, .int .i64 0)] ⟨0, (some ⟨g1, 0, none⟩), 0, by omega, hb3, (OwnK.mono (d := Kd.string) hk4r (by omega)), rfl⟩ ⟨rfl, rfl, rfl, rfl, rfl, trivial⟩ ?_
  rintro m_ G w_L7 ⟨j, A3_, c3_, hp8, hB_L7, hO3_, rfl⟩
  have hs_w_L7 := hB_L7.size
  refine w_seq ?_
  refine w_region ?_
  refine rw_val (v := .bool (decide (((j : Nat) : Int) < ((rows.length : Nat) : Int)))) (w' := w_L7) rfl rfl rfl rfl (by simp [go_sem, sEv, sLook, nbeq, i64_w, -List.getD_eq_getElem?_getD]) ?_
  refine rw_end ?_
  refine w_seq ?_
  refine w_cond rfl rfl (fun c9 => ?_) (fun c9 => ?_)
  · have l10 : (((j : Nat) : Int) < ((rows.length : Nat) : Int)) := of_decide_eq_true c9
    refine w_skip ?_
    refine w_seq ?_
    refine w_block ?_
    refine w_seq ?_
    refine w_region ?_
    obtain ⟨ad11, A14, c15, hA12, he16, hle17, hC18⟩ := rows_at (Kd.C_below hr hB_L7) j (by first | omega | decide)
    subst hA12
    refine rw_val (v := .pointer (some (ad11.add (j)))) (w' := w_L7) rfl rfl rfl rfl (run_as (run_at_1 (P := Try.prog) (e := 32) (by kernel_rfl) (by kernel_rfl) j (by first | omega | decide) _)) ?_
    refine rw_val (v := .slice A14 ((rows.getD j []).length) c15) (w' := w_L7) rfl rfl rfl rfl (by have e0_ := cellOn he16 (Below.refl _ _); simp [go_sem, sEv, sLook, nbeq, i64_w, -List.getD_eq_getElem?_getD, e0_, Try.underlying32]) ?_
    refine rw_val (v := .slice A14 ((rows.getD j []).length) c15) (w' := w_L7) rfl rfl rfl rfl rfl ?_
    refine rw_end ?_
    refine w_region ?_
    refine rw_val (v := .slice A3_ (((rows.take j).map strOfNums).length) c3_) (w' := w_L7) rfl rfl rfl rfl rfl ?_
    refine rw_val (v := .slice A14 ((rows.getD j []).length) c15) (w' := w_L7) rfl rfl rfl rfl rfl ?_
    refine rw_val (v := .string (strOfNums (rows.getD j []))) (w' := w_L7) rfl rfl rfl rfl (run_as (run_str_of (P := Try.prog) (e := 5) (by kernel_rfl) (by kernel_rfl) (by kernel_rfl) (Kd.C_below hC18 (Below.refl _ _)))) ?_
    refine rw_new (cs := #[.string (strOfNums (rows.getD j []))]) (t := 9) (fun g => .slice (some ⟨g, 0, none⟩) 1 1) rfl rfl rfl rfl (by kernel_rfl) ?_
    intro g19 w20 hg24 hz23 hb21 hk22
    have hs_w20 := hb21.size
    have hk22r : OwnK Kd.string 9 w20 w.heap.size g19 (some ⟨g19, 0, none⟩) 1 1 ([strOfNums (rows.getD j [])] : List ByteArray) := scal_own w.heap.size hk22 (by omega) rfl rfl (by simp)
    have oA31 : OwnK Kd.string 9 w20 w.heap.size w.heap.size A3_ (((rows.take j).map strOfNums).length) c3_ ((rows.take j).map strOfNums) := (OwnK.on (d := Kd.string) hO3_ hb21)
    refine rw_append_kd (d := Kd.string) w.heap.size rfl rfl rfl (.tmp 13) (.tmp 16) rfl rfl 35 9 (.string ByteArray.empty) 16 rfl (by kernel_rfl) (by kernel_rfl) rfl (show 0 < 1 by decide) (by decide) (fun _ _ h => h) (b := w.heap.size) rfl rfl (by omega) oA31 (OwnK.Cn (d := Kd.string) hk22r) (chain hB_L7 hb21) (by omega) (by first | omega | (simp only [List.length_map, List.length_take, List.length_cons, List.length_nil]; omega)) ?_
    intro A25 c26 w27 hO28 hB29 hG30
    have hs_w27 := hB29.size
    have hgs_w27 := hG30.size
    refine rw_val (v := .slice A25 ((((rows.take j).map strOfNums) ++ ([strOfNums (rows.getD j [])] : List ByteArray)).length) c26) (w' := w27) rfl rfl rfl rfl rfl ?_
    refine rw_end ?_
    refine w_weaken (G' := [(0, .slice (some ad11) rows.length c1), (3, .slice A25 ((((rows.take j).map strOfNums) ++ ([strOfNums (rows.getD j [])] : List ByteArray)).length) c26), (7, .slice (some ad11) rows.length c1), (8, .int .i64 ((rows.length : Nat) : Int)), (9, .int .i64 ((j : Nat) : Int))]) ⟨rfl, rfl, rfl, rfl, rfl, trivial⟩ ?_
    refine w_blk ?_
    refine w_region ?_
    refine rw_val (v := .int .i64 ((j + 1 : Nat) : Int)) (w' := w27) rfl rfl rfl rfl (by simp [go_sem, sEv, sLook, nbeq, i64_w, -List.getD_eq_getElem?_getD]; exact wrap_id (by omega) (by omega)) ?_
    refine rw_val (v := .int .i64 ((j + 1 : Nat) : Int)) (w' := w27) rfl rfl rfl rfl rfl ?_
    refine rw_end ?_
    have e33 : (((rows.take j).map strOfNums) ++ ([strOfNums (rows.getD j [])] : List ByteArray)) = ((rows.take (j + 1)).map strOfNums) := by rw [List.take_succ_eq_append_getElem (by omega), List.map_append, List.getD_eq_getElem?_getD, List.getElem?_eq_getElem (by omega)]; rfl
    have hO34 : OwnK Kd.string 9 w27 w.heap.size w.heap.size A25 ((rows.take (j + 1)).map strOfNums).length c26 ((rows.take (j + 1)).map strOfNums) := by rw [← e33]; exact OwnK.full hO28
    have en35 : (((rows.take j).map strOfNums) ++ ([strOfNums (rows.getD j [])] : List ByteArray)).length = ((rows.take (j + 1)).map strOfNums).length := by rw [← e33] <;> exact OwnK.len (d := Kd.string) hO28
    exact w_back (m_ - 1) [(0, .slice (some ad11) rows.length c1), (3, .slice A25 (((rows.take (j + 1)).map strOfNums).length) c26), (7, .slice (some ad11) rows.length c1), (8, .int .i64 ((rows.length : Nat) : Int)), (9, .int .i64 ((j + 1 : Nat) : Int))] (by omega) ⟨rfl, (by first | rfl | (rw [← en35]; rfl)), rfl, rfl, rfl, trivial⟩ ⟨(j + 1), A25, c26, by omega, hB29, (OwnK.mono (d := Kd.string) hO34 (by omega)), rfl⟩
  · have l36 : ¬ (((j : Nat) : Int) < ((rows.length : Nat) : Int)) := of_decide_eq_false c9
    refine w_exit rfl ?_
    refine w_seq ?_
    refine w_region ?_
    refine rw_val (v := .slice A3_ (((rows.take j).map strOfNums).length) c3_) (w' := w_L7) rfl rfl rfl rfl rfl ?_
    refine rw_val (v := .slice A3_ (((rows.take j).map strOfNums).length) c3_) (w' := w_L7) rfl rfl rfl rfl rfl ?_
    refine rw_end ?_
    refine w_ret (post_ret1 rfl rfl ?_)
    have ej_ : j = rows.length := by omega
    have et_ : (rows.take j).map strOfNums = rows.map strOfNums := by rw [ej_, List.take_length]
    rw [et_]
    have hO_ : OwnK Kd.string 9 w_L7 w.heap.size w.heap.size A3_ ((rows.take j).map strOfNums).length c3_ (rows.map strOfNums) := by rw [← et_]; exact hO3_
    rw [et_] at hO_
    exact ⟨_, _, rfl, OwnK.mono (d := Kd.string) hO_ (by omega), hB_L7⟩

theorem map_getD {rows : List (List Int)} {l : List ByteArray} (h : rows.map strOfNums = l) (j : Nat) (hj : j < rows.length) : strOfNums (rows.getD j []) = l.getD j (⟨#[]⟩ : ByteArray) := by
  subst h
  rw [List.getD_eq_getElem?_getD, List.getD_eq_getElem?_getD, List.getElem?_map, List.getElem?_eq_getElem hj]
  rfl
theorem map_ext {rows : List (List Int)} {l : List ByteArray} (hl : rows.length = l.length) (h : ∀ i, i < l.length → strOfNums (rows.getD i []) = l.getD i (⟨#[]⟩ : ByteArray)) : rows.map strOfNums = l := by
  apply List.ext_getElem
  · rw [List.length_map, hl]
  · intro i h1 h2
    have h3 := h i h2
    rw [List.getD_eq_getElem?_getD, List.getD_eq_getElem?_getD, List.getElem?_eq_getElem h2, List.getElem?_eq_getElem (by omega)] at h3
    rw [List.getElem_map]
    exact h3
set_option maxHeartbeats 4000000 in
theorem same_calls (w : World) (A1 A2 : Option Addr) (c1 c2 : Nat) (rows : List (List Int)) (l : List ByteArray) (hr : (Kd.slice 5 (Kd.int .u8)).C w A1 rows.length rows) (hc1 : rows.length ≤ c1) (hl : Kd.string.C w A2 l.length l) (hc2 : l.length ≤ c2) (hn : l.length ≤ 1000000) :
    Calls Try.prog 13 #[.slice A1 rows.length c1, .slice A2 l.length c2] w fun e w' => e = .returned (.bool (decide (rows.map strOfNums = l))) ∧ Below w.heap.size w w' := by
  refine calls_flow Try.func13 rfl 27 rfl (Nat.le_of_ble_eq_true rfl) [(0, .slice A1 rows.length c1), (1, .slice A2 l.length c2)] ?_ ?_
  · intro t v h; exact args_look rfl t v h
  refine w_seq ?_
  refine w_region ?_
  refine rw_val (v := .bool false) (w' := w) rfl rfl rfl rfl rfl ?_
  refine rw_end ?_
  refine w_seq ?_
  refine w_seq ?_
  refine w_region ?_
  refine rw_val (v := .slice A1 rows.length c1) (w' := w) rfl rfl rfl rfl rfl ?_
  refine rw_val (v := .int .i64 ((rows.length : Nat) : Int)) (w' := w) rfl rfl rfl rfl (by simp [go_sem, sEv, sLook, nbeq, i64_w, -List.getD_eq_getElem?_getD]) ?_
  refine rw_val (v := .slice A2 l.length c2) (w' := w) rfl rfl rfl rfl rfl ?_
  refine rw_val (v := .int .i64 ((l.length : Nat) : Int)) (w' := w) rfl rfl rfl rfl (by simp [go_sem, sEv, sLook, nbeq, i64_w, -List.getD_eq_getElem?_getD]) ?_
  refine rw_val (v := .bool (((rows.length : Nat) : Int) != ((l.length : Nat) : Int))) (w' := w) rfl rfl rfl rfl (by simp [go_sem, sEv, sLook, nbeq, i64_w, -List.getD_eq_getElem?_getD]) ?_
  refine rw_end ?_
  refine w_weaken (G' := [(0, .slice A1 rows.length c1), (1, .slice A2 l.length c2), (4, .bool false), (10, .bool (((rows.length : Nat) : Int) != ((l.length : Nat) : Int)))]) ⟨rfl, rfl, rfl, rfl, trivial⟩ ?_
  refine w_cond rfl rfl (fun cL => ?_) (fun cL => ?_)
  · have l1 : ¬ ((rows.length : Nat) : Int) = ((l.length : Nat) : Int) := by simpa using cL
    refine w_seq ?_
    refine w_region ?_
    refine rw_val (v := .bool false) (w' := w) rfl rfl rfl rfl rfl ?_
    refine rw_end ?_
    refine w_ret (post_ret1 rfl rfl ?_)
    refine ⟨congrArg (fun z => Ending.returned (Value.bool z)) ?_, (Below.refl _ _)⟩
    symm
    rw [decide_eq_false_iff_not]
    intro h_
    have h2_ := congrArg List.length h_
    rw [List.length_map] at h2_
    omega
  · have l2 : ((rows.length : Nat) : Int) = ((l.length : Nat) : Int) := by simpa using cL
    refine w_skip ?_
    refine w_seq ?_
    refine w_seq ?_
    refine w_region ?_
    refine rw_val (v := .slice A2 l.length c2) (w' := w) rfl rfl rfl rfl rfl ?_
    refine rw_val (v := .int .i64 ((l.length : Nat) : Int)) (w' := w) rfl rfl rfl rfl (by simp [go_sem, sEv, sLook, nbeq, i64_w, -List.getD_eq_getElem?_getD]) ?_
    refine rw_val (v := .int .i64 0) (w' := w) rfl rfl rfl rfl rfl ?_
    refine rw_end ?_
    refine w_block ?_
    refine w_loop (fun m_ G W_ => ∃ (j : Nat), j + m_ = l.length ∧ rows.length = l.length ∧ Below w.heap.size w W_ ∧ (∀ i, i < j → strOfNums (rows.getD i []) = l.getD i (⟨#[]⟩ : ByteArray)) ∧ G = [(0, .slice A1 rows.length c1), (1, .slice A2 l.length c2), (12, .int .i64 ((l.length : Nat) : Int)), (13, .int .i64 ((j : Nat) : Int))]) l.length [(0, .slice A1 rows.length c1), (1, .slice A2 l.length c2), (12, .int .i64 ((l.length : Nat) : Int)), (13, .int .i64 0)] ⟨0, by omega, by omega, (Below.refl _ _), (fun i hi => absurd hi (by omega)), rfl⟩ ⟨rfl, rfl, rfl, rfl, trivial⟩ ?_
    rintro m_ G w_L3 ⟨j, hp4, hp5, hB_L3, hf6, rfl⟩
    have hs_w_L3 := hB_L3.size
    refine w_seq ?_
    refine w_region ?_
    refine rw_val (v := .bool (decide (((j : Nat) : Int) < ((l.length : Nat) : Int)))) (w' := w_L3) rfl rfl rfl rfl (by simp [go_sem, sEv, sLook, nbeq, i64_w, -List.getD_eq_getElem?_getD]) ?_
    refine rw_end ?_
    refine w_seq ?_
    refine w_cond rfl rfl (fun cJ => ?_) (fun cJ => ?_)
    · have l7 : (((j : Nat) : Int) < ((l.length : Nat) : Int)) := of_decide_eq_true cJ
      refine w_skip ?_
      refine w_seq ?_
      refine w_block ?_
      refine w_seq ?_
      refine w_region ?_
      refine rw_val (v := .int .i64 ((j : Nat) : Int)) (w' := w_L3) rfl rfl rfl rfl rfl ?_
      refine rw_val (v := .int .i64 ((j : Nat) : Int)) (w' := w_L3) rfl rfl rfl rfl rfl ?_
      refine rw_end ?_
      refine w_seq ?_
      obtain ⟨ad8, A11, c12, hA9, he13, hle14, hC15⟩ := rows_at (Kd.C_below hr hB_L3) j (by first | omega | decide)
      subst hA9
      obtain ⟨ad16, hA17, hc18⟩ := str_el (Kd.C_below hl hB_L3) (⟨#[]⟩ : ByteArray) j (by first | omega | decide)
      subst hA17
      have he19 : w_L3.cell? (ad16.add (j)) = some (.string (l.getD j (⟨#[]⟩ : ByteArray))) := cell_0 (hc18 0 _ rfl)
      refine w_drawk (M := [0, 0, 3, 7, 15, 0, 0, 96, 224, 511]) (ss := [Is (.slice (some ad8) rows.length c1), Is (.int .i64 ((j : Nat) : Int)), Is (.pointer (some (ad8.add (j)))), Is (.slice A11 ((rows.getD j []).length) c12), Is (.string (strOfNums (rows.getD j []))), Is (.slice (some ad16) l.length c2), Is (.int .i64 ((j : Nat) : Int)), Is (.pointer (some (ad16.add (j)))), Is (.string (l.getD j (⟨#[]⟩ : ByteArray)))]) 9 rfl (by decide +kernel) ?_
      refine t_is (.slice (some ad8) rows.length c1) rfl rfl rfl rfl (fun W_ hW_ F_ => rfl) ?_
      refine t_is (.int .i64 ((j : Nat) : Int)) rfl rfl rfl rfl (fun W_ hW_ F_ => rfl) ?_
      refine t_is (.pointer (some (ad8.add (j)))) rfl rfl rfl rfl (fun W_ hW_ F_ => (run_as (run_at_1 (P := Try.prog) (e := 32) (by kernel_rfl) (by kernel_rfl) j (by first | omega | decide) _))) ?_
      refine t_is (.slice A11 ((rows.getD j []).length) c12) rfl rfl rfl rfl (fun W_ hW_ F_ => by have e0_ := cellOn he13 (below_of_drew hW_); simp [go_sem, sEv, sLook, nbeq, i64_w, -List.getD_eq_getElem?_getD, e0_, Try.underlying32]) ?_
      refine t_is (.string (strOfNums (rows.getD j []))) rfl rfl rfl rfl (fun W_ hW_ F_ => (run_as (run_str_of (P := Try.prog) (e := 5) (by kernel_rfl) (by kernel_rfl) (by kernel_rfl) (Kd.C_below hC15 (chain (Below.refl _ _) (below_of_drew hW_)))))) ?_
      refine t_is (.slice (some ad16) l.length c2) rfl rfl rfl rfl (fun W_ hW_ F_ => rfl) ?_
      refine t_is (.int .i64 ((j : Nat) : Int)) rfl rfl rfl rfl (fun W_ hW_ F_ => rfl) ?_
      refine t_is (.pointer (some (ad16.add (j)))) rfl rfl rfl rfl (fun W_ hW_ F_ => (run_as (run_at_1 (P := Try.prog) (e := 9) (by kernel_rfl) (by kernel_rfl) j (by first | omega | decide) _))) ?_
      refine t_is (.string (l.getD j (⟨#[]⟩ : ByteArray))) rfl rfl rfl rfl (fun W_ hW_ F_ => by have e0_ := cellOn he19 (below_of_drew hW_); simp [go_sem, sEv, sLook, nbeq, i64_w, -List.getD_eq_getElem?_getD, e0_]) ?_
      refine t_tail ?_
      intro w20 hb21_ F22
      have hb21 := below_of_drew hb21_
      have hs_w20 := hb21.size
      refine rw_val (v := .bool (!decide (strOfNums (rows.getD j []) = (l.getD j (⟨#[]⟩ : ByteArray))))) (w' := w20) rfl rfl rfl rfl (run_as (run_str_neq 9 _ _ _)) ?_
      refine rw_end ?_
      refine w_weaken (G' := [(0, .slice (some ad8) rows.length c1), (1, .slice (some ad16) l.length c2), (12, .int .i64 ((l.length : Nat) : Int)), (13, .int .i64 ((j : Nat) : Int)), (25, .bool (!decide (strOfNums (rows.getD j []) = (l.getD j (⟨#[]⟩ : ByteArray)))))]) ⟨rfl, rfl, rfl, rfl, rfl, trivial⟩ ?_
      refine w_cond rfl rfl (fun cN => ?_) (fun cN => ?_)
      · refine w_seq ?_
        refine w_region ?_
        refine rw_val (v := .bool false) (w' := w20) rfl rfl rfl rfl rfl ?_
        refine rw_end ?_
        refine w_ret (post_ret1 rfl rfl ?_)
        refine ⟨congrArg (fun z => Ending.returned (Value.bool z)) ?_, (chain hB_L3 hb21)⟩
        symm
        rw [decide_eq_false_iff_not]
        intro h_
        exact absurd (map_getD h_ j (by omega)) (of_decide_eq_false (not_true cN))
      · refine w_skip ?_
        refine w_blk ?_
        refine w_region ?_
        refine rw_val (v := .int .i64 ((j + 1 : Nat) : Int)) (w' := w20) rfl rfl rfl rfl (by simp [go_sem, sEv, sLook, nbeq, i64_w, -List.getD_eq_getElem?_getD]; exact wrap_id (by omega) (by omega)) ?_
        refine rw_val (v := .int .i64 ((j + 1 : Nat) : Int)) (w' := w20) rfl rfl rfl rfl rfl ?_
        refine rw_end ?_
        exact w_back (m_ - 1) [(0, .slice (some ad8) rows.length c1), (1, .slice (some ad16) l.length c2), (12, .int .i64 ((l.length : Nat) : Int)), (13, .int .i64 ((j + 1 : Nat) : Int))] (by omega) ⟨rfl, rfl, rfl, rfl, trivial⟩ ⟨(j + 1), by omega, by omega, (chain hB_L3 hb21), (fun i hi => (Nat.lt_succ_iff_lt_or_eq.1 hi).elim (fun h => hf6 i h) (fun h => by subst h; exact of_decide_eq_true (not_false cN))), rfl⟩
    · have l23 : ¬ (((j : Nat) : Int) < ((l.length : Nat) : Int)) := of_decide_eq_false cJ
      refine w_exit rfl ?_
      refine w_seq ?_
      refine w_region ?_
      refine rw_val (v := .bool true) (w' := w_L3) rfl rfl rfl rfl rfl ?_
      refine rw_end ?_
      refine w_ret (post_ret1 rfl rfl ?_)
      refine ⟨congrArg (fun z => Ending.returned (Value.bool z)) ?_, hB_L3⟩
      symm
      rw [decide_eq_true_iff]
      exact map_ext (by omega) (fun i hi => hf6 i (by omega))
end Go.Proofs.Ytiiljpaedelhlaa.Tp
