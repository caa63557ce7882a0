/- The fixed fact of the diary's laws: the walk. -/
import Derived.Test.YtiiljpaedelhlaaDyLaw
namespace Go.Proofs.Ytiiljpaedelhlaa.Tp
open Go.RowKit Go.Proofs.YtiiljpaedelhlaaW.PrintWords Go.Proofs.YtiiljpaedelhlaaW.PrintLast Go.Proofs.YtiiljpaedelhlaaW.PrintMore
open Go.Proofs.Ytiiljpaedelhlaa.Flow
open Go.Proofs.Ytiiljpaedelhlaa.PDiaryPlays (SplitR Bytes frameB frameE FC wholeP errW wrap_calls split_calls frameB_len frameB_bytes)
set_option linter.unusedVariables false
set_option linter.unusedSimpArgs false


theorem run_err_neqs (o : Option Int) (c : Int) (w : World) : (binOp .neq 29 (errT o) (.iface 50 (.int .i64 c))).run Try.prog w = .ok (.bool (!decide (o = some c))) w := by
  cases o with
  | none =>
    have h : (binOp .neq 29 .nilIface (.iface 50 (.int .i64 c))).run Try.prog w = .ok (.bool true) w := by kernel_rfl
    simpa [errT] using h
  | some d =>
    have e : (!decide (some d = some c)) = (d != c) := by
      rw [Bool.eq_iff_iff]
      simp
    rw [e]
    have h1 := int_step 9998 d c w
    have h2 : (Op.equalIn Op.maxDepth 29 (errT (some d)) (.iface 50 (.int .i64 c))).run Try.prog w = .ok (d == c) w := h1
    simp only [errT] at h2 ⊢
    simp [binOp, Op.equal, h2]
    simp only [bne, Bool.not_not]
theorem guard_err_neqs (t u : Nat) (o : Option Int) (c : Int) (w : World) : (do eqGuard .neq 29 (.tmp t) (.tmp u) (errT o) (.iface 50 (.int .i64 c)); binOp .neq 29 (errT o) (.iface 50 (.int .i64 c)) : Sem Value).run Try.prog w = .ok (.bool (!decide (o = some c))) w := by
  have h := run_err_neqs o c w
  cases o with
  | none => simpa [eqGuard, errT] using h
  | some d => simpa [eqGuard, errT] using h
set_option maxHeartbeats 4000000 in
theorem alive_calls  (w : World) :
    Calls Try.prog 9 #[] w fun e w' => e = .returned (.bool true) ∧ Below w.heap.size w w' := by
  refine calls_flow Try.func9 rfl 72 rfl (Nat.le_of_ble_eq_true rfl) [] ?_ ?_
  · intro t v h; exact args_look rfl t v h
  refine w_seq ?_
  refine w_region ?_
  refine rw_val (v := .bool false) (w' := w) rfl rfl rfl rfl rfl ?_
  refine rw_end ?_
  refine w_seq ?_
  refine w_region ?_
  refine rw_call rfl rfl rfl rfl (f := 10) (args := #[]) (by simp [go_sem, sEv, sLook, nbeq, i64_w, -List.getD_eq_getElem?_getD]) (new_T w) ?_
  rintro e_ w2 ⟨g1, rfl, hT3, hs4⟩
  refine ⟨_, rfl, ?_⟩
  have hT3o : TapeAt w w2 g1 w2.heap.size g1 TS.start := new_on (Below.refl _ _) hT3
  have hz_w2 := hT3o.size
  refine rw_val (v := .pointer (some ⟨g1, 0, none⟩)) (w' := w2) rfl rfl rfl rfl rfl ?_
  refine rw_end ?_
  refine w_seq ?_
  refine w_region ?_
  refine rw_val (v := .pointer (some ⟨g1, 0, none⟩)) (w' := w2) rfl rfl rfl rfl rfl ?_
  refine rw_call rfl rfl rfl rfl (f := 11) (args := #[.pointer (some ⟨g1, 0, none⟩)]) (by simp [go_sem, sEv, sLook, nbeq, i64_w, -List.getD_eq_getElem?_getD]) (open_full w w2 g1 w2.heap.size g1 (by omega) TS.start hT3o (okB_ok (by decide +kernel)) ([] : List (List Int)) (by rfl) (by intro r hr; cases hr) (by intro r hr; cases hr) rfl) ?_
  rintro e_ w9 ⟨gd5, m6, A7, c8, rfl, hD10, hO11, hs12⟩
  refine ⟨_, rfl, ?_⟩
  obtain ⟨hD10t, hD10b, hD10g, hD10z⟩ := hD10
  have hz_w9 := hD10t.size
  have hlt_w9 := hD10b.lt
  have hL13 : OwnK (Kd.slice 5 (Kd.int .u8)) 32 w9 w.heap.size w.heap.size A7 (([] : List (List Int))).length c8 ([] : List (List Int)) := OwnK.mono (d := (Kd.slice 5 (Kd.int .u8))) (OwnK.lower (d := (Kd.slice 5 (Kd.int .u8))) hO11 (by omega)) (by omega)
  refine rw_val (v := .tuple #[.pointer (some ⟨gd5, 0, none⟩), .slice A7 ((([] : List (List Int))).length) c8, errT none]) (w' := w9) rfl rfl rfl rfl rfl ?_
  refine rw_val (v := .pointer (some ⟨gd5, 0, none⟩)) (w' := w9) rfl rfl rfl rfl (by simp [go_sem, sEv, sLook, nbeq, i64_w, -List.getD_eq_getElem?_getD]) ?_
  refine rw_val (v := .slice A7 ((([] : List (List Int))).length) c8) (w' := w9) rfl rfl rfl rfl (by simp [go_sem, sEv, sLook, nbeq, i64_w, -List.getD_eq_getElem?_getD]) ?_
  refine rw_val (v := errT none) (w' := w9) rfl rfl rfl rfl (by simp [go_sem, sEv, sLook, nbeq, i64_w, -List.getD_eq_getElem?_getD]) ?_
  refine rw_val (v := .pointer (some ⟨gd5, 0, none⟩)) (w' := w9) rfl rfl rfl rfl rfl ?_
  refine rw_val (v := .slice A7 ((([] : List (List Int))).length) c8) (w' := w9) rfl rfl rfl rfl rfl ?_
  refine rw_val (v := errT none) (w' := w9) rfl rfl rfl rfl rfl ?_
  refine rw_end ?_
  refine w_weaken (G' := [(0, .bool false), (1, .pointer (some ⟨g1, 0, none⟩)), (2, .pointer (some ⟨gd5, 0, none⟩)), (3, .slice A7 ((([] : List (List Int))).length) c8), (4, errT none)]) ⟨rfl, rfl, rfl, rfl, rfl, trivial⟩ ?_
  refine w_seq ?_
  refine w_seq ?_
  refine w_region ?_
  refine rw_val (v := errT none) (w' := w9) rfl rfl rfl rfl rfl ?_
  refine rw_val (v := .bool ((none : Option Int).isSome)) (w' := w9) rfl rfl rfl rfl (run_as (guard_err_neq _ (none : Option Int) _)) ?_
  refine rw_val (v := .bool ((none : Option Int).isSome)) (w' := w9) rfl rfl rfl rfl rfl ?_
  have hq14 : ((none : Option Int).isSome) = false := by rfl
  refine rw_on (c := (none : Option Int).isSome) rfl rfl rfl (by first | (rw [hq14]; rfl) | simp [hq14]) ?_
  refine rw_val (v := .pointer (some ⟨gd5, 0, none⟩)) (w' := w9) rfl rfl rfl rfl rfl ?_
  refine rw_on (c := (none : Option Int).isSome) rfl rfl rfl (by first | (rw [hq14]; rfl) | simp [hq14]) ?_
  refine rw_val (v := .bool false) (w' := w9) rfl rfl rfl rfl (run_as (run_ptr_eql (e := 80) (by kernel_rfl) _ _)) ?_
  refine rw_val (v := .bool false) (w' := w9) rfl rfl rfl rfl (by first | (simp [go_sem, sEv, sLook, nbeq, i64_w, -List.getD_eq_getElem?_getD, hq14]; done) | (rw [hq14]; simp [go_sem, sEv, sLook, nbeq, i64_w, -List.getD_eq_getElem?_getD]; done) | (simp [go_sem, sEv, sLook, nbeq, i64_w, -List.getD_eq_getElem?_getD] <;> omega) | (simp [go_sem, sEv, sLook, nbeq, i64_w, -List.getD_eq_getElem?_getD]; intro h_; exact absurd (by omega) h_)) ?_
  refine rw_val (v := .bool false) (w' := w9) rfl rfl rfl rfl rfl ?_
  refine rw_on (c := false) rfl rfl rfl rfl ?_
  refine rw_val (v := .slice A7 ((([] : List (List Int))).length) c8) (w' := w9) rfl rfl rfl rfl rfl ?_
  refine rw_on (c := false) rfl rfl rfl rfl ?_
  refine rw_val (v := .int .i64 (((([] : List (List Int))).length : Nat) : Int)) (w' := w9) rfl rfl rfl rfl (by simp [go_sem, sEv, sLook, nbeq, i64_w, -List.getD_eq_getElem?_getD]) ?_
  refine rw_on (c := false) rfl rfl rfl rfl ?_
  refine rw_val (v := .bool ((((([] : List (List Int))).length : Nat) : Int) != 0)) (w' := w9) rfl rfl rfl rfl (by simp [go_sem, sEv, sLook, nbeq, i64_w, -List.getD_eq_getElem?_getD]) ?_
  refine rw_val (v := .bool ((((([] : List (List Int))).length : Nat) : Int) != 0)) (w' := w9) rfl rfl rfl rfl (by simp [go_sem, sEv, sLook, nbeq, i64_w, -List.getD_eq_getElem?_getD]) ?_
  refine rw_val (v := .bool ((((([] : List (List Int))).length : Nat) : Int) != 0)) (w' := w9) rfl rfl rfl rfl rfl ?_
  have hq15 : ((((([] : List (List Int))).length : Nat) : Int) != 0) = false := by rfl
  refine rw_on (c := ((((([] : List (List Int))).length : Nat) : Int) != 0)) rfl rfl rfl (by first | (rw [hq15]; rfl) | simp [hq15]) ?_
  refine rw_val (v := .pointer (some ⟨gd5, 0, none⟩)) (w' := w9) rfl rfl rfl rfl rfl ?_
  refine rw_on (c := ((((([] : List (List Int))).length : Nat) : Int) != 0)) rfl rfl rfl (by first | (rw [hq15]; rfl) | simp [hq15]) ?_
  refine rw_new (cs := #[.int .u8 97]) (t := 5) (fun g => .slice (some ⟨g, 0, none⟩) 1 1) rfl rfl rfl rfl (by kernel_rfl) ?_
  intro g16 w17 hg21 hz20 hb18 hk19
  have hs_w17 := hb18.size
  have hk19r : OwnK (Kd.int .u8) 5 w17 w.heap.size g16 (some ⟨g16, 0, none⟩) 1 1 ([97] : List Int) := scal_own w.heap.size hk19 (by omega) rfl rfl (by decide)
  refine rw_on (c := ((((([] : List (List Int))).length : Nat) : Int) != 0)) rfl rfl rfl (by first | (rw [hq15]; rfl) | simp [hq15]) ?_
  obtain ⟨w22, hr23, hk24, hf25⟩ := conv_same hk19 1 1
  refine rw_val (v := .slice (some ⟨g16, 0, none⟩) 1 1) (w' := w22) rfl rfl rfl rfl (run_as hr23) ?_
  have hs_w22 := hk24.size
  have hC26 : (Kd.int .u8).C w22 (some ⟨g16, 0, none⟩) 1 ([97] : List Int) := FB.C hf25 (fun j hj => by
    match j, hj with
    | 0, _ => rfl
    | j + 1, hj => simp only [List.length_cons, List.length_nil] at hj; omega) (by decide)
  refine rw_on (c := ((((([] : List (List Int))).length : Nat) : Int) != 0)) rfl rfl rfl (by first | (rw [hq15]; rfl) | simp [hq15]) ?_
  refine rw_call rfl rfl rfl rfl (f := 12) (args := #[.pointer (some ⟨gd5, 0, none⟩), .slice (some ⟨g16, 0, none⟩) 1 1]) (by simp [go_sem, sEv, sLook, nbeq, i64_w, -List.getD_eq_getElem?_getD]) (add_D w w22 g1 gd5 m6 (⟨TS.start, ((([] : List (List Int))).length : Int), ((FC ([] : List (List Int))).length : Int)⟩ : DS) ⟨(TapeAt.far (TapeAt.on hD10t hb18) hk24 (by omega) (by omega)), ((hD10b.on hb18).keep hk24 (by omega)), hD10g, hD10z⟩ (okB_ok (by decide +kernel)) (by decide +kernel) (by decide +kernel) (by decide +kernel) (some ⟨g16, 0, none⟩) 1 ([97] : List Int) (Kd.C_below hC26 (Below.refl _ _)) (Nat.le_refl _) (by first | omega | (simp only [List.length_cons, List.length_nil]; omega))) ?_
  rintro e_ w29 ⟨rfl, m28, hD30, hs31⟩
  refine ⟨errT ((⟨TS.start, ((([] : List (List Int))).length : Int), ((FC ([] : List (List Int))).length : Int)⟩ : DS).addE ([97] : List Int)), rfl, ?_⟩
  obtain ⟨hD30t, hD30b, hD30g, hD30z⟩ := hD30
  have hz_w29 := hD30t.size
  have hlt_w29 := hD30b.lt
  refine rw_on (c := ((((([] : List (List Int))).length : Nat) : Int) != 0)) rfl rfl rfl (by first | (rw [hq15]; rfl) | simp [hq15]) ?_
  refine rw_val (v := .bool (((⟨TS.start, ((([] : List (List Int))).length : Int), ((FC ([] : List (List Int))).length : Int)⟩ : DS).addE ([97] : List Int)).isSome)) (w' := w29) rfl rfl rfl rfl (run_as (guard_err_neq _ ((⟨TS.start, ((([] : List (List Int))).length : Int), ((FC ([] : List (List Int))).length : Int)⟩ : DS).addE ([97] : List Int)) _)) ?_
  refine rw_val (v := .bool (((⟨TS.start, ((([] : List (List Int))).length : Int), ((FC ([] : List (List Int))).length : Int)⟩ : DS).addE ([97] : List Int)).isSome)) (w' := w29) rfl rfl rfl rfl (by first | (simp [go_sem, sEv, sLook, nbeq, i64_w, -List.getD_eq_getElem?_getD, hq15]; done) | (rw [hq15]; simp [go_sem, sEv, sLook, nbeq, i64_w, -List.getD_eq_getElem?_getD]; done) | (simp [go_sem, sEv, sLook, nbeq, i64_w, -List.getD_eq_getElem?_getD] <;> omega) | (simp [go_sem, sEv, sLook, nbeq, i64_w, -List.getD_eq_getElem?_getD]; intro h_; exact absurd (by omega) h_)) ?_
  refine rw_val (v := .bool (((⟨TS.start, ((([] : List (List Int))).length : Int), ((FC ([] : List (List Int))).length : Int)⟩ : DS).addE ([97] : List Int)).isSome)) (w' := w29) rfl rfl rfl rfl rfl ?_
  have hq32 : (((⟨TS.start, ((([] : List (List Int))).length : Int), ((FC ([] : List (List Int))).length : Int)⟩ : DS).addE ([97] : List Int)).isSome) = false := by kernel_rfl
  refine rw_on (c := ((⟨TS.start, ((([] : List (List Int))).length : Int), ((FC ([] : List (List Int))).length : Int)⟩ : DS).addE ([97] : List Int)).isSome) rfl rfl rfl (by first | (rw [hq32]; rfl) | simp [hq32]) ?_
  refine rw_val (v := .pointer (some ⟨g1, 0, none⟩)) (w' := w29) rfl rfl rfl rfl rfl ?_
  refine rw_on (c := ((⟨TS.start, ((([] : List (List Int))).length : Int), ((FC ([] : List (List Int))).length : Int)⟩ : DS).addE ([97] : List Int)).isSome) rfl rfl rfl (by first | (rw [hq32]; rfl) | simp [hq32]) ?_
  refine rw_call rfl rfl rfl rfl (f := 19) (args := #[.pointer (some ⟨g1, 0, none⟩), .int .i64 1]) (by simp [go_sem, sEv, sLook, nbeq, i64_w, -List.getD_eq_getElem?_getD]) (arm_T w w29 g1 m28 gd5 (by omega) (((⟨TS.start, ((([] : List (List Int))).length : Int), ((FC ([] : List (List Int))).length : Int)⟩ : DS).add ([97] : List Int)).s) hD30t (okB_ok (by decide +kernel)) 1 rfl) ?_
  rintro e_ w33 ⟨rfl, hT34, hs35, hx36⟩
  refine ⟨_, rfl, ?_⟩
  have hz_w33 := hT34.size
  have hk_w33 : Blk w33 gd5 80 _ := (hx36 hD30g).trans (hD30b)
  have hlt_w33 := hk_w33.lt
  refine rw_on (c := ((⟨TS.start, ((([] : List (List Int))).length : Int), ((FC ([] : List (List Int))).length : Int)⟩ : DS).addE ([97] : List Int)).isSome) rfl rfl rfl (by first | (rw [hq32]; rfl) | simp [hq32]) ?_
  refine rw_val (v := .bool ((none : Option Int).isSome)) (w' := w33) rfl rfl rfl rfl (run_as (guard_err_neq _ (none : Option Int) _)) ?_
  refine rw_val (v := .bool ((none : Option Int).isSome)) (w' := w33) rfl rfl rfl rfl (by first | (simp [go_sem, sEv, sLook, nbeq, i64_w, -List.getD_eq_getElem?_getD, hq32]; done) | (rw [hq32]; simp [go_sem, sEv, sLook, nbeq, i64_w, -List.getD_eq_getElem?_getD]; done) | (simp [go_sem, sEv, sLook, nbeq, i64_w, -List.getD_eq_getElem?_getD] <;> omega) | (simp [go_sem, sEv, sLook, nbeq, i64_w, -List.getD_eq_getElem?_getD]; intro h_; exact absurd (by omega) h_)) ?_
  refine rw_val (v := .bool ((none : Option Int).isSome)) (w' := w33) rfl rfl rfl rfl rfl ?_
  refine rw_on (c := (none : Option Int).isSome) rfl rfl rfl (by first | (rw [hq14]; rfl) | simp [hq14]) ?_
  refine rw_val (v := .pointer (some ⟨gd5, 0, none⟩)) (w' := w33) rfl rfl rfl rfl rfl ?_
  refine rw_on (c := (none : Option Int).isSome) rfl rfl rfl (by first | (rw [hq14]; rfl) | simp [hq14]) ?_
  refine rw_new (cs := #[.int .u8 98]) (t := 5) (fun g => .slice (some ⟨g, 0, none⟩) 1 1) rfl rfl rfl rfl (by kernel_rfl) ?_
  intro g37 w38 hg42 hz41 hb39 hk40
  have hs_w38 := hb39.size
  have hk40r : OwnK (Kd.int .u8) 5 w38 w.heap.size g37 (some ⟨g37, 0, none⟩) 1 1 ([98] : List Int) := scal_own w.heap.size hk40 (by omega) rfl rfl (by decide)
  refine rw_on (c := (none : Option Int).isSome) rfl rfl rfl (by first | (rw [hq14]; rfl) | simp [hq14]) ?_
  obtain ⟨w43, hr44, hk45, hf46⟩ := conv_same hk40 1 1
  refine rw_val (v := .slice (some ⟨g37, 0, none⟩) 1 1) (w' := w43) rfl rfl rfl rfl (run_as hr44) ?_
  have hs_w43 := hk45.size
  have hC47 : (Kd.int .u8).C w43 (some ⟨g37, 0, none⟩) 1 ([98] : List Int) := FB.C hf46 (fun j hj => by
    match j, hj with
    | 0, _ => rfl
    | j + 1, hj => simp only [List.length_cons, List.length_nil] at hj; omega) (by decide)
  refine rw_on (c := (none : Option Int).isSome) rfl rfl rfl (by first | (rw [hq14]; rfl) | simp [hq14]) ?_
  refine rw_call rfl rfl rfl rfl (f := 12) (args := #[.pointer (some ⟨gd5, 0, none⟩), .slice (some ⟨g37, 0, none⟩) 1 1]) (by simp [go_sem, sEv, sLook, nbeq, i64_w, -List.getD_eq_getElem?_getD]) (add_D w w43 g1 gd5 w33.heap.size (⟨({ ((⟨TS.start, ((([] : List (List Int))).length : Int), ((FC ([] : List (List Int))).length : Int)⟩ : DS).add ([97] : List Int)).s with ps := true, pl := 1 } : TS), ((⟨TS.start, ((([] : List (List Int))).length : Int), ((FC ([] : List (List Int))).length : Int)⟩ : DS).add ([97] : List Int)).r, ((⟨TS.start, ((([] : List (List Int))).length : Int), ((FC ([] : List (List Int))).length : Int)⟩ : DS).add ([97] : List Int)).b⟩ : DS) ⟨(TapeAt.far (TapeAt.on hT34 hb39) hk45 (by omega) (by omega)), ((hk_w33.on hb39).keep hk45 (by omega)), hD30g, hD30z⟩ (okB_ok (by decide +kernel)) (by decide +kernel) (by decide +kernel) (by decide +kernel) (some ⟨g37, 0, none⟩) 1 ([98] : List Int) (Kd.C_below hC47 (Below.refl _ _)) (Nat.le_refl _) (by first | omega | (simp only [List.length_cons, List.length_nil]; omega))) ?_
  rintro e_ w50 ⟨rfl, m49, hD51, hs52⟩
  refine ⟨errT ((⟨({ ((⟨TS.start, ((([] : List (List Int))).length : Int), ((FC ([] : List (List Int))).length : Int)⟩ : DS).add ([97] : List Int)).s with ps := true, pl := 1 } : TS), ((⟨TS.start, ((([] : List (List Int))).length : Int), ((FC ([] : List (List Int))).length : Int)⟩ : DS).add ([97] : List Int)).r, ((⟨TS.start, ((([] : List (List Int))).length : Int), ((FC ([] : List (List Int))).length : Int)⟩ : DS).add ([97] : List Int)).b⟩ : DS).addE ([98] : List Int)), rfl, ?_⟩
  obtain ⟨hD51t, hD51b, hD51g, hD51z⟩ := hD51
  have hz_w50 := hD51t.size
  have hlt_w50 := hD51b.lt
  refine rw_on (c := (none : Option Int).isSome) rfl rfl rfl (by first | (rw [hq14]; rfl) | simp [hq14]) ?_
  refine rw_val (v := errT (some 5)) (w' := w50) rfl rfl rfl rfl (by simp [go_sem, sEv, sLook, nbeq, i64_w, -List.getD_eq_getElem?_getD, errT]) ?_
  refine rw_on (c := (none : Option Int).isSome) rfl rfl rfl (by first | (rw [hq14]; rfl) | simp [hq14]) ?_
  refine rw_val (v := .bool false) (w' := w50) rfl rfl rfl rfl (run_bool (run_as (guard_err_neqs _ _ ((⟨({ ((⟨TS.start, ((([] : List (List Int))).length : Int), ((FC ([] : List (List Int))).length : Int)⟩ : DS).add ([97] : List Int)).s with ps := true, pl := 1 } : TS), ((⟨TS.start, ((([] : List (List Int))).length : Int), ((FC ([] : List (List Int))).length : Int)⟩ : DS).add ([97] : List Int)).r, ((⟨TS.start, ((([] : List (List Int))).length : Int), ((FC ([] : List (List Int))).length : Int)⟩ : DS).add ([97] : List Int)).b⟩ : DS).addE ([98] : List Int)) 5 _)) (by decide +kernel)) ?_
  refine rw_val (v := .bool false) (w' := w50) rfl rfl rfl rfl (by first | (simp [go_sem, sEv, sLook, nbeq, i64_w, -List.getD_eq_getElem?_getD, hq14]; done) | (rw [hq14]; simp [go_sem, sEv, sLook, nbeq, i64_w, -List.getD_eq_getElem?_getD]; done) | (simp [go_sem, sEv, sLook, nbeq, i64_w, -List.getD_eq_getElem?_getD] <;> omega) | (simp [go_sem, sEv, sLook, nbeq, i64_w, -List.getD_eq_getElem?_getD]; intro h_; exact absurd (by omega) h_)) ?_
  refine rw_end ?_
  refine w_weaken (G' := [(0, .bool false), (1, .pointer (some ⟨g1, 0, none⟩)), (3, .slice A7 ((([] : List (List Int))).length) c8), (4, errT none), (42, .bool false)]) ⟨rfl, rfl, rfl, rfl, rfl, trivial⟩ ?_
  refine w_cond_f rfl rfl rfl ?_
  refine w_skip ?_
  refine w_seq ?_
  refine w_region ?_
  refine rw_val (v := .pointer (some ⟨g1, 0, none⟩)) (w' := w50) rfl rfl rfl rfl rfl ?_
  refine rw_call rfl rfl rfl rfl (f := 22) (args := #[.pointer (some ⟨g1, 0, none⟩), .int .i64 100]) (by simp [go_sem, sEv, sLook, nbeq, i64_w, -List.getD_eq_getElem?_getD]) (crash_T w w50 g1 m49 gd5 (by omega) (((⟨({ ((⟨TS.start, ((([] : List (List Int))).length : Int), ((FC ([] : List (List Int))).length : Int)⟩ : DS).add ([97] : List Int)).s with ps := true, pl := 1 } : TS), ((⟨TS.start, ((([] : List (List Int))).length : Int), ((FC ([] : List (List Int))).length : Int)⟩ : DS).add ([97] : List Int)).r, ((⟨TS.start, ((([] : List (List Int))).length : Int), ((FC ([] : List (List Int))).length : Int)⟩ : DS).add ([97] : List Int)).b⟩ : DS).add ([98] : List Int)).s) hD51t (okB_ok (by decide +kernel)) 100) ?_
  rintro e_ w53 ⟨rfl, hT54, hs55, hx56⟩
  refine ⟨.tuple #[], rfl, ?_⟩
  have hz_w53 := hT54.size
  have hk_w53 : Blk w53 gd5 80 _ := (hx56 hD51g).trans (hD51b)
  have hlt_w53 := hk_w53.lt
  refine rw_end ?_
  refine w_seq ?_
  refine w_region ?_
  refine rw_val (v := .pointer (some ⟨g1, 0, none⟩)) (w' := w53) rfl rfl rfl rfl rfl ?_
  refine rw_call rfl rfl rfl rfl (f := 11) (args := #[.pointer (some ⟨g1, 0, none⟩)]) (by simp [go_sem, sEv, sLook, nbeq, i64_w, -List.getD_eq_getElem?_getD]) (open_full w w53 g1 w53.heap.size gd5 (by omega) (TS.crash (((⟨({ ((⟨TS.start, ((([] : List (List Int))).length : Int), ((FC ([] : List (List Int))).length : Int)⟩ : DS).add ([97] : List Int)).s with ps := true, pl := 1 } : TS), ((⟨TS.start, ((([] : List (List Int))).length : Int), ((FC ([] : List (List Int))).length : Int)⟩ : DS).add ([97] : List Int)).r, ((⟨TS.start, ((([] : List (List Int))).length : Int), ((FC ([] : List (List Int))).length : Int)⟩ : DS).add ([97] : List Int)).b⟩ : DS).add ([98] : List Int)).s) 100) hT54 (okB_ok (by decide +kernel)) ([[97], [98]] : List (List Int)) (by kernel_rfl) (by decide +kernel) (by intro r hr; simp only [List.mem_cons, List.not_mem_nil, or_false] at hr; rcases hr with rfl | rfl <;> (intro c hc; rw [List.mem_singleton.1 hc]; omega)) (by kernel_rfl)) ?_
  rintro e_ w61 ⟨gd57, m58, A59, c60, rfl, hD62, hO63, hs64⟩
  refine ⟨_, rfl, ?_⟩
  obtain ⟨hD62t, hD62b, hD62g, hD62z⟩ := hD62
  have hz_w61 := hD62t.size
  have hlt_w61 := hD62b.lt
  have hL65 : OwnK (Kd.slice 5 (Kd.int .u8)) 32 w61 w.heap.size w.heap.size A59 (([[97], [98]] : List (List Int))).length c60 ([[97], [98]] : List (List Int)) := OwnK.mono (d := (Kd.slice 5 (Kd.int .u8))) (OwnK.lower (d := (Kd.slice 5 (Kd.int .u8))) hO63 (by omega)) (by omega)
  refine rw_val (v := .tuple #[.pointer (some ⟨gd57, 0, none⟩), .slice A59 ((([[97], [98]] : List (List Int))).length) c60, errT none]) (w' := w61) rfl rfl rfl rfl rfl ?_
  refine rw_val (v := .pointer (some ⟨gd57, 0, none⟩)) (w' := w61) rfl rfl rfl rfl (by simp [go_sem, sEv, sLook, nbeq, i64_w, -List.getD_eq_getElem?_getD]) ?_
  refine rw_val (v := .slice A59 ((([[97], [98]] : List (List Int))).length) c60) (w' := w61) rfl rfl rfl rfl (by simp [go_sem, sEv, sLook, nbeq, i64_w, -List.getD_eq_getElem?_getD]) ?_
  refine rw_val (v := errT none) (w' := w61) rfl rfl rfl rfl (by simp [go_sem, sEv, sLook, nbeq, i64_w, -List.getD_eq_getElem?_getD]) ?_
  refine rw_val (v := .slice A59 ((([[97], [98]] : List (List Int))).length) c60) (w' := w61) rfl rfl rfl rfl rfl ?_
  refine rw_val (v := errT none) (w' := w61) rfl rfl rfl rfl rfl ?_
  refine rw_end ?_
  refine w_weaken (G' := [(0, .bool false), (3, .slice A59 ((([[97], [98]] : List (List Int))).length) c60), (4, errT none)]) ⟨rfl, rfl, rfl, trivial⟩ ?_
  refine w_seq ?_
  refine w_region ?_
  refine rw_val (v := errT none) (w' := w61) rfl rfl rfl rfl rfl ?_
  refine rw_val (v := .bool ((none : Option Int).isNone)) (w' := w61) rfl rfl rfl rfl (run_as (guard_err_eq0 _ (none : Option Int) _)) ?_
  refine rw_val (v := .bool ((none : Option Int).isNone)) (w' := w61) rfl rfl rfl rfl rfl ?_
  have hq66 : ((none : Option Int).isNone) = true := by rfl
  refine rw_on (c := (none : Option Int).isNone) rfl rfl rfl (by first | (rw [hq66]; rfl) | simp [hq66]) ?_
  refine rw_val (v := .slice A59 ((([[97], [98]] : List (List Int))).length) c60) (w' := w61) rfl rfl rfl rfl rfl ?_
  refine rw_on (c := (none : Option Int).isNone) rfl rfl rfl (by first | (rw [hq66]; rfl) | simp [hq66]) ?_
  refine rw_val (v := .int .i64 (((([[97], [98]] : List (List Int))).length : Nat) : Int)) (w' := w61) rfl rfl rfl rfl (by simp [go_sem, sEv, sLook, nbeq, i64_w, -List.getD_eq_getElem?_getD]) ?_
  refine rw_on (c := (none : Option Int).isNone) rfl rfl rfl (by first | (rw [hq66]; rfl) | simp [hq66]) ?_
  refine rw_val (v := .bool ((((([[97], [98]] : List (List Int))).length : Nat) : Int) == 2)) (w' := w61) rfl rfl rfl rfl (by simp [go_sem, sEv, sLook, nbeq, i64_w, -List.getD_eq_getElem?_getD]) ?_
  refine rw_val (v := .bool ((((([[97], [98]] : List (List Int))).length : Nat) : Int) == 2)) (w' := w61) rfl rfl rfl rfl (by first | (simp [go_sem, sEv, sLook, nbeq, i64_w, -List.getD_eq_getElem?_getD, hq66]; done) | (rw [hq66]; simp [go_sem, sEv, sLook, nbeq, i64_w, -List.getD_eq_getElem?_getD]; done) | (simp [go_sem, sEv, sLook, nbeq, i64_w, -List.getD_eq_getElem?_getD] <;> omega) | (simp [go_sem, sEv, sLook, nbeq, i64_w, -List.getD_eq_getElem?_getD]; intro h_; exact absurd (by omega) h_)) ?_
  refine rw_val (v := .bool ((((([[97], [98]] : List (List Int))).length : Nat) : Int) == 2)) (w' := w61) rfl rfl rfl rfl rfl ?_
  have hq67 : ((((([[97], [98]] : List (List Int))).length : Nat) : Int) == 2) = true := by rfl
  refine rw_on (c := ((((([[97], [98]] : List (List Int))).length : Nat) : Int) == 2)) rfl rfl rfl (by first | (rw [hq67]; rfl) | simp [hq67]) ?_
  refine rw_val (v := .slice A59 ((([[97], [98]] : List (List Int))).length) c60) (w' := w61) rfl rfl rfl rfl rfl ?_
  refine rw_on (c := ((((([[97], [98]] : List (List Int))).length : Nat) : Int) == 2)) rfl rfl rfl (by first | (rw [hq67]; rfl) | simp [hq67]) ?_
  obtain ⟨g71, rfl⟩ := OwnK.adr (d := (Kd.slice 5 (Kd.int .u8))) hL65 (by first | omega | decide)
  obtain ⟨hc70a, A72, c73, hA69, he74, hle75, hC76⟩ := rows_at (Kd.C_below (OwnK.C (d := (Kd.slice 5 (Kd.int .u8))) hL65) (Below.refl _ _)) 0 (by first | omega | decide)
  obtain rfl := Option.some.inj hA69
  have he77 : w61.cell? ⟨g71, 0, none⟩ = some (.slice A72 ((([[97], [98]] : List (List Int)).getD 0 []).length) c73) := cell_g he74 rfl
  refine rw_val (v := .pointer (some ⟨g71, 0, none⟩)) (w' := w61) rfl rfl rfl rfl (run_as (run_at_z (P := Try.prog) (e := 32) (sz := 1) (by kernel_rfl) (by kernel_rfl)  (by first | omega | decide) _)) ?_
  refine rw_on (c := ((((([[97], [98]] : List (List Int))).length : Nat) : Int) == 2)) rfl rfl rfl (by first | (rw [hq67]; rfl) | simp [hq67]) ?_
  refine rw_val (v := .slice A72 ((([[97], [98]] : List (List Int)).getD 0 []).length) c73) (w' := w61) rfl rfl rfl rfl (by have e0_ := cellOn he77 (Below.refl _ _); simp [go_sem, sEv, sLook, nbeq, i64_w, -List.getD_eq_getElem?_getD, e0_, Try.underlying32]) ?_
  refine rw_on (c := ((((([[97], [98]] : List (List Int))).length : Nat) : Int) == 2)) rfl rfl rfl (by first | (rw [hq67]; rfl) | simp [hq67]) ?_
  refine rw_val (v := .string (strOfNums (([[97], [98]] : List (List Int)).getD 0 []))) (w' := w61) rfl rfl rfl rfl (run_as (run_str_of (P := Try.prog) (e := 5) (by kernel_rfl) (by kernel_rfl) (by kernel_rfl) (Kd.C_below hC76 (Below.refl _ _)))) ?_
  refine rw_on (c := ((((([[97], [98]] : List (List Int))).length : Nat) : Int) == 2)) rfl rfl rfl (by first | (rw [hq67]; rfl) | simp [hq67]) ?_
  refine rw_val (v := .bool (decide (strOfNums (([[97], [98]] : List (List Int)).getD 0 []) = (⟨#[97]⟩ : ByteArray)))) (w' := w61) rfl rfl rfl rfl (run_as (run_str_eql 9 _ _ _)) ?_
  refine rw_val (v := .bool (decide (strOfNums (([[97], [98]] : List (List Int)).getD 0 []) = (⟨#[97]⟩ : ByteArray)))) (w' := w61) rfl rfl rfl rfl (by first | (simp [go_sem, sEv, sLook, nbeq, i64_w, -List.getD_eq_getElem?_getD, hq67]; done) | (rw [hq67]; simp [go_sem, sEv, sLook, nbeq, i64_w, -List.getD_eq_getElem?_getD]; done) | (simp [go_sem, sEv, sLook, nbeq, i64_w, -List.getD_eq_getElem?_getD] <;> omega) | (simp [go_sem, sEv, sLook, nbeq, i64_w, -List.getD_eq_getElem?_getD]; intro h_; exact absurd (by omega) h_)) ?_
  refine rw_val (v := .bool (decide (strOfNums (([[97], [98]] : List (List Int)).getD 0 []) = (⟨#[97]⟩ : ByteArray)))) (w' := w61) rfl rfl rfl rfl rfl ?_
  have hq78 : (decide (strOfNums (([[97], [98]] : List (List Int)).getD 0 []) = (⟨#[97]⟩ : ByteArray))) = true := by decide +kernel
  refine rw_on (c := decide (strOfNums (([[97], [98]] : List (List Int)).getD 0 []) = (⟨#[97]⟩ : ByteArray))) rfl rfl rfl (by first | (rw [hq78]; rfl) | simp [hq78]) ?_
  refine rw_val (v := .slice (some ⟨g71, 0, none⟩) ((([[97], [98]] : List (List Int))).length) c60) (w' := w61) rfl rfl rfl rfl rfl ?_
  refine rw_on (c := decide (strOfNums (([[97], [98]] : List (List Int)).getD 0 []) = (⟨#[97]⟩ : ByteArray))) rfl rfl rfl (by first | (rw [hq78]; rfl) | simp [hq78]) ?_
  obtain ⟨hc81a, A82, c83, hA80, he84, hle85, hC86⟩ := rows_at (Kd.C_below (OwnK.C (d := (Kd.slice 5 (Kd.int .u8))) hL65) (Below.refl _ _)) 1 (by first | omega | decide)
  obtain rfl := Option.some.inj hA80
  have he87 : w61.cell? ⟨g71, 1, none⟩ = some (.slice A82 ((([[97], [98]] : List (List Int)).getD 1 []).length) c83) := cell_g he84 rfl
  refine rw_val (v := .pointer (some ⟨g71, 1, none⟩)) (w' := w61) rfl rfl rfl rfl (by rw [← add_plain g71 (1)]; exact (run_as (run_at_1 (P := Try.prog) (e := 32) (by kernel_rfl) (by kernel_rfl) 1 (by first | omega | decide) _))) ?_
  refine rw_on (c := decide (strOfNums (([[97], [98]] : List (List Int)).getD 0 []) = (⟨#[97]⟩ : ByteArray))) rfl rfl rfl (by first | (rw [hq78]; rfl) | simp [hq78]) ?_
  refine rw_val (v := .slice A82 ((([[97], [98]] : List (List Int)).getD 1 []).length) c83) (w' := w61) rfl rfl rfl rfl (by have e0_ := cellOn he87 (Below.refl _ _); simp [go_sem, sEv, sLook, nbeq, i64_w, -List.getD_eq_getElem?_getD, e0_, Try.underlying32]) ?_
  refine rw_on (c := decide (strOfNums (([[97], [98]] : List (List Int)).getD 0 []) = (⟨#[97]⟩ : ByteArray))) rfl rfl rfl (by first | (rw [hq78]; rfl) | simp [hq78]) ?_
  refine rw_val (v := .string (strOfNums (([[97], [98]] : List (List Int)).getD 1 []))) (w' := w61) rfl rfl rfl rfl (run_as (run_str_of (P := Try.prog) (e := 5) (by kernel_rfl) (by kernel_rfl) (by kernel_rfl) (Kd.C_below hC86 (Below.refl _ _)))) ?_
  refine rw_on (c := decide (strOfNums (([[97], [98]] : List (List Int)).getD 0 []) = (⟨#[97]⟩ : ByteArray))) rfl rfl rfl (by first | (rw [hq78]; rfl) | simp [hq78]) ?_
  refine rw_val (v := .bool (decide (strOfNums (([[97], [98]] : List (List Int)).getD 1 []) = (⟨#[98]⟩ : ByteArray)))) (w' := w61) rfl rfl rfl rfl (run_as (run_str_eql 9 _ _ _)) ?_
  refine rw_val (v := .bool (decide (strOfNums (([[97], [98]] : List (List Int)).getD 1 []) = (⟨#[98]⟩ : ByteArray)))) (w' := w61) rfl rfl rfl rfl (by first | (simp [go_sem, sEv, sLook, nbeq, i64_w, -List.getD_eq_getElem?_getD, hq78]; done) | (rw [hq78]; simp [go_sem, sEv, sLook, nbeq, i64_w, -List.getD_eq_getElem?_getD]; done) | (simp [go_sem, sEv, sLook, nbeq, i64_w, -List.getD_eq_getElem?_getD] <;> omega) | (simp [go_sem, sEv, sLook, nbeq, i64_w, -List.getD_eq_getElem?_getD]; intro h_; exact absurd (by omega) h_)) ?_
  refine rw_val (v := .bool (decide (strOfNums (([[97], [98]] : List (List Int)).getD 1 []) = (⟨#[98]⟩ : ByteArray)))) (w' := w61) rfl rfl rfl rfl rfl ?_
  refine rw_end ?_
  refine w_weaken (G' := [(0, .bool (decide (strOfNums (([[97], [98]] : List (List Int)).getD 1 []) = (⟨#[98]⟩ : ByteArray))))]) ⟨rfl, trivial⟩ ?_
  have hq88 : (decide (strOfNums (([[97], [98]] : List (List Int)).getD 1 []) = (⟨#[98]⟩ : ByteArray))) = true := by decide +kernel
  refine w_ret (post_ret1 rfl rfl ?_)
  exact ⟨by simp only [hq88], hD62t.1⟩
end Go.Proofs.Ytiiljpaedelhlaa.Tp
