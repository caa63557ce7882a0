/- Which rows are too long: the law's walk. -/
import Derived.Test.YtiiljpaedelhlaaDyPure
import Derived.Test.YtiiljpaedelhlaaFlowY
import Derived.Test.YtiiljpaedelhlaaFlowV
import Derived.Test.YtiiljpaedelhlaaDyTexts
namespace Go.Proofs.Ytiiljpaedelhlaa.Tp
open Go.RowKit Go.Proofs.YtiiljpaedelhlaaW.PrintWords Go.Proofs.YtiiljpaedelhlaaW.PrintLast Go.Proofs.YtiiljpaedelhlaaW.PrintMore
open Go.Proofs.Ytiiljpaedelhlaa.Flow
open Go.Proofs.Ytiiljpaedelhlaa.PDiaryPlays (SplitR Bytes frameB frameE FC wholeP errW wrap_calls split_calls frameB_len frameB_bytes)
set_option linter.unusedVariables false
set_option linter.unusedSimpArgs false
abbrev FI : List (List Int) := [[102, 105, 114, 115, 116]]
abbrev ZB (sz : Nat) : List Int := List.replicate sz 0
theorem rem20 (x : Int) : ∃ q : Nat, (q : Int) = (IntKind.u64.wrap x).tmod 20000 ∧ q < 20000 := by
  have h0 : 0 ≤ IntKind.u64.wrap x := by simp [IntKind.wrap, IntKind.bits, IntKind.signed]; omega
  rw [Int.tmod_eq_emod_of_nonneg h0]
  exact ⟨(IntKind.u64.wrap x % 20000).toNat, by omega, by omega⟩
theorem frameE_yes {row : List Int} (h : 16376 < row.length) : frameE row = some 7 := by unfold frameE; rw [if_pos (by omega)]
theorem add_full (D : DS) (row : List Int) (h : 16376 < row.length) : D.addE row = some 7 ∧ D.add row = D := by
  have e := frameE_yes h
  refine ⟨by rw [DS.addE, e, if_pos (show (some (7 : Int)).isSome = true from rfl)], by rw [DS.add, e, if_pos (show (some (7 : Int)).isSome = true from rfl)]⟩
theorem rw_full (D : DS) (rows : List (List Int)) (row : List Int) (h : 16376 < row.length) : D.rwE (rows ++ [row]) = some 7 ∧ D.rw (rows ++ [row]) = D := by
  have e : rwFull (rows ++ [row]) = true := by
    unfold rwFull
    rw [List.any_append]
    have : ([row].any fun r => decide (16376 < r.length)) = true := by simp [h]
    rw [this]
    simp
  refine ⟨by rw [DS.rwE, if_pos e], by rw [DS.rw, if_pos e]⟩
theorem hd_snoc {w W : World} {hds : List Hd} {more : List (List Int)} {hd : Hd} {row : List Int} (hB : Below w.heap.size w W) (hl : hds.length = more.length) (hok : ∀ i, i < more.length → HdOk (Kd.int .u8) w (hds.getD i (none, 0, 0)) (more.getD i [])) (hz : HdOk (Kd.int .u8) W hd row) :
    ∀ i, i < (more ++ [row]).length → HdOk (Kd.int .u8) W ((hds ++ [hd]).getD i (none, 0, 0)) ((more ++ [row]).getD i []) := fun i hi => by
  rw [List.length_append, List.length_singleton] at hi
  rcases Nat.lt_or_ge i more.length with h1 | h1
  · have e1 : (hds ++ [hd]).getD i (none, 0, 0) = hds.getD i (none, 0, 0) := by
      rw [List.getD_eq_getElem?_getD, List.getElem?_append_left (by omega), ← List.getD_eq_getElem?_getD]
    have e2 : (more ++ [row]).getD i [] = more.getD i [] := by
      rw [List.getD_eq_getElem?_getD, List.getElem?_append_left h1, ← List.getD_eq_getElem?_getD]
    rw [e1, e2]
    exact (hok i h1).on hB
  · have e0 : i = more.length := by omega
    have e1 : (hds ++ [hd]).getD i (none, 0, 0) = hd := by
      rw [e0, ← hl, List.getD_eq_getElem?_getD, List.getElem?_append_right (Nat.le_refl _)]
      simp
    have e2 : (more ++ [row]).getD i [] = row := by
      rw [e0, List.getD_eq_getElem?_getD, List.getElem?_append_right (Nat.le_refl _)]
      simp
    rw [e1, e2]
    exact hz
/-- A literal of one row of zeros. -/
def ZSpec (B sz : Nat) : Flow.Spec where
  s := fun v w => ∃ g g5, v = .slice (some ⟨g, 0, none⟩) 1 1 ∧ B ≤ g ∧ B ≤ g5 ∧ Blk w g 32 #[.slice (some ⟨g5, 0, none⟩) sz sz] ∧ Blk w g5 5 (madeCells #[Value.int .u8 0] sz)
  pl := fun v => ∃ g, v = .slice (some ⟨g, 0, none⟩) 1 1
  stab := fun v w w' hb ⟨g, g5, h1, h2, h3, h4, h5⟩ => ⟨g, g5, h1, h2, h3, h4.on hb, h5.on hb⟩
  imp := fun v w ⟨g, _, h1, _⟩ => ⟨g, h1⟩
  inh := ⟨.slice (some ⟨0, 0, none⟩) 1 1, 0, rfl⟩
theorem z_gives {P : Program} {o : Oper} {G : Env} {w : World} {B sz g5 : Nat} (hB : B ≤ w.heap.size) (h : B ≤ g5 ∧ Blk w g5 5 (madeCells #[Value.int .u8 0] sz))
    (hrun : (execOp (sEv G) o).run P w = .ok (.value (.slice (some ⟨w.heap.size, 0, none⟩) 1 1)) (w.alloc (.cells #[.slice (some ⟨g5, 0, none⟩) sz sz] 32))) :
    ∃ v w', (execOp (sEv G) o).run P w = .ok (.value v) w' ∧ (ZSpec B sz).s v w' ∧ Below w.heap.size w w' :=
  ⟨_, _, hrun, ⟨_, g5, rfl, hB, h.1, Blk.alloc_new _ _ _, h.2.on (below_alloc (Below.refl _ _) _)⟩, below_alloc (Below.refl _ _) _⟩
theorem z_fact {B sz g : Nat} {w : World} (h : (ZSpec B sz).s (.slice (some ⟨g, 0, none⟩) 1 1) w) : ∃ g5, B ≤ g ∧ B ≤ g5 ∧ Blk w g 32 #[.slice (some ⟨g5, 0, none⟩) sz sz] ∧ Blk w g5 5 (madeCells #[Value.int .u8 0] sz) := by
  obtain ⟨g', g5, he, h2⟩ := h
  injection he with he
  injection he with he
  injection he with he
  subst he
  exact ⟨g5, h2⟩
theorem calls_cast {P : Program} {f : FuncId} {args args' : Array Value} {w : World} {R : Ending → World → Prop} (h : Calls P f args w R) (e : args = args') : Calls P f args' w R := e ▸ h
theorem fi_len : (FC FI).length = 13 := by decide +kernel
theorem fi_add (sz : Nat) (h : sz ≤ 16376) : (FC (FI ++ [ZB sz])).length = 13 + (8 + sz) := by
  have e := frameB_len (ZB sz) (by rw [List.length_replicate]; exact h)
  rw [FC_append, List.length_append, fi_len, FC_one, e, List.length_replicate]
end Go.Proofs.Ytiiljpaedelhlaa.Tp
namespace Go.Proofs.Ytiiljpaedelhlaa.Tp
open Go.RowKit Go.Proofs.YtiiljpaedelhlaaW.PrintWords Go.Proofs.YtiiljpaedelhlaaW.PrintLast Go.Proofs.YtiiljpaedelhlaaW.PrintMore
open Go.Proofs.Ytiiljpaedelhlaa.Flow
open Go.Proofs.Ytiiljpaedelhlaa.PDiaryPlays (SplitR Bytes frameB frameE FC wholeP errW wrap_calls split_calls frameB_len frameB_bytes)
set_option linter.unusedVariables false
set_option linter.unusedSimpArgs false

set_option maxHeartbeats 4000000 in
theorem walkFull (w : World) (size : Int) (A2 : Option Addr) (c2 : Nat) (more : List (List Int)) (hr : (Kd.slice 5 (Kd.int .u8)).C w A2 more.length more) (hc2 : more.length ≤ c2) (hall : ∀ p ∈ more, p.length ≤ 140737488351232) :
    Calls Try.prog 7 #[.int .i64 size, .slice A2 more.length c2] w fun e w' => e = .returned (.bool true) ∧ Below w.heap.size w w' := by
  obtain ⟨hds, hdl_, hM, hdok_⟩ := rows_hd hr
  refine calls_flow Try.func7 rfl 91 rfl (Nat.le_of_ble_eq_true rfl) [(0, .int .i64 size), (1, .slice A2 more.length c2)] ?_ ?_
  · intro t v h; exact args_look rfl t v h
  refine w_seq ?_
  refine w_region ?_
  refine rw_val (v := .bool false) (w' := w) rfl rfl rfl rfl rfl ?_
  refine rw_end ?_
  refine w_seq ?_
  refine w_seq ?_
  refine w_region ?_
  refine rw_call rfl rfl rfl rfl (f := 9) (args := #[]) (by simp [go_sem, sEv, sLook, nbeq, i64_w, -List.getD_eq_getElem?_getD, edge0]) (alive_calls w) ?_
  rintro e_ w1 ⟨rfl, hb2⟩
  refine ⟨_, rfl, ?_⟩
  have hs_w1 := hb2.size
  refine rw_val (v := .bool false) (w' := w1) rfl rfl rfl rfl (by simp [go_sem, sEv, sLook, nbeq, i64_w, -List.getD_eq_getElem?_getD, edge0]) ?_
  refine rw_end ?_
  refine w_cond_f rfl rfl rfl ?_
  refine w_skip ?_
  refine w_seq ?_
  refine w_region ?_
  refine rw_val (v := .int .i64 size) (w' := w1) rfl rfl rfl rfl rfl ?_
  refine rw_val (v := .int .u64 (IntKind.u64.wrap (size))) (w' := w1) rfl rfl rfl rfl (by simp [go_sem, sEv, sLook, nbeq, i64_w, -List.getD_eq_getElem?_getD, edge0, Try.underlying3, Try.underlying53]) ?_
  obtain ⟨sz, hsz_, hszl_⟩ := rem20 size
  refine rw_val (v := .int .u64 ((sz : Nat) : Int)) (w' := w1) rfl rfl rfl rfl (by rw [hsz_]; simp [go_sem, sEv, sLook, nbeq, i64_w, -List.getD_eq_getElem?_getD, edge0]) ?_
  refine rw_val (v := .int .i64 ((sz : Nat) : Int)) (w' := w1) rfl rfl rfl rfl (by simp [go_sem, sEv, sLook, nbeq, i64_w, -List.getD_eq_getElem?_getD, edge0, Try.underlying3, Try.underlying53]; exact wrap_id (by omega) (by omega)) ?_
  refine rw_val (v := .int .i64 ((sz : Nat) : Int)) (w' := w1) rfl rfl rfl rfl rfl ?_
  refine rw_end ?_
  refine w_weaken (G' := [(0, .int .i64 ((sz : Nat) : Int)), (1, .slice A2 more.length c2), (4, .bool false)]) ⟨rfl, rfl, rfl, trivial⟩ ?_
  refine w_seq ?_
  refine w_seq ?_
  refine w_region ?_
  refine rw_val (v := .slice A2 more.length c2) (w' := w1) rfl rfl rfl rfl rfl ?_
  refine rw_val (v := .int .i64 ((more.length : Nat) : Int)) (w' := w1) rfl rfl rfl rfl (by simp [go_sem, sEv, sLook, nbeq, i64_w, -List.getD_eq_getElem?_getD, edge0]) ?_
  refine rw_val (v := .bool (decide (20 < ((more.length : Nat) : Int)))) (w' := w1) rfl rfl rfl rfl (by simp [go_sem, sEv, sLook, nbeq, i64_w, -List.getD_eq_getElem?_getD, edge0]) ?_
  refine rw_end ?_
  refine w_cond rfl rfl (fun cM => ?_) (fun cM => ?_)
  · have l3 : (20 < ((more.length : Nat) : Int)) := of_decide_eq_true cM
    refine w_seq ?_
    refine w_region ?_
    refine rw_val (v := .bool true) (w' := w1) rfl rfl rfl rfl rfl ?_
    refine rw_end ?_
    refine w_ret (post_ret1 rfl rfl ?_)
    exact ⟨rfl, hb2⟩
  · have l4 : ¬ (20 < ((more.length : Nat) : Int)) := of_decide_eq_false cM
    refine w_skip ?_
    refine w_seq ?_
    refine w_region ?_
    refine rw_call rfl rfl rfl rfl (f := 10) (args := #[]) (by simp [go_sem, sEv, sLook, nbeq, i64_w, -List.getD_eq_getElem?_getD, edge0]) (new_T w1) ?_
    rintro e_ w6 ⟨g5, rfl, hT7, hs8⟩
    refine ⟨_, rfl, ?_⟩
    have hT7o : TapeAt w w6 g5 w6.heap.size (fun _ => False) TS.start := new_on hb2 hT7
    have hz_w6 := hT7o.size
    refine rw_val (v := .pointer (some ⟨g5, 0, none⟩)) (w' := w6) rfl rfl rfl rfl rfl ?_
    refine rw_end ?_
    refine w_seq ?_
    refine w_region ?_
    refine rw_val (v := .pointer (some ⟨g5, 0, none⟩)) (w' := w6) rfl rfl rfl rfl rfl ?_
    refine rw_call rfl rfl rfl rfl (f := 11) (args := #[.pointer (some ⟨g5, 0, none⟩)]) (by simp [go_sem, sEv, sLook, nbeq, i64_w, -List.getD_eq_getElem?_getD, edge0]) (open_full w w6 g5 w6.heap.size (fun _ => False) (fun q h_ => h_.elim) TS.start (TapeAt.hole hT7o _ (fun _ _ _ _ h => h)) (okB_ok (by decide +kernel)) ([] : List (List Int)) (by rfl) (by intro r hr; cases hr) (by intro r hr; cases hr) rfl) ?_
    rintro e_ w13 ⟨gd9, m10, A11, c12, rfl, hD14, hO15, hs16, hK18⟩
    refine ⟨_, rfl, ?_⟩
    obtain ⟨hD14t, hD14b, hD14g, hD14z, hD14x⟩ := hD14
    have hz_w13 := hD14t.size
    have hlt_w13 := hD14b.lt
    have hL17 : OwnK (Kd.slice 5 (Kd.int .u8)) 32 w13 w.heap.size w.heap.size A11 (([] : List (List Int))).length c12 ([] : List (List Int)) := OwnK.mono (d := (Kd.slice 5 (Kd.int .u8))) (OwnK.lower (d := (Kd.slice 5 (Kd.int .u8))) hO15 (by omega)) (by omega)
    refine rw_val (v := .tuple #[.pointer (some ⟨gd9, 0, none⟩), .slice A11 ((([] : List (List Int))).length) c12, errT none]) (w' := w13) rfl rfl rfl rfl rfl ?_
    refine rw_val (v := .pointer (some ⟨gd9, 0, none⟩)) (w' := w13) rfl rfl rfl rfl (by simp [go_sem, sEv, sLook, nbeq, i64_w, -List.getD_eq_getElem?_getD, edge0]) ?_
    refine rw_val (v := .slice A11 ((([] : List (List Int))).length) c12) (w' := w13) rfl rfl rfl rfl (by simp [go_sem, sEv, sLook, nbeq, i64_w, -List.getD_eq_getElem?_getD, edge0]) ?_
    refine rw_val (v := errT none) (w' := w13) rfl rfl rfl rfl (by simp [go_sem, sEv, sLook, nbeq, i64_w, -List.getD_eq_getElem?_getD, edge0]) ?_
    refine rw_val (v := .pointer (some ⟨gd9, 0, none⟩)) (w' := w13) rfl rfl rfl rfl rfl ?_
    refine rw_val (v := .slice A11 ((([] : List (List Int))).length) c12) (w' := w13) rfl rfl rfl rfl rfl ?_
    refine rw_val (v := errT none) (w' := w13) rfl rfl rfl rfl rfl ?_
    refine rw_end ?_
    refine w_weaken (G' := [(0, .int .i64 ((sz : Nat) : Int)), (1, .slice A2 more.length c2), (4, .bool false), (5, .pointer (some ⟨g5, 0, none⟩)), (6, .pointer (some ⟨gd9, 0, none⟩)), (8, errT none)]) ⟨rfl, rfl, rfl, rfl, rfl, rfl, trivial⟩ ?_
    refine w_seq ?_
    refine w_seq ?_
    refine w_region ?_
    refine rw_val (v := errT none) (w' := w13) rfl rfl rfl rfl rfl ?_
    refine rw_val (v := .bool ((none : Option Int).isSome)) (w' := w13) rfl rfl rfl rfl (run_as (guard_err_neq _ (none : Option Int) _)) ?_
    refine rw_val (v := .bool ((none : Option Int).isSome)) (w' := w13) rfl rfl rfl rfl rfl ?_
    have hq19 : ((none : Option Int).isSome) = false := by rfl
    refine rw_on (c := (none : Option Int).isSome) rfl rfl rfl (by first | (rw [hq19]; rfl) | simp [hq19]) ?_
    refine rw_val (v := .pointer (some ⟨gd9, 0, none⟩)) (w' := w13) rfl rfl rfl rfl rfl ?_
    refine rw_on (c := (none : Option Int).isSome) rfl rfl rfl (by first | (rw [hq19]; rfl) | simp [hq19]) ?_
    refine rw_val (v := .bool false) (w' := w13) rfl rfl rfl rfl (run_as (run_ptr_eql (e := 80) (by kernel_rfl) _ _)) ?_
    refine rw_val (v := .bool false) (w' := w13) rfl rfl rfl rfl (by first | (simp [go_sem, sEv, sLook, nbeq, i64_w, -List.getD_eq_getElem?_getD, edge0, hq19]; done) | (rw [hq19]; simp [go_sem, sEv, sLook, nbeq, i64_w, -List.getD_eq_getElem?_getD, edge0]; done) | (simp [go_sem, sEv, sLook, nbeq, i64_w, -List.getD_eq_getElem?_getD, edge0] <;> omega) | (simp [go_sem, sEv, sLook, nbeq, i64_w, -List.getD_eq_getElem?_getD, edge0]; intro h_; exact absurd (by omega) h_)) ?_
    refine rw_val (v := .bool false) (w' := w13) rfl rfl rfl rfl rfl ?_
    refine rw_on (c := false) rfl rfl rfl rfl ?_
    refine rw_val (v := .pointer (some ⟨gd9, 0, none⟩)) (w' := w13) rfl rfl rfl rfl rfl ?_
    refine rw_on (c := false) rfl rfl rfl rfl ?_
    refine rw_new (cs := #[.int .u8 102, .int .u8 105, .int .u8 114, .int .u8 115, .int .u8 116]) (t := 5) (fun g => .slice (some ⟨g, 0, none⟩) 5 5) rfl rfl rfl rfl (by kernel_rfl) ?_
    intro g20 w21 hg25 hz24 hb22 hk23
    have hs_w21 := hb22.size
    have hk23r : OwnK (Kd.int .u8) 5 w21 w.heap.size g20 (some ⟨g20, 0, none⟩) 5 5 ([102, 105, 114, 115, 116] : List Int) := scal_own w.heap.size hk23 (by omega) rfl rfl (by simp)
    refine rw_on (c := false) rfl rfl rfl rfl ?_
    obtain ⟨w26, hr27, hk28, hf29⟩ := conv_same hk23 5 5
    refine rw_val (v := .slice (some ⟨g20, 0, none⟩) 5 5) (w' := w26) rfl rfl rfl rfl (run_as hr27) ?_
    have hs_w26 := hk28.size
    obtain ⟨hf29c, hf29f⟩ : ∃ cs_, FB w26 g20 5 cs_ ∧ Nums .u8 cs_ ([102, 105, 114, 115, 116] : List Int) := ⟨_, hf29, fun j hj => by
      match j, hj with
      | 0, _ => rfl
      | 1, _ => rfl
      | 2, _ => rfl
      | 3, _ => rfl
      | 4, _ => rfl
      | j + 5, hj => simp only [List.length_cons, List.length_nil] at hj; omega⟩
    have hN31 := hf29f.2
    have hC30 : (Kd.int .u8).C w26 (some ⟨g20, 0, none⟩) 5 ([102, 105, 114, 115, 116] : List Int) := FB.C hf29f.1 hN31 (by decide)
    refine rw_on (c := false) rfl rfl rfl rfl ?_
    have hadd_ : ((⟨TS.start, ((([] : List (List Int))).length : Int), ((FC ([] : List (List Int))).length : Int)⟩ : DS)).addE ([102, 105, 114, 115, 116] : List Int) = none ∧ ((⟨TS.start, ((([] : List (List Int))).length : Int), ((FC ([] : List (List Int))).length : Int)⟩ : DS)).add ([102, 105, 114, 115, 116] : List Int) = PD FI 1 := add_PD [] ([102, 105, 114, 115, 116] : List Int) 0 (by decide) (by decide)
    refine rw_call rfl rfl rfl rfl (f := 12) (args := #[.pointer (some ⟨gd9, 0, none⟩), .slice (some ⟨g20, 0, none⟩) 5 5]) (by simp [go_sem, sEv, sLook, nbeq, i64_w, -List.getD_eq_getElem?_getD, edge0]) (add_D w w26 g5 gd9 m10 (HX gd9 (fun _ => False)) (HX.lt (by omega) (fun q h_ => h_.elim)) (⟨TS.start, ((([] : List (List Int))).length : Int), ((FC ([] : List (List Int))).length : Int)⟩ : DS) ⟨(TapeAt.far (TapeAt.on hD14t hb22) hk28 (by omega) (by omega)), ((hD14b.on hb22).keep hk28 (by omega)), hD14g, hD14z, (.inl rfl)⟩ (okB_ok (by decide +kernel)) (by decide +kernel) (by decide +kernel) (by decide +kernel) (some ⟨g20, 0, none⟩) 5 ([102, 105, 114, 115, 116] : List Int) (Kd.C_below hC30 (Below.refl _ _)) (Nat.le_refl _) (by first | omega | (simp only [List.length_cons, List.length_nil, List.length_replicate]; omega))) ?_
    rintro e_ w34 ⟨rfl, m33, hD35, hs36, hk37⟩
    refine ⟨_, rfl, ?_⟩
    rw [hadd_.1]
    rw [hadd_.2] at hD35
    obtain ⟨hD35t, hD35b, hD35g, hD35z, hD35x⟩ := hD35
    have hz_w34 := hD35t.size
    have hlt_w34 := hD35b.lt
    refine rw_on (c := false) rfl rfl rfl rfl ?_
    refine rw_val (v := .bool ((none : Option Int).isSome)) (w' := w34) rfl rfl rfl rfl (run_as (guard_err_neq _ (none : Option Int) _)) ?_
    refine rw_val (v := .bool ((none : Option Int).isSome)) (w' := w34) rfl rfl rfl rfl (by simp [go_sem, sEv, sLook, nbeq, i64_w, -List.getD_eq_getElem?_getD, edge0]) ?_
    refine rw_end ?_
    refine w_weaken (G' := [(0, .int .i64 ((sz : Nat) : Int)), (1, .slice A2 more.length c2), (4, .bool false), (5, .pointer (some ⟨g5, 0, none⟩)), (6, .pointer (some ⟨gd9, 0, none⟩)), (8, errT none), (38, .bool ((none : Option Int).isSome))]) ⟨rfl, rfl, rfl, rfl, rfl, rfl, rfl, trivial⟩ ?_
    refine w_cond_f rfl rfl hq19 ?_
    refine w_skip ?_
    refine w_seq ?_
    refine w_region ?_
    refine rw_val (v := .pointer (some ⟨gd9, 0, none⟩)) (w' := w34) rfl rfl rfl rfl rfl ?_
    rcases bcase (decide (16376 < ((sz : Nat) : Int))) with cB | cB
    · refine rw_val (v := .int .i64 ((sz : Nat) : Int)) (w' := w34) rfl rfl rfl rfl rfl ?_
      have l38 : ¬ (16376 < ((sz : Nat) : Int)) := of_decide_eq_false cB
      refine rw_new (cs := madeCells #[.int .u8 0] sz) (t := 5) (fun g => .slice (some ⟨g, 0, none⟩) sz sz) rfl rfl rfl rfl (run_as (make_run (bytes := 1) (by kernel_rfl) (by kernel_rfl) rfl sz sz _ _ (by first | rfl | simp) (by first | rfl | simp) (by omega) (by omega) (by decide) _ _ _)) ?_
      intro g39 w40 hg44 hz43 hb41 hk42
      have hs_w40 := hb41.size
      have hO45 : OwnK (Kd.int .u8) 5 w40 w.heap.size g39 (some ⟨g39, 0, none⟩) sz sz (List.replicate sz 0 : List Int) := made_own 0 sz w.heap.size hk42 (by omega) (by omega) (by omega)
      have hsm_ : sz ≤ 16376 := by have h_ := of_decide_eq_false cB; omega
      have hadd2_ := add_PD FI (ZB sz) 1 (by rw [List.length_replicate]; exact hsm_) (by rw [fi_len, List.length_replicate]; omega)
      refine rw_call rfl rfl rfl rfl (f := 12) (args := #[.pointer (some ⟨gd9, 0, none⟩), .slice (some ⟨g39, 0, none⟩) sz sz]) (by simp [go_sem, sEv, sLook, nbeq, i64_w, -List.getD_eq_getElem?_getD, edge0]) (calls_cast (add_D w w40 g5 gd9 m33 (HX gd9 (fun _ => False)) (HX.lt (by omega) (fun q h_ => h_.elim)) (PD FI 1) ⟨(TapeAt.on hD35t hb41), (hD35b.on hb41), hD35g, hD35z, hD35x⟩ (okB_ok (by decide +kernel)) (by decide +kernel) (by decide +kernel) (by decide +kernel) (some ⟨g39, 0, none⟩) sz (ZB sz) (Kd.C_below (OwnK.C (d := (Kd.int .u8)) hO45) (Below.refl _ _)) (by rw [List.length_replicate]; exact (OwnK.cap (d := (Kd.int .u8)) hO45)) (by first | omega | (simp only [List.length_cons, List.length_nil, List.length_replicate]; omega))) (by rw [List.length_replicate])) ?_
      rintro e_ w47 ⟨rfl, m46, hD48, hs49, hk50⟩
      refine ⟨_, rfl, ?_⟩
      rw [hadd2_.1]
      rw [hadd2_.2] at hD48
      obtain ⟨hD48t, hD48b, hD48g, hD48z, hD48x⟩ := hD48
      have hz_w47 := hD48t.size
      have hlt_w47 := hD48b.lt
      refine rw_val (v := errT none) (w' := w47) rfl rfl rfl rfl rfl ?_
      refine rw_end ?_
      refine w_weaken (G' := [(0, .int .i64 ((sz : Nat) : Int)), (1, .slice A2 more.length c2), (4, .bool false), (5, .pointer (some ⟨g5, 0, none⟩)), (6, .pointer (some ⟨gd9, 0, none⟩)), (8, errT none)]) ⟨rfl, rfl, rfl, rfl, rfl, rfl, trivial⟩ ?_
      refine w_seq ?_
      refine w_seq ?_
      refine w_region ?_
      refine rw_val (v := .int .i64 ((sz : Nat) : Int)) (w' := w47) rfl rfl rfl rfl rfl ?_
      refine rw_val (v := .bool (decide (16376 < ((sz : Nat) : Int)))) (w' := w47) rfl rfl rfl rfl (by simp [go_sem, sEv, sLook, nbeq, i64_w, -List.getD_eq_getElem?_getD, edge0]) ?_
      refine rw_end ?_
      refine w_cond_f rfl rfl cB ?_
      refine w_skip ?_
      refine w_seq ?_
      refine w_region ?_
      refine rw_val (v := errT none) (w' := w47) rfl rfl rfl rfl rfl ?_
      refine rw_val (v := .bool ((none : Option Int).isNone)) (w' := w47) rfl rfl rfl rfl (run_as (guard_err_eq0 _ (none : Option Int) _)) ?_
      refine rw_val (v := .bool ((none : Option Int).isNone)) (w' := w47) rfl rfl rfl rfl rfl ?_
      have hq51 : ((none : Option Int).isNone) = true := by rfl
      refine rw_on (c := (none : Option Int).isNone) rfl rfl rfl (by first | (rw [hq51]; rfl) | simp [hq51]) ?_
      refine rw_val (v := .pointer (some ⟨gd9, 0, none⟩)) (w' := w47) rfl rfl rfl rfl rfl ?_
      refine rw_on (c := (none : Option Int).isNone) rfl rfl rfl (by first | (rw [hq51]; rfl) | simp [hq51]) ?_
      refine rw_call rfl rfl rfl rfl (f := 15) (args := #[.pointer (some ⟨gd9, 0, none⟩)]) (by simp [go_sem, sEv, sLook, nbeq, i64_w, -List.getD_eq_getElem?_getD, edge0]) (len_B w47 g5 gd9 (PD (FI ++ [(ZB sz)]) 2).r (PD (FI ++ [(ZB sz)]) 2).b hD48b) ?_
      rintro e_ w52 ⟨rfl, hb53⟩
      refine ⟨_, rfl, ?_⟩
      rw [show (PD (FI ++ [(ZB sz)]) 2).r = 2 from rfl]
      have hs_w52 := hb53.size
      refine rw_on (c := (none : Option Int).isNone) rfl rfl rfl (by first | (rw [hq51]; rfl) | simp [hq51]) ?_
      refine rw_val (v := .bool true) (w' := w52) rfl rfl rfl rfl (by simp [go_sem, sEv, sLook, nbeq, i64_w, -List.getD_eq_getElem?_getD, edge0]) ?_
      refine rw_val (v := .bool true) (w' := w52) rfl rfl rfl rfl (by first | (simp [go_sem, sEv, sLook, nbeq, i64_w, -List.getD_eq_getElem?_getD, edge0, hq51]; done) | (rw [hq51]; simp [go_sem, sEv, sLook, nbeq, i64_w, -List.getD_eq_getElem?_getD, edge0]; done) | (simp [go_sem, sEv, sLook, nbeq, i64_w, -List.getD_eq_getElem?_getD, edge0] <;> omega) | (simp [go_sem, sEv, sLook, nbeq, i64_w, -List.getD_eq_getElem?_getD, edge0]; intro h_; exact absurd (by omega) h_)) ?_
      refine rw_val (v := .bool true) (w' := w52) rfl rfl rfl rfl rfl ?_
      refine rw_on (c := true) rfl rfl rfl rfl ?_
      refine rw_val (v := .pointer (some ⟨gd9, 0, none⟩)) (w' := w52) rfl rfl rfl rfl rfl ?_
      refine rw_on (c := true) rfl rfl rfl rfl ?_
      refine rw_call rfl rfl rfl rfl (f := 16) (args := #[.pointer (some ⟨gd9, 0, none⟩)]) (by simp [go_sem, sEv, sLook, nbeq, i64_w, -List.getD_eq_getElem?_getD, edge0]) (bytes_B w52 g5 gd9 (PD (FI ++ [(ZB sz)]) 2).r (PD (FI ++ [(ZB sz)]) 2).b (hD48b.on hb53)) ?_
      rintro e_ w54 ⟨rfl, hb55⟩
      refine ⟨_, rfl, ?_⟩
      rw [show (PD (FI ++ [(ZB sz)]) 2).b = (13 + (8 + (sz : Int))) from by show ((FC (FI ++ [ZB sz])).length : Int) = _; rw [fi_add sz hsm_]; omega]
      have hs_w54 := hb55.size
      refine rw_on (c := true) rfl rfl rfl rfl ?_
      refine rw_val (v := .int .i64 ((sz : Nat) : Int)) (w' := w54) rfl rfl rfl rfl rfl ?_
      refine rw_on (c := true) rfl rfl rfl rfl ?_
      refine rw_val (v := .int .i64 (21 + (sz : Int))) (w' := w54) rfl rfl rfl rfl (by simp [go_sem, sEv, sLook, nbeq, i64_w, -List.getD_eq_getElem?_getD, edge0]; exact wrap_id (by omega) (by omega)) ?_
      refine rw_on (c := true) rfl rfl rfl rfl ?_
      refine rw_val (v := .bool ((13 + (8 + (sz : Int))) == (21 + (sz : Int)))) (w' := w54) rfl rfl rfl rfl (by simp [go_sem, sEv, sLook, nbeq, i64_w, -List.getD_eq_getElem?_getD, edge0]) ?_
      refine rw_val (v := .bool ((13 + (8 + (sz : Int))) == (21 + (sz : Int)))) (w' := w54) rfl rfl rfl rfl (by simp [go_sem, sEv, sLook, nbeq, i64_w, -List.getD_eq_getElem?_getD, edge0]) ?_
      refine rw_val (v := .bool ((13 + (8 + (sz : Int))) == (21 + (sz : Int)))) (w' := w54) rfl rfl rfl rfl rfl ?_
      refine rw_end ?_
      refine w_weaken (G' := [(4, .bool ((13 + (8 + (sz : Int))) == (21 + (sz : Int))))]) ⟨rfl, trivial⟩ ?_
      have hq56 : ((13 + (8 + (sz : Int))) == (21 + (sz : Int))) = true := by rw [beq_iff_eq]; omega
      refine w_ret (post_ret1 rfl rfl ?_)
      exact ⟨by simp only [hq56], (chain (chain hD48t.1 hb53) hb55)⟩
    · refine rw_val (v := .int .i64 ((sz : Nat) : Int)) (w' := w34) rfl rfl rfl rfl rfl ?_
      have l57 : (16376 < ((sz : Nat) : Int)) := of_decide_eq_true cB
      refine rw_new (cs := madeCells #[.int .u8 0] sz) (t := 5) (fun g => .slice (some ⟨g, 0, none⟩) sz sz) rfl rfl rfl rfl (run_as (make_run (bytes := 1) (by kernel_rfl) (by kernel_rfl) rfl sz sz _ _ (by first | rfl | simp) (by first | rfl | simp) (by omega) (by omega) (by decide) _ _ _)) ?_
      intro g58 w59 hg63 hz62 hb60 hk61
      have hs_w59 := hb60.size
      have hO64 : OwnK (Kd.int .u8) 5 w59 w.heap.size g58 (some ⟨g58, 0, none⟩) sz sz (List.replicate sz 0 : List Int) := made_own 0 sz w.heap.size hk61 (by omega) (by omega) (by omega)
      have hbig_ : 16376 < (ZB sz).length := by rw [List.length_replicate]; have h_ := of_decide_eq_true cB; omega
      have hadd2_ := add_full (PD FI 1) (ZB sz) hbig_
      refine rw_call rfl rfl rfl rfl (f := 12) (args := #[.pointer (some ⟨gd9, 0, none⟩), .slice (some ⟨g58, 0, none⟩) sz sz]) (by simp [go_sem, sEv, sLook, nbeq, i64_w, -List.getD_eq_getElem?_getD, edge0]) (calls_cast (add_D w w59 g5 gd9 m33 (HX gd9 (fun _ => False)) (HX.lt (by omega) (fun q h_ => h_.elim)) (PD FI 1) ⟨(TapeAt.on hD35t hb60), (hD35b.on hb60), hD35g, hD35z, hD35x⟩ (okB_ok (by decide +kernel)) (by decide +kernel) (by decide +kernel) (by decide +kernel) (some ⟨g58, 0, none⟩) sz (ZB sz) (Kd.C_below (OwnK.C (d := (Kd.int .u8)) hO64) (Below.refl _ _)) (by rw [List.length_replicate]; exact (OwnK.cap (d := (Kd.int .u8)) hO64)) (by first | omega | (simp only [List.length_cons, List.length_nil, List.length_replicate]; omega))) (by rw [List.length_replicate])) ?_
      rintro e_ w66 ⟨rfl, m65, hD67, hs68, hk69⟩
      refine ⟨_, rfl, ?_⟩
      rw [hadd2_.1]
      rw [hadd2_.2] at hD67
      obtain ⟨hD67t, hD67b, hD67g, hD67z, hD67x⟩ := hD67
      have hz_w66 := hD67t.size
      have hlt_w66 := hD67b.lt
      refine rw_val (v := errT (some 7)) (w' := w66) rfl rfl rfl rfl rfl ?_
      refine rw_end ?_
      refine w_weaken (G' := [(0, .int .i64 ((sz : Nat) : Int)), (1, .slice A2 more.length c2), (4, .bool false), (5, .pointer (some ⟨g5, 0, none⟩)), (6, .pointer (some ⟨gd9, 0, none⟩)), (8, errT (some 7))]) ⟨rfl, rfl, rfl, rfl, rfl, rfl, trivial⟩ ?_
      refine w_seq ?_
      refine w_seq ?_
      refine w_region ?_
      refine rw_val (v := .int .i64 ((sz : Nat) : Int)) (w' := w66) rfl rfl rfl rfl rfl ?_
      refine rw_val (v := .bool (decide (16376 < ((sz : Nat) : Int)))) (w' := w66) rfl rfl rfl rfl (by simp [go_sem, sEv, sLook, nbeq, i64_w, -List.getD_eq_getElem?_getD, edge0]) ?_
      refine rw_end ?_
      refine w_cond_t rfl rfl cB ?_
      refine w_seq ?_
      refine w_drawf (M := [0, 1, 1, 7, 1, 17, 49, 127, 255, 511]) (ss := List.tail [Is (.pointer (some ⟨gd9, 0, none⟩)), SlcSpec w66.heap.size 32 #[] 0, Is (.slice A2 more.length c2), (OwnKSpec kHd 32 w66.heap.size w66.heap.size hds), Is (.int .i64 ((sz : Nat) : Int)), SlcSpec w66.heap.size 5 (madeCells #[Value.int .u8 0] sz) sz, ZSpec w66.heap.size sz]) 7 rfl (body_panic _ _ _) rfl _ rfl rfl rfl rfl (fun _ => rfl) (by decide +kernel) rfl (by decide +kernel) ?_
      refine t_is (.pointer (some ⟨gd9, 0, none⟩)) rfl rfl rfl rfl (fun W_ hW_ F_ => rfl) ?_
      refine t_val (SlcSpec w66.heap.size 32 #[] 0) rfl rfl rfl rfl (fun W_ hW_ F_ => slc_gives _ _ _ _ (below_of_drew hW_).size (by kernel_rfl)) ?_
      rintro _ ⟨g70, rfl⟩
      refine t_is (.slice A2 more.length c2) rfl rfl rfl rfl (fun W_ hW_ F_ => rfl) ?_
      refine t_val (OwnKSpec kHd 32 w66.heap.size w66.heap.size hds) rfl rfl rfl rfl (fun W_ hW_ F_ => app_gives (d := kHd) w66.heap.size (.tmp 46) (.tmp 47) 22 32 (.slice none 0 0) 24 rfl (by kernel_rfl) (by kernel_rfl) rfl (show 0 < 1 by decide) (by decide) (fun W b => (fun _ _ h => h)) (fun _ => ⟨1, by kernel_rfl⟩) rfl rfl (slc_fact (F_ 1 _ _ rfl rfl)).2 (slc_fact (F_ 1 _ _ rfl rfl)).1 (Kd.C_below hM (chain hD67t.1 (below_of_drew hW_))) (by first | omega | (simp only [List.length_map, List.length_append, List.length_cons, List.length_nil]; omega))) ?_
      rintro _ ⟨A73, c74, rfl, hle75⟩
      refine t_is (.int .i64 ((sz : Nat) : Int)) rfl rfl rfl rfl (fun W_ hW_ F_ => rfl) ?_
      refine t_val (SlcSpec w66.heap.size 5 (madeCells #[Value.int .u8 0] sz) sz) rfl rfl rfl rfl (fun W_ hW_ F_ => slc_gives _ _ _ _ (below_of_drew hW_).size (run_as (make_run (bytes := 1) (by kernel_rfl) (by kernel_rfl) rfl sz sz _ _ (by first | rfl | simp) (by first | rfl | simp) (by omega) (by omega) (by decide) _ _ _))) ?_
      rintro _ ⟨g77, rfl⟩
      refine t_val (ZSpec w66.heap.size sz) rfl rfl rfl rfl (fun W_ hW_ F_ => z_gives (below_of_drew hW_).size (slc_fact (F_ 5 _ _ rfl rfl)) (by kernel_rfl)) ?_
      rintro _ ⟨g81, rfl⟩
      refine t_tail ?_
      intro w89 hb90_ F91
      have hb90 := below_of_drew hb90_
      have hs_w89 := hb90.size
      obtain ⟨hge72, hk71⟩ := slc_fact (F91 1 _ _ rfl)
      have hlt_g70 := hk71.lt
      have hO76 : OwnK kHd 32 w89 w.heap.size w66.heap.size A73 hds.length c74 hds := OwnK.lower (ownk_fact (F91 3 (OwnKSpec kHd 32 w66.heap.size w66.heap.size hds) (.slice A73 hds.length c74) (by kernel_rfl))) (by omega)
      obtain ⟨g82, hge85, hge86, hk83, hk84⟩ := z_fact (F91 6 _ _ rfl)
      have hlt_g81 := hk83.lt
      have hlt_g82 := hk84.lt
      have hO88 : OwnK (Kd.int .u8) 5 w89 w.heap.size g82 (some ⟨g82, 0, none⟩) sz sz (ZB sz) := made_own 0 sz w.heap.size hk84 (by omega) (by omega) (by omega)
      have hO87 : OwnK kHd 32 w89 w.heap.size g81 (some ⟨g81, 0, none⟩) 1 1 [((some ⟨g82, 0, none⟩, sz, sz) : Hd)] := scal_own w.heap.size hk83 (by omega) rfl rfl (by simp)
      have hk71r : OwnK kHd 32 w89 w.heap.size g70 (some ⟨g70, 0, none⟩) 0 0 ([] : List Hd) := lit_nilK _ w.heap.size hk71 (by omega)
      have oA98 : OwnK kHd 32 w89 w.heap.size w66.heap.size A73 hds.length c74 hds := hO76
      refine rw_append_kd (d := kHd) w.heap.size rfl rfl rfl (.tmp 48) (.tmp 51) rfl rfl 22 32 (.slice none 0 0) 24 rfl (by kernel_rfl) (by kernel_rfl) rfl (show 0 < 1 by decide) (by decide) (fun _ _ h => h) (b := w66.heap.size) rfl rfl (by omega) oA98 (OwnK.Cn (d := kHd) hO87) (chain hD67t.1 hb90) (by omega) (by first | omega | (simp only [List.length_append, List.length_nil, List.length_cons]; omega)) ?_
      intro A92 c93 w94 hO95 hB96 hG97
      have hs_w94 := hB96.size
      have hgs_w94 := hG97.size
      have hO100 := OwnK.grown (d := (Kd.int .u8)) hO88 oA98 (by decide) hG97
      have hk102 := OwnK.blk_grown (hD67b.on hb90) oA98 (.inr (by decide)) hG97
      have hT103 : TapeAt w w94 g5 m65 (HX gd9 (fun _ => False)) ((PD FI 1).s) := TapeAt.grown (TapeAt.on hD67t hb90) oA98 (by omega) hB96 hG97
      have hrw_ := rw_full (PD FI 1) more (ZB sz) hbig_
      have hzb_ : HdOk (Kd.int .u8) w94 ((some ⟨g82, 0, none⟩), sz, sz) (ZB sz) := ⟨by rw [List.length_replicate], by rw [List.length_replicate]; exact OwnK.cap (d := (Kd.int .u8)) hO100, OwnK.C (d := (Kd.int .u8)) hO100⟩
      have hrows_ : (Kd.slice 5 (Kd.int .u8)).C w94 A92 (more ++ [(ZB sz)]).length (more ++ [(ZB sz)]) := by have q_ := hd_rows 5 (Kd.C_below (OwnK.C (d := kHd) hO95) (Below.refl _ _)) (by simp [hdl_]) (hd_snoc (more := more) (row := ZB sz) hB96 hdl_ hdok_ hzb_); simpa [hdl_] using q_
      have hl12_ : (hds ++ [((some ⟨g82, 0, none⟩, sz, sz) : Hd)]).length = (more ++ [(ZB sz)]).length := by simp [hdl_]
      refine rw_call rfl rfl rfl rfl (f := 21) (args := #[.pointer (some ⟨gd9, 0, none⟩), .slice A92 ((hds ++ [((some ⟨g82, 0, none⟩, sz, sz) : Hd)]).length) c93]) (by simp [go_sem, sEv, sLook, nbeq, i64_w, -List.getD_eq_getElem?_getD, edge0]) (calls_cast (rewrite_D w w94 g5 gd9 m65 (HX gd9 (fun _ => False)) (HX.lt (by omega) (fun q h_ => h_.elim)) (PD FI 1) ⟨hT103, hk102, hD67g, hD67z, hD67x⟩ (PD_ok _ _ (by decide) (by decide +kernel)) A92 c93 (more ++ [(ZB sz)]) hrows_ (by rw [← hl12_]; exact (OwnK.cap (d := kHd) hO95)) (by rw [List.length_append, List.length_singleton]; omega) (fun p hp => (List.mem_append.1 hp).elim (fun hp => Nat.le_trans (hall p hp) (by decide)) (fun hp => by rw [List.mem_singleton.1 hp, List.length_replicate]; omega))) (by rw [hl12_])) ?_
      rintro e_ w105 ⟨rfl, m104, hD106, hs107, hk108⟩
      refine ⟨_, rfl, ?_⟩
      rw [hrw_.1]
      rw [hrw_.2] at hD106
      obtain ⟨hD106t, hD106b, hD106g, hD106z, hD106x⟩ := hD106
      have hz_w105 := hD106t.size
      have hlt_w105 := hD106b.lt
      refine rw_val (v := errT (some 7)) (w' := w105) rfl rfl rfl rfl rfl ?_
      refine rw_end ?_
      refine w_weaken (G' := [(0, .int .i64 ((sz : Nat) : Int)), (4, .bool false), (5, .pointer (some ⟨g5, 0, none⟩)), (6, .pointer (some ⟨gd9, 0, none⟩)), (8, errT (some 7)), (9, errT (some 7))]) ⟨rfl, rfl, rfl, rfl, rfl, rfl, trivial⟩ ?_
      refine w_seq ?_
      refine w_region ?_
      refine rw_val (v := errT (some 7)) (w' := w105) rfl rfl rfl rfl rfl ?_
      refine rw_val (v := errT (some 7)) (w' := w105) rfl rfl rfl rfl (by simp [go_sem, sEv, sLook, nbeq, i64_w, -List.getD_eq_getElem?_getD, edge0, errT]) ?_
      refine rw_val (v := .bool true) (w' := w105) rfl rfl rfl rfl (run_bool (run_as (guard_err_eql _ _ (some 7) 7 _)) (by decide)) ?_
      refine rw_val (v := .bool true) (w' := w105) rfl rfl rfl rfl rfl ?_
      refine rw_on (c := true) rfl rfl rfl rfl ?_
      refine rw_val (v := errT (some 7)) (w' := w105) rfl rfl rfl rfl rfl ?_
      refine rw_on (c := true) rfl rfl rfl rfl ?_
      refine rw_val (v := errT (some 7)) (w' := w105) rfl rfl rfl rfl (by simp [go_sem, sEv, sLook, nbeq, i64_w, -List.getD_eq_getElem?_getD, edge0, errT]) ?_
      refine rw_on (c := true) rfl rfl rfl rfl ?_
      refine rw_val (v := .bool true) (w' := w105) rfl rfl rfl rfl (run_bool (run_as (guard_err_eql _ _ (some 7) 7 _)) (by decide)) ?_
      refine rw_val (v := .bool true) (w' := w105) rfl rfl rfl rfl (by simp [go_sem, sEv, sLook, nbeq, i64_w, -List.getD_eq_getElem?_getD, edge0]) ?_
      refine rw_val (v := .bool true) (w' := w105) rfl rfl rfl rfl rfl ?_
      refine rw_on (c := true) rfl rfl rfl rfl ?_
      refine rw_val (v := .pointer (some ⟨gd9, 0, none⟩)) (w' := w105) rfl rfl rfl rfl rfl ?_
      refine rw_on (c := true) rfl rfl rfl rfl ?_
      refine rw_call rfl rfl rfl rfl (f := 15) (args := #[.pointer (some ⟨gd9, 0, none⟩)]) (by simp [go_sem, sEv, sLook, nbeq, i64_w, -List.getD_eq_getElem?_getD, edge0]) (len_B w105 g5 gd9 (PD FI 1).r (PD FI 1).b hD106b) ?_
      rintro e_ w109 ⟨rfl, hb110⟩
      refine ⟨_, rfl, ?_⟩
      rw [show (PD FI 1).r = 1 from by decide +kernel]
      have hs_w109 := hb110.size
      refine rw_on (c := true) rfl rfl rfl rfl ?_
      refine rw_val (v := .bool true) (w' := w109) rfl rfl rfl rfl (by simp [go_sem, sEv, sLook, nbeq, i64_w, -List.getD_eq_getElem?_getD, edge0]) ?_
      refine rw_val (v := .bool true) (w' := w109) rfl rfl rfl rfl (by simp [go_sem, sEv, sLook, nbeq, i64_w, -List.getD_eq_getElem?_getD, edge0]) ?_
      refine rw_val (v := .bool true) (w' := w109) rfl rfl rfl rfl rfl ?_
      refine rw_on (c := true) rfl rfl rfl rfl ?_
      refine rw_val (v := .pointer (some ⟨gd9, 0, none⟩)) (w' := w109) rfl rfl rfl rfl rfl ?_
      refine rw_on (c := true) rfl rfl rfl rfl ?_
      refine rw_call rfl rfl rfl rfl (f := 16) (args := #[.pointer (some ⟨gd9, 0, none⟩)]) (by simp [go_sem, sEv, sLook, nbeq, i64_w, -List.getD_eq_getElem?_getD, edge0]) (bytes_B w109 g5 gd9 (PD FI 1).r (PD FI 1).b (hD106b.on hb110)) ?_
      rintro e_ w111 ⟨rfl, hb112⟩
      refine ⟨_, rfl, ?_⟩
      rw [show (PD FI 1).b = 13 from by decide +kernel]
      have hs_w111 := hb112.size
      refine rw_on (c := true) rfl rfl rfl rfl ?_
      refine rw_val (v := .bool true) (w' := w111) rfl rfl rfl rfl (by simp [go_sem, sEv, sLook, nbeq, i64_w, -List.getD_eq_getElem?_getD, edge0]) ?_
      refine rw_val (v := .bool true) (w' := w111) rfl rfl rfl rfl (by simp [go_sem, sEv, sLook, nbeq, i64_w, -List.getD_eq_getElem?_getD, edge0]) ?_
      refine rw_val (v := .bool true) (w' := w111) rfl rfl rfl rfl rfl ?_
      refine rw_on (c := true) rfl rfl rfl rfl ?_
      refine rw_val (v := .pointer (some ⟨g5, 0, none⟩)) (w' := w111) rfl rfl rfl rfl rfl ?_
      refine rw_on (c := true) rfl rfl rfl rfl ?_
      refine rw_call rfl rfl rfl rfl (f := 24) (args := #[.pointer (some ⟨g5, 0, none⟩)]) (by simp [go_sem, sEv, sLook, nbeq, i64_w, -List.getD_eq_getElem?_getD, edge0]) (steps_T w w111 g5 m104 (HX gd9 (fun _ => False)) (HX.lt (by omega) (fun q h_ => h_.elim)) ((PD FI 1).s) (TapeAt.on (TapeAt.on hD106t hb110) hb112) (PD_ok _ _ (by decide) (by decide +kernel))) ?_
      rintro e_ w113 ⟨rfl, rfl⟩
      refine ⟨_, rfl, ?_⟩
      rw [show (PD FI 1).s.steps = 2 from rfl]
      refine rw_on (c := true) rfl rfl rfl rfl ?_
      refine rw_val (v := .bool true) (w' := w111) rfl rfl rfl rfl (by simp [go_sem, sEv, sLook, nbeq, i64_w, -List.getD_eq_getElem?_getD, edge0]) ?_
      refine rw_val (v := .bool true) (w' := w111) rfl rfl rfl rfl (by simp [go_sem, sEv, sLook, nbeq, i64_w, -List.getD_eq_getElem?_getD, edge0]) ?_
      refine rw_val (v := .bool true) (w' := w111) rfl rfl rfl rfl rfl ?_
      refine rw_end ?_
      refine w_weaken (G' := [(0, .int .i64 ((sz : Nat) : Int)), (4, .bool true), (6, .pointer (some ⟨gd9, 0, none⟩)), (8, errT (some 7))]) ⟨rfl, rfl, rfl, rfl, trivial⟩ ?_
      refine w_ret (post_ret1 rfl rfl ?_)
      exact ⟨rfl, (chain (chain hD106t.1 hb110) hb112)⟩
end Go.Proofs.Ytiiljpaedelhlaa.Tp
