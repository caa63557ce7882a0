/- A cut Add or Rewrite: the law's walk. -/
import Derived.Test.YtiiljpaedelhlaaDyCuts0
namespace Go.Proofs.Ytiiljpaedelhlaa.Tp
open Go.RowKit Go.Proofs.YtiiljpaedelhlaaW.PrintWords Go.Proofs.YtiiljpaedelhlaaW.PrintLast Go.Proofs.YtiiljpaedelhlaaW.PrintMore
open Go.Proofs.Ytiiljpaedelhlaa.Flow
open Go.Proofs.Ytiiljpaedelhlaa.PDiaryPlays (SplitR Bytes frameB frameE FC wholeP errW wrap_calls split_calls frameB_len frameB_bytes FC_cons)
set_option linter.unusedVariables false
set_option linter.unusedSimpArgs false

set_option maxHeartbeats 4000000 in
theorem walkCuts (w : World) (A1 A2 : Option Addr) (c1 c2 : Nat) (rows last : List (List Int)) (rw : Bool) (arm fail keep : Int) (hr : (Kd.slice 5 (Kd.int .u8)).C w A1 rows.length rows) (hchr : rows.length ≤ c1) (hl : (Kd.slice 5 (Kd.int .u8)).C w A2 last.length last) (hchl : last.length ≤ c2) (hby : ∀ r ∈ rows, Bytes r) (hbl : ∀ r ∈ last, Bytes r) (harm : arm ≤ 9223372036854775807) (hfail : fail ≤ 9223372036854775807) :
    Calls Try.prog 5 #[.agg #[.slice A1 rows.length c1, .slice A2 last.length c2, .bool rw, .int .i64 arm, .int .i64 fail, .int .i64 keep]] w fun e w' => e = .returned (.bool true) ∧ Below w.heap.size w w' := by
 refine calls_flow Try.func5 rfl 157 rfl (Nat.le_of_ble_eq_true rfl) [(0, .agg #[.slice A1 rows.length c1, .slice A2 last.length c2, .bool rw, .int .i64 arm, .int .i64 fail, .int .i64 keep])] ?_ ?_
 ·intro t v h; exact args_look rfl t v h
 refine w_seq ?_
 refine w_region ?_
 refine rw_new (cs := #[.slice A1 rows.length c1, .slice A2 last.length c2, .bool rw, .int .i64 arm, .int .i64 fail, .int .i64 keep]) (t := 45) (fun g => .pointer (some ⟨g, 0, none⟩)) rfl rfl rfl rfl (by simp [go_sem, sEv, sLook, nbeq, i64_w, -List.getD_eq_getElem?_getD]) ?_
 intro gb w hgb hzb hb00 hkb
 have hr := Kd.C_below hr hb00
 have hl := Kd.C_below hl hb00
 have hs00 := hb00.size
 refine rw_val (v := .bool false) (w' := w) rfl rfl rfl rfl rfl ?_
 refine rw_end ?_
 refine w_seq ?_
 refine w_seq ?_
 refine w_region ?_
 refine rw_call rfl rfl rfl rfl (f := 9) (args := #[]) (by simp [go_sem, sEv, sLook, nbeq, i64_w, -List.getD_eq_getElem?_getD]) (alive_calls w) ?_
 rintro e_ w1 ⟨rfl, hb2⟩
 refine ⟨_, rfl, ?_⟩
 have hs_w1 := hb2.size
 refine rw_val (v := .bool false) (w' := w1) rfl rfl rfl rfl (by simp [go_sem, sEv, sLook, nbeq, i64_w, -List.getD_eq_getElem?_getD]) ?_
 refine rw_end ?_
 refine w_cond_f rfl rfl rfl ?_
 refine w_skip ?_
 refine w_seq ?_
 refine w_seq ?_
 refine w_region ?_
 refine rw_val (v := .pointer (some ⟨gb, 0, none⟩)) (w' := w1) rfl rfl rfl rfl (by simp [go_sem, sEv, sLook, nbeq, i64_w, -List.getD_eq_getElem?_getD, Try.underlying45]) ?_
 refine rw_val (v := .slice A1 rows.length c1) (w' := w1) rfl rfl rfl rfl (by have eb_ := (hkb.on hb2); have e0_ := eb_.cellv (i := 0) (v := (.slice A1 rows.length c1 : Value)) rfl; simp [go_sem, sEv, sLook, nbeq, i64_w, -List.getD_eq_getElem?_getD, e0_, Try.underlying22]) ?_
 refine rw_val (v := .int .i64 ((rows.length : Nat) : Int)) (w' := w1) rfl rfl rfl rfl (by simp [go_sem, sEv, sLook, nbeq, i64_w, -List.getD_eq_getElem?_getD]) ?_
 refine rw_val (v := .bool (decide (60 < ((rows.length : Nat) : Int)))) (w' := w1) rfl rfl rfl rfl (by simp [go_sem, sEv, sLook, nbeq, i64_w, -List.getD_eq_getElem?_getD]) ?_
 refine rw_val (v := .bool (decide (60 < ((rows.length : Nat) : Int)))) (w' := w1) rfl rfl rfl rfl rfl ?_
 rcases bcase (decide (60 < ((rows.length : Nat) : Int))) with c3 | c3
 ·have l4 : ¬ (60 < ((rows.length : Nat) : Int)) := of_decide_eq_false c3
  refine rw_on (c := decide (60 < ((rows.length : Nat) : Int))) rfl rfl rfl (by first | (rw [c3]; rfl) | simp [c3]) ?_
  refine rw_val (v := .pointer (some ⟨gb, 1, none⟩)) (w' := w1) rfl rfl rfl rfl (by simp [go_sem, sEv, sLook, nbeq, i64_w, -List.getD_eq_getElem?_getD, Try.underlying45]) ?_
  refine rw_on (c := decide (60 < ((rows.length : Nat) : Int))) rfl rfl rfl (by first | (rw [c3]; rfl) | simp [c3]) ?_
  refine rw_val (v := .slice A2 last.length c2) (w' := w1) rfl rfl rfl rfl (by have eb_ := (hkb.on hb2); have e0_ := eb_.cellv (i := 1) (v := (.slice A2 last.length c2 : Value)) rfl; simp [go_sem, sEv, sLook, nbeq, i64_w, -List.getD_eq_getElem?_getD, e0_, Try.underlying22]) ?_
  refine rw_on (c := decide (60 < ((rows.length : Nat) : Int))) rfl rfl rfl (by first | (rw [c3]; rfl) | simp [c3]) ?_
  refine rw_val (v := .int .i64 ((last.length : Nat) : Int)) (w' := w1) rfl rfl rfl rfl (by simp [go_sem, sEv, sLook, nbeq, i64_w, -List.getD_eq_getElem?_getD]) ?_
  refine rw_on (c := decide (60 < ((rows.length : Nat) : Int))) rfl rfl rfl (by first | (rw [c3]; rfl) | simp [c3]) ?_
  refine rw_val (v := .bool (decide (20 < ((last.length : Nat) : Int)))) (w' := w1) rfl rfl rfl rfl (by simp [go_sem, sEv, sLook, nbeq, i64_w, -List.getD_eq_getElem?_getD]) ?_
  refine rw_val (v := .bool (decide (20 < ((last.length : Nat) : Int)))) (w' := w1) rfl rfl rfl rfl (by first | (simp [go_sem, sEv, sLook, nbeq, i64_w, -List.getD_eq_getElem?_getD, c3]; done) | (rw [c3]; simp [go_sem, sEv, sLook, nbeq, i64_w, -List.getD_eq_getElem?_getD]; done) | (simp [go_sem, sEv, sLook, nbeq, i64_w, -List.getD_eq_getElem?_getD] <;> omega) | (simp [go_sem, sEv, sLook, nbeq, i64_w, -List.getD_eq_getElem?_getD]; intro h_; exact absurd (by omega) h_)) ?_
  refine rw_val (v := .bool (decide (20 < ((last.length : Nat) : Int)))) (w' := w1) rfl rfl rfl rfl rfl ?_
  rcases bcase (decide (20 < ((last.length : Nat) : Int))) with c5 | c5
  ·have l6 : ¬ (20 < ((last.length : Nat) : Int)) := of_decide_eq_false c5
   refine rw_on (c := decide (20 < ((last.length : Nat) : Int))) rfl rfl rfl (by first | (rw [c5]; rfl) | simp [c5]) ?_
   refine rw_val (v := .pointer (some ⟨gb, 1, none⟩)) (w' := w1) rfl rfl rfl rfl (by simp [go_sem, sEv, sLook, nbeq, i64_w, -List.getD_eq_getElem?_getD, Try.underlying45]) ?_
   refine rw_on (c := decide (20 < ((last.length : Nat) : Int))) rfl rfl rfl (by first | (rw [c5]; rfl) | simp [c5]) ?_
   refine rw_val (v := .slice A2 last.length c2) (w' := w1) rfl rfl rfl rfl (by have eb_ := (hkb.on hb2); have e0_ := eb_.cellv (i := 1) (v := (.slice A2 last.length c2 : Value)) rfl; simp [go_sem, sEv, sLook, nbeq, i64_w, -List.getD_eq_getElem?_getD, e0_, Try.underlying22]) ?_
   refine rw_on (c := decide (20 < ((last.length : Nat) : Int))) rfl rfl rfl (by first | (rw [c5]; rfl) | simp [c5]) ?_
   refine rw_val (v := .int .i64 ((last.length : Nat) : Int)) (w' := w1) rfl rfl rfl rfl (by simp [go_sem, sEv, sLook, nbeq, i64_w, -List.getD_eq_getElem?_getD]) ?_
   refine rw_on (c := decide (20 < ((last.length : Nat) : Int))) rfl rfl rfl (by first | (rw [c5]; rfl) | simp [c5]) ?_
   refine rw_val (v := .bool (((last.length : Nat) : Int) == 0)) (w' := w1) rfl rfl rfl rfl (by simp [go_sem, sEv, sLook, nbeq, i64_w, -List.getD_eq_getElem?_getD]) ?_
   refine rw_val (v := .bool (((last.length : Nat) : Int) == 0)) (w' := w1) rfl rfl rfl rfl (by first | (simp [go_sem, sEv, sLook, nbeq, i64_w, -List.getD_eq_getElem?_getD, c5]; done) | (rw [c5]; simp [go_sem, sEv, sLook, nbeq, i64_w, -List.getD_eq_getElem?_getD]; done) | (simp [go_sem, sEv, sLook, nbeq, i64_w, -List.getD_eq_getElem?_getD] <;> omega) | (simp [go_sem, sEv, sLook, nbeq, i64_w, -List.getD_eq_getElem?_getD]; intro h_; exact absurd (by omega) h_)) ?_
   refine rw_end ?_
   refine w_weaken (G' := [(1, .pointer (some ⟨gb, 0, none⟩)), (2, .bool false), (33, .bool (((last.length : Nat) : Int) == 0))]) ⟨rfl, rfl, rfl, trivial⟩ ?_
   refine w_cond rfl rfl (fun c7 => ?_) (fun c7 => ?_)
   ·have l8 : ((last.length : Nat) : Int) = 0 := by simpa using c7
    refine w_seq ?_
    refine w_region ?_
    refine rw_val (v := .bool true) (w' := w1) rfl rfl rfl rfl rfl ?_
    refine rw_end ?_
    refine w_ret (post_ret1 rfl rfl ?_)
    exact ⟨rfl, chain hb00 hb2⟩
   have l9 : ¬ ((last.length : Nat) : Int) = 0 := by simpa using c7
   refine w_skip ?_
   refine w_seq ?_
   refine w_region ?_
   refine rw_call rfl rfl rfl rfl (f := 10) (args := #[]) (by simp [go_sem, sEv, sLook, nbeq, i64_w, -List.getD_eq_getElem?_getD]) (new_T w1) ?_
   rintro e_ w11 ⟨g10, rfl, hT12, hs13⟩
   refine ⟨_, rfl, ?_⟩
   have hT12o : TapeAt w w11 g10 w11.heap.size (fun _ => False) TS.start := new_on hb2 hT12
   have hz_w11 := hT12o.size
   refine rw_val (v := .pointer (some ⟨g10, 0, none⟩)) (w' := w11) rfl rfl rfl rfl rfl ?_
   refine rw_end ?_
   refine w_seq ?_
   refine w_region ?_
   refine rw_val (v := .pointer (some ⟨g10, 0, none⟩)) (w' := w11) rfl rfl rfl rfl rfl ?_
   refine rw_call rfl rfl rfl rfl (f := 11) (args := #[.pointer (some ⟨g10, 0, none⟩)]) (by simp [go_sem, sEv, sLook, nbeq, i64_w, -List.getD_eq_getElem?_getD]) (open_full w w11 g10 w11.heap.size (fun _ => False) (fun q h_ => h_.elim) TS.start (TapeAt.hole hT12o _ (fun _ _ _ _ h => h)) (okB_ok (by decide +kernel)) ([] : List (List Int)) (by rfl) (by intro r hr; cases hr) (by intro r hr; cases hr) rfl) ?_
   rintro e_ w18 ⟨gd14, m15, A16, c17, rfl, hD19, hO20, hs21, hK23⟩
   refine ⟨_, rfl, ?_⟩
   obtain ⟨hD19t, hD19b, hD19g, hD19z, hD19x⟩ := hD19
   have hz_w18 := hD19t.size
   have hlt_w18 := hD19b.lt
   have hL22 : OwnK (Kd.slice 5 (Kd.int .u8)) 32 w18 w.heap.size w.heap.size A16 (([] : List (List Int))).length c17 ([] : List (List Int)) := OwnK.mono (d := (Kd.slice 5 (Kd.int .u8))) (OwnK.lower (d := (Kd.slice 5 (Kd.int .u8))) hO20 (by omega)) (by omega)
   refine rw_val (v := .tuple #[.pointer (some ⟨gd14, 0, none⟩), .slice A16 ((([] : List (List Int))).length) c17, errT none]) (w' := w18) rfl rfl rfl rfl rfl ?_
   refine rw_val (v := .pointer (some ⟨gd14, 0, none⟩)) (w' := w18) rfl rfl rfl rfl (by simp [go_sem, sEv, sLook, nbeq, i64_w, -List.getD_eq_getElem?_getD]) ?_
   refine rw_val (v := .slice A16 ((([] : List (List Int))).length) c17) (w' := w18) rfl rfl rfl rfl (by simp [go_sem, sEv, sLook, nbeq, i64_w, -List.getD_eq_getElem?_getD]) ?_
   refine rw_val (v := errT none) (w' := w18) rfl rfl rfl rfl (by simp [go_sem, sEv, sLook, nbeq, i64_w, -List.getD_eq_getElem?_getD]) ?_
   refine rw_val (v := .pointer (some ⟨gd14, 0, none⟩)) (w' := w18) rfl rfl rfl rfl rfl ?_
   refine rw_val (v := .slice A16 ((([] : List (List Int))).length) c17) (w' := w18) rfl rfl rfl rfl rfl ?_
   refine rw_val (v := errT none) (w' := w18) rfl rfl rfl rfl rfl ?_
   refine rw_end ?_
   refine w_weaken (G' := [(1, .pointer (some ⟨gb, 0, none⟩)), (2, .bool false), (3, .pointer (some ⟨g10, 0, none⟩)), (4, .pointer (some ⟨gd14, 0, none⟩)), (6, errT none)]) ⟨rfl, rfl, rfl, rfl, rfl, trivial⟩ ?_
   refine w_seq ?_
   refine w_seq ?_
   refine w_region ?_
   refine rw_val (v := errT none) (w' := w18) rfl rfl rfl rfl rfl ?_
   refine rw_val (v := .bool ((none : Option Int).isSome)) (w' := w18) rfl rfl rfl rfl (run_as (guard_err_neq _ (none : Option Int) _)) ?_
   refine rw_val (v := .bool ((none : Option Int).isSome)) (w' := w18) rfl rfl rfl rfl rfl ?_
   have hq24 : ((none : Option Int).isSome) = false := by rfl
   refine rw_on (c := (none : Option Int).isSome) rfl rfl rfl (by first | (rw [hq24]; rfl) | simp [hq24]) ?_
   refine rw_val (v := .pointer (some ⟨gd14, 0, none⟩)) (w' := w18) rfl rfl rfl rfl rfl ?_
   refine rw_on (c := (none : Option Int).isSome) rfl rfl rfl (by first | (rw [hq24]; rfl) | simp [hq24]) ?_
   refine rw_val (v := .bool false) (w' := w18) rfl rfl rfl rfl (run_as (run_ptr_eql (e := 80) (by kernel_rfl) _ _)) ?_
   refine rw_val (v := .bool false) (w' := w18) rfl rfl rfl rfl (by first | (simp [go_sem, sEv, sLook, nbeq, i64_w, -List.getD_eq_getElem?_getD, hq24]; done) | (rw [hq24]; simp [go_sem, sEv, sLook, nbeq, i64_w, -List.getD_eq_getElem?_getD]; done) | (simp [go_sem, sEv, sLook, nbeq, i64_w, -List.getD_eq_getElem?_getD] <;> omega) | (simp [go_sem, sEv, sLook, nbeq, i64_w, -List.getD_eq_getElem?_getD]; intro h_; exact absurd (by omega) h_)) ?_
   refine rw_end ?_
   refine w_weaken (G' := [(1, .pointer (some ⟨gb, 0, none⟩)), (2, .bool false), (3, .pointer (some ⟨g10, 0, none⟩)), (4, .pointer (some ⟨gd14, 0, none⟩)), (6, errT none), (46, .bool false)]) ⟨rfl, rfl, rfl, rfl, rfl, rfl, trivial⟩ ?_
   refine w_cond_f rfl rfl rfl ?_
   refine w_skip ?_
   refine w_seq ?_
   refine w_seq ?_
   refine w_region ?_
   refine rw_val (v := .pointer (some ⟨gb, 0, none⟩)) (w' := w18) rfl rfl rfl rfl (by simp [go_sem, sEv, sLook, nbeq, i64_w, -List.getD_eq_getElem?_getD, Try.underlying45]) ?_
   refine rw_val (v := .slice A1 rows.length c1) (w' := w18) rfl rfl rfl rfl (by have eb_ := (hkb.on hD19t.1); have e0_ := eb_.cellv (i := 0) (v := (.slice A1 rows.length c1 : Value)) rfl; simp [go_sem, sEv, sLook, nbeq, i64_w, -List.getD_eq_getElem?_getD, e0_, Try.underlying22]) ?_
   refine rw_val (v := .int .i64 ((rows.length : Nat) : Int)) (w' := w18) rfl rfl rfl rfl (by simp [go_sem, sEv, sLook, nbeq, i64_w, -List.getD_eq_getElem?_getD]) ?_
   refine rw_val (v := .int .i64 0) (w' := w18) rfl rfl rfl rfl rfl ?_
   refine rw_end ?_
   refine w_weaken (G' := [(1, .pointer (some ⟨gb, 0, none⟩)), (2, .bool false), (3, .pointer (some ⟨g10, 0, none⟩)), (4, .pointer (some ⟨gd14, 0, none⟩)), (6, errT none), (48, .slice A1 rows.length c1), (49, .int .i64 ((rows.length : Nat) : Int)), (50, .int .i64 0)]) ⟨rfl, rfl, rfl, rfl, rfl, rfl, rfl, rfl, trivial⟩ ?_
   refine w_block ?_
   refine w_loop (fun m_ G W_ => ∃ (j : Nat) (md : Nat), j + m_ = rows.length ∧ Below w.heap.size w W_ ∧ (DiaryAt w W_ g10 gd14 md (HX gd14 (fun _ => False)) (PD (rows.take j) j)) ∧ (∀ p ∈ rows.take j, p.length ≤ 2000) ∧ ((FC (rows.take j)).length ≤ 2008 * j) ∧ G = [(1, .pointer (some ⟨gb, 0, none⟩)), (3, .pointer (some ⟨g10, 0, none⟩)), (4, .pointer (some ⟨gd14, 0, none⟩)), (48, .slice A1 rows.length c1), (49, .int .i64 ((rows.length : Nat) : Int)), (50, .int .i64 ((j : Nat) : Int))]) rows.length [(1, .pointer (some ⟨gb, 0, none⟩)), (3, .pointer (some ⟨g10, 0, none⟩)), (4, .pointer (some ⟨gd14, 0, none⟩)), (48, .slice A1 rows.length c1), (49, .int .i64 ((rows.length : Nat) : Int)), (50, .int .i64 0)] ⟨0, m15, by omega, hD19t.1, ⟨hD19t, hD19b, hD19g, hD19z, (.inl rfl)⟩, (by simp), (by simp [FC]), rfl⟩ ⟨rfl, rfl, rfl, rfl, rfl, rfl, trivial⟩ ?_
   rintro m_ G w_L25 ⟨j, md, hp26, hB_L25, hf27, hf28, hf29, rfl⟩
   have hs_w_L25 := hB_L25.size
   obtain ⟨hDt_, hDb_, hDg_, hDz_, hDx_⟩ := hf27
   have hzD_ := hDt_.size
   have hlD_ := hDb_.lt
   refine w_seq ?_
   refine w_region ?_
   refine rw_val (v := .bool (decide (((j : Nat) : Int) < ((rows.length : Nat) : Int)))) (w' := w_L25) rfl rfl rfl rfl (by simp [go_sem, sEv, sLook, nbeq, i64_w, -List.getD_eq_getElem?_getD]) ?_
   refine rw_end ?_
   refine w_seq ?_
   refine w_cond rfl rfl (fun cJ => ?_) (fun cJ => ?_)
   ·have l30 : (((j : Nat) : Int) < ((rows.length : Nat) : Int)) := of_decide_eq_true cJ
    refine w_skip ?_
    refine w_seq ?_
    refine w_block ?_
    refine w_seq ?_
    refine w_region ?_
    obtain ⟨ad31, A34, c35, hA32, he36, hle37, hC38⟩ := rows_at (Kd.C_below hr hB_L25) j (by first | omega | decide)
    subst hA32
    refine rw_val (v := .pointer (some (ad31.add (j)))) (w' := w_L25) rfl rfl rfl rfl (run_as (run_at_1 (P := Try.prog) (e := 32) (by kernel_rfl) (by kernel_rfl) j (by first | omega | decide) _)) ?_
    refine rw_val (v := .slice A34 ((rows.getD j []).length) c35) (w' := w_L25) rfl rfl rfl rfl (by have e0_ := cellOn he36 (Below.refl _ _); simp [go_sem, sEv, sLook, nbeq, i64_w, -List.getD_eq_getElem?_getD, e0_, Try.underlying32]) ?_
    refine rw_val (v := .slice A34 ((rows.getD j []).length) c35) (w' := w_L25) rfl rfl rfl rfl rfl ?_
    refine rw_end ?_
    refine w_seq ?_
    refine w_region ?_
    refine rw_val (v := .slice A34 ((rows.getD j []).length) c35) (w' := w_L25) rfl rfl rfl rfl rfl ?_
    refine rw_val (v := .int .i64 (((rows.getD j []).length : Nat) : Int)) (w' := w_L25) rfl rfl rfl rfl (by simp [go_sem, sEv, sLook, nbeq, i64_w, -List.getD_eq_getElem?_getD]) ?_
    refine rw_val (v := .bool (decide (2000 < (((rows.getD j []).length : Nat) : Int)))) (w' := w_L25) rfl rfl rfl rfl (by simp [go_sem, sEv, sLook, nbeq, i64_w, -List.getD_eq_getElem?_getD]) ?_
    refine rw_val (v := .bool (decide (2000 < (((rows.getD j []).length : Nat) : Int)))) (w' := w_L25) rfl rfl rfl rfl rfl ?_
    rcases bcase (decide (2000 < (((rows.getD j []).length : Nat) : Int))) with c39 | c39
    ·have l40 : ¬ (2000 < (((rows.getD j []).length : Nat) : Int)) := of_decide_eq_false c39
     refine rw_on (c := decide (2000 < (((rows.getD j []).length : Nat) : Int))) rfl rfl rfl (by first | (rw [c39]; rfl) | simp [c39]) ?_
     refine rw_val (v := .pointer (some ⟨gd14, 0, none⟩)) (w' := w_L25) rfl rfl rfl rfl rfl ?_
     refine rw_on (c := decide (2000 < (((rows.getD j []).length : Nat) : Int))) rfl rfl rfl (by first | (rw [c39]; rfl) | simp [c39]) ?_
     refine rw_val (v := .slice A34 ((rows.getD j []).length) c35) (w' := w_L25) rfl rfl rfl rfl rfl ?_
     refine rw_on (c := decide (2000 < (((rows.getD j []).length : Nat) : Int))) rfl rfl rfl (by first | (rw [c39]; rfl) | simp [c39]) ?_
     have hadd_ := add_PDt rows j (by omega) (by omega) (by omega)
     have hfs_ := FC_len_succ rows j (by omega) (by omega)
     have hall1_ : ∀ p ∈ (rows.take (j + 1)), p.length ≤ 2000 := fun p hp => by rw [take_snoc rows j (by omega)] at hp; exact (List.mem_append.1 hp).elim (fun hp => hf28 p hp) (fun hp => by rw [List.mem_singleton.1 hp]; omega)
     refine rw_call rfl rfl rfl rfl (f := 12) (args := #[.pointer (some ⟨gd14, 0, none⟩), .slice A34 ((rows.getD j []).length) c35]) (by simp [go_sem, sEv, sLook, nbeq, i64_w, -List.getD_eq_getElem?_getD]) (add_D w w_L25 g10 gd14 md (HX gd14 (fun _ => False)) (HX.lt (by omega) (fun q h_ => h_.elim)) (PD (rows.take j) j) ⟨hDt_, hDb_, hDg_, hDz_, hDx_⟩ (PD_ok _ _ (by omega) (by omega)) (show ((2 * j : Nat) : Int) ≤ 999999990 by omega) (show -1000000000 ≤ (((rows.take j).length : Nat) : Int) ∧ (((rows.take j).length : Nat) : Int) ≤ 1000000000 by rw [List.length_take]; omega) (show -1000000000 ≤ (((FC (rows.take j)).length : Nat) : Int) ∧ (((FC (rows.take j)).length : Nat) : Int) ≤ 1000000000 by omega) A34 c35 (rows.getD j []) (Kd.C_below hC38 (Below.refl _ _)) hle37 (by first | omega | (simp only [List.length_cons, List.length_nil]; omega))) ?_
     rintro e_ w42 ⟨rfl, m41, hD43, hs44, hk45⟩
     refine ⟨_, rfl, ?_⟩
     rw [hadd_.1]
     rw [hadd_.2] at hD43
     obtain ⟨hD43t, hD43b, hD43g, hD43z, hD43x⟩ := hD43
     have hz_w42 := hD43t.size
     have hlt_w42 := hD43b.lt
     refine rw_on (c := decide (2000 < (((rows.getD j []).length : Nat) : Int))) rfl rfl rfl (by first | (rw [c39]; rfl) | simp [c39]) ?_
     refine rw_val (v := .bool ((none : Option Int).isSome)) (w' := w42) rfl rfl rfl rfl (run_as (guard_err_neq _ (none : Option Int) _)) ?_
     refine rw_val (v := .bool ((none : Option Int).isSome)) (w' := w42) rfl rfl rfl rfl (by first | (simp [go_sem, sEv, sLook, nbeq, i64_w, -List.getD_eq_getElem?_getD, c39]; done) | (rw [c39]; simp [go_sem, sEv, sLook, nbeq, i64_w, -List.getD_eq_getElem?_getD]; done) | (simp [go_sem, sEv, sLook, nbeq, i64_w, -List.getD_eq_getElem?_getD] <;> omega) | (simp [go_sem, sEv, sLook, nbeq, i64_w, -List.getD_eq_getElem?_getD]; intro h_; exact absurd (by omega) h_)) ?_
     refine rw_end ?_
     refine w_weaken (G' := [(1, .pointer (some ⟨gb, 0, none⟩)), (3, .pointer (some ⟨g10, 0, none⟩)), (4, .pointer (some ⟨gd14, 0, none⟩)), (8, .slice A34 ((rows.getD j []).length) c35), (48, .slice (some ad31) rows.length c1), (49, .int .i64 ((rows.length : Nat) : Int)), (50, .int .i64 ((j : Nat) : Int)), (62, .bool ((none : Option Int).isSome))]) ⟨rfl, rfl, rfl, rfl, rfl, rfl, rfl, rfl, trivial⟩ ?_
     refine w_cond_f rfl rfl hq24 ?_
     refine w_skip ?_
     refine w_blk ?_
     refine w_region ?_
     refine rw_val (v := .int .i64 ((j + 1 : Nat) : Int)) (w' := w42) rfl rfl rfl rfl (by simp [go_sem, sEv, sLook, nbeq, i64_w, -List.getD_eq_getElem?_getD]; exact wrap_id (by omega) (by omega)) ?_
     refine rw_val (v := .int .i64 ((j + 1 : Nat) : Int)) (w' := w42) rfl rfl rfl rfl rfl ?_
     refine rw_end ?_
     exact w_back (m_ - 1) [(1, .pointer (some ⟨gb, 0, none⟩)), (3, .pointer (some ⟨g10, 0, none⟩)), (4, .pointer (some ⟨gd14, 0, none⟩)), (48, .slice (some ad31) rows.length c1), (49, .int .i64 ((rows.length : Nat) : Int)), (50, .int .i64 ((j + 1 : Nat) : Int))] (by omega) ⟨rfl, rfl, rfl, rfl, rfl, rfl, trivial⟩ ⟨(j + 1), m41, by omega, hD43t.1, ⟨hD43t, hD43b, hD43g, hD43z, hD43x⟩, hall1_, (by rw [hfs_]; omega), rfl⟩
    have l46 : (2000 < (((rows.getD j []).length : Nat) : Int)) := of_decide_eq_true c39
    refine rw_off (c := decide (2000 < (((rows.getD j []).length : Nat) : Int))) rfl rfl rfl (by first | (rw [c39]; rfl) | simp [c39]) rfl rfl ?_
    refine rw_off (c := decide (2000 < (((rows.getD j []).length : Nat) : Int))) rfl rfl rfl (by first | (rw [c39]; rfl) | simp [c39]) rfl rfl ?_
    refine rw_off (c := decide (2000 < (((rows.getD j []).length : Nat) : Int))) rfl rfl rfl (by first | (rw [c39]; rfl) | simp [c39]) rfl rfl ?_
    refine rw_off (c := decide (2000 < (((rows.getD j []).length : Nat) : Int))) rfl rfl rfl (by first | (rw [c39]; rfl) | simp [c39]) rfl rfl ?_
    refine rw_val (v := .bool true) (w' := w_L25) rfl rfl rfl rfl (by first | (simp [go_sem, sEv, sLook, nbeq, i64_w, -List.getD_eq_getElem?_getD, c39]; done) | (rw [c39]; simp [go_sem, sEv, sLook, nbeq, i64_w, -List.getD_eq_getElem?_getD]; done) | (simp [go_sem, sEv, sLook, nbeq, i64_w, -List.getD_eq_getElem?_getD] <;> omega) | (simp [go_sem, sEv, sLook, nbeq, i64_w, -List.getD_eq_getElem?_getD]; intro h_; exact absurd (by omega) h_)) ?_
    refine rw_end ?_
    refine w_weaken (G' := [(1, .pointer (some ⟨gb, 0, none⟩)), (3, .pointer (some ⟨g10, 0, none⟩)), (4, .pointer (some ⟨gd14, 0, none⟩)), (8, .slice A34 ((rows.getD j []).length) c35), (48, .slice (some ad31) rows.length c1), (49, .int .i64 ((rows.length : Nat) : Int)), (50, .int .i64 ((j : Nat) : Int)), (62, .bool true)]) ⟨rfl, rfl, rfl, rfl, rfl, rfl, rfl, rfl, trivial⟩ ?_
    refine w_cond_t rfl rfl rfl ?_
    refine w_seq ?_
    refine w_region ?_
    refine rw_val (v := .slice A34 ((rows.getD j []).length) c35) (w' := w_L25) rfl rfl rfl rfl rfl ?_
    refine rw_val (v := .int .i64 (((rows.getD j []).length : Nat) : Int)) (w' := w_L25) rfl rfl rfl rfl (by simp [go_sem, sEv, sLook, nbeq, i64_w, -List.getD_eq_getElem?_getD]) ?_
    refine rw_val (v := .bool (decide (2000 < (((rows.getD j []).length : Nat) : Int)))) (w' := w_L25) rfl rfl rfl rfl (by simp [go_sem, sEv, sLook, nbeq, i64_w, -List.getD_eq_getElem?_getD]) ?_
    refine rw_val (v := .bool (decide (2000 < (((rows.getD j []).length : Nat) : Int)))) (w' := w_L25) rfl rfl rfl rfl rfl ?_
    refine rw_end ?_
    refine w_weaken (G' := [(1, .pointer (some ⟨gb, 0, none⟩)), (2, .bool (decide (2000 < (((rows.getD j []).length : Nat) : Int)))), (3, .pointer (some ⟨g10, 0, none⟩)), (4, .pointer (some ⟨gd14, 0, none⟩)), (48, .slice (some ad31) rows.length c1), (49, .int .i64 ((rows.length : Nat) : Int)), (50, .int .i64 ((j : Nat) : Int))]) ⟨rfl, rfl, rfl, rfl, rfl, rfl, rfl, trivial⟩ ?_
    refine w_ret (post_ret1 rfl rfl ?_)
    exact ⟨by simp only [c39], chain hb00 hB_L25⟩
   have l47 : ¬ (((j : Nat) : Int) < ((rows.length : Nat) : Int)) := of_decide_eq_false cJ
   refine w_exit rfl ?_
   refine w_seq ?_
   refine w_seq ?_
   refine w_region ?_
   refine rw_val (v := .pointer (some ⟨gb, 1, none⟩)) (w' := w_L25) rfl rfl rfl rfl (by simp [go_sem, sEv, sLook, nbeq, i64_w, -List.getD_eq_getElem?_getD, Try.underlying45]) ?_
   refine rw_val (v := .slice A2 last.length c2) (w' := w_L25) rfl rfl rfl rfl (by have eb_ := (hkb.on hB_L25); have e0_ := eb_.cellv (i := 1) (v := (.slice A2 last.length c2 : Value)) rfl; simp [go_sem, sEv, sLook, nbeq, i64_w, -List.getD_eq_getElem?_getD, e0_, Try.underlying22]) ?_
   refine rw_val (v := .int .i64 ((last.length : Nat) : Int)) (w' := w_L25) rfl rfl rfl rfl (by simp [go_sem, sEv, sLook, nbeq, i64_w, -List.getD_eq_getElem?_getD]) ?_
   refine rw_val (v := .int .i64 0) (w' := w_L25) rfl rfl rfl rfl rfl ?_
   refine rw_end ?_
   refine w_weaken (G' := [(1, .pointer (some ⟨gb, 0, none⟩)), (3, .pointer (some ⟨g10, 0, none⟩)), (4, .pointer (some ⟨gd14, 0, none⟩)), (68, .slice A2 last.length c2), (69, .int .i64 ((last.length : Nat) : Int)), (70, .int .i64 0)]) ⟨rfl, rfl, rfl, rfl, rfl, rfl, trivial⟩ ?_
   refine w_block ?_
   refine w_loop (fun m_ G W_ => ∃ (i : Nat), i + m_ = last.length ∧ Below w.heap.size w W_ ∧ (DiaryAt w W_ g10 gd14 md (HX gd14 (fun _ => False)) (PD (rows.take j) j)) ∧ (∀ p ∈ last.take i, p.length ≤ 2000) ∧ G = [(1, .pointer (some ⟨gb, 0, none⟩)), (3, .pointer (some ⟨g10, 0, none⟩)), (4, .pointer (some ⟨gd14, 0, none⟩)), (68, .slice A2 last.length c2), (69, .int .i64 ((last.length : Nat) : Int)), (70, .int .i64 ((i : Nat) : Int))]) last.length [(1, .pointer (some ⟨gb, 0, none⟩)), (3, .pointer (some ⟨g10, 0, none⟩)), (4, .pointer (some ⟨gd14, 0, none⟩)), (68, .slice A2 last.length c2), (69, .int .i64 ((last.length : Nat) : Int)), (70, .int .i64 0)] ⟨0, by omega, hB_L25, ⟨hDt_, hDb_, hDg_, hDz_, hDx_⟩, (by simp), rfl⟩ ⟨rfl, rfl, rfl, rfl, rfl, rfl, trivial⟩ ?_
   rintro m_ G w_L48 ⟨i, hp49, hB_L48, hf50, hf51, rfl⟩
   have hs_w_L48 := hB_L48.size
   obtain ⟨hEt_, hEb_, hEg_, hEz_, hEx_⟩ := hf50
   have hzE_ := hEt_.size
   have hlE_ := hEb_.lt
   refine w_seq ?_
   refine w_region ?_
   refine rw_val (v := .bool (decide (((i : Nat) : Int) < ((last.length : Nat) : Int)))) (w' := w_L48) rfl rfl rfl rfl (by simp [go_sem, sEv, sLook, nbeq, i64_w, -List.getD_eq_getElem?_getD]) ?_
   refine rw_end ?_
   refine w_seq ?_
   refine w_cond rfl rfl (fun cI => ?_) (fun cI => ?_)
   ·have l52 : (((i : Nat) : Int) < ((last.length : Nat) : Int)) := of_decide_eq_true cI
    refine w_skip ?_
    refine w_seq ?_
    refine w_block ?_
    refine w_seq ?_
    refine w_region ?_
    obtain ⟨ad53, A56, c57, hA54, he58, hle59, hC60⟩ := rows_at (Kd.C_below hl hB_L48) i (by first | omega | decide)
    subst hA54
    refine rw_val (v := .pointer (some (ad53.add (i)))) (w' := w_L48) rfl rfl rfl rfl (run_as (run_at_1 (P := Try.prog) (e := 32) (by kernel_rfl) (by kernel_rfl) i (by first | omega | decide) _)) ?_
    refine rw_val (v := .slice A56 ((last.getD i []).length) c57) (w' := w_L48) rfl rfl rfl rfl (by have e0_ := cellOn he58 (Below.refl _ _); simp [go_sem, sEv, sLook, nbeq, i64_w, -List.getD_eq_getElem?_getD, e0_, Try.underlying32]) ?_
    refine rw_val (v := .slice A56 ((last.getD i []).length) c57) (w' := w_L48) rfl rfl rfl rfl rfl ?_
    refine rw_end ?_
    refine w_seq ?_
    refine w_region ?_
    refine rw_val (v := .slice A56 ((last.getD i []).length) c57) (w' := w_L48) rfl rfl rfl rfl rfl ?_
    refine rw_val (v := .int .i64 (((last.getD i []).length : Nat) : Int)) (w' := w_L48) rfl rfl rfl rfl (by simp [go_sem, sEv, sLook, nbeq, i64_w, -List.getD_eq_getElem?_getD]) ?_
    refine rw_val (v := .bool (decide (2000 < (((last.getD i []).length : Nat) : Int)))) (w' := w_L48) rfl rfl rfl rfl (by simp [go_sem, sEv, sLook, nbeq, i64_w, -List.getD_eq_getElem?_getD]) ?_
    refine rw_end ?_
    refine w_cond rfl rfl (fun c61 => ?_) (fun c61 => ?_)
    ·have l62 : (2000 < (((last.getD i []).length : Nat) : Int)) := of_decide_eq_true c61
     refine w_seq ?_
     refine w_region ?_
     refine rw_val (v := .bool true) (w' := w_L48) rfl rfl rfl rfl rfl ?_
     refine rw_end ?_
     refine w_ret (post_ret1 rfl rfl ?_)
     exact ⟨rfl, chain hb00 hB_L48⟩
    have l63 : ¬ (2000 < (((last.getD i []).length : Nat) : Int)) := of_decide_eq_false c61
    refine w_skip ?_
    refine w_blk ?_
    refine w_region ?_
    refine rw_val (v := .int .i64 ((i + 1 : Nat) : Int)) (w' := w_L48) rfl rfl rfl rfl (by simp [go_sem, sEv, sLook, nbeq, i64_w, -List.getD_eq_getElem?_getD]; exact wrap_id (by omega) (by omega)) ?_
    refine rw_val (v := .int .i64 ((i + 1 : Nat) : Int)) (w' := w_L48) rfl rfl rfl rfl rfl ?_
    refine rw_end ?_
    exact w_back (m_ - 1) [(1, .pointer (some ⟨gb, 0, none⟩)), (3, .pointer (some ⟨g10, 0, none⟩)), (4, .pointer (some ⟨gd14, 0, none⟩)), (68, .slice (some ad53) last.length c2), (69, .int .i64 ((last.length : Nat) : Int)), (70, .int .i64 ((i + 1 : Nat) : Int))] (by omega) ⟨rfl, rfl, rfl, rfl, rfl, rfl, trivial⟩ ⟨(i + 1), by omega, hB_L48, ⟨hEt_, hEb_, hEg_, hEz_, hEx_⟩, (by intro p hp; rw [take_snoc last i (by omega)] at hp; exact (List.mem_append.1 hp).elim (fun hp => hf51 p hp) (fun hp => by rw [List.mem_singleton.1 hp]; omega)), rfl⟩
   have l64 : ¬ (((i : Nat) : Int) < ((last.length : Nat) : Int)) := of_decide_eq_false cI
   refine w_exit rfl ?_
   refine w_seq ?_
   refine w_seq ?_
   refine w_region ?_
   refine rw_val (v := .pointer (some ⟨gb, 3, none⟩)) (w' := w_L48) rfl rfl rfl rfl (by simp [go_sem, sEv, sLook, nbeq, i64_w, -List.getD_eq_getElem?_getD, Try.underlying45]) ?_
   refine rw_val (v := .int .i64 arm) (w' := w_L48) rfl rfl rfl rfl (by have eb_ := (hkb.on hB_L48); have e0_ := eb_.cellv (i := 3) (v := (.int .i64 arm : Value)) rfl; simp [go_sem, sEv, sLook, nbeq, i64_w, -List.getD_eq_getElem?_getD, e0_]) ?_
   refine rw_val (v := .bool (decide (0 ≤ arm))) (w' := w_L48) rfl rfl rfl rfl (by simp [go_sem, sEv, sLook, nbeq, i64_w, -List.getD_eq_getElem?_getD]) ?_
   refine rw_end ?_
   refine w_cond rfl rfl (fun c65 => ?_) (fun c65 => ?_)
   ·have l66 : (0 ≤ arm) := of_decide_eq_true c65
    refine w_region ?_
    refine rw_val (v := .pointer (some ⟨g10, 0, none⟩)) (w' := w_L48) rfl rfl rfl rfl rfl ?_
    refine rw_val (v := .pointer (some ⟨gb, 3, none⟩)) (w' := w_L48) rfl rfl rfl rfl (by simp [go_sem, sEv, sLook, nbeq, i64_w, -List.getD_eq_getElem?_getD, Try.underlying45]) ?_
    refine rw_val (v := .int .i64 arm) (w' := w_L48) rfl rfl rfl rfl (by have eb_ := (hkb.on hB_L48); have e0_ := eb_.cellv (i := 3) (v := (.int .i64 arm : Value)) rfl; simp [go_sem, sEv, sLook, nbeq, i64_w, -List.getD_eq_getElem?_getD, e0_]) ?_
    refine rw_call rfl rfl rfl rfl (f := 19) (args := #[.pointer (some ⟨g10, 0, none⟩), .int .i64 arm]) (by simp [go_sem, sEv, sLook, nbeq, i64_w, -List.getD_eq_getElem?_getD]) (arm_T w w_L48 g10 md (HX gd14 (fun _ => False)) (HX.lt (by omega) (fun q h_ => h_.elim)) ((PD (rows.take j) j).s) hEt_ (PD_ok _ _ (by omega) (by omega)) arm (by rw [decide_eq_false_iff_not]; omega)) ?_
    rintro e_ w67 ⟨rfl, hT68, hs69, hx70⟩
    refine ⟨_, rfl, ?_⟩
    have hz_w67 := hT68.size
    have hk_w67 : Blk w67 gd14 80 _ := (hx70 gd14 hEx_ hEg_).trans (hEb_)
    have hlt_w67 := hk_w67.lt
    refine rw_end ?_
    refine w_weaken (G' := [(1, .pointer (some ⟨gb, 0, none⟩)), (3, .pointer (some ⟨g10, 0, none⟩)), (4, .pointer (some ⟨gd14, 0, none⟩))]) ⟨rfl, rfl, rfl, trivial⟩ ?_
    refine w_seq ?_
    refine w_seq ?_
    refine w_region ?_
    refine rw_val (v := .pointer (some ⟨gb, 4, none⟩)) (w' := w67) rfl rfl rfl rfl (by simp [go_sem, sEv, sLook, nbeq, i64_w, -List.getD_eq_getElem?_getD, Try.underlying45]) ?_
    refine rw_val (v := .int .i64 fail) (w' := w67) rfl rfl rfl rfl (by have eb_ := (hkb.on hT68.1); have e0_ := eb_.cellv (i := 4) (v := (.int .i64 fail : Value)) rfl; simp [go_sem, sEv, sLook, nbeq, i64_w, -List.getD_eq_getElem?_getD, e0_]) ?_
    refine rw_val (v := .bool (decide (0 ≤ fail))) (w' := w67) rfl rfl rfl rfl (by simp [go_sem, sEv, sLook, nbeq, i64_w, -List.getD_eq_getElem?_getD]) ?_
    refine rw_end ?_
    refine w_cond rfl rfl (fun c71 => ?_) (fun c71 => ?_)
    ·have l72 : (0 ≤ fail) := of_decide_eq_true c71
     refine w_region ?_
     refine rw_val (v := .pointer (some ⟨g10, 0, none⟩)) (w' := w67) rfl rfl rfl rfl rfl ?_
     refine rw_val (v := .pointer (some ⟨gb, 4, none⟩)) (w' := w67) rfl rfl rfl rfl (by simp [go_sem, sEv, sLook, nbeq, i64_w, -List.getD_eq_getElem?_getD, Try.underlying45]) ?_
     refine rw_val (v := .int .i64 fail) (w' := w67) rfl rfl rfl rfl (by have eb_ := (hkb.on hT68.1); have e0_ := eb_.cellv (i := 4) (v := (.int .i64 fail : Value)) rfl; simp [go_sem, sEv, sLook, nbeq, i64_w, -List.getD_eq_getElem?_getD, e0_]) ?_
     refine rw_call rfl rfl rfl rfl (f := 20) (args := #[.pointer (some ⟨g10, 0, none⟩), .int .i64 fail]) (by simp [go_sem, sEv, sLook, nbeq, i64_w, -List.getD_eq_getElem?_getD]) (fail_T w w67 g10 w67.heap.size (HX gd14 (fun _ => False)) (HX.lt (by omega) (fun q h_ => h_.elim)) (⟨FC (rows.take j), ((FC (rows.take j)).length : Int), ((2 * j : Nat) : Int), true, arm, false, 0, false⟩ : TS) hT68 ⟨by show (0 : Int) ≤ ((2 * j : Nat) : Int) ∧ ((2 * j : Nat) : Int) ≤ 1000000000; omega, by show (0 : Int) ≤ arm ∧ arm ≤ 9223372036854775807; omega, by show (0 : Int) ≤ (0 : Int) ∧ (0 : Int) ≤ 9223372036854775807; omega, by show 0 ≤ (((FC (rows.take j)).length : Nat) : Int) ∧ (((FC (rows.take j)).length : Nat) : Int) ≤ (((FC (rows.take j)).length : Nat) : Int); omega, by show (FC (rows.take j)).length ≤ 1048576; omega⟩ fail (by rw [decide_eq_false_iff_not]; omega)) ?_
     rintro e_ w73 ⟨rfl, hT74, hs75, hx76⟩
     refine ⟨_, rfl, ?_⟩
     have hz_w73 := hT74.size
     have hk_w73 : Blk w73 gd14 80 _ := (hx76 gd14 hEx_ hEg_).trans (hk_w67)
     have hlt_w73 := hk_w73.lt
     refine rw_end ?_
     refine w_weaken (G' := [(1, .pointer (some ⟨gb, 0, none⟩)), (3, .pointer (some ⟨g10, 0, none⟩)), (4, .pointer (some ⟨gd14, 0, none⟩))]) ⟨rfl, rfl, rfl, trivial⟩ ?_
     refine w_seq ?_
     refine w_region ?_
     refine rw_val (v := .pointer (some ⟨gb, 0, none⟩)) (w' := w73) rfl rfl rfl rfl (by simp [go_sem, sEv, sLook, nbeq, i64_w, -List.getD_eq_getElem?_getD, Try.underlying45]) ?_
     refine rw_val (v := .slice A1 rows.length c1) (w' := w73) rfl rfl rfl rfl (by have eb_ := (hkb.on hT74.1); have e0_ := eb_.cellv (i := 0) (v := (.slice A1 rows.length c1 : Value)) rfl; simp [go_sem, sEv, sLook, nbeq, i64_w, -List.getD_eq_getElem?_getD, e0_, Try.underlying22]) ?_
     have ej_ : j = rows.length := by omega
     have hfc_ : FC (rows.take j) = FC rows := by rw [ej_, List.take_length]
     have hfl_ : (FC (rows.take j)).length = (FC rows).length := by rw [hfc_]
     have hr2_ : ∀ p ∈ rows, p.length ≤ 16376 := fun p hp => by have h_ := hf28 p (by rw [ej_, List.take_length]; exact hp); omega
     have hl2_ : ∀ p ∈ last, p.length ≤ 2000 := fun p hp => hf51 p (by rw [show i = last.length by omega, List.take_length]; exact hp)
     have hln_ : ∀ p ∈ last, p.length ≤ 16376 := fun p hp => Nat.le_trans (hl2_ p hp) (by decide)
     have hlF_ := FC_bound last hl2_
     have hl0a_ := hl2_ (last.getD 0 []) (getD_mem last 0 [] (by omega))
     have hl0_ : (last.getD 0 []).length ≤ 16376 := by omega
     refine rw_call rfl rfl rfl rfl (f := 14) (args := #[.slice A1 rows.length c1]) (by simp [go_sem, sEv, sLook, nbeq, i64_w, -List.getD_eq_getElem?_getD]) (texts_calls w73 A1 c1 rows (Kd.C_below hr hT74.1) hchr (by omega)) ?_
     rintro e_ w79 ⟨A77, c78, rfl, hO80, hB81⟩
     refine ⟨_, rfl, ?_⟩
     have hs_w79 := hB81.size
     have hL82 : OwnK Kd.string 9 w79 w.heap.size w73.heap.size A77 (rows.map strOfNums).length c78 (rows.map strOfNums) := OwnK.lower hO80 (by omega)
     refine rw_val (v := .slice A77 ((rows.map strOfNums).length) c78) (w' := w79) rfl rfl rfl rfl rfl ?_
     refine rw_end ?_
     refine w_weaken (G' := [(1, .pointer (some ⟨gb, 0, none⟩)), (3, .pointer (some ⟨g10, 0, none⟩)), (4, .pointer (some ⟨gd14, 0, none⟩)), (11, .slice A77 ((rows.map strOfNums).length) c78)]) ⟨rfl, rfl, rfl, rfl, trivial⟩ ?_
     refine w_seq ?_
     obtain ⟨ad90, A93, c94, hA91, he95, hle96, hC97⟩ := rows_at (Kd.C_below hl (chain hT74.1 hB81)) 0 (by first | omega | decide)
     subst hA91
     have he98 : w79.cell? (ad90) = some (.slice A93 ((last.getD 0 []).length) c94) := cell_00 he95
     refine w_drawk (M := [0, 0, 3, 0, 8, 24, 56, 120, 248, 511, 1023]) (ss := [SlcSpec w79.heap.size 9 #[] 0, Is (.slice A77 ((rows.map strOfNums).length) c78), (OwnKSpec Kd.string 9 w79.heap.size w79.heap.size (rows.map strOfNums)), Is (.pointer (some ⟨gb, 1, none⟩)), Is (.slice (some ad90) last.length c2), Is (.pointer (some (ad90))), Is (.slice A93 ((last.getD 0 []).length) c94), Is (.string (strOfNums (last.getD 0 []))), SlcSpec w79.heap.size 9 #[.string (strOfNums (last.getD 0 []))] 1]) 9 rfl (by decide +kernel) ?_
     refine t_val (SlcSpec w79.heap.size 9 #[] 0) rfl rfl rfl rfl (fun W_ hW_ F_ => slc_gives _ _ _ _ (below_of_drew hW_).size (by kernel_rfl)) ?_
     rintro _ ⟨g83, rfl⟩
     refine t_is (.slice A77 ((rows.map strOfNums).length) c78) rfl rfl rfl rfl (fun W_ hW_ F_ => rfl) ?_
     refine t_val (OwnKSpec Kd.string 9 w79.heap.size w79.heap.size (rows.map strOfNums)) rfl rfl rfl rfl (fun W_ hW_ F_ => app_gives (d := Kd.string) w79.heap.size (.tmp 95) (.tmp 96) 35 9 (.string ByteArray.empty) 16 rfl (by kernel_rfl) (by kernel_rfl) rfl (show 0 < 1 by decide) (by decide) (fun W b => (fun _ _ h => h)) (fun _ => ⟨1, by kernel_rfl⟩) rfl rfl (slc_fact (F_ 0 _ _ rfl rfl)).2 (slc_fact (F_ 0 _ _ rfl rfl)).1 (OwnK.Cn (d := Kd.string) (OwnK.on (d := Kd.string) hL82 (below_of_drew hW_))) (by first | omega | (simp only [List.length_map, List.length_append, List.length_cons, List.length_nil]; omega))) ?_
     rintro _ ⟨A86, c87, rfl, hle88⟩
     refine t_is (.pointer (some ⟨gb, 1, none⟩)) rfl rfl rfl rfl (fun W_ hW_ F_ => by simp [go_sem, sEv, sLook, nbeq, i64_w, -List.getD_eq_getElem?_getD, Try.underlying45]) ?_
     refine t_is (.slice (some ad90) last.length c2) rfl rfl rfl rfl (fun W_ hW_ F_ => by have eb_ := (((hkb.on hT74.1).on hB81).on (below_of_drew hW_)); have e0_ := eb_.cellv (i := 1) (v := (.slice (some ad90) last.length c2 : Value)) rfl; simp [go_sem, sEv, sLook, nbeq, i64_w, -List.getD_eq_getElem?_getD, e0_, Try.underlying22]) ?_
     refine t_is (.pointer (some (ad90))) rfl rfl rfl rfl (fun W_ hW_ F_ => (run_as (run_at_z (P := Try.prog) (e := 32) (sz := 1) (by kernel_rfl) (by kernel_rfl)  (by first | omega | decide) _))) ?_
     refine t_is (.slice A93 ((last.getD 0 []).length) c94) rfl rfl rfl rfl (fun W_ hW_ F_ => by have e0_ := cellOn he98 (below_of_drew hW_); simp [go_sem, sEv, sLook, nbeq, i64_w, -List.getD_eq_getElem?_getD, e0_, Try.underlying32]) ?_
     refine t_is (.string (strOfNums (last.getD 0 []))) rfl rfl rfl rfl (fun W_ hW_ F_ => (run_as (run_str_of (P := Try.prog) (e := 5) (by kernel_rfl) (by kernel_rfl) (by kernel_rfl) (Kd.C_below hC97 (chain (Below.refl _ _) (below_of_drew hW_)))))) ?_
     refine t_val (SlcSpec w79.heap.size 9 #[.string (strOfNums (last.getD 0 []))] 1) rfl rfl rfl rfl (fun W_ hW_ F_ => slc_gives _ _ _ _ (below_of_drew hW_).size (by kernel_rfl)) ?_
     rintro _ ⟨g99, rfl⟩
     refine t_tail ?_
     intro w102 hb103_ F104
     have hb103 := below_of_drew hb103_
     have hs_w102 := hb103.size
     obtain ⟨hge85, hk84⟩ := slc_fact (F104 0 _ _ rfl)
     have hlt_g83 := hk84.lt
     have hO89 : OwnK Kd.string 9 w102 w.heap.size w79.heap.size A86 (rows.map strOfNums).length c87 (rows.map strOfNums) := OwnK.lower (ownk_fact (F104 2 (OwnKSpec Kd.string 9 w79.heap.size w79.heap.size (rows.map strOfNums)) (.slice A86 (rows.map strOfNums).length c87) (by kernel_rfl))) (by omega)
     obtain ⟨hge101, hk100⟩ := slc_fact (F104 8 _ _ rfl)
     have hlt_g99 := hk100.lt
     have hk84r : OwnK Kd.string 9 w102 w.heap.size g83 (some ⟨g83, 0, none⟩) 0 0 ([] : List ByteArray) := lit_nilK _ w.heap.size hk84 (by omega)
     have hk100r : OwnK Kd.string 9 w102 w.heap.size g99 (some ⟨g99, 0, none⟩) 1 1 ([strOfNums (last.getD 0 [])] : List ByteArray) := scal_own w.heap.size hk100 (by omega) rfl rfl (by simp)
     have oA111 : OwnK Kd.string 9 w102 w.heap.size w79.heap.size A86 ((rows.map strOfNums).length) c87 (rows.map strOfNums) := hO89
     refine rw_append_kd (d := Kd.string) w.heap.size rfl rfl rfl (.tmp 97) (.tmp 103) rfl rfl 35 9 (.string ByteArray.empty) 16 rfl (by kernel_rfl) (by kernel_rfl) rfl (show 0 < 1 by decide) (by decide) (fun _ _ h => h) (b := w79.heap.size) rfl rfl (by omega) oA111 (OwnK.Cn (d := Kd.string) hk100r) (chain (chain hT74.1 hB81) hb103) (by omega) (by first | omega | (simp only [List.length_map, List.length_append, List.length_cons, List.length_nil]; omega)) ?_
     intro A105 c106 w107 hO108 hB109 hG110
     have hs_w107 := hB109.size
     have hgs_w107 := hG110.size
     have hO112 := OwnK.elder (d := Kd.string) hL82 hb103 hG110 (fun q hq => Nat.le_trans (by omega) (OwnK.blk_ge (d := Kd.string) oA111 hq))
     have hk115 := OwnK.blk_grown ((hk_w73.on hB81).on hb103) oA111 (.inr (by decide)) hG110
     have hT116 : TapeAt w w107 g10 w73.heap.size (HX gd14 (fun _ => False)) (⟨FC (rows.take j), ((FC (rows.take j)).length : Int), ((2 * j : Nat) : Int), true, arm, true, fail, false⟩ : TS) := TapeAt.grown (TapeAt.on (TapeAt.on hT74 hB81) hb103) oA111 (by omega) hB109 hG110
     refine rw_val (v := .slice A105 (((rows.map strOfNums) ++ ([strOfNums (last.getD 0 [])] : List ByteArray)).length) c106) (w' := w107) rfl rfl rfl rfl rfl ?_
     refine rw_end ?_
     refine w_weaken (G' := [(1, .pointer (some ⟨gb, 0, none⟩)), (3, .pointer (some ⟨g10, 0, none⟩)), (4, .pointer (some ⟨gd14, 0, none⟩)), (11, .slice A77 ((rows.map strOfNums).length) c78), (12, .slice A105 (((rows.map strOfNums) ++ ([strOfNums (last.getD 0 [])] : List ByteArray)).length) c106)]) ⟨rfl, rfl, rfl, rfl, rfl, trivial⟩ ?_
     refine w_seq ?_
     refine w_seq ?_
     refine w_region ?_
     refine rw_val (v := .pointer (some ⟨gb, 2, none⟩)) (w' := w107) rfl rfl rfl rfl (by simp [go_sem, sEv, sLook, nbeq, i64_w, -List.getD_eq_getElem?_getD, Try.underlying45]) ?_
     refine rw_val (v := .bool rw) (w' := w107) rfl rfl rfl rfl (by have eb_ := (hkb.on hB109); have e0_ := eb_.cellv (i := 2) (v := (.bool rw : Value)) rfl; simp [go_sem, sEv, sLook, nbeq, i64_w, -List.getD_eq_getElem?_getD, e0_]) ?_
     refine rw_end ?_
     refine w_cond rfl rfl (fun cRW => ?_) (fun cRW => ?_)
     ·refine w_seq ?_
      refine w_region ?_
      refine rw_val (v := .pointer (some ⟨gb, 1, none⟩)) (w' := w107) rfl rfl rfl rfl (by simp [go_sem, sEv, sLook, nbeq, i64_w, -List.getD_eq_getElem?_getD, Try.underlying45]) ?_
      refine rw_val (v := .slice (some ad90) last.length c2) (w' := w107) rfl rfl rfl rfl (by have eb_ := (hkb.on hB109); have e0_ := eb_.cellv (i := 1) (v := (.slice (some ad90) last.length c2 : Value)) rfl; simp [go_sem, sEv, sLook, nbeq, i64_w, -List.getD_eq_getElem?_getD, e0_, Try.underlying22]) ?_
      refine rw_call rfl rfl rfl rfl (f := 14) (args := #[.slice (some ad90) last.length c2]) (by simp [go_sem, sEv, sLook, nbeq, i64_w, -List.getD_eq_getElem?_getD]) (texts_calls w107 (some ad90) c2 last (Kd.C_below hl hB109) hchl (by omega)) ?_
      rintro e_ w119 ⟨A117, c118, rfl, hO120, hB121⟩
      refine ⟨_, rfl, ?_⟩
      have hs_w119 := hB121.size
      have hL122 : OwnK Kd.string 9 w119 w.heap.size w107.heap.size A117 (last.map strOfNums).length c118 (last.map strOfNums) := OwnK.lower hO120 (by omega)
      refine rw_val (v := .slice A117 ((last.map strOfNums).length) c118) (w' := w119) rfl rfl rfl rfl rfl ?_
      refine rw_end ?_
      refine w_weaken (G' := [(1, .pointer (some ⟨gb, 0, none⟩)), (3, .pointer (some ⟨g10, 0, none⟩)), (4, .pointer (some ⟨gd14, 0, none⟩)), (11, .slice A77 ((rows.map strOfNums).length) c78), (12, .slice A117 ((last.map strOfNums).length) c118)]) ⟨rfl, rfl, rfl, rfl, rfl, trivial⟩ ?_
      refine w_region ?_
      refine rw_val (v := .pointer (some ⟨gd14, 0, none⟩)) (w' := w119) rfl rfl rfl rfl rfl ?_
      refine rw_val (v := .pointer (some ⟨gb, 1, none⟩)) (w' := w119) rfl rfl rfl rfl (by simp [go_sem, sEv, sLook, nbeq, i64_w, -List.getD_eq_getElem?_getD, Try.underlying45]) ?_
      refine rw_val (v := .slice (some ad90) last.length c2) (w' := w119) rfl rfl rfl rfl (by have eb_ := ((hkb.on hB109).on hB121); have e0_ := eb_.cellv (i := 1) (v := (.slice (some ad90) last.length c2 : Value)) rfl; simp [go_sem, sEv, sLook, nbeq, i64_w, -List.getD_eq_getElem?_getD, e0_, Try.underlying22]) ?_
      have hX_ := cut_rw (⟨(⟨FC (rows.take j), ((FC (rows.take j)).length : Int), ((2 * j : Nat) : Int), true, arm, true, fail, false⟩ : TS), (⟨(⟨FC (rows.take j), ((FC (rows.take j)).length : Int), ((2 * j : Nat) : Int), true, arm, false, 0, false⟩ : TS), (PD (rows.take j) j).r, (PD (rows.take j) j).b⟩ : DS).r, (⟨(⟨FC (rows.take j), ((FC (rows.take j)).length : Int), ((2 * j : Nat) : Int), true, arm, false, 0, false⟩ : TS), (PD (rows.take j) j).r, (PD (rows.take j) j).b⟩ : DS).b⟩ : DS) rows last keep ⟨by show (0 : Int) ≤ ((2 * j : Nat) : Int) ∧ ((2 * j : Nat) : Int) ≤ 1000000000; omega, by show (0 : Int) ≤ arm ∧ arm ≤ 9223372036854775807; omega, by show (0 : Int) ≤ fail ∧ fail ≤ 9223372036854775807; omega, by show 0 ≤ (((FC (rows.take j)).length : Nat) : Int) ∧ (((FC (rows.take j)).length : Nat) : Int) ≤ (((FC (rows.take j)).length : Nat) : Int); omega, by show (FC (rows.take j)).length ≤ 1048576; omega⟩ (by show (FC (rows.take j)) = FC rows; exact hfc_) (by show ((FC (rows.take j)).length : Int) = ((FC rows).length : Int); rw [hfc_]) hln_ (by omega) (by show ((2 * j : Nat) : Int) ≤ 1000; omega)
      obtain ⟨X123, hX124, hC125, hX126, hX127⟩ := hX_
      have hn2_ : ∀ p ∈ last, p.length ≤ 16376 := hln_
      refine rw_call rfl rfl rfl rfl (f := 21) (args := #[.pointer (some ⟨gd14, 0, none⟩), .slice (some ad90) last.length c2]) (by simp [go_sem, sEv, sLook, nbeq, i64_w, -List.getD_eq_getElem?_getD]) (rewrite_D w w119 g10 gd14 w73.heap.size (HI gd14 w73.heap.size w119.heap.size) (HI.lt (by omega) (by omega)) (⟨(⟨FC (rows.take j), ((FC (rows.take j)).length : Int), ((2 * j : Nat) : Int), true, arm, true, fail, false⟩ : TS), (⟨(⟨FC (rows.take j), ((FC (rows.take j)).length : Int), ((2 * j : Nat) : Int), true, arm, false, 0, false⟩ : TS), (PD (rows.take j) j).r, (PD (rows.take j) j).b⟩ : DS).r, (⟨(⟨FC (rows.take j), ((FC (rows.take j)).length : Int), ((2 * j : Nat) : Int), true, arm, false, 0, false⟩ : TS), (PD (rows.take j) j).r, (PD (rows.take j) j).b⟩ : DS).b⟩ : DS) ⟨(TapeAt.hole (TapeAt.on hT116 hB121) (HI gd14 w73.heap.size w119.heap.size) (fun q h1 h2 h3 h4 => h4.elim (fun e => h3 (.inl e)) (fun h => by omega))), (hk115.on hB121), hEg_, hEz_, (.inl rfl)⟩ ⟨by show (0 : Int) ≤ ((2 * j : Nat) : Int) ∧ ((2 * j : Nat) : Int) ≤ 1000000000; omega, by show (0 : Int) ≤ arm ∧ arm ≤ 9223372036854775807; omega, by show (0 : Int) ≤ fail ∧ fail ≤ 9223372036854775807; omega, by show 0 ≤ (((FC (rows.take j)).length : Nat) : Int) ∧ (((FC (rows.take j)).length : Nat) : Int) ≤ (((FC (rows.take j)).length : Nat) : Int); omega, by show (FC (rows.take j)).length ≤ 1048576; omega⟩ (some ad90) c2 last (Kd.C_below hl (chain hB109 hB121)) hchl (by omega) (fun p hp => Nat.le_trans (hln_ p hp) (by decide))) ?_
      rintro e_ w129 ⟨rfl, m128, hD130, hs131, hk132⟩
      refine ⟨_, rfl, ?_⟩
      obtain ⟨hD130t, hD130b, hD130g, hD130z, hD130x⟩ := hD130
      have hz_w129 := hD130t.size
      have hlt_w129 := hD130b.lt
      refine rw_val (v := errT ((⟨(⟨FC (rows.take j), ((FC (rows.take j)).length : Int), ((2 * j : Nat) : Int), true, arm, true, fail, false⟩ : TS), (⟨(⟨FC (rows.take j), ((FC (rows.take j)).length : Int), ((2 * j : Nat) : Int), true, arm, false, 0, false⟩ : TS), (PD (rows.take j) j).r, (PD (rows.take j) j).b⟩ : DS).r, (⟨(⟨FC (rows.take j), ((FC (rows.take j)).length : Int), ((2 * j : Nat) : Int), true, arm, false, 0, false⟩ : TS), (PD (rows.take j) j).r, (PD (rows.take j) j).b⟩ : DS).b⟩ : DS).rwE last)) (w' := w129) rfl rfl rfl rfl rfl ?_
      refine rw_end ?_
      refine w_weaken (G' := [(1, .pointer (some ⟨gb, 0, none⟩)), (3, .pointer (some ⟨g10, 0, none⟩)), (6, errT ((⟨(⟨FC (rows.take j), ((FC (rows.take j)).length : Int), ((2 * j : Nat) : Int), true, arm, true, fail, false⟩ : TS), (⟨(⟨FC (rows.take j), ((FC (rows.take j)).length : Int), ((2 * j : Nat) : Int), true, arm, false, 0, false⟩ : TS), (PD (rows.take j) j).r, (PD (rows.take j) j).b⟩ : DS).r, (⟨(⟨FC (rows.take j), ((FC (rows.take j)).length : Int), ((2 * j : Nat) : Int), true, arm, false, 0, false⟩ : TS), (PD (rows.take j) j).r, (PD (rows.take j) j).b⟩ : DS).b⟩ : DS).rwE last)), (11, .slice A77 ((rows.map strOfNums).length) c78), (12, .slice A117 ((last.map strOfNums).length) c118)]) ⟨rfl, rfl, rfl, rfl, rfl, trivial⟩ ?_
      refine w_seq ?_
      refine w_region ?_
      refine rw_val (v := .pointer (some ⟨g10, 0, none⟩)) (w' := w129) rfl rfl rfl rfl rfl ?_
      refine rw_val (v := .pointer (some ⟨gb, 5, none⟩)) (w' := w129) rfl rfl rfl rfl (by simp [go_sem, sEv, sLook, nbeq, i64_w, -List.getD_eq_getElem?_getD, Try.underlying45]) ?_
      refine rw_val (v := .int .i64 keep) (w' := w129) rfl rfl rfl rfl (by have eb_ := (hkb.on hD130t.1); have e0_ := eb_.cellv (i := 5) (v := (.int .i64 keep : Value)) rfl; simp [go_sem, sEv, sLook, nbeq, i64_w, -List.getD_eq_getElem?_getD, e0_]) ?_
      refine rw_call rfl rfl rfl rfl (f := 22) (args := #[.pointer (some ⟨g10, 0, none⟩), .int .i64 keep]) (by simp [go_sem, sEv, sLook, nbeq, i64_w, -List.getD_eq_getElem?_getD]) (crash_T w w129 g10 m128 (HI gd14 w73.heap.size w119.heap.size) (HI.lt (by omega) (by omega)) (((⟨(⟨FC (rows.take j), ((FC (rows.take j)).length : Int), ((2 * j : Nat) : Int), true, arm, true, fail, false⟩ : TS), (⟨(⟨FC (rows.take j), ((FC (rows.take j)).length : Int), ((2 * j : Nat) : Int), true, arm, false, 0, false⟩ : TS), (PD (rows.take j) j).r, (PD (rows.take j) j).b⟩ : DS).r, (⟨(⟨FC (rows.take j), ((FC (rows.take j)).length : Int), ((2 * j : Nat) : Int), true, arm, false, 0, false⟩ : TS), (PD (rows.take j) j).r, (PD (rows.take j) j).b⟩ : DS).b⟩ : DS).rw last).s) hD130t hX126 keep) ?_
      rintro e_ w133 ⟨rfl, hT134, hs135, hx136⟩
      refine ⟨.tuple #[], rfl, ?_⟩
      rw [hX124] at hT134
      have hz_w133 := hT134.size
      have hk_w133 : Blk w133 gd14 80 _ := (hx136 gd14 hD130x hD130g).trans (hD130b)
      have hlt_w133 := hk_w133.lt
      refine rw_end ?_
      refine w_weaken (G' := [(3, .pointer (some ⟨g10, 0, none⟩)), (6, errT ((⟨(⟨FC (rows.take j), ((FC (rows.take j)).length : Int), ((2 * j : Nat) : Int), true, arm, true, fail, false⟩ : TS), (⟨(⟨FC (rows.take j), ((FC (rows.take j)).length : Int), ((2 * j : Nat) : Int), true, arm, false, 0, false⟩ : TS), (PD (rows.take j) j).r, (PD (rows.take j) j).b⟩ : DS).r, (⟨(⟨FC (rows.take j), ((FC (rows.take j)).length : Int), ((2 * j : Nat) : Int), true, arm, false, 0, false⟩ : TS), (PD (rows.take j) j).r, (PD (rows.take j) j).b⟩ : DS).b⟩ : DS).rwE last)), (11, .slice A77 ((rows.map strOfNums).length) c78), (12, .slice A117 ((last.map strOfNums).length) c118)]) ⟨rfl, rfl, rfl, rfl, trivial⟩ ?_
      refine w_seq ?_
      refine w_region ?_
      refine rw_val (v := .pointer (some ⟨g10, 0, none⟩)) (w' := w133) rfl rfl rfl rfl rfl ?_
      refine rw_call rfl rfl rfl rfl (f := 11) (args := #[.pointer (some ⟨g10, 0, none⟩)]) (by simp [go_sem, sEv, sLook, nbeq, i64_w, -List.getD_eq_getElem?_getD]) (open_cut w w133 g10 w133.heap.size (HI gd14 w73.heap.size w119.heap.size) (HI.lt (by omega) (by omega)) X123 ((⟨(⟨FC (rows.take j), ((FC (rows.take j)).length : Int), ((2 * j : Nat) : Int), true, arm, true, fail, false⟩ : TS), (⟨(⟨FC (rows.take j), ((FC (rows.take j)).length : Int), ((2 * j : Nat) : Int), true, arm, false, 0, false⟩ : TS), (PD (rows.take j) j).r, (PD (rows.take j) j).b⟩ : DS).r, (⟨(⟨FC (rows.take j), ((FC (rows.take j)).length : Int), ((2 * j : Nat) : Int), true, arm, false, 0, false⟩ : TS), (PD (rows.take j) j).r, (PD (rows.take j) j).b⟩ : DS).b⟩ : DS).rw last).s.steps hT134 ⟨hX126.steps.1, hX127⟩ (cut_len hC125 (by omega) (by omega)) (cut_bytes hC125 hby hbl)) ?_
      rintro e_ w144 ⟨gd137, m138, A139, c140, out141, n142, s143, rfl, hS145, hD146, hO147, hs148, hK149⟩
      refine ⟨_, rfl, ?_⟩
      obtain ⟨hD146t, hD146b, hD146g, hD146z, hD146x⟩ := hD146
      have hz_w144 := hD146t.size
      have hlt_w144 := hD146b.lt
      have hL150 : OwnK (Kd.slice 5 (Kd.int .u8)) 32 w144 w.heap.size w.heap.size A139 out141.length c140 out141 := OwnK.mono (d := (Kd.slice 5 (Kd.int .u8))) (OwnK.lower (d := (Kd.slice 5 (Kd.int .u8))) hO147 (by omega)) (by omega)
      have hct_ := cut_told hC125 hr2_ hn2_ hS145
      have hP151 : OwnK Kd.string 9 w144 w.heap.size w73.heap.size A77 ((rows.map strOfNums).length) c78 (rows.map strOfNums) := OwnK.step (d := Kd.string) (OwnK.on (d := Kd.string) hO112 hB121) (fun q hq hlt => by have hq_ : (HI gd14 w73.heap.size w119.heap.size) q := .inr ⟨(by omega), hlt⟩; have hqg : q ≠ g10 := (by omega); have hqd : q ≠ gd14 := (by omega); exact ((hK149.2 q (by omega) hqg).trans ((hx136 q hq_ hqg).trans (hk132 q hq_ hqg hqd))))
      have hP152 : OwnK Kd.string 9 w144 w.heap.size w107.heap.size A117 ((last.map strOfNums).length) c118 (last.map strOfNums) := OwnK.step (d := Kd.string) hL122 (fun q hq hlt => by have hq_ : (HI gd14 w73.heap.size w119.heap.size) q := .inr ⟨(by omega), hlt⟩; have hqg : q ≠ g10 := (by omega); have hqd : q ≠ gd14 := (by omega); exact ((hK149.2 q (by omega) hqg).trans ((hx136 q hq_ hqg).trans (hk132 q hq_ hqg hqd))))
      refine rw_val (v := .tuple #[.pointer (some ⟨gd137, 0, none⟩), .slice A139 out141.length c140, errT none]) (w' := w144) rfl rfl rfl rfl rfl ?_
      refine rw_val (v := .pointer (some ⟨gd137, 0, none⟩)) (w' := w144) rfl rfl rfl rfl (by simp [go_sem, sEv, sLook, nbeq, i64_w, -List.getD_eq_getElem?_getD]) ?_
      refine rw_val (v := .slice A139 out141.length c140) (w' := w144) rfl rfl rfl rfl (by simp [go_sem, sEv, sLook, nbeq, i64_w, -List.getD_eq_getElem?_getD]) ?_
      refine rw_val (v := errT none) (w' := w144) rfl rfl rfl rfl (by simp [go_sem, sEv, sLook, nbeq, i64_w, -List.getD_eq_getElem?_getD]) ?_
      refine rw_val (v := .pointer (some ⟨gd137, 0, none⟩)) (w' := w144) rfl rfl rfl rfl rfl ?_
      refine rw_val (v := .slice A139 out141.length c140) (w' := w144) rfl rfl rfl rfl rfl ?_
      refine rw_val (v := errT none) (w' := w144) rfl rfl rfl rfl rfl ?_
      refine rw_end ?_
      refine w_weaken (G' := [(6, errT ((⟨(⟨FC (rows.take j), ((FC (rows.take j)).length : Int), ((2 * j : Nat) : Int), true, arm, true, fail, false⟩ : TS), (⟨(⟨FC (rows.take j), ((FC (rows.take j)).length : Int), ((2 * j : Nat) : Int), true, arm, false, 0, false⟩ : TS), (PD (rows.take j) j).r, (PD (rows.take j) j).b⟩ : DS).r, (⟨(⟨FC (rows.take j), ((FC (rows.take j)).length : Int), ((2 * j : Nat) : Int), true, arm, false, 0, false⟩ : TS), (PD (rows.take j) j).r, (PD (rows.take j) j).b⟩ : DS).b⟩ : DS).rwE last)), (11, .slice A77 ((rows.map strOfNums).length) c78), (12, .slice A117 ((last.map strOfNums).length) c118), (14, .slice A139 out141.length c140), (15, errT none)]) ⟨rfl, rfl, rfl, rfl, rfl, trivial⟩ ?_
      refine w_seq ?_
      refine w_seq ?_
      refine w_region ?_
      refine rw_val (v := errT none) (w' := w144) rfl rfl rfl rfl rfl ?_
      refine rw_val (v := .bool ((none : Option Int).isSome)) (w' := w144) rfl rfl rfl rfl (run_as (guard_err_neq _ (none : Option Int) _)) ?_
      refine rw_end ?_
      refine w_cond_f rfl rfl hq24 ?_
      refine w_skip ?_
      refine w_seq ?_
      refine w_seq ?_
      refine w_region ?_
      refine rw_val (v := errT ((⟨(⟨FC (rows.take j), ((FC (rows.take j)).length : Int), ((2 * j : Nat) : Int), true, arm, true, fail, false⟩ : TS), (⟨(⟨FC (rows.take j), ((FC (rows.take j)).length : Int), ((2 * j : Nat) : Int), true, arm, false, 0, false⟩ : TS), (PD (rows.take j) j).r, (PD (rows.take j) j).b⟩ : DS).r, (⟨(⟨FC (rows.take j), ((FC (rows.take j)).length : Int), ((2 * j : Nat) : Int), true, arm, false, 0, false⟩ : TS), (PD (rows.take j) j).r, (PD (rows.take j) j).b⟩ : DS).b⟩ : DS).rwE last)) (w' := w144) rfl rfl rfl rfl rfl ?_
      refine rw_call rfl rfl rfl rfl (f := 23) (args := #[errT ((⟨(⟨FC (rows.take j), ((FC (rows.take j)).length : Int), ((2 * j : Nat) : Int), true, arm, true, fail, false⟩ : TS), (⟨(⟨FC (rows.take j), ((FC (rows.take j)).length : Int), ((2 * j : Nat) : Int), true, arm, false, 0, false⟩ : TS), (PD (rows.take j) j).r, (PD (rows.take j) j).b⟩ : DS).r, (⟨(⟨FC (rows.take j), ((FC (rows.take j)).length : Int), ((2 * j : Nat) : Int), true, arm, false, 0, false⟩ : TS), (PD (rows.take j) j).r, (PD (rows.take j) j).b⟩ : DS).b⟩ : DS).rwE last)]) (by simp [go_sem, sEv, sLook, nbeq, i64_w, -List.getD_eq_getElem?_getD]) (num_T ((⟨(⟨FC (rows.take j), ((FC (rows.take j)).length : Int), ((2 * j : Nat) : Int), true, arm, true, fail, false⟩ : TS), (⟨(⟨FC (rows.take j), ((FC (rows.take j)).length : Int), ((2 * j : Nat) : Int), true, arm, false, 0, false⟩ : TS), (PD (rows.take j) j).r, (PD (rows.take j) j).b⟩ : DS).r, (⟨(⟨FC (rows.take j), ((FC (rows.take j)).length : Int), ((2 * j : Nat) : Int), true, arm, false, 0, false⟩ : TS), (PD (rows.take j) j).r, (PD (rows.take j) j).b⟩ : DS).b⟩ : DS).rwE last) (cut_num hC125) w144) ?_
      rintro e_ w153 ⟨rfl, hb154⟩
      refine ⟨_, rfl, ?_⟩
      have hs_w153 := hb154.size
      refine rw_end ?_
      refine w_block ?_
      refine w_seq ?_
      refine w_region ?_
      refine rw_val (v := .bool ((numT ((⟨(⟨FC (rows.take j), ((FC (rows.take j)).length : Int), ((2 * j : Nat) : Int), true, arm, true, fail, false⟩ : TS), (⟨(⟨FC (rows.take j), ((FC (rows.take j)).length : Int), ((2 * j : Nat) : Int), true, arm, false, 0, false⟩ : TS), (PD (rows.take j) j).r, (PD (rows.take j) j).b⟩ : DS).r, (⟨(⟨FC (rows.take j), ((FC (rows.take j)).length : Int), ((2 * j : Nat) : Int), true, arm, false, 0, false⟩ : TS), (PD (rows.take j) j).r, (PD (rows.take j) j).b⟩ : DS).b⟩ : DS).rwE last)) == 0)) (w' := w153) rfl rfl rfl rfl (by simp [go_sem, sEv, sLook, nbeq, i64_w, -List.getD_eq_getElem?_getD]) ?_
      refine rw_val (v := .bool ((numT ((⟨(⟨FC (rows.take j), ((FC (rows.take j)).length : Int), ((2 * j : Nat) : Int), true, arm, true, fail, false⟩ : TS), (⟨(⟨FC (rows.take j), ((FC (rows.take j)).length : Int), ((2 * j : Nat) : Int), true, arm, false, 0, false⟩ : TS), (PD (rows.take j) j).r, (PD (rows.take j) j).b⟩ : DS).r, (⟨(⟨FC (rows.take j), ((FC (rows.take j)).length : Int), ((2 * j : Nat) : Int), true, arm, false, 0, false⟩ : TS), (PD (rows.take j) j).r, (PD (rows.take j) j).b⟩ : DS).b⟩ : DS).rwE last)) == 0)) (w' := w153) rfl rfl rfl rfl rfl ?_
      refine rw_end ?_
      refine w_cond rfl rfl (fun cN0 => ?_) (fun cN0 => ?_)
      ·refine w_seq ?_
       refine w_region ?_
       refine rw_val (v := .slice A139 out141.length c140) (w' := w153) rfl rfl rfl rfl rfl ?_
       refine rw_val (v := .slice A117 ((last.map strOfNums).length) c118) (w' := w153) rfl rfl rfl rfl rfl ?_
       refine rw_call rfl rfl rfl rfl (f := 13) (args := #[.slice A139 out141.length c140, .slice A117 ((last.map strOfNums).length) c118]) (by simp [go_sem, sEv, sLook, nbeq, i64_w, -List.getD_eq_getElem?_getD]) (same_calls w153 A139 A117 c140 c118 out141 (last.map strOfNums) (Kd.C_below (OwnK.C (d := (Kd.slice 5 (Kd.int .u8))) hL150) hb154) (OwnK.cap (d := (Kd.slice 5 (Kd.int .u8))) hL150) (Kd.C_below (OwnK.C (d := Kd.string) hP152) hb154) (OwnK.cap (d := Kd.string) hP152) (by first | (rw [List.length_map]; omega) | (rw [List.length_append, List.length_map]; simp only [List.length_cons, List.length_nil]; omega))) ?_
       rintro e_ w155 ⟨rfl, hb156⟩
       refine ⟨_, rfl, ?_⟩
       have hs_w155 := hb156.size
       refine rw_val (v := .bool (decide (out141.map strOfNums = (last.map strOfNums)))) (w' := w155) rfl rfl rfl rfl rfl ?_
       refine rw_end ?_
       refine w_weaken (G' := [(2, .bool (decide (out141.map strOfNums = (last.map strOfNums)))), (6, errT ((⟨(⟨FC (rows.take j), ((FC (rows.take j)).length : Int), ((2 * j : Nat) : Int), true, arm, true, fail, false⟩ : TS), (⟨(⟨FC (rows.take j), ((FC (rows.take j)).length : Int), ((2 * j : Nat) : Int), true, arm, false, 0, false⟩ : TS), (PD (rows.take j) j).r, (PD (rows.take j) j).b⟩ : DS).r, (⟨(⟨FC (rows.take j), ((FC (rows.take j)).length : Int), ((2 * j : Nat) : Int), true, arm, false, 0, false⟩ : TS), (PD (rows.take j) j).r, (PD (rows.take j) j).b⟩ : DS).b⟩ : DS).rwE last)), (11, .slice A77 ((rows.map strOfNums).length) c78), (12, .slice A117 ((last.map strOfNums).length) c118), (14, .slice A139 out141.length c140)]) ⟨rfl, rfl, rfl, rfl, rfl, trivial⟩ ?_
       have hq157 : (decide (out141.map strOfNums = (last.map strOfNums))) = true := by rcases hct_ with ⟨h1_, h2_⟩ | ⟨h1_, _⟩ | ⟨h1_, _⟩; exact (by rw [h2_]; simp); all_goals (exfalso; rw [h1_] at cN0; simp [numT] at cN0)
       refine w_ret (post_ret1 rfl rfl ?_)
       exact ⟨by simp only [hq157], chain hb00 (chain (chain hD146t.1 hb154) hb156)⟩
      refine w_seq ?_
      refine w_region ?_
      refine rw_val (v := .bool ((numT ((⟨(⟨FC (rows.take j), ((FC (rows.take j)).length : Int), ((2 * j : Nat) : Int), true, arm, true, fail, false⟩ : TS), (⟨(⟨FC (rows.take j), ((FC (rows.take j)).length : Int), ((2 * j : Nat) : Int), true, arm, false, 0, false⟩ : TS), (PD (rows.take j) j).r, (PD (rows.take j) j).b⟩ : DS).r, (⟨(⟨FC (rows.take j), ((FC (rows.take j)).length : Int), ((2 * j : Nat) : Int), true, arm, false, 0, false⟩ : TS), (PD (rows.take j) j).r, (PD (rows.take j) j).b⟩ : DS).b⟩ : DS).rwE last)) == 6)) (w' := w153) rfl rfl rfl rfl (by simp [go_sem, sEv, sLook, nbeq, i64_w, -List.getD_eq_getElem?_getD]) ?_
      refine rw_val (v := .bool ((numT ((⟨(⟨FC (rows.take j), ((FC (rows.take j)).length : Int), ((2 * j : Nat) : Int), true, arm, true, fail, false⟩ : TS), (⟨(⟨FC (rows.take j), ((FC (rows.take j)).length : Int), ((2 * j : Nat) : Int), true, arm, false, 0, false⟩ : TS), (PD (rows.take j) j).r, (PD (rows.take j) j).b⟩ : DS).r, (⟨(⟨FC (rows.take j), ((FC (rows.take j)).length : Int), ((2 * j : Nat) : Int), true, arm, false, 0, false⟩ : TS), (PD (rows.take j) j).r, (PD (rows.take j) j).b⟩ : DS).b⟩ : DS).rwE last)) == 6)) (w' := w153) rfl rfl rfl rfl rfl ?_
      refine rw_end ?_
      refine w_cond rfl rfl (fun cN6 => ?_) (fun cN6 => ?_)
      ·refine w_seq ?_
       refine w_region ?_
       refine rw_val (v := .slice A139 out141.length c140) (w' := w153) rfl rfl rfl rfl rfl ?_
       refine rw_val (v := .slice A77 ((rows.map strOfNums).length) c78) (w' := w153) rfl rfl rfl rfl rfl ?_
       refine rw_call rfl rfl rfl rfl (f := 13) (args := #[.slice A139 out141.length c140, .slice A77 ((rows.map strOfNums).length) c78]) (by simp [go_sem, sEv, sLook, nbeq, i64_w, -List.getD_eq_getElem?_getD]) (same_calls w153 A139 A77 c140 c78 out141 (rows.map strOfNums) (Kd.C_below (OwnK.C (d := (Kd.slice 5 (Kd.int .u8))) hL150) hb154) (OwnK.cap (d := (Kd.slice 5 (Kd.int .u8))) hL150) (Kd.C_below (OwnK.C (d := Kd.string) hP151) hb154) (OwnK.cap (d := Kd.string) hP151) (by first | (rw [List.length_map]; omega) | (rw [List.length_append, List.length_map]; simp only [List.length_cons, List.length_nil]; omega))) ?_
       rintro e_ w158 ⟨rfl, hb159⟩
       refine ⟨_, rfl, ?_⟩
       have hs_w158 := hb159.size
       refine rw_val (v := .bool (decide (out141.map strOfNums = (rows.map strOfNums)))) (w' := w158) rfl rfl rfl rfl rfl ?_
       refine rw_end ?_
       refine w_weaken (G' := [(2, .bool (decide (out141.map strOfNums = (rows.map strOfNums)))), (6, errT ((⟨(⟨FC (rows.take j), ((FC (rows.take j)).length : Int), ((2 * j : Nat) : Int), true, arm, true, fail, false⟩ : TS), (⟨(⟨FC (rows.take j), ((FC (rows.take j)).length : Int), ((2 * j : Nat) : Int), true, arm, false, 0, false⟩ : TS), (PD (rows.take j) j).r, (PD (rows.take j) j).b⟩ : DS).r, (⟨(⟨FC (rows.take j), ((FC (rows.take j)).length : Int), ((2 * j : Nat) : Int), true, arm, false, 0, false⟩ : TS), (PD (rows.take j) j).r, (PD (rows.take j) j).b⟩ : DS).b⟩ : DS).rwE last)), (11, .slice A77 ((rows.map strOfNums).length) c78), (12, .slice A117 ((last.map strOfNums).length) c118), (14, .slice A139 out141.length c140)]) ⟨rfl, rfl, rfl, rfl, rfl, trivial⟩ ?_
       have hq160 : (decide (out141.map strOfNums = (rows.map strOfNums))) = true := by rcases hct_ with ⟨h1_, _⟩ | ⟨h1_, h2_⟩ | ⟨h1_, _⟩; (exfalso; rw [h1_] at cN6; simp [numT] at cN6); exact (by rw [h2_]; simp); (exfalso; rw [h1_] at cN6; simp [numT] at cN6)
       refine w_ret (post_ret1 rfl rfl ?_)
       exact ⟨by simp only [hq160], chain hb00 (chain (chain hD146t.1 hb154) hb159)⟩
      refine w_skip ?_
      refine w_blk ?_
      refine w_seq ?_
      refine w_region ?_
      refine rw_val (v := errT ((⟨(⟨FC (rows.take j), ((FC (rows.take j)).length : Int), ((2 * j : Nat) : Int), true, arm, true, fail, false⟩ : TS), (⟨(⟨FC (rows.take j), ((FC (rows.take j)).length : Int), ((2 * j : Nat) : Int), true, arm, false, 0, false⟩ : TS), (PD (rows.take j) j).r, (PD (rows.take j) j).b⟩ : DS).r, (⟨(⟨FC (rows.take j), ((FC (rows.take j)).length : Int), ((2 * j : Nat) : Int), true, arm, false, 0, false⟩ : TS), (PD (rows.take j) j).r, (PD (rows.take j) j).b⟩ : DS).b⟩ : DS).rwE last)) (w' := w153) rfl rfl rfl rfl rfl ?_
      refine rw_val (v := errT (some 5)) (w' := w153) rfl rfl rfl rfl (by simp [go_sem, sEv, sLook, nbeq, i64_w, -List.getD_eq_getElem?_getD, errT]) ?_
      refine rw_val (v := .bool (decide (((⟨(⟨FC (rows.take j), ((FC (rows.take j)).length : Int), ((2 * j : Nat) : Int), true, arm, true, fail, false⟩ : TS), (⟨(⟨FC (rows.take j), ((FC (rows.take j)).length : Int), ((2 * j : Nat) : Int), true, arm, false, 0, false⟩ : TS), (PD (rows.take j) j).r, (PD (rows.take j) j).b⟩ : DS).r, (⟨(⟨FC (rows.take j), ((FC (rows.take j)).length : Int), ((2 * j : Nat) : Int), true, arm, false, 0, false⟩ : TS), (PD (rows.take j) j).r, (PD (rows.take j) j).b⟩ : DS).b⟩ : DS).rwE last) = some 5))) (w' := w153) rfl rfl rfl rfl (run_as (guard_err_eql _ _ ((⟨(⟨FC (rows.take j), ((FC (rows.take j)).length : Int), ((2 * j : Nat) : Int), true, arm, true, fail, false⟩ : TS), (⟨(⟨FC (rows.take j), ((FC (rows.take j)).length : Int), ((2 * j : Nat) : Int), true, arm, false, 0, false⟩ : TS), (PD (rows.take j) j).r, (PD (rows.take j) j).b⟩ : DS).r, (⟨(⟨FC (rows.take j), ((FC (rows.take j)).length : Int), ((2 * j : Nat) : Int), true, arm, false, 0, false⟩ : TS), (PD (rows.take j) j).r, (PD (rows.take j) j).b⟩ : DS).b⟩ : DS).rwE last) 5 _)) ?_
      refine rw_val (v := .bool (decide (((⟨(⟨FC (rows.take j), ((FC (rows.take j)).length : Int), ((2 * j : Nat) : Int), true, arm, true, fail, false⟩ : TS), (⟨(⟨FC (rows.take j), ((FC (rows.take j)).length : Int), ((2 * j : Nat) : Int), true, arm, false, 0, false⟩ : TS), (PD (rows.take j) j).r, (PD (rows.take j) j).b⟩ : DS).r, (⟨(⟨FC (rows.take j), ((FC (rows.take j)).length : Int), ((2 * j : Nat) : Int), true, arm, false, 0, false⟩ : TS), (PD (rows.take j) j).r, (PD (rows.take j) j).b⟩ : DS).b⟩ : DS).rwE last) = some 5))) (w' := w153) rfl rfl rfl rfl rfl ?_
      have hq161 : (decide (((⟨(⟨FC (rows.take j), ((FC (rows.take j)).length : Int), ((2 * j : Nat) : Int), true, arm, true, fail, false⟩ : TS), (⟨(⟨FC (rows.take j), ((FC (rows.take j)).length : Int), ((2 * j : Nat) : Int), true, arm, false, 0, false⟩ : TS), (PD (rows.take j) j).r, (PD (rows.take j) j).b⟩ : DS).r, (⟨(⟨FC (rows.take j), ((FC (rows.take j)).length : Int), ((2 * j : Nat) : Int), true, arm, false, 0, false⟩ : TS), (PD (rows.take j) j).r, (PD (rows.take j) j).b⟩ : DS).b⟩ : DS).rwE last) = some 5)) = true := by rcases hct_ with ⟨h1_, _⟩ | ⟨h1_, _⟩ | ⟨h1_, _⟩; (exfalso; rw [h1_] at cN0; simp [numT] at cN0); (exfalso; rw [h1_] at cN6; simp [numT] at cN6); (rw [h1_]; simp)
      refine rw_on (c := decide (((⟨(⟨FC (rows.take j), ((FC (rows.take j)).length : Int), ((2 * j : Nat) : Int), true, arm, true, fail, false⟩ : TS), (⟨(⟨FC (rows.take j), ((FC (rows.take j)).length : Int), ((2 * j : Nat) : Int), true, arm, false, 0, false⟩ : TS), (PD (rows.take j) j).r, (PD (rows.take j) j).b⟩ : DS).r, (⟨(⟨FC (rows.take j), ((FC (rows.take j)).length : Int), ((2 * j : Nat) : Int), true, arm, false, 0, false⟩ : TS), (PD (rows.take j) j).r, (PD (rows.take j) j).b⟩ : DS).b⟩ : DS).rwE last) = some 5)) rfl rfl rfl (by first | (rw [hq161]; rfl) | simp [hq161]) ?_
      refine rw_val (v := .slice A139 out141.length c140) (w' := w153) rfl rfl rfl rfl rfl ?_
      refine rw_on (c := decide (((⟨(⟨FC (rows.take j), ((FC (rows.take j)).length : Int), ((2 * j : Nat) : Int), true, arm, true, fail, false⟩ : TS), (⟨(⟨FC (rows.take j), ((FC (rows.take j)).length : Int), ((2 * j : Nat) : Int), true, arm, false, 0, false⟩ : TS), (PD (rows.take j) j).r, (PD (rows.take j) j).b⟩ : DS).r, (⟨(⟨FC (rows.take j), ((FC (rows.take j)).length : Int), ((2 * j : Nat) : Int), true, arm, false, 0, false⟩ : TS), (PD (rows.take j) j).r, (PD (rows.take j) j).b⟩ : DS).b⟩ : DS).rwE last) = some 5)) rfl rfl rfl (by first | (rw [hq161]; rfl) | simp [hq161]) ?_
      refine rw_val (v := .slice A77 ((rows.map strOfNums).length) c78) (w' := w153) rfl rfl rfl rfl rfl ?_
      refine rw_on (c := decide (((⟨(⟨FC (rows.take j), ((FC (rows.take j)).length : Int), ((2 * j : Nat) : Int), true, arm, true, fail, false⟩ : TS), (⟨(⟨FC (rows.take j), ((FC (rows.take j)).length : Int), ((2 * j : Nat) : Int), true, arm, false, 0, false⟩ : TS), (PD (rows.take j) j).r, (PD (rows.take j) j).b⟩ : DS).r, (⟨(⟨FC (rows.take j), ((FC (rows.take j)).length : Int), ((2 * j : Nat) : Int), true, arm, false, 0, false⟩ : TS), (PD (rows.take j) j).r, (PD (rows.take j) j).b⟩ : DS).b⟩ : DS).rwE last) = some 5)) rfl rfl rfl (by first | (rw [hq161]; rfl) | simp [hq161]) ?_
      refine rw_call rfl rfl rfl rfl (f := 13) (args := #[.slice A139 out141.length c140, .slice A77 ((rows.map strOfNums).length) c78]) (by simp [go_sem, sEv, sLook, nbeq, i64_w, -List.getD_eq_getElem?_getD]) (same_calls w153 A139 A77 c140 c78 out141 (rows.map strOfNums) (Kd.C_below (OwnK.C (d := (Kd.slice 5 (Kd.int .u8))) hL150) hb154) (OwnK.cap (d := (Kd.slice 5 (Kd.int .u8))) hL150) (Kd.C_below (OwnK.C (d := Kd.string) hP151) hb154) (OwnK.cap (d := Kd.string) hP151) (by first | (rw [List.length_map]; omega) | (rw [List.length_append, List.length_map]; simp only [List.length_cons, List.length_nil]; omega))) ?_
      rintro e_ w162 ⟨rfl, hb163⟩
      refine ⟨_, rfl, ?_⟩
      have hs_w162 := hb163.size
      refine rw_on (c := decide (((⟨(⟨FC (rows.take j), ((FC (rows.take j)).length : Int), ((2 * j : Nat) : Int), true, arm, true, fail, false⟩ : TS), (⟨(⟨FC (rows.take j), ((FC (rows.take j)).length : Int), ((2 * j : Nat) : Int), true, arm, false, 0, false⟩ : TS), (PD (rows.take j) j).r, (PD (rows.take j) j).b⟩ : DS).r, (⟨(⟨FC (rows.take j), ((FC (rows.take j)).length : Int), ((2 * j : Nat) : Int), true, arm, false, 0, false⟩ : TS), (PD (rows.take j) j).r, (PD (rows.take j) j).b⟩ : DS).b⟩ : DS).rwE last) = some 5)) rfl rfl rfl (by first | (rw [hq161]; rfl) | simp [hq161]) ?_
      refine rw_val (v := .bool (decide (out141.map strOfNums = (rows.map strOfNums)))) (w' := w162) rfl rfl rfl rfl rfl ?_
      rcases bcase (decide (out141.map strOfNums = (rows.map strOfNums))) with cS | cS
      ·have l164 : ¬ (out141.map strOfNums = (rows.map strOfNums)) := of_decide_eq_false cS
       refine rw_on (c := decide (out141.map strOfNums = (rows.map strOfNums))) rfl rfl rfl (by first | (rw [cS]; rfl) | simp [cS]) ?_
       refine rw_val (v := .slice A139 out141.length c140) (w' := w162) rfl rfl rfl rfl rfl ?_
       refine rw_on (c := decide (out141.map strOfNums = (rows.map strOfNums))) rfl rfl rfl (by first | (rw [cS]; rfl) | simp [cS]) ?_
       refine rw_val (v := .slice A117 ((last.map strOfNums).length) c118) (w' := w162) rfl rfl rfl rfl rfl ?_
       refine rw_on (c := decide (out141.map strOfNums = (rows.map strOfNums))) rfl rfl rfl (by first | (rw [cS]; rfl) | simp [cS]) ?_
       refine rw_call rfl rfl rfl rfl (f := 13) (args := #[.slice A139 out141.length c140, .slice A117 ((last.map strOfNums).length) c118]) (by simp [go_sem, sEv, sLook, nbeq, i64_w, -List.getD_eq_getElem?_getD]) (same_calls w162 A139 A117 c140 c118 out141 (last.map strOfNums) (Kd.C_below (OwnK.C (d := (Kd.slice 5 (Kd.int .u8))) hL150) (chain hb154 hb163)) (OwnK.cap (d := (Kd.slice 5 (Kd.int .u8))) hL150) (Kd.C_below (OwnK.C (d := Kd.string) hP152) (chain hb154 hb163)) (OwnK.cap (d := Kd.string) hP152) (by first | (rw [List.length_map]; omega) | (rw [List.length_append, List.length_map]; simp only [List.length_cons, List.length_nil]; omega))) ?_
       rintro e_ w165 ⟨rfl, hb166⟩
       refine ⟨_, rfl, ?_⟩
       have hs_w165 := hb166.size
       refine rw_on (c := decide (((⟨(⟨FC (rows.take j), ((FC (rows.take j)).length : Int), ((2 * j : Nat) : Int), true, arm, true, fail, false⟩ : TS), (⟨(⟨FC (rows.take j), ((FC (rows.take j)).length : Int), ((2 * j : Nat) : Int), true, arm, false, 0, false⟩ : TS), (PD (rows.take j) j).r, (PD (rows.take j) j).b⟩ : DS).r, (⟨(⟨FC (rows.take j), ((FC (rows.take j)).length : Int), ((2 * j : Nat) : Int), true, arm, false, 0, false⟩ : TS), (PD (rows.take j) j).r, (PD (rows.take j) j).b⟩ : DS).b⟩ : DS).rwE last) = some 5)) rfl rfl rfl (by first | (rw [hq161]; rfl) | simp [hq161]) ?_
       refine rw_val (v := .bool (decide (out141.map strOfNums = (last.map strOfNums)))) (w' := w165) rfl rfl rfl rfl (by first | (simp [go_sem, sEv, sLook, nbeq, i64_w, -List.getD_eq_getElem?_getD, cS]; done) | (rw [cS]; simp [go_sem, sEv, sLook, nbeq, i64_w, -List.getD_eq_getElem?_getD]; done) | (simp [go_sem, sEv, sLook, nbeq, i64_w, -List.getD_eq_getElem?_getD] <;> omega) | (simp [go_sem, sEv, sLook, nbeq, i64_w, -List.getD_eq_getElem?_getD]; intro h_; exact absurd (by omega) h_)) ?_
       refine rw_val (v := .bool (decide (out141.map strOfNums = (last.map strOfNums)))) (w' := w165) rfl rfl rfl rfl (by first | (simp [go_sem, sEv, sLook, nbeq, i64_w, -List.getD_eq_getElem?_getD, hq161]; done) | (rw [hq161]; simp [go_sem, sEv, sLook, nbeq, i64_w, -List.getD_eq_getElem?_getD]; done) | (simp [go_sem, sEv, sLook, nbeq, i64_w, -List.getD_eq_getElem?_getD] <;> omega) | (simp [go_sem, sEv, sLook, nbeq, i64_w, -List.getD_eq_getElem?_getD]; intro h_; exact absurd (by omega) h_)) ?_
       refine rw_val (v := .bool (decide (out141.map strOfNums = (last.map strOfNums)))) (w' := w165) rfl rfl rfl rfl rfl ?_
       refine rw_end ?_
       refine w_weaken (G' := [(2, .bool (decide (out141.map strOfNums = (last.map strOfNums))))]) ⟨rfl, trivial⟩ ?_
       have hq167 : (decide (out141.map strOfNums = (last.map strOfNums))) = true := by rcases hct_ with ⟨h1_, h2_⟩ | ⟨h1_, h2_⟩ | ⟨h1_, h2_ | h2_⟩; exact (by rw [h2_]; simp); (exfalso; rw [h2_] at cS; simp at cS); (exfalso; rw [h2_] at cS; simp at cS); exact (by rw [h2_]; simp)
       refine w_ret (post_ret1 rfl rfl ?_)
       exact ⟨by simp only [hq167], chain hb00 (chain (chain (chain hD146t.1 hb154) hb163) hb166)⟩
      have l168 : (out141.map strOfNums = (rows.map strOfNums)) := of_decide_eq_true cS
      refine rw_off (c := decide (out141.map strOfNums = (rows.map strOfNums))) rfl rfl rfl (by first | (rw [cS]; rfl) | simp [cS]) rfl rfl ?_
      refine rw_off (c := decide (out141.map strOfNums = (rows.map strOfNums))) rfl rfl rfl (by first | (rw [cS]; rfl) | simp [cS]) rfl rfl ?_
      refine rw_off (c := decide (out141.map strOfNums = (rows.map strOfNums))) rfl rfl rfl (by first | (rw [cS]; rfl) | simp [cS]) rfl rfl ?_
      refine rw_on (c := decide (((⟨(⟨FC (rows.take j), ((FC (rows.take j)).length : Int), ((2 * j : Nat) : Int), true, arm, true, fail, false⟩ : TS), (⟨(⟨FC (rows.take j), ((FC (rows.take j)).length : Int), ((2 * j : Nat) : Int), true, arm, false, 0, false⟩ : TS), (PD (rows.take j) j).r, (PD (rows.take j) j).b⟩ : DS).r, (⟨(⟨FC (rows.take j), ((FC (rows.take j)).length : Int), ((2 * j : Nat) : Int), true, arm, false, 0, false⟩ : TS), (PD (rows.take j) j).r, (PD (rows.take j) j).b⟩ : DS).b⟩ : DS).rwE last) = some 5)) rfl rfl rfl (by first | (rw [hq161]; rfl) | simp [hq161]) ?_
      refine rw_val (v := .bool true) (w' := w162) rfl rfl rfl rfl (by first | (simp [go_sem, sEv, sLook, nbeq, i64_w, -List.getD_eq_getElem?_getD, cS]; done) | (rw [cS]; simp [go_sem, sEv, sLook, nbeq, i64_w, -List.getD_eq_getElem?_getD]; done) | (simp [go_sem, sEv, sLook, nbeq, i64_w, -List.getD_eq_getElem?_getD] <;> omega) | (simp [go_sem, sEv, sLook, nbeq, i64_w, -List.getD_eq_getElem?_getD]; intro h_; exact absurd (by omega) h_)) ?_
      refine rw_val (v := .bool true) (w' := w162) rfl rfl rfl rfl (by first | (simp [go_sem, sEv, sLook, nbeq, i64_w, -List.getD_eq_getElem?_getD, hq161]; done) | (rw [hq161]; simp [go_sem, sEv, sLook, nbeq, i64_w, -List.getD_eq_getElem?_getD]; done) | (simp [go_sem, sEv, sLook, nbeq, i64_w, -List.getD_eq_getElem?_getD] <;> omega) | (simp [go_sem, sEv, sLook, nbeq, i64_w, -List.getD_eq_getElem?_getD]; intro h_; exact absurd (by omega) h_)) ?_
      refine rw_val (v := .bool true) (w' := w162) rfl rfl rfl rfl rfl ?_
      refine rw_end ?_
      refine w_weaken (G' := [(2, .bool true)]) ⟨rfl, trivial⟩ ?_
      refine w_ret (post_ret1 rfl rfl ?_)
      exact ⟨rfl, chain hb00 (chain (chain hD146t.1 hb154) hb163)⟩
     refine w_region ?_
     refine rw_val (v := .pointer (some ⟨gd14, 0, none⟩)) (w' := w107) rfl rfl rfl rfl rfl ?_
     refine rw_val (v := .pointer (some ⟨gb, 1, none⟩)) (w' := w107) rfl rfl rfl rfl (by simp [go_sem, sEv, sLook, nbeq, i64_w, -List.getD_eq_getElem?_getD, Try.underlying45]) ?_
     refine rw_val (v := .slice (some ad90) last.length c2) (w' := w107) rfl rfl rfl rfl (by have eb_ := (hkb.on hB109); have e0_ := eb_.cellv (i := 1) (v := (.slice (some ad90) last.length c2 : Value)) rfl; simp [go_sem, sEv, sLook, nbeq, i64_w, -List.getD_eq_getElem?_getD, e0_, Try.underlying22]) ?_
     obtain ⟨hc171a, A172, c173, hA170, he174, hle175, hC176⟩ := rows_at (Kd.C_below hl hB109) 0 (by first | omega | decide)
     obtain rfl := Option.some.inj hA170
     have he177 : w107.cell? (ad90) = some (.slice A172 ((last.getD 0 []).length) c173) := cell_00 he174
     refine rw_val (v := .pointer (some (ad90))) (w' := w107) rfl rfl rfl rfl (run_as (run_at_z (P := Try.prog) (e := 32) (sz := 1) (by kernel_rfl) (by kernel_rfl)  (by first | omega | decide) _)) ?_
     refine rw_val (v := .slice A172 ((last.getD 0 []).length) c173) (w' := w107) rfl rfl rfl rfl (by have e0_ := cellOn he177 (Below.refl _ _); simp [go_sem, sEv, sLook, nbeq, i64_w, -List.getD_eq_getElem?_getD, e0_, Try.underlying32]) ?_
     have hX_ := cut_add (⟨(⟨FC (rows.take j), ((FC (rows.take j)).length : Int), ((2 * j : Nat) : Int), true, arm, true, fail, false⟩ : TS), (⟨(⟨FC (rows.take j), ((FC (rows.take j)).length : Int), ((2 * j : Nat) : Int), true, arm, false, 0, false⟩ : TS), (PD (rows.take j) j).r, (PD (rows.take j) j).b⟩ : DS).r, (⟨(⟨FC (rows.take j), ((FC (rows.take j)).length : Int), ((2 * j : Nat) : Int), true, arm, false, 0, false⟩ : TS), (PD (rows.take j) j).r, (PD (rows.take j) j).b⟩ : DS).b⟩ : DS) rows (last.getD 0 []) keep ⟨by show (0 : Int) ≤ ((2 * j : Nat) : Int) ∧ ((2 * j : Nat) : Int) ≤ 1000000000; omega, by show (0 : Int) ≤ arm ∧ arm ≤ 9223372036854775807; omega, by show (0 : Int) ≤ fail ∧ fail ≤ 9223372036854775807; omega, by show 0 ≤ (((FC (rows.take j)).length : Nat) : Int) ∧ (((FC (rows.take j)).length : Nat) : Int) ≤ (((FC (rows.take j)).length : Nat) : Int); omega, by show (FC (rows.take j)).length ≤ 1048576; omega⟩ (by show (FC (rows.take j)) = FC rows; exact hfc_) (by show ((FC (rows.take j)).length : Int) = ((FC rows).length : Int); rw [hfc_]) hl0_ (by omega) (by show ((2 * j : Nat) : Int) ≤ 1000; omega)
     obtain ⟨X178, hX179, hC180, hX181, hX182⟩ := hX_
     have hn2_ : ∀ p ∈ (rows ++ [(last.getD 0 [])]), p.length ≤ 16376 := fun p hp => (List.mem_append.1 hp).elim (hr2_ p) (fun hp => by rw [List.mem_singleton.1 hp]; exact hl0_)
     refine rw_call rfl rfl rfl rfl (f := 12) (args := #[.pointer (some ⟨gd14, 0, none⟩), .slice A172 ((last.getD 0 []).length) c173]) (by simp [go_sem, sEv, sLook, nbeq, i64_w, -List.getD_eq_getElem?_getD]) (add_D w w107 g10 gd14 w73.heap.size (HI gd14 w73.heap.size w107.heap.size) (HI.lt (by omega) (by omega)) (⟨(⟨FC (rows.take j), ((FC (rows.take j)).length : Int), ((2 * j : Nat) : Int), true, arm, true, fail, false⟩ : TS), (⟨(⟨FC (rows.take j), ((FC (rows.take j)).length : Int), ((2 * j : Nat) : Int), true, arm, false, 0, false⟩ : TS), (PD (rows.take j) j).r, (PD (rows.take j) j).b⟩ : DS).r, (⟨(⟨FC (rows.take j), ((FC (rows.take j)).length : Int), ((2 * j : Nat) : Int), true, arm, false, 0, false⟩ : TS), (PD (rows.take j) j).r, (PD (rows.take j) j).b⟩ : DS).b⟩ : DS) ⟨(TapeAt.hole hT116 (HI gd14 w73.heap.size w107.heap.size) (fun q h1 h2 h3 h4 => h4.elim (fun e => h3 (.inl e)) (fun h => by omega))), hk115, hEg_, hEz_, (.inl rfl)⟩ ⟨by show (0 : Int) ≤ ((2 * j : Nat) : Int) ∧ ((2 * j : Nat) : Int) ≤ 1000000000; omega, by show (0 : Int) ≤ arm ∧ arm ≤ 9223372036854775807; omega, by show (0 : Int) ≤ fail ∧ fail ≤ 9223372036854775807; omega, by show 0 ≤ (((FC (rows.take j)).length : Nat) : Int) ∧ (((FC (rows.take j)).length : Nat) : Int) ≤ (((FC (rows.take j)).length : Nat) : Int); omega, by show (FC (rows.take j)).length ≤ 1048576; omega⟩ (by show ((2 * j : Nat) : Int) ≤ 999999990; omega) (show -1000000000 ≤ (((rows.take j).length : Nat) : Int) ∧ (((rows.take j).length : Nat) : Int) ≤ 1000000000 by rw [List.length_take]; omega) (show -1000000000 ≤ (((FC (rows.take j)).length : Nat) : Int) ∧ (((FC (rows.take j)).length : Nat) : Int) ≤ 1000000000 by omega) A172 c173 (last.getD 0 []) (Kd.C_below hC176 (Below.refl _ _)) hle175 (by omega)) ?_
     rintro e_ w184 ⟨rfl, m183, hD185, hs186, hk187⟩
     refine ⟨_, rfl, ?_⟩
     obtain ⟨hD185t, hD185b, hD185g, hD185z, hD185x⟩ := hD185
     have hz_w184 := hD185t.size
     have hlt_w184 := hD185b.lt
     refine rw_val (v := errT ((⟨(⟨FC (rows.take j), ((FC (rows.take j)).length : Int), ((2 * j : Nat) : Int), true, arm, true, fail, false⟩ : TS), (⟨(⟨FC (rows.take j), ((FC (rows.take j)).length : Int), ((2 * j : Nat) : Int), true, arm, false, 0, false⟩ : TS), (PD (rows.take j) j).r, (PD (rows.take j) j).b⟩ : DS).r, (⟨(⟨FC (rows.take j), ((FC (rows.take j)).length : Int), ((2 * j : Nat) : Int), true, arm, false, 0, false⟩ : TS), (PD (rows.take j) j).r, (PD (rows.take j) j).b⟩ : DS).b⟩ : DS).addE (last.getD 0 []))) (w' := w184) rfl rfl rfl rfl rfl ?_
     refine rw_end ?_
     refine w_weaken (G' := [(1, .pointer (some ⟨gb, 0, none⟩)), (3, .pointer (some ⟨g10, 0, none⟩)), (6, errT ((⟨(⟨FC (rows.take j), ((FC (rows.take j)).length : Int), ((2 * j : Nat) : Int), true, arm, true, fail, false⟩ : TS), (⟨(⟨FC (rows.take j), ((FC (rows.take j)).length : Int), ((2 * j : Nat) : Int), true, arm, false, 0, false⟩ : TS), (PD (rows.take j) j).r, (PD (rows.take j) j).b⟩ : DS).r, (⟨(⟨FC (rows.take j), ((FC (rows.take j)).length : Int), ((2 * j : Nat) : Int), true, arm, false, 0, false⟩ : TS), (PD (rows.take j) j).r, (PD (rows.take j) j).b⟩ : DS).b⟩ : DS).addE (last.getD 0 []))), (11, .slice A77 ((rows.map strOfNums).length) c78), (12, .slice A105 (((rows.map strOfNums) ++ ([strOfNums (last.getD 0 [])] : List ByteArray)).length) c106)]) ⟨rfl, rfl, rfl, rfl, rfl, trivial⟩ ?_
     refine w_seq ?_
     refine w_region ?_
     refine rw_val (v := .pointer (some ⟨g10, 0, none⟩)) (w' := w184) rfl rfl rfl rfl rfl ?_
     refine rw_val (v := .pointer (some ⟨gb, 5, none⟩)) (w' := w184) rfl rfl rfl rfl (by simp [go_sem, sEv, sLook, nbeq, i64_w, -List.getD_eq_getElem?_getD, Try.underlying45]) ?_
     refine rw_val (v := .int .i64 keep) (w' := w184) rfl rfl rfl rfl (by have eb_ := (hkb.on hD185t.1); have e0_ := eb_.cellv (i := 5) (v := (.int .i64 keep : Value)) rfl; simp [go_sem, sEv, sLook, nbeq, i64_w, -List.getD_eq_getElem?_getD, e0_]) ?_
     refine rw_call rfl rfl rfl rfl (f := 22) (args := #[.pointer (some ⟨g10, 0, none⟩), .int .i64 keep]) (by simp [go_sem, sEv, sLook, nbeq, i64_w, -List.getD_eq_getElem?_getD]) (crash_T w w184 g10 m183 (HI gd14 w73.heap.size w107.heap.size) (HI.lt (by omega) (by omega)) (((⟨(⟨FC (rows.take j), ((FC (rows.take j)).length : Int), ((2 * j : Nat) : Int), true, arm, true, fail, false⟩ : TS), (⟨(⟨FC (rows.take j), ((FC (rows.take j)).length : Int), ((2 * j : Nat) : Int), true, arm, false, 0, false⟩ : TS), (PD (rows.take j) j).r, (PD (rows.take j) j).b⟩ : DS).r, (⟨(⟨FC (rows.take j), ((FC (rows.take j)).length : Int), ((2 * j : Nat) : Int), true, arm, false, 0, false⟩ : TS), (PD (rows.take j) j).r, (PD (rows.take j) j).b⟩ : DS).b⟩ : DS).add (last.getD 0 [])).s) hD185t hX181 keep) ?_
     rintro e_ w188 ⟨rfl, hT189, hs190, hx191⟩
     refine ⟨.tuple #[], rfl, ?_⟩
     rw [hX179] at hT189
     have hz_w188 := hT189.size
     have hk_w188 : Blk w188 gd14 80 _ := (hx191 gd14 hD185x hD185g).trans (hD185b)
     have hlt_w188 := hk_w188.lt
     refine rw_end ?_
     refine w_weaken (G' := [(3, .pointer (some ⟨g10, 0, none⟩)), (6, errT ((⟨(⟨FC (rows.take j), ((FC (rows.take j)).length : Int), ((2 * j : Nat) : Int), true, arm, true, fail, false⟩ : TS), (⟨(⟨FC (rows.take j), ((FC (rows.take j)).length : Int), ((2 * j : Nat) : Int), true, arm, false, 0, false⟩ : TS), (PD (rows.take j) j).r, (PD (rows.take j) j).b⟩ : DS).r, (⟨(⟨FC (rows.take j), ((FC (rows.take j)).length : Int), ((2 * j : Nat) : Int), true, arm, false, 0, false⟩ : TS), (PD (rows.take j) j).r, (PD (rows.take j) j).b⟩ : DS).b⟩ : DS).addE (last.getD 0 []))), (11, .slice A77 ((rows.map strOfNums).length) c78), (12, .slice A105 (((rows.map strOfNums) ++ ([strOfNums (last.getD 0 [])] : List ByteArray)).length) c106)]) ⟨rfl, rfl, rfl, rfl, trivial⟩ ?_
     refine w_seq ?_
     refine w_region ?_
     refine rw_val (v := .pointer (some ⟨g10, 0, none⟩)) (w' := w188) rfl rfl rfl rfl rfl ?_
     refine rw_call rfl rfl rfl rfl (f := 11) (args := #[.pointer (some ⟨g10, 0, none⟩)]) (by simp [go_sem, sEv, sLook, nbeq, i64_w, -List.getD_eq_getElem?_getD]) (open_cut w w188 g10 w188.heap.size (HI gd14 w73.heap.size w107.heap.size) (HI.lt (by omega) (by omega)) X178 ((⟨(⟨FC (rows.take j), ((FC (rows.take j)).length : Int), ((2 * j : Nat) : Int), true, arm, true, fail, false⟩ : TS), (⟨(⟨FC (rows.take j), ((FC (rows.take j)).length : Int), ((2 * j : Nat) : Int), true, arm, false, 0, false⟩ : TS), (PD (rows.take j) j).r, (PD (rows.take j) j).b⟩ : DS).r, (⟨(⟨FC (rows.take j), ((FC (rows.take j)).length : Int), ((2 * j : Nat) : Int), true, arm, false, 0, false⟩ : TS), (PD (rows.take j) j).r, (PD (rows.take j) j).b⟩ : DS).b⟩ : DS).add (last.getD 0 [])).s.steps hT189 ⟨hX181.steps.1, hX182⟩ (cut_len hC180 (by omega) (by rw [FC_append, FC_one, List.length_append, frameB_len _ hl0_]; omega)) (cut_bytes hC180 hby (fun r hr_ => (List.mem_append.1 hr_).elim (hby r) (fun hr_ => by rw [List.mem_singleton.1 hr_]; exact hbl _ (getD_mem last 0 [] (by omega)))))) ?_
     rintro e_ w199 ⟨gd192, m193, A194, c195, out196, n197, s198, rfl, hS200, hD201, hO202, hs203, hK204⟩
     refine ⟨_, rfl, ?_⟩
     obtain ⟨hD201t, hD201b, hD201g, hD201z, hD201x⟩ := hD201
     have hz_w199 := hD201t.size
     have hlt_w199 := hD201b.lt
     have hL205 : OwnK (Kd.slice 5 (Kd.int .u8)) 32 w199 w.heap.size w.heap.size A194 out196.length c195 out196 := OwnK.mono (d := (Kd.slice 5 (Kd.int .u8))) (OwnK.lower (d := (Kd.slice 5 (Kd.int .u8))) hO202 (by omega)) (by omega)
     have hct_ := cut_told hC180 hr2_ hn2_ hS200
     have hP206 : OwnK Kd.string 9 w199 w.heap.size w73.heap.size A77 ((rows.map strOfNums).length) c78 (rows.map strOfNums) := OwnK.step (d := Kd.string) hO112 (fun q hq hlt => by have hq_ : (HI gd14 w73.heap.size w107.heap.size) q := .inr ⟨(by omega), hlt⟩; have hqg : q ≠ g10 := (by omega); have hqd : q ≠ gd14 := (by omega); exact ((hK204.2 q (by omega) hqg).trans ((hx191 q hq_ hqg).trans (hk187 q hq_ hqg hqd))))
     have hP207 : OwnK Kd.string 9 w199 w.heap.size w79.heap.size A105 (((rows.map strOfNums) ++ ([strOfNums (last.getD 0 [])] : List ByteArray)).length) c106 ((rows.map strOfNums) ++ ([strOfNums (last.getD 0 [])] : List ByteArray)) := OwnK.step (d := Kd.string) hO108 (fun q hq hlt => by have hq_ : (HI gd14 w73.heap.size w107.heap.size) q := .inr ⟨(by omega), hlt⟩; have hqg : q ≠ g10 := (by omega); have hqd : q ≠ gd14 := (by omega); exact ((hK204.2 q (by omega) hqg).trans ((hx191 q hq_ hqg).trans (hk187 q hq_ hqg hqd))))
     refine rw_val (v := .tuple #[.pointer (some ⟨gd192, 0, none⟩), .slice A194 out196.length c195, errT none]) (w' := w199) rfl rfl rfl rfl rfl ?_
     refine rw_val (v := .pointer (some ⟨gd192, 0, none⟩)) (w' := w199) rfl rfl rfl rfl (by simp [go_sem, sEv, sLook, nbeq, i64_w, -List.getD_eq_getElem?_getD]) ?_
     refine rw_val (v := .slice A194 out196.length c195) (w' := w199) rfl rfl rfl rfl (by simp [go_sem, sEv, sLook, nbeq, i64_w, -List.getD_eq_getElem?_getD]) ?_
     refine rw_val (v := errT none) (w' := w199) rfl rfl rfl rfl (by simp [go_sem, sEv, sLook, nbeq, i64_w, -List.getD_eq_getElem?_getD]) ?_
     refine rw_val (v := .pointer (some ⟨gd192, 0, none⟩)) (w' := w199) rfl rfl rfl rfl rfl ?_
     refine rw_val (v := .slice A194 out196.length c195) (w' := w199) rfl rfl rfl rfl rfl ?_
     refine rw_val (v := errT none) (w' := w199) rfl rfl rfl rfl rfl ?_
     refine rw_end ?_
     refine w_weaken (G' := [(6, errT ((⟨(⟨FC (rows.take j), ((FC (rows.take j)).length : Int), ((2 * j : Nat) : Int), true, arm, true, fail, false⟩ : TS), (⟨(⟨FC (rows.take j), ((FC (rows.take j)).length : Int), ((2 * j : Nat) : Int), true, arm, false, 0, false⟩ : TS), (PD (rows.take j) j).r, (PD (rows.take j) j).b⟩ : DS).r, (⟨(⟨FC (rows.take j), ((FC (rows.take j)).length : Int), ((2 * j : Nat) : Int), true, arm, false, 0, false⟩ : TS), (PD (rows.take j) j).r, (PD (rows.take j) j).b⟩ : DS).b⟩ : DS).addE (last.getD 0 []))), (11, .slice A77 ((rows.map strOfNums).length) c78), (12, .slice A105 (((rows.map strOfNums) ++ ([strOfNums (last.getD 0 [])] : List ByteArray)).length) c106), (14, .slice A194 out196.length c195), (15, errT none)]) ⟨rfl, rfl, rfl, rfl, rfl, trivial⟩ ?_
     refine w_seq ?_
     refine w_seq ?_
     refine w_region ?_
     refine rw_val (v := errT none) (w' := w199) rfl rfl rfl rfl rfl ?_
     refine rw_val (v := .bool ((none : Option Int).isSome)) (w' := w199) rfl rfl rfl rfl (run_as (guard_err_neq _ (none : Option Int) _)) ?_
     refine rw_end ?_
     refine w_cond_f rfl rfl hq24 ?_
     refine w_skip ?_
     refine w_seq ?_
     refine w_seq ?_
     refine w_region ?_
     refine rw_val (v := errT ((⟨(⟨FC (rows.take j), ((FC (rows.take j)).length : Int), ((2 * j : Nat) : Int), true, arm, true, fail, false⟩ : TS), (⟨(⟨FC (rows.take j), ((FC (rows.take j)).length : Int), ((2 * j : Nat) : Int), true, arm, false, 0, false⟩ : TS), (PD (rows.take j) j).r, (PD (rows.take j) j).b⟩ : DS).r, (⟨(⟨FC (rows.take j), ((FC (rows.take j)).length : Int), ((2 * j : Nat) : Int), true, arm, false, 0, false⟩ : TS), (PD (rows.take j) j).r, (PD (rows.take j) j).b⟩ : DS).b⟩ : DS).addE (last.getD 0 []))) (w' := w199) rfl rfl rfl rfl rfl ?_
     refine rw_call rfl rfl rfl rfl (f := 23) (args := #[errT ((⟨(⟨FC (rows.take j), ((FC (rows.take j)).length : Int), ((2 * j : Nat) : Int), true, arm, true, fail, false⟩ : TS), (⟨(⟨FC (rows.take j), ((FC (rows.take j)).length : Int), ((2 * j : Nat) : Int), true, arm, false, 0, false⟩ : TS), (PD (rows.take j) j).r, (PD (rows.take j) j).b⟩ : DS).r, (⟨(⟨FC (rows.take j), ((FC (rows.take j)).length : Int), ((2 * j : Nat) : Int), true, arm, false, 0, false⟩ : TS), (PD (rows.take j) j).r, (PD (rows.take j) j).b⟩ : DS).b⟩ : DS).addE (last.getD 0 []))]) (by simp [go_sem, sEv, sLook, nbeq, i64_w, -List.getD_eq_getElem?_getD]) (num_T ((⟨(⟨FC (rows.take j), ((FC (rows.take j)).length : Int), ((2 * j : Nat) : Int), true, arm, true, fail, false⟩ : TS), (⟨(⟨FC (rows.take j), ((FC (rows.take j)).length : Int), ((2 * j : Nat) : Int), true, arm, false, 0, false⟩ : TS), (PD (rows.take j) j).r, (PD (rows.take j) j).b⟩ : DS).r, (⟨(⟨FC (rows.take j), ((FC (rows.take j)).length : Int), ((2 * j : Nat) : Int), true, arm, false, 0, false⟩ : TS), (PD (rows.take j) j).r, (PD (rows.take j) j).b⟩ : DS).b⟩ : DS).addE (last.getD 0 [])) (cut_num hC180) w199) ?_
     rintro e_ w208 ⟨rfl, hb209⟩
     refine ⟨_, rfl, ?_⟩
     have hs_w208 := hb209.size
     refine rw_end ?_
     refine w_block ?_
     refine w_seq ?_
     refine w_region ?_
     refine rw_val (v := .bool ((numT ((⟨(⟨FC (rows.take j), ((FC (rows.take j)).length : Int), ((2 * j : Nat) : Int), true, arm, true, fail, false⟩ : TS), (⟨(⟨FC (rows.take j), ((FC (rows.take j)).length : Int), ((2 * j : Nat) : Int), true, arm, false, 0, false⟩ : TS), (PD (rows.take j) j).r, (PD (rows.take j) j).b⟩ : DS).r, (⟨(⟨FC (rows.take j), ((FC (rows.take j)).length : Int), ((2 * j : Nat) : Int), true, arm, false, 0, false⟩ : TS), (PD (rows.take j) j).r, (PD (rows.take j) j).b⟩ : DS).b⟩ : DS).addE (last.getD 0 []))) == 0)) (w' := w208) rfl rfl rfl rfl (by simp [go_sem, sEv, sLook, nbeq, i64_w, -List.getD_eq_getElem?_getD]) ?_
     refine rw_val (v := .bool ((numT ((⟨(⟨FC (rows.take j), ((FC (rows.take j)).length : Int), ((2 * j : Nat) : Int), true, arm, true, fail, false⟩ : TS), (⟨(⟨FC (rows.take j), ((FC (rows.take j)).length : Int), ((2 * j : Nat) : Int), true, arm, false, 0, false⟩ : TS), (PD (rows.take j) j).r, (PD (rows.take j) j).b⟩ : DS).r, (⟨(⟨FC (rows.take j), ((FC (rows.take j)).length : Int), ((2 * j : Nat) : Int), true, arm, false, 0, false⟩ : TS), (PD (rows.take j) j).r, (PD (rows.take j) j).b⟩ : DS).b⟩ : DS).addE (last.getD 0 []))) == 0)) (w' := w208) rfl rfl rfl rfl rfl ?_
     refine rw_end ?_
     refine w_cond rfl rfl (fun cN0 => ?_) (fun cN0 => ?_)
     ·refine w_seq ?_
      refine w_region ?_
      refine rw_val (v := .slice A194 out196.length c195) (w' := w208) rfl rfl rfl rfl rfl ?_
      refine rw_val (v := .slice A105 (((rows.map strOfNums) ++ ([strOfNums (last.getD 0 [])] : List ByteArray)).length) c106) (w' := w208) rfl rfl rfl rfl rfl ?_
      refine rw_call rfl rfl rfl rfl (f := 13) (args := #[.slice A194 out196.length c195, .slice A105 (((rows.map strOfNums) ++ ([strOfNums (last.getD 0 [])] : List ByteArray)).length) c106]) (by simp [go_sem, sEv, sLook, nbeq, i64_w, -List.getD_eq_getElem?_getD]) (same_calls w208 A194 A105 c195 c106 out196 ((rows.map strOfNums) ++ ([strOfNums (last.getD 0 [])] : List ByteArray)) (Kd.C_below (OwnK.C (d := (Kd.slice 5 (Kd.int .u8))) hL205) hb209) (OwnK.cap (d := (Kd.slice 5 (Kd.int .u8))) hL205) (Kd.C_below (OwnK.C (d := Kd.string) hP207) hb209) (OwnK.cap (d := Kd.string) hP207) (by first | (rw [List.length_map]; omega) | (rw [List.length_append, List.length_map]; simp only [List.length_cons, List.length_nil]; omega))) ?_
      rintro e_ w210 ⟨rfl, hb211⟩
      refine ⟨_, rfl, ?_⟩
      have hs_w210 := hb211.size
      refine rw_val (v := .bool (decide (out196.map strOfNums = ((rows.map strOfNums) ++ ([strOfNums (last.getD 0 [])] : List ByteArray))))) (w' := w210) rfl rfl rfl rfl rfl ?_
      refine rw_end ?_
      refine w_weaken (G' := [(2, .bool (decide (out196.map strOfNums = ((rows.map strOfNums) ++ ([strOfNums (last.getD 0 [])] : List ByteArray))))), (6, errT ((⟨(⟨FC (rows.take j), ((FC (rows.take j)).length : Int), ((2 * j : Nat) : Int), true, arm, true, fail, false⟩ : TS), (⟨(⟨FC (rows.take j), ((FC (rows.take j)).length : Int), ((2 * j : Nat) : Int), true, arm, false, 0, false⟩ : TS), (PD (rows.take j) j).r, (PD (rows.take j) j).b⟩ : DS).r, (⟨(⟨FC (rows.take j), ((FC (rows.take j)).length : Int), ((2 * j : Nat) : Int), true, arm, false, 0, false⟩ : TS), (PD (rows.take j) j).r, (PD (rows.take j) j).b⟩ : DS).b⟩ : DS).addE (last.getD 0 []))), (11, .slice A77 ((rows.map strOfNums).length) c78), (12, .slice A105 (((rows.map strOfNums) ++ ([strOfNums (last.getD 0 [])] : List ByteArray)).length) c106), (14, .slice A194 out196.length c195)]) ⟨rfl, rfl, rfl, rfl, rfl, trivial⟩ ?_
      have hq212 : (decide (out196.map strOfNums = ((rows.map strOfNums) ++ ([strOfNums (last.getD 0 [])] : List ByteArray)))) = true := by rcases hct_ with ⟨h1_, h2_⟩ | ⟨h1_, _⟩ | ⟨h1_, _⟩; exact (by rw [h2_]; simp); all_goals (exfalso; rw [h1_] at cN0; simp [numT] at cN0)
      refine w_ret (post_ret1 rfl rfl ?_)
      exact ⟨by simp only [hq212], chain hb00 (chain (chain hD201t.1 hb209) hb211)⟩
     refine w_seq ?_
     refine w_region ?_
     refine rw_val (v := .bool ((numT ((⟨(⟨FC (rows.take j), ((FC (rows.take j)).length : Int), ((2 * j : Nat) : Int), true, arm, true, fail, false⟩ : TS), (⟨(⟨FC (rows.take j), ((FC (rows.take j)).length : Int), ((2 * j : Nat) : Int), true, arm, false, 0, false⟩ : TS), (PD (rows.take j) j).r, (PD (rows.take j) j).b⟩ : DS).r, (⟨(⟨FC (rows.take j), ((FC (rows.take j)).length : Int), ((2 * j : Nat) : Int), true, arm, false, 0, false⟩ : TS), (PD (rows.take j) j).r, (PD (rows.take j) j).b⟩ : DS).b⟩ : DS).addE (last.getD 0 []))) == 6)) (w' := w208) rfl rfl rfl rfl (by simp [go_sem, sEv, sLook, nbeq, i64_w, -List.getD_eq_getElem?_getD]) ?_
     refine rw_val (v := .bool ((numT ((⟨(⟨FC (rows.take j), ((FC (rows.take j)).length : Int), ((2 * j : Nat) : Int), true, arm, true, fail, false⟩ : TS), (⟨(⟨FC (rows.take j), ((FC (rows.take j)).length : Int), ((2 * j : Nat) : Int), true, arm, false, 0, false⟩ : TS), (PD (rows.take j) j).r, (PD (rows.take j) j).b⟩ : DS).r, (⟨(⟨FC (rows.take j), ((FC (rows.take j)).length : Int), ((2 * j : Nat) : Int), true, arm, false, 0, false⟩ : TS), (PD (rows.take j) j).r, (PD (rows.take j) j).b⟩ : DS).b⟩ : DS).addE (last.getD 0 []))) == 6)) (w' := w208) rfl rfl rfl rfl rfl ?_
     refine rw_end ?_
     refine w_cond rfl rfl (fun cN6 => ?_) (fun cN6 => ?_)
     ·refine w_seq ?_
      refine w_region ?_
      refine rw_val (v := .slice A194 out196.length c195) (w' := w208) rfl rfl rfl rfl rfl ?_
      refine rw_val (v := .slice A77 ((rows.map strOfNums).length) c78) (w' := w208) rfl rfl rfl rfl rfl ?_
      refine rw_call rfl rfl rfl rfl (f := 13) (args := #[.slice A194 out196.length c195, .slice A77 ((rows.map strOfNums).length) c78]) (by simp [go_sem, sEv, sLook, nbeq, i64_w, -List.getD_eq_getElem?_getD]) (same_calls w208 A194 A77 c195 c78 out196 (rows.map strOfNums) (Kd.C_below (OwnK.C (d := (Kd.slice 5 (Kd.int .u8))) hL205) hb209) (OwnK.cap (d := (Kd.slice 5 (Kd.int .u8))) hL205) (Kd.C_below (OwnK.C (d := Kd.string) hP206) hb209) (OwnK.cap (d := Kd.string) hP206) (by first | (rw [List.length_map]; omega) | (rw [List.length_append, List.length_map]; simp only [List.length_cons, List.length_nil]; omega))) ?_
      rintro e_ w213 ⟨rfl, hb214⟩
      refine ⟨_, rfl, ?_⟩
      have hs_w213 := hb214.size
      refine rw_val (v := .bool (decide (out196.map strOfNums = (rows.map strOfNums)))) (w' := w213) rfl rfl rfl rfl rfl ?_
      refine rw_end ?_
      refine w_weaken (G' := [(2, .bool (decide (out196.map strOfNums = (rows.map strOfNums)))), (6, errT ((⟨(⟨FC (rows.take j), ((FC (rows.take j)).length : Int), ((2 * j : Nat) : Int), true, arm, true, fail, false⟩ : TS), (⟨(⟨FC (rows.take j), ((FC (rows.take j)).length : Int), ((2 * j : Nat) : Int), true, arm, false, 0, false⟩ : TS), (PD (rows.take j) j).r, (PD (rows.take j) j).b⟩ : DS).r, (⟨(⟨FC (rows.take j), ((FC (rows.take j)).length : Int), ((2 * j : Nat) : Int), true, arm, false, 0, false⟩ : TS), (PD (rows.take j) j).r, (PD (rows.take j) j).b⟩ : DS).b⟩ : DS).addE (last.getD 0 []))), (11, .slice A77 ((rows.map strOfNums).length) c78), (12, .slice A105 (((rows.map strOfNums) ++ ([strOfNums (last.getD 0 [])] : List ByteArray)).length) c106), (14, .slice A194 out196.length c195)]) ⟨rfl, rfl, rfl, rfl, rfl, trivial⟩ ?_
      have hq215 : (decide (out196.map strOfNums = (rows.map strOfNums))) = true := by rcases hct_ with ⟨h1_, _⟩ | ⟨h1_, h2_⟩ | ⟨h1_, _⟩; (exfalso; rw [h1_] at cN6; simp [numT] at cN6); exact (by rw [h2_]; simp); (exfalso; rw [h1_] at cN6; simp [numT] at cN6)
      refine w_ret (post_ret1 rfl rfl ?_)
      exact ⟨by simp only [hq215], chain hb00 (chain (chain hD201t.1 hb209) hb214)⟩
     refine w_skip ?_
     refine w_blk ?_
     refine w_seq ?_
     refine w_region ?_
     refine rw_val (v := errT ((⟨(⟨FC (rows.take j), ((FC (rows.take j)).length : Int), ((2 * j : Nat) : Int), true, arm, true, fail, false⟩ : TS), (⟨(⟨FC (rows.take j), ((FC (rows.take j)).length : Int), ((2 * j : Nat) : Int), true, arm, false, 0, false⟩ : TS), (PD (rows.take j) j).r, (PD (rows.take j) j).b⟩ : DS).r, (⟨(⟨FC (rows.take j), ((FC (rows.take j)).length : Int), ((2 * j : Nat) : Int), true, arm, false, 0, false⟩ : TS), (PD (rows.take j) j).r, (PD (rows.take j) j).b⟩ : DS).b⟩ : DS).addE (last.getD 0 []))) (w' := w208) rfl rfl rfl rfl rfl ?_
     refine rw_val (v := errT (some 5)) (w' := w208) rfl rfl rfl rfl (by simp [go_sem, sEv, sLook, nbeq, i64_w, -List.getD_eq_getElem?_getD, errT]) ?_
     refine rw_val (v := .bool (decide (((⟨(⟨FC (rows.take j), ((FC (rows.take j)).length : Int), ((2 * j : Nat) : Int), true, arm, true, fail, false⟩ : TS), (⟨(⟨FC (rows.take j), ((FC (rows.take j)).length : Int), ((2 * j : Nat) : Int), true, arm, false, 0, false⟩ : TS), (PD (rows.take j) j).r, (PD (rows.take j) j).b⟩ : DS).r, (⟨(⟨FC (rows.take j), ((FC (rows.take j)).length : Int), ((2 * j : Nat) : Int), true, arm, false, 0, false⟩ : TS), (PD (rows.take j) j).r, (PD (rows.take j) j).b⟩ : DS).b⟩ : DS).addE (last.getD 0 [])) = some 5))) (w' := w208) rfl rfl rfl rfl (run_as (guard_err_eql _ _ ((⟨(⟨FC (rows.take j), ((FC (rows.take j)).length : Int), ((2 * j : Nat) : Int), true, arm, true, fail, false⟩ : TS), (⟨(⟨FC (rows.take j), ((FC (rows.take j)).length : Int), ((2 * j : Nat) : Int), true, arm, false, 0, false⟩ : TS), (PD (rows.take j) j).r, (PD (rows.take j) j).b⟩ : DS).r, (⟨(⟨FC (rows.take j), ((FC (rows.take j)).length : Int), ((2 * j : Nat) : Int), true, arm, false, 0, false⟩ : TS), (PD (rows.take j) j).r, (PD (rows.take j) j).b⟩ : DS).b⟩ : DS).addE (last.getD 0 [])) 5 _)) ?_
     refine rw_val (v := .bool (decide (((⟨(⟨FC (rows.take j), ((FC (rows.take j)).length : Int), ((2 * j : Nat) : Int), true, arm, true, fail, false⟩ : TS), (⟨(⟨FC (rows.take j), ((FC (rows.take j)).length : Int), ((2 * j : Nat) : Int), true, arm, false, 0, false⟩ : TS), (PD (rows.take j) j).r, (PD (rows.take j) j).b⟩ : DS).r, (⟨(⟨FC (rows.take j), ((FC (rows.take j)).length : Int), ((2 * j : Nat) : Int), true, arm, false, 0, false⟩ : TS), (PD (rows.take j) j).r, (PD (rows.take j) j).b⟩ : DS).b⟩ : DS).addE (last.getD 0 [])) = some 5))) (w' := w208) rfl rfl rfl rfl rfl ?_
     have hq216 : (decide (((⟨(⟨FC (rows.take j), ((FC (rows.take j)).length : Int), ((2 * j : Nat) : Int), true, arm, true, fail, false⟩ : TS), (⟨(⟨FC (rows.take j), ((FC (rows.take j)).length : Int), ((2 * j : Nat) : Int), true, arm, false, 0, false⟩ : TS), (PD (rows.take j) j).r, (PD (rows.take j) j).b⟩ : DS).r, (⟨(⟨FC (rows.take j), ((FC (rows.take j)).length : Int), ((2 * j : Nat) : Int), true, arm, false, 0, false⟩ : TS), (PD (rows.take j) j).r, (PD (rows.take j) j).b⟩ : DS).b⟩ : DS).addE (last.getD 0 [])) = some 5)) = true := by rcases hct_ with ⟨h1_, _⟩ | ⟨h1_, _⟩ | ⟨h1_, _⟩; (exfalso; rw [h1_] at cN0; simp [numT] at cN0); (exfalso; rw [h1_] at cN6; simp [numT] at cN6); (rw [h1_]; simp)
     refine rw_on (c := decide (((⟨(⟨FC (rows.take j), ((FC (rows.take j)).length : Int), ((2 * j : Nat) : Int), true, arm, true, fail, false⟩ : TS), (⟨(⟨FC (rows.take j), ((FC (rows.take j)).length : Int), ((2 * j : Nat) : Int), true, arm, false, 0, false⟩ : TS), (PD (rows.take j) j).r, (PD (rows.take j) j).b⟩ : DS).r, (⟨(⟨FC (rows.take j), ((FC (rows.take j)).length : Int), ((2 * j : Nat) : Int), true, arm, false, 0, false⟩ : TS), (PD (rows.take j) j).r, (PD (rows.take j) j).b⟩ : DS).b⟩ : DS).addE (last.getD 0 [])) = some 5)) rfl rfl rfl (by first | (rw [hq216]; rfl) | simp [hq216]) ?_
     refine rw_val (v := .slice A194 out196.length c195) (w' := w208) rfl rfl rfl rfl rfl ?_
     refine rw_on (c := decide (((⟨(⟨FC (rows.take j), ((FC (rows.take j)).length : Int), ((2 * j : Nat) : Int), true, arm, true, fail, false⟩ : TS), (⟨(⟨FC (rows.take j), ((FC (rows.take j)).length : Int), ((2 * j : Nat) : Int), true, arm, false, 0, false⟩ : TS), (PD (rows.take j) j).r, (PD (rows.take j) j).b⟩ : DS).r, (⟨(⟨FC (rows.take j), ((FC (rows.take j)).length : Int), ((2 * j : Nat) : Int), true, arm, false, 0, false⟩ : TS), (PD (rows.take j) j).r, (PD (rows.take j) j).b⟩ : DS).b⟩ : DS).addE (last.getD 0 [])) = some 5)) rfl rfl rfl (by first | (rw [hq216]; rfl) | simp [hq216]) ?_
     refine rw_val (v := .slice A77 ((rows.map strOfNums).length) c78) (w' := w208) rfl rfl rfl rfl rfl ?_
     refine rw_on (c := decide (((⟨(⟨FC (rows.take j), ((FC (rows.take j)).length : Int), ((2 * j : Nat) : Int), true, arm, true, fail, false⟩ : TS), (⟨(⟨FC (rows.take j), ((FC (rows.take j)).length : Int), ((2 * j : Nat) : Int), true, arm, false, 0, false⟩ : TS), (PD (rows.take j) j).r, (PD (rows.take j) j).b⟩ : DS).r, (⟨(⟨FC (rows.take j), ((FC (rows.take j)).length : Int), ((2 * j : Nat) : Int), true, arm, false, 0, false⟩ : TS), (PD (rows.take j) j).r, (PD (rows.take j) j).b⟩ : DS).b⟩ : DS).addE (last.getD 0 [])) = some 5)) rfl rfl rfl (by first | (rw [hq216]; rfl) | simp [hq216]) ?_
     refine rw_call rfl rfl rfl rfl (f := 13) (args := #[.slice A194 out196.length c195, .slice A77 ((rows.map strOfNums).length) c78]) (by simp [go_sem, sEv, sLook, nbeq, i64_w, -List.getD_eq_getElem?_getD]) (same_calls w208 A194 A77 c195 c78 out196 (rows.map strOfNums) (Kd.C_below (OwnK.C (d := (Kd.slice 5 (Kd.int .u8))) hL205) hb209) (OwnK.cap (d := (Kd.slice 5 (Kd.int .u8))) hL205) (Kd.C_below (OwnK.C (d := Kd.string) hP206) hb209) (OwnK.cap (d := Kd.string) hP206) (by first | (rw [List.length_map]; omega) | (rw [List.length_append, List.length_map]; simp only [List.length_cons, List.length_nil]; omega))) ?_
     rintro e_ w217 ⟨rfl, hb218⟩
     refine ⟨_, rfl, ?_⟩
     have hs_w217 := hb218.size
     refine rw_on (c := decide (((⟨(⟨FC (rows.take j), ((FC (rows.take j)).length : Int), ((2 * j : Nat) : Int), true, arm, true, fail, false⟩ : TS), (⟨(⟨FC (rows.take j), ((FC (rows.take j)).length : Int), ((2 * j : Nat) : Int), true, arm, false, 0, false⟩ : TS), (PD (rows.take j) j).r, (PD (rows.take j) j).b⟩ : DS).r, (⟨(⟨FC (rows.take j), ((FC (rows.take j)).length : Int), ((2 * j : Nat) : Int), true, arm, false, 0, false⟩ : TS), (PD (rows.take j) j).r, (PD (rows.take j) j).b⟩ : DS).b⟩ : DS).addE (last.getD 0 [])) = some 5)) rfl rfl rfl (by first | (rw [hq216]; rfl) | simp [hq216]) ?_
     refine rw_val (v := .bool (decide (out196.map strOfNums = (rows.map strOfNums)))) (w' := w217) rfl rfl rfl rfl rfl ?_
     rcases bcase (decide (out196.map strOfNums = (rows.map strOfNums))) with cS | cS
     ·have l219 : ¬ (out196.map strOfNums = (rows.map strOfNums)) := of_decide_eq_false cS
      refine rw_on (c := decide (out196.map strOfNums = (rows.map strOfNums))) rfl rfl rfl (by first | (rw [cS]; rfl) | simp [cS]) ?_
      refine rw_val (v := .slice A194 out196.length c195) (w' := w217) rfl rfl rfl rfl rfl ?_
      refine rw_on (c := decide (out196.map strOfNums = (rows.map strOfNums))) rfl rfl rfl (by first | (rw [cS]; rfl) | simp [cS]) ?_
      refine rw_val (v := .slice A105 (((rows.map strOfNums) ++ ([strOfNums (last.getD 0 [])] : List ByteArray)).length) c106) (w' := w217) rfl rfl rfl rfl rfl ?_
      refine rw_on (c := decide (out196.map strOfNums = (rows.map strOfNums))) rfl rfl rfl (by first | (rw [cS]; rfl) | simp [cS]) ?_
      refine rw_call rfl rfl rfl rfl (f := 13) (args := #[.slice A194 out196.length c195, .slice A105 (((rows.map strOfNums) ++ ([strOfNums (last.getD 0 [])] : List ByteArray)).length) c106]) (by simp [go_sem, sEv, sLook, nbeq, i64_w, -List.getD_eq_getElem?_getD]) (same_calls w217 A194 A105 c195 c106 out196 ((rows.map strOfNums) ++ ([strOfNums (last.getD 0 [])] : List ByteArray)) (Kd.C_below (OwnK.C (d := (Kd.slice 5 (Kd.int .u8))) hL205) (chain hb209 hb218)) (OwnK.cap (d := (Kd.slice 5 (Kd.int .u8))) hL205) (Kd.C_below (OwnK.C (d := Kd.string) hP207) (chain hb209 hb218)) (OwnK.cap (d := Kd.string) hP207) (by first | (rw [List.length_map]; omega) | (rw [List.length_append, List.length_map]; simp only [List.length_cons, List.length_nil]; omega))) ?_
      rintro e_ w220 ⟨rfl, hb221⟩
      refine ⟨_, rfl, ?_⟩
      have hs_w220 := hb221.size
      refine rw_on (c := decide (((⟨(⟨FC (rows.take j), ((FC (rows.take j)).length : Int), ((2 * j : Nat) : Int), true, arm, true, fail, false⟩ : TS), (⟨(⟨FC (rows.take j), ((FC (rows.take j)).length : Int), ((2 * j : Nat) : Int), true, arm, false, 0, false⟩ : TS), (PD (rows.take j) j).r, (PD (rows.take j) j).b⟩ : DS).r, (⟨(⟨FC (rows.take j), ((FC (rows.take j)).length : Int), ((2 * j : Nat) : Int), true, arm, false, 0, false⟩ : TS), (PD (rows.take j) j).r, (PD (rows.take j) j).b⟩ : DS).b⟩ : DS).addE (last.getD 0 [])) = some 5)) rfl rfl rfl (by first | (rw [hq216]; rfl) | simp [hq216]) ?_
      refine rw_val (v := .bool (decide (out196.map strOfNums = ((rows.map strOfNums) ++ ([strOfNums (last.getD 0 [])] : List ByteArray))))) (w' := w220) rfl rfl rfl rfl (by first | (simp [go_sem, sEv, sLook, nbeq, i64_w, -List.getD_eq_getElem?_getD, cS]; done) | (rw [cS]; simp [go_sem, sEv, sLook, nbeq, i64_w, -List.getD_eq_getElem?_getD]; done) | (simp [go_sem, sEv, sLook, nbeq, i64_w, -List.getD_eq_getElem?_getD] <;> omega) | (simp [go_sem, sEv, sLook, nbeq, i64_w, -List.getD_eq_getElem?_getD]; intro h_; exact absurd (by omega) h_)) ?_
      refine rw_val (v := .bool (decide (out196.map strOfNums = ((rows.map strOfNums) ++ ([strOfNums (last.getD 0 [])] : List ByteArray))))) (w' := w220) rfl rfl rfl rfl (by first | (simp [go_sem, sEv, sLook, nbeq, i64_w, -List.getD_eq_getElem?_getD, hq216]; done) | (rw [hq216]; simp [go_sem, sEv, sLook, nbeq, i64_w, -List.getD_eq_getElem?_getD]; done) | (simp [go_sem, sEv, sLook, nbeq, i64_w, -List.getD_eq_getElem?_getD] <;> omega) | (simp [go_sem, sEv, sLook, nbeq, i64_w, -List.getD_eq_getElem?_getD]; intro h_; exact absurd (by omega) h_)) ?_
      refine rw_val (v := .bool (decide (out196.map strOfNums = ((rows.map strOfNums) ++ ([strOfNums (last.getD 0 [])] : List ByteArray))))) (w' := w220) rfl rfl rfl rfl rfl ?_
      refine rw_end ?_
      refine w_weaken (G' := [(2, .bool (decide (out196.map strOfNums = ((rows.map strOfNums) ++ ([strOfNums (last.getD 0 [])] : List ByteArray)))))]) ⟨rfl, trivial⟩ ?_
      have hq222 : (decide (out196.map strOfNums = ((rows.map strOfNums) ++ ([strOfNums (last.getD 0 [])] : List ByteArray)))) = true := by rcases hct_ with ⟨h1_, h2_⟩ | ⟨h1_, h2_⟩ | ⟨h1_, h2_ | h2_⟩; exact (by rw [h2_]; simp); (exfalso; rw [h2_] at cS; simp at cS); (exfalso; rw [h2_] at cS; simp at cS); exact (by rw [h2_]; simp)
      refine w_ret (post_ret1 rfl rfl ?_)
      exact ⟨by simp only [hq222], chain hb00 (chain (chain (chain hD201t.1 hb209) hb218) hb221)⟩
     have l223 : (out196.map strOfNums = (rows.map strOfNums)) := of_decide_eq_true cS
     refine rw_off (c := decide (out196.map strOfNums = (rows.map strOfNums))) rfl rfl rfl (by first | (rw [cS]; rfl) | simp [cS]) rfl rfl ?_
     refine rw_off (c := decide (out196.map strOfNums = (rows.map strOfNums))) rfl rfl rfl (by first | (rw [cS]; rfl) | simp [cS]) rfl rfl ?_
     refine rw_off (c := decide (out196.map strOfNums = (rows.map strOfNums))) rfl rfl rfl (by first | (rw [cS]; rfl) | simp [cS]) rfl rfl ?_
     refine rw_on (c := decide (((⟨(⟨FC (rows.take j), ((FC (rows.take j)).length : Int), ((2 * j : Nat) : Int), true, arm, true, fail, false⟩ : TS), (⟨(⟨FC (rows.take j), ((FC (rows.take j)).length : Int), ((2 * j : Nat) : Int), true, arm, false, 0, false⟩ : TS), (PD (rows.take j) j).r, (PD (rows.take j) j).b⟩ : DS).r, (⟨(⟨FC (rows.take j), ((FC (rows.take j)).length : Int), ((2 * j : Nat) : Int), true, arm, false, 0, false⟩ : TS), (PD (rows.take j) j).r, (PD (rows.take j) j).b⟩ : DS).b⟩ : DS).addE (last.getD 0 [])) = some 5)) rfl rfl rfl (by first | (rw [hq216]; rfl) | simp [hq216]) ?_
     refine rw_val (v := .bool true) (w' := w217) rfl rfl rfl rfl (by first | (simp [go_sem, sEv, sLook, nbeq, i64_w, -List.getD_eq_getElem?_getD, cS]; done) | (rw [cS]; simp [go_sem, sEv, sLook, nbeq, i64_w, -List.getD_eq_getElem?_getD]; done) | (simp [go_sem, sEv, sLook, nbeq, i64_w, -List.getD_eq_getElem?_getD] <;> omega) | (simp [go_sem, sEv, sLook, nbeq, i64_w, -List.getD_eq_getElem?_getD]; intro h_; exact absurd (by omega) h_)) ?_
     refine rw_val (v := .bool true) (w' := w217) rfl rfl rfl rfl (by first | (simp [go_sem, sEv, sLook, nbeq, i64_w, -List.getD_eq_getElem?_getD, hq216]; done) | (rw [hq216]; simp [go_sem, sEv, sLook, nbeq, i64_w, -List.getD_eq_getElem?_getD]; done) | (simp [go_sem, sEv, sLook, nbeq, i64_w, -List.getD_eq_getElem?_getD] <;> omega) | (simp [go_sem, sEv, sLook, nbeq, i64_w, -List.getD_eq_getElem?_getD]; intro h_; exact absurd (by omega) h_)) ?_
     refine rw_val (v := .bool true) (w' := w217) rfl rfl rfl rfl rfl ?_
     refine rw_end ?_
     refine w_weaken (G' := [(2, .bool true)]) ⟨rfl, trivial⟩ ?_
     refine w_ret (post_ret1 rfl rfl ?_)
     exact ⟨rfl, chain hb00 (chain (chain hD201t.1 hb209) hb218)⟩
    have l224 : ¬ (0 ≤ fail) := of_decide_eq_false c71
    refine w_skip ?_
    refine w_seq ?_
    refine w_region ?_
    refine rw_val (v := .pointer (some ⟨gb, 0, none⟩)) (w' := w67) rfl rfl rfl rfl (by simp [go_sem, sEv, sLook, nbeq, i64_w, -List.getD_eq_getElem?_getD, Try.underlying45]) ?_
    refine rw_val (v := .slice A1 rows.length c1) (w' := w67) rfl rfl rfl rfl (by have eb_ := (hkb.on hT68.1); have e0_ := eb_.cellv (i := 0) (v := (.slice A1 rows.length c1 : Value)) rfl; simp [go_sem, sEv, sLook, nbeq, i64_w, -List.getD_eq_getElem?_getD, e0_, Try.underlying22]) ?_
    have ej_ : j = rows.length := by omega
    have hfc_ : FC (rows.take j) = FC rows := by rw [ej_, List.take_length]
    have hfl_ : (FC (rows.take j)).length = (FC rows).length := by rw [hfc_]
    have hr2_ : ∀ p ∈ rows, p.length ≤ 16376 := fun p hp => by have h_ := hf28 p (by rw [ej_, List.take_length]; exact hp); omega
    have hl2_ : ∀ p ∈ last, p.length ≤ 2000 := fun p hp => hf51 p (by rw [show i = last.length by omega, List.take_length]; exact hp)
    have hln_ : ∀ p ∈ last, p.length ≤ 16376 := fun p hp => Nat.le_trans (hl2_ p hp) (by decide)
    have hlF_ := FC_bound last hl2_
    have hl0a_ := hl2_ (last.getD 0 []) (getD_mem last 0 [] (by omega))
    have hl0_ : (last.getD 0 []).length ≤ 16376 := by omega
    refine rw_call rfl rfl rfl rfl (f := 14) (args := #[.slice A1 rows.length c1]) (by simp [go_sem, sEv, sLook, nbeq, i64_w, -List.getD_eq_getElem?_getD]) (texts_calls w67 A1 c1 rows (Kd.C_below hr hT68.1) hchr (by omega)) ?_
    rintro e_ w227 ⟨A225, c226, rfl, hO228, hB229⟩
    refine ⟨_, rfl, ?_⟩
    have hs_w227 := hB229.size
    have hL230 : OwnK Kd.string 9 w227 w.heap.size w67.heap.size A225 (rows.map strOfNums).length c226 (rows.map strOfNums) := OwnK.lower hO228 (by omega)
    refine rw_val (v := .slice A225 ((rows.map strOfNums).length) c226) (w' := w227) rfl rfl rfl rfl rfl ?_
    refine rw_end ?_
    refine w_weaken (G' := [(1, .pointer (some ⟨gb, 0, none⟩)), (3, .pointer (some ⟨g10, 0, none⟩)), (4, .pointer (some ⟨gd14, 0, none⟩)), (11, .slice A225 ((rows.map strOfNums).length) c226)]) ⟨rfl, rfl, rfl, rfl, trivial⟩ ?_
    refine w_seq ?_
    obtain ⟨ad238, A241, c242, hA239, he243, hle244, hC245⟩ := rows_at (Kd.C_below hl (chain hT68.1 hB229)) 0 (by first | omega | decide)
    subst hA239
    have he246 : w227.cell? (ad238) = some (.slice A241 ((last.getD 0 []).length) c242) := cell_00 he243
    refine w_drawk (M := [0, 0, 3, 0, 8, 24, 56, 120, 248, 511, 1023]) (ss := [SlcSpec w227.heap.size 9 #[] 0, Is (.slice A225 ((rows.map strOfNums).length) c226), (OwnKSpec Kd.string 9 w227.heap.size w227.heap.size (rows.map strOfNums)), Is (.pointer (some ⟨gb, 1, none⟩)), Is (.slice (some ad238) last.length c2), Is (.pointer (some (ad238))), Is (.slice A241 ((last.getD 0 []).length) c242), Is (.string (strOfNums (last.getD 0 []))), SlcSpec w227.heap.size 9 #[.string (strOfNums (last.getD 0 []))] 1]) 9 rfl (by decide +kernel) ?_
    refine t_val (SlcSpec w227.heap.size 9 #[] 0) rfl rfl rfl rfl (fun W_ hW_ F_ => slc_gives _ _ _ _ (below_of_drew hW_).size (by kernel_rfl)) ?_
    rintro _ ⟨g231, rfl⟩
    refine t_is (.slice A225 ((rows.map strOfNums).length) c226) rfl rfl rfl rfl (fun W_ hW_ F_ => rfl) ?_
    refine t_val (OwnKSpec Kd.string 9 w227.heap.size w227.heap.size (rows.map strOfNums)) rfl rfl rfl rfl (fun W_ hW_ F_ => app_gives (d := Kd.string) w227.heap.size (.tmp 95) (.tmp 96) 35 9 (.string ByteArray.empty) 16 rfl (by kernel_rfl) (by kernel_rfl) rfl (show 0 < 1 by decide) (by decide) (fun W b => (fun _ _ h => h)) (fun _ => ⟨1, by kernel_rfl⟩) rfl rfl (slc_fact (F_ 0 _ _ rfl rfl)).2 (slc_fact (F_ 0 _ _ rfl rfl)).1 (OwnK.Cn (d := Kd.string) (OwnK.on (d := Kd.string) hL230 (below_of_drew hW_))) (by first | omega | (simp only [List.length_map, List.length_append, List.length_cons, List.length_nil]; omega))) ?_
    rintro _ ⟨A234, c235, rfl, hle236⟩
    refine t_is (.pointer (some ⟨gb, 1, none⟩)) rfl rfl rfl rfl (fun W_ hW_ F_ => by simp [go_sem, sEv, sLook, nbeq, i64_w, -List.getD_eq_getElem?_getD, Try.underlying45]) ?_
    refine t_is (.slice (some ad238) last.length c2) rfl rfl rfl rfl (fun W_ hW_ F_ => by have eb_ := (((hkb.on hT68.1).on hB229).on (below_of_drew hW_)); have e0_ := eb_.cellv (i := 1) (v := (.slice (some ad238) last.length c2 : Value)) rfl; simp [go_sem, sEv, sLook, nbeq, i64_w, -List.getD_eq_getElem?_getD, e0_, Try.underlying22]) ?_
    refine t_is (.pointer (some (ad238))) rfl rfl rfl rfl (fun W_ hW_ F_ => (run_as (run_at_z (P := Try.prog) (e := 32) (sz := 1) (by kernel_rfl) (by kernel_rfl)  (by first | omega | decide) _))) ?_
    refine t_is (.slice A241 ((last.getD 0 []).length) c242) rfl rfl rfl rfl (fun W_ hW_ F_ => by have e0_ := cellOn he246 (below_of_drew hW_); simp [go_sem, sEv, sLook, nbeq, i64_w, -List.getD_eq_getElem?_getD, e0_, Try.underlying32]) ?_
    refine t_is (.string (strOfNums (last.getD 0 []))) rfl rfl rfl rfl (fun W_ hW_ F_ => (run_as (run_str_of (P := Try.prog) (e := 5) (by kernel_rfl) (by kernel_rfl) (by kernel_rfl) (Kd.C_below hC245 (chain (Below.refl _ _) (below_of_drew hW_)))))) ?_
    refine t_val (SlcSpec w227.heap.size 9 #[.string (strOfNums (last.getD 0 []))] 1) rfl rfl rfl rfl (fun W_ hW_ F_ => slc_gives _ _ _ _ (below_of_drew hW_).size (by kernel_rfl)) ?_
    rintro _ ⟨g247, rfl⟩
    refine t_tail ?_
    intro w250 hb251_ F252
    have hb251 := below_of_drew hb251_
    have hs_w250 := hb251.size
    obtain ⟨hge233, hk232⟩ := slc_fact (F252 0 _ _ rfl)
    have hlt_g231 := hk232.lt
    have hO237 : OwnK Kd.string 9 w250 w.heap.size w227.heap.size A234 (rows.map strOfNums).length c235 (rows.map strOfNums) := OwnK.lower (ownk_fact (F252 2 (OwnKSpec Kd.string 9 w227.heap.size w227.heap.size (rows.map strOfNums)) (.slice A234 (rows.map strOfNums).length c235) (by kernel_rfl))) (by omega)
    obtain ⟨hge249, hk248⟩ := slc_fact (F252 8 _ _ rfl)
    have hlt_g247 := hk248.lt
    have hk232r : OwnK Kd.string 9 w250 w.heap.size g231 (some ⟨g231, 0, none⟩) 0 0 ([] : List ByteArray) := lit_nilK _ w.heap.size hk232 (by omega)
    have hk248r : OwnK Kd.string 9 w250 w.heap.size g247 (some ⟨g247, 0, none⟩) 1 1 ([strOfNums (last.getD 0 [])] : List ByteArray) := scal_own w.heap.size hk248 (by omega) rfl rfl (by simp)
    have oA259 : OwnK Kd.string 9 w250 w.heap.size w227.heap.size A234 ((rows.map strOfNums).length) c235 (rows.map strOfNums) := hO237
    refine rw_append_kd (d := Kd.string) w.heap.size rfl rfl rfl (.tmp 97) (.tmp 103) rfl rfl 35 9 (.string ByteArray.empty) 16 rfl (by kernel_rfl) (by kernel_rfl) rfl (show 0 < 1 by decide) (by decide) (fun _ _ h => h) (b := w227.heap.size) rfl rfl (by omega) oA259 (OwnK.Cn (d := Kd.string) hk248r) (chain (chain hT68.1 hB229) hb251) (by omega) (by first | omega | (simp only [List.length_map, List.length_append, List.length_cons, List.length_nil]; omega)) ?_
    intro A253 c254 w255 hO256 hB257 hG258
    have hs_w255 := hB257.size
    have hgs_w255 := hG258.size
    have hO260 := OwnK.elder (d := Kd.string) hL230 hb251 hG258 (fun q hq => Nat.le_trans (by omega) (OwnK.blk_ge (d := Kd.string) oA259 hq))
    have hk263 := OwnK.blk_grown ((hk_w67.on hB229).on hb251) oA259 (.inr (by decide)) hG258
    have hT264 : TapeAt w w255 g10 w67.heap.size (HX gd14 (fun _ => False)) (⟨FC (rows.take j), ((FC (rows.take j)).length : Int), ((2 * j : Nat) : Int), true, arm, false, 0, false⟩ : TS) := TapeAt.grown (TapeAt.on (TapeAt.on hT68 hB229) hb251) oA259 (by omega) hB257 hG258
    refine rw_val (v := .slice A253 (((rows.map strOfNums) ++ ([strOfNums (last.getD 0 [])] : List ByteArray)).length) c254) (w' := w255) rfl rfl rfl rfl rfl ?_
    refine rw_end ?_
    refine w_weaken (G' := [(1, .pointer (some ⟨gb, 0, none⟩)), (3, .pointer (some ⟨g10, 0, none⟩)), (4, .pointer (some ⟨gd14, 0, none⟩)), (11, .slice A225 ((rows.map strOfNums).length) c226), (12, .slice A253 (((rows.map strOfNums) ++ ([strOfNums (last.getD 0 [])] : List ByteArray)).length) c254)]) ⟨rfl, rfl, rfl, rfl, rfl, trivial⟩ ?_
    refine w_seq ?_
    refine w_seq ?_
    refine w_region ?_
    refine rw_val (v := .pointer (some ⟨gb, 2, none⟩)) (w' := w255) rfl rfl rfl rfl (by simp [go_sem, sEv, sLook, nbeq, i64_w, -List.getD_eq_getElem?_getD, Try.underlying45]) ?_
    refine rw_val (v := .bool rw) (w' := w255) rfl rfl rfl rfl (by have eb_ := (hkb.on hB257); have e0_ := eb_.cellv (i := 2) (v := (.bool rw : Value)) rfl; simp [go_sem, sEv, sLook, nbeq, i64_w, -List.getD_eq_getElem?_getD, e0_]) ?_
    refine rw_end ?_
    refine w_cond rfl rfl (fun cRW => ?_) (fun cRW => ?_)
    ·refine w_seq ?_
     refine w_region ?_
     refine rw_val (v := .pointer (some ⟨gb, 1, none⟩)) (w' := w255) rfl rfl rfl rfl (by simp [go_sem, sEv, sLook, nbeq, i64_w, -List.getD_eq_getElem?_getD, Try.underlying45]) ?_
     refine rw_val (v := .slice (some ad238) last.length c2) (w' := w255) rfl rfl rfl rfl (by have eb_ := (hkb.on hB257); have e0_ := eb_.cellv (i := 1) (v := (.slice (some ad238) last.length c2 : Value)) rfl; simp [go_sem, sEv, sLook, nbeq, i64_w, -List.getD_eq_getElem?_getD, e0_, Try.underlying22]) ?_
     refine rw_call rfl rfl rfl rfl (f := 14) (args := #[.slice (some ad238) last.length c2]) (by simp [go_sem, sEv, sLook, nbeq, i64_w, -List.getD_eq_getElem?_getD]) (texts_calls w255 (some ad238) c2 last (Kd.C_below hl hB257) hchl (by omega)) ?_
     rintro e_ w267 ⟨A265, c266, rfl, hO268, hB269⟩
     refine ⟨_, rfl, ?_⟩
     have hs_w267 := hB269.size
     have hL270 : OwnK Kd.string 9 w267 w.heap.size w255.heap.size A265 (last.map strOfNums).length c266 (last.map strOfNums) := OwnK.lower hO268 (by omega)
     refine rw_val (v := .slice A265 ((last.map strOfNums).length) c266) (w' := w267) rfl rfl rfl rfl rfl ?_
     refine rw_end ?_
     refine w_weaken (G' := [(1, .pointer (some ⟨gb, 0, none⟩)), (3, .pointer (some ⟨g10, 0, none⟩)), (4, .pointer (some ⟨gd14, 0, none⟩)), (11, .slice A225 ((rows.map strOfNums).length) c226), (12, .slice A265 ((last.map strOfNums).length) c266)]) ⟨rfl, rfl, rfl, rfl, rfl, trivial⟩ ?_
     refine w_region ?_
     refine rw_val (v := .pointer (some ⟨gd14, 0, none⟩)) (w' := w267) rfl rfl rfl rfl rfl ?_
     refine rw_val (v := .pointer (some ⟨gb, 1, none⟩)) (w' := w267) rfl rfl rfl rfl (by simp [go_sem, sEv, sLook, nbeq, i64_w, -List.getD_eq_getElem?_getD, Try.underlying45]) ?_
     refine rw_val (v := .slice (some ad238) last.length c2) (w' := w267) rfl rfl rfl rfl (by have eb_ := ((hkb.on hB257).on hB269); have e0_ := eb_.cellv (i := 1) (v := (.slice (some ad238) last.length c2 : Value)) rfl; simp [go_sem, sEv, sLook, nbeq, i64_w, -List.getD_eq_getElem?_getD, e0_, Try.underlying22]) ?_
     have hX_ := cut_rw (⟨(⟨FC (rows.take j), ((FC (rows.take j)).length : Int), ((2 * j : Nat) : Int), true, arm, false, 0, false⟩ : TS), (PD (rows.take j) j).r, (PD (rows.take j) j).b⟩ : DS) rows last keep ⟨by show (0 : Int) ≤ ((2 * j : Nat) : Int) ∧ ((2 * j : Nat) : Int) ≤ 1000000000; omega, by show (0 : Int) ≤ arm ∧ arm ≤ 9223372036854775807; omega, by show (0 : Int) ≤ (0 : Int) ∧ (0 : Int) ≤ 9223372036854775807; omega, by show 0 ≤ (((FC (rows.take j)).length : Nat) : Int) ∧ (((FC (rows.take j)).length : Nat) : Int) ≤ (((FC (rows.take j)).length : Nat) : Int); omega, by show (FC (rows.take j)).length ≤ 1048576; omega⟩ (by show (FC (rows.take j)) = FC rows; exact hfc_) (by show ((FC (rows.take j)).length : Int) = ((FC rows).length : Int); rw [hfc_]) hln_ (by omega) (by show ((2 * j : Nat) : Int) ≤ 1000; omega)
     obtain ⟨X271, hX272, hC273, hX274, hX275⟩ := hX_
     have hn2_ : ∀ p ∈ last, p.length ≤ 16376 := hln_
     refine rw_call rfl rfl rfl rfl (f := 21) (args := #[.pointer (some ⟨gd14, 0, none⟩), .slice (some ad238) last.length c2]) (by simp [go_sem, sEv, sLook, nbeq, i64_w, -List.getD_eq_getElem?_getD]) (rewrite_D w w267 g10 gd14 w67.heap.size (HI gd14 w67.heap.size w267.heap.size) (HI.lt (by omega) (by omega)) (⟨(⟨FC (rows.take j), ((FC (rows.take j)).length : Int), ((2 * j : Nat) : Int), true, arm, false, 0, false⟩ : TS), (PD (rows.take j) j).r, (PD (rows.take j) j).b⟩ : DS) ⟨(TapeAt.hole (TapeAt.on hT264 hB269) (HI gd14 w67.heap.size w267.heap.size) (fun q h1 h2 h3 h4 => h4.elim (fun e => h3 (.inl e)) (fun h => by omega))), (hk263.on hB269), hEg_, hEz_, (.inl rfl)⟩ ⟨by show (0 : Int) ≤ ((2 * j : Nat) : Int) ∧ ((2 * j : Nat) : Int) ≤ 1000000000; omega, by show (0 : Int) ≤ arm ∧ arm ≤ 9223372036854775807; omega, by show (0 : Int) ≤ (0 : Int) ∧ (0 : Int) ≤ 9223372036854775807; omega, by show 0 ≤ (((FC (rows.take j)).length : Nat) : Int) ∧ (((FC (rows.take j)).length : Nat) : Int) ≤ (((FC (rows.take j)).length : Nat) : Int); omega, by show (FC (rows.take j)).length ≤ 1048576; omega⟩ (some ad238) c2 last (Kd.C_below hl (chain hB257 hB269)) hchl (by omega) (fun p hp => Nat.le_trans (hln_ p hp) (by decide))) ?_
     rintro e_ w277 ⟨rfl, m276, hD278, hs279, hk280⟩
     refine ⟨_, rfl, ?_⟩
     obtain ⟨hD278t, hD278b, hD278g, hD278z, hD278x⟩ := hD278
     have hz_w277 := hD278t.size
     have hlt_w277 := hD278b.lt
     refine rw_val (v := errT ((⟨(⟨FC (rows.take j), ((FC (rows.take j)).length : Int), ((2 * j : Nat) : Int), true, arm, false, 0, false⟩ : TS), (PD (rows.take j) j).r, (PD (rows.take j) j).b⟩ : DS).rwE last)) (w' := w277) rfl rfl rfl rfl rfl ?_
     refine rw_end ?_
     refine w_weaken (G' := [(1, .pointer (some ⟨gb, 0, none⟩)), (3, .pointer (some ⟨g10, 0, none⟩)), (6, errT ((⟨(⟨FC (rows.take j), ((FC (rows.take j)).length : Int), ((2 * j : Nat) : Int), true, arm, false, 0, false⟩ : TS), (PD (rows.take j) j).r, (PD (rows.take j) j).b⟩ : DS).rwE last)), (11, .slice A225 ((rows.map strOfNums).length) c226), (12, .slice A265 ((last.map strOfNums).length) c266)]) ⟨rfl, rfl, rfl, rfl, rfl, trivial⟩ ?_
     refine w_seq ?_
     refine w_region ?_
     refine rw_val (v := .pointer (some ⟨g10, 0, none⟩)) (w' := w277) rfl rfl rfl rfl rfl ?_
     refine rw_val (v := .pointer (some ⟨gb, 5, none⟩)) (w' := w277) rfl rfl rfl rfl (by simp [go_sem, sEv, sLook, nbeq, i64_w, -List.getD_eq_getElem?_getD, Try.underlying45]) ?_
     refine rw_val (v := .int .i64 keep) (w' := w277) rfl rfl rfl rfl (by have eb_ := (hkb.on hD278t.1); have e0_ := eb_.cellv (i := 5) (v := (.int .i64 keep : Value)) rfl; simp [go_sem, sEv, sLook, nbeq, i64_w, -List.getD_eq_getElem?_getD, e0_]) ?_
     refine rw_call rfl rfl rfl rfl (f := 22) (args := #[.pointer (some ⟨g10, 0, none⟩), .int .i64 keep]) (by simp [go_sem, sEv, sLook, nbeq, i64_w, -List.getD_eq_getElem?_getD]) (crash_T w w277 g10 m276 (HI gd14 w67.heap.size w267.heap.size) (HI.lt (by omega) (by omega)) (((⟨(⟨FC (rows.take j), ((FC (rows.take j)).length : Int), ((2 * j : Nat) : Int), true, arm, false, 0, false⟩ : TS), (PD (rows.take j) j).r, (PD (rows.take j) j).b⟩ : DS).rw last).s) hD278t hX274 keep) ?_
     rintro e_ w281 ⟨rfl, hT282, hs283, hx284⟩
     refine ⟨.tuple #[], rfl, ?_⟩
     rw [hX272] at hT282
     have hz_w281 := hT282.size
     have hk_w281 : Blk w281 gd14 80 _ := (hx284 gd14 hD278x hD278g).trans (hD278b)
     have hlt_w281 := hk_w281.lt
     refine rw_end ?_
     refine w_weaken (G' := [(3, .pointer (some ⟨g10, 0, none⟩)), (6, errT ((⟨(⟨FC (rows.take j), ((FC (rows.take j)).length : Int), ((2 * j : Nat) : Int), true, arm, false, 0, false⟩ : TS), (PD (rows.take j) j).r, (PD (rows.take j) j).b⟩ : DS).rwE last)), (11, .slice A225 ((rows.map strOfNums).length) c226), (12, .slice A265 ((last.map strOfNums).length) c266)]) ⟨rfl, rfl, rfl, rfl, trivial⟩ ?_
     refine w_seq ?_
     refine w_region ?_
     refine rw_val (v := .pointer (some ⟨g10, 0, none⟩)) (w' := w281) rfl rfl rfl rfl rfl ?_
     refine rw_call rfl rfl rfl rfl (f := 11) (args := #[.pointer (some ⟨g10, 0, none⟩)]) (by simp [go_sem, sEv, sLook, nbeq, i64_w, -List.getD_eq_getElem?_getD]) (open_cut w w281 g10 w281.heap.size (HI gd14 w67.heap.size w267.heap.size) (HI.lt (by omega) (by omega)) X271 ((⟨(⟨FC (rows.take j), ((FC (rows.take j)).length : Int), ((2 * j : Nat) : Int), true, arm, false, 0, false⟩ : TS), (PD (rows.take j) j).r, (PD (rows.take j) j).b⟩ : DS).rw last).s.steps hT282 ⟨hX274.steps.1, hX275⟩ (cut_len hC273 (by omega) (by omega)) (cut_bytes hC273 hby hbl)) ?_
     rintro e_ w292 ⟨gd285, m286, A287, c288, out289, n290, s291, rfl, hS293, hD294, hO295, hs296, hK297⟩
     refine ⟨_, rfl, ?_⟩
     obtain ⟨hD294t, hD294b, hD294g, hD294z, hD294x⟩ := hD294
     have hz_w292 := hD294t.size
     have hlt_w292 := hD294b.lt
     have hL298 : OwnK (Kd.slice 5 (Kd.int .u8)) 32 w292 w.heap.size w.heap.size A287 out289.length c288 out289 := OwnK.mono (d := (Kd.slice 5 (Kd.int .u8))) (OwnK.lower (d := (Kd.slice 5 (Kd.int .u8))) hO295 (by omega)) (by omega)
     have hct_ := cut_told hC273 hr2_ hn2_ hS293
     have hP299 : OwnK Kd.string 9 w292 w.heap.size w67.heap.size A225 ((rows.map strOfNums).length) c226 (rows.map strOfNums) := OwnK.step (d := Kd.string) (OwnK.on (d := Kd.string) hO260 hB269) (fun q hq hlt => by have hq_ : (HI gd14 w67.heap.size w267.heap.size) q := .inr ⟨(by omega), hlt⟩; have hqg : q ≠ g10 := (by omega); have hqd : q ≠ gd14 := (by omega); exact ((hK297.2 q (by omega) hqg).trans ((hx284 q hq_ hqg).trans (hk280 q hq_ hqg hqd))))
     have hP300 : OwnK Kd.string 9 w292 w.heap.size w255.heap.size A265 ((last.map strOfNums).length) c266 (last.map strOfNums) := OwnK.step (d := Kd.string) hL270 (fun q hq hlt => by have hq_ : (HI gd14 w67.heap.size w267.heap.size) q := .inr ⟨(by omega), hlt⟩; have hqg : q ≠ g10 := (by omega); have hqd : q ≠ gd14 := (by omega); exact ((hK297.2 q (by omega) hqg).trans ((hx284 q hq_ hqg).trans (hk280 q hq_ hqg hqd))))
     refine rw_val (v := .tuple #[.pointer (some ⟨gd285, 0, none⟩), .slice A287 out289.length c288, errT none]) (w' := w292) rfl rfl rfl rfl rfl ?_
     refine rw_val (v := .pointer (some ⟨gd285, 0, none⟩)) (w' := w292) rfl rfl rfl rfl (by simp [go_sem, sEv, sLook, nbeq, i64_w, -List.getD_eq_getElem?_getD]) ?_
     refine rw_val (v := .slice A287 out289.length c288) (w' := w292) rfl rfl rfl rfl (by simp [go_sem, sEv, sLook, nbeq, i64_w, -List.getD_eq_getElem?_getD]) ?_
     refine rw_val (v := errT none) (w' := w292) rfl rfl rfl rfl (by simp [go_sem, sEv, sLook, nbeq, i64_w, -List.getD_eq_getElem?_getD]) ?_
     refine rw_val (v := .pointer (some ⟨gd285, 0, none⟩)) (w' := w292) rfl rfl rfl rfl rfl ?_
     refine rw_val (v := .slice A287 out289.length c288) (w' := w292) rfl rfl rfl rfl rfl ?_
     refine rw_val (v := errT none) (w' := w292) rfl rfl rfl rfl rfl ?_
     refine rw_end ?_
     refine w_weaken (G' := [(6, errT ((⟨(⟨FC (rows.take j), ((FC (rows.take j)).length : Int), ((2 * j : Nat) : Int), true, arm, false, 0, false⟩ : TS), (PD (rows.take j) j).r, (PD (rows.take j) j).b⟩ : DS).rwE last)), (11, .slice A225 ((rows.map strOfNums).length) c226), (12, .slice A265 ((last.map strOfNums).length) c266), (14, .slice A287 out289.length c288), (15, errT none)]) ⟨rfl, rfl, rfl, rfl, rfl, trivial⟩ ?_
     refine w_seq ?_
     refine w_seq ?_
     refine w_region ?_
     refine rw_val (v := errT none) (w' := w292) rfl rfl rfl rfl rfl ?_
     refine rw_val (v := .bool ((none : Option Int).isSome)) (w' := w292) rfl rfl rfl rfl (run_as (guard_err_neq _ (none : Option Int) _)) ?_
     refine rw_end ?_
     refine w_cond_f rfl rfl hq24 ?_
     refine w_skip ?_
     refine w_seq ?_
     refine w_seq ?_
     refine w_region ?_
     refine rw_val (v := errT ((⟨(⟨FC (rows.take j), ((FC (rows.take j)).length : Int), ((2 * j : Nat) : Int), true, arm, false, 0, false⟩ : TS), (PD (rows.take j) j).r, (PD (rows.take j) j).b⟩ : DS).rwE last)) (w' := w292) rfl rfl rfl rfl rfl ?_
     refine rw_call rfl rfl rfl rfl (f := 23) (args := #[errT ((⟨(⟨FC (rows.take j), ((FC (rows.take j)).length : Int), ((2 * j : Nat) : Int), true, arm, false, 0, false⟩ : TS), (PD (rows.take j) j).r, (PD (rows.take j) j).b⟩ : DS).rwE last)]) (by simp [go_sem, sEv, sLook, nbeq, i64_w, -List.getD_eq_getElem?_getD]) (num_T ((⟨(⟨FC (rows.take j), ((FC (rows.take j)).length : Int), ((2 * j : Nat) : Int), true, arm, false, 0, false⟩ : TS), (PD (rows.take j) j).r, (PD (rows.take j) j).b⟩ : DS).rwE last) (cut_num hC273) w292) ?_
     rintro e_ w301 ⟨rfl, hb302⟩
     refine ⟨_, rfl, ?_⟩
     have hs_w301 := hb302.size
     refine rw_end ?_
     refine w_block ?_
     refine w_seq ?_
     refine w_region ?_
     refine rw_val (v := .bool ((numT ((⟨(⟨FC (rows.take j), ((FC (rows.take j)).length : Int), ((2 * j : Nat) : Int), true, arm, false, 0, false⟩ : TS), (PD (rows.take j) j).r, (PD (rows.take j) j).b⟩ : DS).rwE last)) == 0)) (w' := w301) rfl rfl rfl rfl (by simp [go_sem, sEv, sLook, nbeq, i64_w, -List.getD_eq_getElem?_getD]) ?_
     refine rw_val (v := .bool ((numT ((⟨(⟨FC (rows.take j), ((FC (rows.take j)).length : Int), ((2 * j : Nat) : Int), true, arm, false, 0, false⟩ : TS), (PD (rows.take j) j).r, (PD (rows.take j) j).b⟩ : DS).rwE last)) == 0)) (w' := w301) rfl rfl rfl rfl rfl ?_
     refine rw_end ?_
     refine w_cond rfl rfl (fun cN0 => ?_) (fun cN0 => ?_)
     ·refine w_seq ?_
      refine w_region ?_
      refine rw_val (v := .slice A287 out289.length c288) (w' := w301) rfl rfl rfl rfl rfl ?_
      refine rw_val (v := .slice A265 ((last.map strOfNums).length) c266) (w' := w301) rfl rfl rfl rfl rfl ?_
      refine rw_call rfl rfl rfl rfl (f := 13) (args := #[.slice A287 out289.length c288, .slice A265 ((last.map strOfNums).length) c266]) (by simp [go_sem, sEv, sLook, nbeq, i64_w, -List.getD_eq_getElem?_getD]) (same_calls w301 A287 A265 c288 c266 out289 (last.map strOfNums) (Kd.C_below (OwnK.C (d := (Kd.slice 5 (Kd.int .u8))) hL298) hb302) (OwnK.cap (d := (Kd.slice 5 (Kd.int .u8))) hL298) (Kd.C_below (OwnK.C (d := Kd.string) hP300) hb302) (OwnK.cap (d := Kd.string) hP300) (by first | (rw [List.length_map]; omega) | (rw [List.length_append, List.length_map]; simp only [List.length_cons, List.length_nil]; omega))) ?_
      rintro e_ w303 ⟨rfl, hb304⟩
      refine ⟨_, rfl, ?_⟩
      have hs_w303 := hb304.size
      refine rw_val (v := .bool (decide (out289.map strOfNums = (last.map strOfNums)))) (w' := w303) rfl rfl rfl rfl rfl ?_
      refine rw_end ?_
      refine w_weaken (G' := [(2, .bool (decide (out289.map strOfNums = (last.map strOfNums)))), (6, errT ((⟨(⟨FC (rows.take j), ((FC (rows.take j)).length : Int), ((2 * j : Nat) : Int), true, arm, false, 0, false⟩ : TS), (PD (rows.take j) j).r, (PD (rows.take j) j).b⟩ : DS).rwE last)), (11, .slice A225 ((rows.map strOfNums).length) c226), (12, .slice A265 ((last.map strOfNums).length) c266), (14, .slice A287 out289.length c288)]) ⟨rfl, rfl, rfl, rfl, rfl, trivial⟩ ?_
      have hq305 : (decide (out289.map strOfNums = (last.map strOfNums))) = true := by rcases hct_ with ⟨h1_, h2_⟩ | ⟨h1_, _⟩ | ⟨h1_, _⟩; exact (by rw [h2_]; simp); all_goals (exfalso; rw [h1_] at cN0; simp [numT] at cN0)
      refine w_ret (post_ret1 rfl rfl ?_)
      exact ⟨by simp only [hq305], chain hb00 (chain (chain hD294t.1 hb302) hb304)⟩
     refine w_seq ?_
     refine w_region ?_
     refine rw_val (v := .bool ((numT ((⟨(⟨FC (rows.take j), ((FC (rows.take j)).length : Int), ((2 * j : Nat) : Int), true, arm, false, 0, false⟩ : TS), (PD (rows.take j) j).r, (PD (rows.take j) j).b⟩ : DS).rwE last)) == 6)) (w' := w301) rfl rfl rfl rfl (by simp [go_sem, sEv, sLook, nbeq, i64_w, -List.getD_eq_getElem?_getD]) ?_
     refine rw_val (v := .bool ((numT ((⟨(⟨FC (rows.take j), ((FC (rows.take j)).length : Int), ((2 * j : Nat) : Int), true, arm, false, 0, false⟩ : TS), (PD (rows.take j) j).r, (PD (rows.take j) j).b⟩ : DS).rwE last)) == 6)) (w' := w301) rfl rfl rfl rfl rfl ?_
     refine rw_end ?_
     refine w_cond rfl rfl (fun cN6 => ?_) (fun cN6 => ?_)
     ·refine w_seq ?_
      refine w_region ?_
      refine rw_val (v := .slice A287 out289.length c288) (w' := w301) rfl rfl rfl rfl rfl ?_
      refine rw_val (v := .slice A225 ((rows.map strOfNums).length) c226) (w' := w301) rfl rfl rfl rfl rfl ?_
      refine rw_call rfl rfl rfl rfl (f := 13) (args := #[.slice A287 out289.length c288, .slice A225 ((rows.map strOfNums).length) c226]) (by simp [go_sem, sEv, sLook, nbeq, i64_w, -List.getD_eq_getElem?_getD]) (same_calls w301 A287 A225 c288 c226 out289 (rows.map strOfNums) (Kd.C_below (OwnK.C (d := (Kd.slice 5 (Kd.int .u8))) hL298) hb302) (OwnK.cap (d := (Kd.slice 5 (Kd.int .u8))) hL298) (Kd.C_below (OwnK.C (d := Kd.string) hP299) hb302) (OwnK.cap (d := Kd.string) hP299) (by first | (rw [List.length_map]; omega) | (rw [List.length_append, List.length_map]; simp only [List.length_cons, List.length_nil]; omega))) ?_
      rintro e_ w306 ⟨rfl, hb307⟩
      refine ⟨_, rfl, ?_⟩
      have hs_w306 := hb307.size
      refine rw_val (v := .bool (decide (out289.map strOfNums = (rows.map strOfNums)))) (w' := w306) rfl rfl rfl rfl rfl ?_
      refine rw_end ?_
      refine w_weaken (G' := [(2, .bool (decide (out289.map strOfNums = (rows.map strOfNums)))), (6, errT ((⟨(⟨FC (rows.take j), ((FC (rows.take j)).length : Int), ((2 * j : Nat) : Int), true, arm, false, 0, false⟩ : TS), (PD (rows.take j) j).r, (PD (rows.take j) j).b⟩ : DS).rwE last)), (11, .slice A225 ((rows.map strOfNums).length) c226), (12, .slice A265 ((last.map strOfNums).length) c266), (14, .slice A287 out289.length c288)]) ⟨rfl, rfl, rfl, rfl, rfl, trivial⟩ ?_
      have hq308 : (decide (out289.map strOfNums = (rows.map strOfNums))) = true := by rcases hct_ with ⟨h1_, _⟩ | ⟨h1_, h2_⟩ | ⟨h1_, _⟩; (exfalso; rw [h1_] at cN6; simp [numT] at cN6); exact (by rw [h2_]; simp); (exfalso; rw [h1_] at cN6; simp [numT] at cN6)
      refine w_ret (post_ret1 rfl rfl ?_)
      exact ⟨by simp only [hq308], chain hb00 (chain (chain hD294t.1 hb302) hb307)⟩
     refine w_skip ?_
     refine w_blk ?_
     refine w_seq ?_
     refine w_region ?_
     refine rw_val (v := errT ((⟨(⟨FC (rows.take j), ((FC (rows.take j)).length : Int), ((2 * j : Nat) : Int), true, arm, false, 0, false⟩ : TS), (PD (rows.take j) j).r, (PD (rows.take j) j).b⟩ : DS).rwE last)) (w' := w301) rfl rfl rfl rfl rfl ?_
     refine rw_val (v := errT (some 5)) (w' := w301) rfl rfl rfl rfl (by simp [go_sem, sEv, sLook, nbeq, i64_w, -List.getD_eq_getElem?_getD, errT]) ?_
     refine rw_val (v := .bool (decide (((⟨(⟨FC (rows.take j), ((FC (rows.take j)).length : Int), ((2 * j : Nat) : Int), true, arm, false, 0, false⟩ : TS), (PD (rows.take j) j).r, (PD (rows.take j) j).b⟩ : DS).rwE last) = some 5))) (w' := w301) rfl rfl rfl rfl (run_as (guard_err_eql _ _ ((⟨(⟨FC (rows.take j), ((FC (rows.take j)).length : Int), ((2 * j : Nat) : Int), true, arm, false, 0, false⟩ : TS), (PD (rows.take j) j).r, (PD (rows.take j) j).b⟩ : DS).rwE last) 5 _)) ?_
     refine rw_val (v := .bool (decide (((⟨(⟨FC (rows.take j), ((FC (rows.take j)).length : Int), ((2 * j : Nat) : Int), true, arm, false, 0, false⟩ : TS), (PD (rows.take j) j).r, (PD (rows.take j) j).b⟩ : DS).rwE last) = some 5))) (w' := w301) rfl rfl rfl rfl rfl ?_
     have hq309 : (decide (((⟨(⟨FC (rows.take j), ((FC (rows.take j)).length : Int), ((2 * j : Nat) : Int), true, arm, false, 0, false⟩ : TS), (PD (rows.take j) j).r, (PD (rows.take j) j).b⟩ : DS).rwE last) = some 5)) = true := by rcases hct_ with ⟨h1_, _⟩ | ⟨h1_, _⟩ | ⟨h1_, _⟩; (exfalso; rw [h1_] at cN0; simp [numT] at cN0); (exfalso; rw [h1_] at cN6; simp [numT] at cN6); (rw [h1_]; simp)
     refine rw_on (c := decide (((⟨(⟨FC (rows.take j), ((FC (rows.take j)).length : Int), ((2 * j : Nat) : Int), true, arm, false, 0, false⟩ : TS), (PD (rows.take j) j).r, (PD (rows.take j) j).b⟩ : DS).rwE last) = some 5)) rfl rfl rfl (by first | (rw [hq309]; rfl) | simp [hq309]) ?_
     refine rw_val (v := .slice A287 out289.length c288) (w' := w301) rfl rfl rfl rfl rfl ?_
     refine rw_on (c := decide (((⟨(⟨FC (rows.take j), ((FC (rows.take j)).length : Int), ((2 * j : Nat) : Int), true, arm, false, 0, false⟩ : TS), (PD (rows.take j) j).r, (PD (rows.take j) j).b⟩ : DS).rwE last) = some 5)) rfl rfl rfl (by first | (rw [hq309]; rfl) | simp [hq309]) ?_
     refine rw_val (v := .slice A225 ((rows.map strOfNums).length) c226) (w' := w301) rfl rfl rfl rfl rfl ?_
     refine rw_on (c := decide (((⟨(⟨FC (rows.take j), ((FC (rows.take j)).length : Int), ((2 * j : Nat) : Int), true, arm, false, 0, false⟩ : TS), (PD (rows.take j) j).r, (PD (rows.take j) j).b⟩ : DS).rwE last) = some 5)) rfl rfl rfl (by first | (rw [hq309]; rfl) | simp [hq309]) ?_
     refine rw_call rfl rfl rfl rfl (f := 13) (args := #[.slice A287 out289.length c288, .slice A225 ((rows.map strOfNums).length) c226]) (by simp [go_sem, sEv, sLook, nbeq, i64_w, -List.getD_eq_getElem?_getD]) (same_calls w301 A287 A225 c288 c226 out289 (rows.map strOfNums) (Kd.C_below (OwnK.C (d := (Kd.slice 5 (Kd.int .u8))) hL298) hb302) (OwnK.cap (d := (Kd.slice 5 (Kd.int .u8))) hL298) (Kd.C_below (OwnK.C (d := Kd.string) hP299) hb302) (OwnK.cap (d := Kd.string) hP299) (by first | (rw [List.length_map]; omega) | (rw [List.length_append, List.length_map]; simp only [List.length_cons, List.length_nil]; omega))) ?_
     rintro e_ w310 ⟨rfl, hb311⟩
     refine ⟨_, rfl, ?_⟩
     have hs_w310 := hb311.size
     refine rw_on (c := decide (((⟨(⟨FC (rows.take j), ((FC (rows.take j)).length : Int), ((2 * j : Nat) : Int), true, arm, false, 0, false⟩ : TS), (PD (rows.take j) j).r, (PD (rows.take j) j).b⟩ : DS).rwE last) = some 5)) rfl rfl rfl (by first | (rw [hq309]; rfl) | simp [hq309]) ?_
     refine rw_val (v := .bool (decide (out289.map strOfNums = (rows.map strOfNums)))) (w' := w310) rfl rfl rfl rfl rfl ?_
     rcases bcase (decide (out289.map strOfNums = (rows.map strOfNums))) with cS | cS
     ·have l312 : ¬ (out289.map strOfNums = (rows.map strOfNums)) := of_decide_eq_false cS
      refine rw_on (c := decide (out289.map strOfNums = (rows.map strOfNums))) rfl rfl rfl (by first | (rw [cS]; rfl) | simp [cS]) ?_
      refine rw_val (v := .slice A287 out289.length c288) (w' := w310) rfl rfl rfl rfl rfl ?_
      refine rw_on (c := decide (out289.map strOfNums = (rows.map strOfNums))) rfl rfl rfl (by first | (rw [cS]; rfl) | simp [cS]) ?_
      refine rw_val (v := .slice A265 ((last.map strOfNums).length) c266) (w' := w310) rfl rfl rfl rfl rfl ?_
      refine rw_on (c := decide (out289.map strOfNums = (rows.map strOfNums))) rfl rfl rfl (by first | (rw [cS]; rfl) | simp [cS]) ?_
      refine rw_call rfl rfl rfl rfl (f := 13) (args := #[.slice A287 out289.length c288, .slice A265 ((last.map strOfNums).length) c266]) (by simp [go_sem, sEv, sLook, nbeq, i64_w, -List.getD_eq_getElem?_getD]) (same_calls w310 A287 A265 c288 c266 out289 (last.map strOfNums) (Kd.C_below (OwnK.C (d := (Kd.slice 5 (Kd.int .u8))) hL298) (chain hb302 hb311)) (OwnK.cap (d := (Kd.slice 5 (Kd.int .u8))) hL298) (Kd.C_below (OwnK.C (d := Kd.string) hP300) (chain hb302 hb311)) (OwnK.cap (d := Kd.string) hP300) (by first | (rw [List.length_map]; omega) | (rw [List.length_append, List.length_map]; simp only [List.length_cons, List.length_nil]; omega))) ?_
      rintro e_ w313 ⟨rfl, hb314⟩
      refine ⟨_, rfl, ?_⟩
      have hs_w313 := hb314.size
      refine rw_on (c := decide (((⟨(⟨FC (rows.take j), ((FC (rows.take j)).length : Int), ((2 * j : Nat) : Int), true, arm, false, 0, false⟩ : TS), (PD (rows.take j) j).r, (PD (rows.take j) j).b⟩ : DS).rwE last) = some 5)) rfl rfl rfl (by first | (rw [hq309]; rfl) | simp [hq309]) ?_
      refine rw_val (v := .bool (decide (out289.map strOfNums = (last.map strOfNums)))) (w' := w313) rfl rfl rfl rfl (by first | (simp [go_sem, sEv, sLook, nbeq, i64_w, -List.getD_eq_getElem?_getD, cS]; done) | (rw [cS]; simp [go_sem, sEv, sLook, nbeq, i64_w, -List.getD_eq_getElem?_getD]; done) | (simp [go_sem, sEv, sLook, nbeq, i64_w, -List.getD_eq_getElem?_getD] <;> omega) | (simp [go_sem, sEv, sLook, nbeq, i64_w, -List.getD_eq_getElem?_getD]; intro h_; exact absurd (by omega) h_)) ?_
      refine rw_val (v := .bool (decide (out289.map strOfNums = (last.map strOfNums)))) (w' := w313) rfl rfl rfl rfl (by first | (simp [go_sem, sEv, sLook, nbeq, i64_w, -List.getD_eq_getElem?_getD, hq309]; done) | (rw [hq309]; simp [go_sem, sEv, sLook, nbeq, i64_w, -List.getD_eq_getElem?_getD]; done) | (simp [go_sem, sEv, sLook, nbeq, i64_w, -List.getD_eq_getElem?_getD] <;> omega) | (simp [go_sem, sEv, sLook, nbeq, i64_w, -List.getD_eq_getElem?_getD]; intro h_; exact absurd (by omega) h_)) ?_
      refine rw_val (v := .bool (decide (out289.map strOfNums = (last.map strOfNums)))) (w' := w313) rfl rfl rfl rfl rfl ?_
      refine rw_end ?_
      refine w_weaken (G' := [(2, .bool (decide (out289.map strOfNums = (last.map strOfNums))))]) ⟨rfl, trivial⟩ ?_
      have hq315 : (decide (out289.map strOfNums = (last.map strOfNums))) = true := by rcases hct_ with ⟨h1_, h2_⟩ | ⟨h1_, h2_⟩ | ⟨h1_, h2_ | h2_⟩; exact (by rw [h2_]; simp); (exfalso; rw [h2_] at cS; simp at cS); (exfalso; rw [h2_] at cS; simp at cS); exact (by rw [h2_]; simp)
      refine w_ret (post_ret1 rfl rfl ?_)
      exact ⟨by simp only [hq315], chain hb00 (chain (chain (chain hD294t.1 hb302) hb311) hb314)⟩
     have l316 : (out289.map strOfNums = (rows.map strOfNums)) := of_decide_eq_true cS
     refine rw_off (c := decide (out289.map strOfNums = (rows.map strOfNums))) rfl rfl rfl (by first | (rw [cS]; rfl) | simp [cS]) rfl rfl ?_
     refine rw_off (c := decide (out289.map strOfNums = (rows.map strOfNums))) rfl rfl rfl (by first | (rw [cS]; rfl) | simp [cS]) rfl rfl ?_
     refine rw_off (c := decide (out289.map strOfNums = (rows.map strOfNums))) rfl rfl rfl (by first | (rw [cS]; rfl) | simp [cS]) rfl rfl ?_
     refine rw_on (c := decide (((⟨(⟨FC (rows.take j), ((FC (rows.take j)).length : Int), ((2 * j : Nat) : Int), true, arm, false, 0, false⟩ : TS), (PD (rows.take j) j).r, (PD (rows.take j) j).b⟩ : DS).rwE last) = some 5)) rfl rfl rfl (by first | (rw [hq309]; rfl) | simp [hq309]) ?_
     refine rw_val (v := .bool true) (w' := w310) rfl rfl rfl rfl (by first | (simp [go_sem, sEv, sLook, nbeq, i64_w, -List.getD_eq_getElem?_getD, cS]; done) | (rw [cS]; simp [go_sem, sEv, sLook, nbeq, i64_w, -List.getD_eq_getElem?_getD]; done) | (simp [go_sem, sEv, sLook, nbeq, i64_w, -List.getD_eq_getElem?_getD] <;> omega) | (simp [go_sem, sEv, sLook, nbeq, i64_w, -List.getD_eq_getElem?_getD]; intro h_; exact absurd (by omega) h_)) ?_
     refine rw_val (v := .bool true) (w' := w310) rfl rfl rfl rfl (by first | (simp [go_sem, sEv, sLook, nbeq, i64_w, -List.getD_eq_getElem?_getD, hq309]; done) | (rw [hq309]; simp [go_sem, sEv, sLook, nbeq, i64_w, -List.getD_eq_getElem?_getD]; done) | (simp [go_sem, sEv, sLook, nbeq, i64_w, -List.getD_eq_getElem?_getD] <;> omega) | (simp [go_sem, sEv, sLook, nbeq, i64_w, -List.getD_eq_getElem?_getD]; intro h_; exact absurd (by omega) h_)) ?_
     refine rw_val (v := .bool true) (w' := w310) rfl rfl rfl rfl rfl ?_
     refine rw_end ?_
     refine w_weaken (G' := [(2, .bool true)]) ⟨rfl, trivial⟩ ?_
     refine w_ret (post_ret1 rfl rfl ?_)
     exact ⟨rfl, chain hb00 (chain (chain hD294t.1 hb302) hb311)⟩
    refine w_region ?_
    refine rw_val (v := .pointer (some ⟨gd14, 0, none⟩)) (w' := w255) rfl rfl rfl rfl rfl ?_
    refine rw_val (v := .pointer (some ⟨gb, 1, none⟩)) (w' := w255) rfl rfl rfl rfl (by simp [go_sem, sEv, sLook, nbeq, i64_w, -List.getD_eq_getElem?_getD, Try.underlying45]) ?_
    refine rw_val (v := .slice (some ad238) last.length c2) (w' := w255) rfl rfl rfl rfl (by have eb_ := (hkb.on hB257); have e0_ := eb_.cellv (i := 1) (v := (.slice (some ad238) last.length c2 : Value)) rfl; simp [go_sem, sEv, sLook, nbeq, i64_w, -List.getD_eq_getElem?_getD, e0_, Try.underlying22]) ?_
    obtain ⟨hc319a, A320, c321, hA318, he322, hle323, hC324⟩ := rows_at (Kd.C_below hl hB257) 0 (by first | omega | decide)
    obtain rfl := Option.some.inj hA318
    have he325 : w255.cell? (ad238) = some (.slice A320 ((last.getD 0 []).length) c321) := cell_00 he322
    refine rw_val (v := .pointer (some (ad238))) (w' := w255) rfl rfl rfl rfl (run_as (run_at_z (P := Try.prog) (e := 32) (sz := 1) (by kernel_rfl) (by kernel_rfl)  (by first | omega | decide) _)) ?_
    refine rw_val (v := .slice A320 ((last.getD 0 []).length) c321) (w' := w255) rfl rfl rfl rfl (by have e0_ := cellOn he325 (Below.refl _ _); simp [go_sem, sEv, sLook, nbeq, i64_w, -List.getD_eq_getElem?_getD, e0_, Try.underlying32]) ?_
    have hX_ := cut_add (⟨(⟨FC (rows.take j), ((FC (rows.take j)).length : Int), ((2 * j : Nat) : Int), true, arm, false, 0, false⟩ : TS), (PD (rows.take j) j).r, (PD (rows.take j) j).b⟩ : DS) rows (last.getD 0 []) keep ⟨by show (0 : Int) ≤ ((2 * j : Nat) : Int) ∧ ((2 * j : Nat) : Int) ≤ 1000000000; omega, by show (0 : Int) ≤ arm ∧ arm ≤ 9223372036854775807; omega, by show (0 : Int) ≤ (0 : Int) ∧ (0 : Int) ≤ 9223372036854775807; omega, by show 0 ≤ (((FC (rows.take j)).length : Nat) : Int) ∧ (((FC (rows.take j)).length : Nat) : Int) ≤ (((FC (rows.take j)).length : Nat) : Int); omega, by show (FC (rows.take j)).length ≤ 1048576; omega⟩ (by show (FC (rows.take j)) = FC rows; exact hfc_) (by show ((FC (rows.take j)).length : Int) = ((FC rows).length : Int); rw [hfc_]) hl0_ (by omega) (by show ((2 * j : Nat) : Int) ≤ 1000; omega)
    obtain ⟨X326, hX327, hC328, hX329, hX330⟩ := hX_
    have hn2_ : ∀ p ∈ (rows ++ [(last.getD 0 [])]), p.length ≤ 16376 := fun p hp => (List.mem_append.1 hp).elim (hr2_ p) (fun hp => by rw [List.mem_singleton.1 hp]; exact hl0_)
    refine rw_call rfl rfl rfl rfl (f := 12) (args := #[.pointer (some ⟨gd14, 0, none⟩), .slice A320 ((last.getD 0 []).length) c321]) (by simp [go_sem, sEv, sLook, nbeq, i64_w, -List.getD_eq_getElem?_getD]) (add_D w w255 g10 gd14 w67.heap.size (HI gd14 w67.heap.size w255.heap.size) (HI.lt (by omega) (by omega)) (⟨(⟨FC (rows.take j), ((FC (rows.take j)).length : Int), ((2 * j : Nat) : Int), true, arm, false, 0, false⟩ : TS), (PD (rows.take j) j).r, (PD (rows.take j) j).b⟩ : DS) ⟨(TapeAt.hole hT264 (HI gd14 w67.heap.size w255.heap.size) (fun q h1 h2 h3 h4 => h4.elim (fun e => h3 (.inl e)) (fun h => by omega))), hk263, hEg_, hEz_, (.inl rfl)⟩ ⟨by show (0 : Int) ≤ ((2 * j : Nat) : Int) ∧ ((2 * j : Nat) : Int) ≤ 1000000000; omega, by show (0 : Int) ≤ arm ∧ arm ≤ 9223372036854775807; omega, by show (0 : Int) ≤ (0 : Int) ∧ (0 : Int) ≤ 9223372036854775807; omega, by show 0 ≤ (((FC (rows.take j)).length : Nat) : Int) ∧ (((FC (rows.take j)).length : Nat) : Int) ≤ (((FC (rows.take j)).length : Nat) : Int); omega, by show (FC (rows.take j)).length ≤ 1048576; omega⟩ (by show ((2 * j : Nat) : Int) ≤ 999999990; omega) (show -1000000000 ≤ (((rows.take j).length : Nat) : Int) ∧ (((rows.take j).length : Nat) : Int) ≤ 1000000000 by rw [List.length_take]; omega) (show -1000000000 ≤ (((FC (rows.take j)).length : Nat) : Int) ∧ (((FC (rows.take j)).length : Nat) : Int) ≤ 1000000000 by omega) A320 c321 (last.getD 0 []) (Kd.C_below hC324 (Below.refl _ _)) hle323 (by omega)) ?_
    rintro e_ w332 ⟨rfl, m331, hD333, hs334, hk335⟩
    refine ⟨_, rfl, ?_⟩
    obtain ⟨hD333t, hD333b, hD333g, hD333z, hD333x⟩ := hD333
    have hz_w332 := hD333t.size
    have hlt_w332 := hD333b.lt
    refine rw_val (v := errT ((⟨(⟨FC (rows.take j), ((FC (rows.take j)).length : Int), ((2 * j : Nat) : Int), true, arm, false, 0, false⟩ : TS), (PD (rows.take j) j).r, (PD (rows.take j) j).b⟩ : DS).addE (last.getD 0 []))) (w' := w332) rfl rfl rfl rfl rfl ?_
    refine rw_end ?_
    refine w_weaken (G' := [(1, .pointer (some ⟨gb, 0, none⟩)), (3, .pointer (some ⟨g10, 0, none⟩)), (6, errT ((⟨(⟨FC (rows.take j), ((FC (rows.take j)).length : Int), ((2 * j : Nat) : Int), true, arm, false, 0, false⟩ : TS), (PD (rows.take j) j).r, (PD (rows.take j) j).b⟩ : DS).addE (last.getD 0 []))), (11, .slice A225 ((rows.map strOfNums).length) c226), (12, .slice A253 (((rows.map strOfNums) ++ ([strOfNums (last.getD 0 [])] : List ByteArray)).length) c254)]) ⟨rfl, rfl, rfl, rfl, rfl, trivial⟩ ?_
    refine w_seq ?_
    refine w_region ?_
    refine rw_val (v := .pointer (some ⟨g10, 0, none⟩)) (w' := w332) rfl rfl rfl rfl rfl ?_
    refine rw_val (v := .pointer (some ⟨gb, 5, none⟩)) (w' := w332) rfl rfl rfl rfl (by simp [go_sem, sEv, sLook, nbeq, i64_w, -List.getD_eq_getElem?_getD, Try.underlying45]) ?_
    refine rw_val (v := .int .i64 keep) (w' := w332) rfl rfl rfl rfl (by have eb_ := (hkb.on hD333t.1); have e0_ := eb_.cellv (i := 5) (v := (.int .i64 keep : Value)) rfl; simp [go_sem, sEv, sLook, nbeq, i64_w, -List.getD_eq_getElem?_getD, e0_]) ?_
    refine rw_call rfl rfl rfl rfl (f := 22) (args := #[.pointer (some ⟨g10, 0, none⟩), .int .i64 keep]) (by simp [go_sem, sEv, sLook, nbeq, i64_w, -List.getD_eq_getElem?_getD]) (crash_T w w332 g10 m331 (HI gd14 w67.heap.size w255.heap.size) (HI.lt (by omega) (by omega)) (((⟨(⟨FC (rows.take j), ((FC (rows.take j)).length : Int), ((2 * j : Nat) : Int), true, arm, false, 0, false⟩ : TS), (PD (rows.take j) j).r, (PD (rows.take j) j).b⟩ : DS).add (last.getD 0 [])).s) hD333t hX329 keep) ?_
    rintro e_ w336 ⟨rfl, hT337, hs338, hx339⟩
    refine ⟨.tuple #[], rfl, ?_⟩
    rw [hX327] at hT337
    have hz_w336 := hT337.size
    have hk_w336 : Blk w336 gd14 80 _ := (hx339 gd14 hD333x hD333g).trans (hD333b)
    have hlt_w336 := hk_w336.lt
    refine rw_end ?_
    refine w_weaken (G' := [(3, .pointer (some ⟨g10, 0, none⟩)), (6, errT ((⟨(⟨FC (rows.take j), ((FC (rows.take j)).length : Int), ((2 * j : Nat) : Int), true, arm, false, 0, false⟩ : TS), (PD (rows.take j) j).r, (PD (rows.take j) j).b⟩ : DS).addE (last.getD 0 []))), (11, .slice A225 ((rows.map strOfNums).length) c226), (12, .slice A253 (((rows.map strOfNums) ++ ([strOfNums (last.getD 0 [])] : List ByteArray)).length) c254)]) ⟨rfl, rfl, rfl, rfl, trivial⟩ ?_
    refine w_seq ?_
    refine w_region ?_
    refine rw_val (v := .pointer (some ⟨g10, 0, none⟩)) (w' := w336) rfl rfl rfl rfl rfl ?_
    refine rw_call rfl rfl rfl rfl (f := 11) (args := #[.pointer (some ⟨g10, 0, none⟩)]) (by simp [go_sem, sEv, sLook, nbeq, i64_w, -List.getD_eq_getElem?_getD]) (open_cut w w336 g10 w336.heap.size (HI gd14 w67.heap.size w255.heap.size) (HI.lt (by omega) (by omega)) X326 ((⟨(⟨FC (rows.take j), ((FC (rows.take j)).length : Int), ((2 * j : Nat) : Int), true, arm, false, 0, false⟩ : TS), (PD (rows.take j) j).r, (PD (rows.take j) j).b⟩ : DS).add (last.getD 0 [])).s.steps hT337 ⟨hX329.steps.1, hX330⟩ (cut_len hC328 (by omega) (by rw [FC_append, FC_one, List.length_append, frameB_len _ hl0_]; omega)) (cut_bytes hC328 hby (fun r hr_ => (List.mem_append.1 hr_).elim (hby r) (fun hr_ => by rw [List.mem_singleton.1 hr_]; exact hbl _ (getD_mem last 0 [] (by omega)))))) ?_
    rintro e_ w347 ⟨gd340, m341, A342, c343, out344, n345, s346, rfl, hS348, hD349, hO350, hs351, hK352⟩
    refine ⟨_, rfl, ?_⟩
    obtain ⟨hD349t, hD349b, hD349g, hD349z, hD349x⟩ := hD349
    have hz_w347 := hD349t.size
    have hlt_w347 := hD349b.lt
    have hL353 : OwnK (Kd.slice 5 (Kd.int .u8)) 32 w347 w.heap.size w.heap.size A342 out344.length c343 out344 := OwnK.mono (d := (Kd.slice 5 (Kd.int .u8))) (OwnK.lower (d := (Kd.slice 5 (Kd.int .u8))) hO350 (by omega)) (by omega)
    have hct_ := cut_told hC328 hr2_ hn2_ hS348
    have hP354 : OwnK Kd.string 9 w347 w.heap.size w67.heap.size A225 ((rows.map strOfNums).length) c226 (rows.map strOfNums) := OwnK.step (d := Kd.string) hO260 (fun q hq hlt => by have hq_ : (HI gd14 w67.heap.size w255.heap.size) q := .inr ⟨(by omega), hlt⟩; have hqg : q ≠ g10 := (by omega); have hqd : q ≠ gd14 := (by omega); exact ((hK352.2 q (by omega) hqg).trans ((hx339 q hq_ hqg).trans (hk335 q hq_ hqg hqd))))
    have hP355 : OwnK Kd.string 9 w347 w.heap.size w227.heap.size A253 (((rows.map strOfNums) ++ ([strOfNums (last.getD 0 [])] : List ByteArray)).length) c254 ((rows.map strOfNums) ++ ([strOfNums (last.getD 0 [])] : List ByteArray)) := OwnK.step (d := Kd.string) hO256 (fun q hq hlt => by have hq_ : (HI gd14 w67.heap.size w255.heap.size) q := .inr ⟨(by omega), hlt⟩; have hqg : q ≠ g10 := (by omega); have hqd : q ≠ gd14 := (by omega); exact ((hK352.2 q (by omega) hqg).trans ((hx339 q hq_ hqg).trans (hk335 q hq_ hqg hqd))))
    refine rw_val (v := .tuple #[.pointer (some ⟨gd340, 0, none⟩), .slice A342 out344.length c343, errT none]) (w' := w347) rfl rfl rfl rfl rfl ?_
    refine rw_val (v := .pointer (some ⟨gd340, 0, none⟩)) (w' := w347) rfl rfl rfl rfl (by simp [go_sem, sEv, sLook, nbeq, i64_w, -List.getD_eq_getElem?_getD]) ?_
    refine rw_val (v := .slice A342 out344.length c343) (w' := w347) rfl rfl rfl rfl (by simp [go_sem, sEv, sLook, nbeq, i64_w, -List.getD_eq_getElem?_getD]) ?_
    refine rw_val (v := errT none) (w' := w347) rfl rfl rfl rfl (by simp [go_sem, sEv, sLook, nbeq, i64_w, -List.getD_eq_getElem?_getD]) ?_
    refine rw_val (v := .pointer (some ⟨gd340, 0, none⟩)) (w' := w347) rfl rfl rfl rfl rfl ?_
    refine rw_val (v := .slice A342 out344.length c343) (w' := w347) rfl rfl rfl rfl rfl ?_
    refine rw_val (v := errT none) (w' := w347) rfl rfl rfl rfl rfl ?_
    refine rw_end ?_
    refine w_weaken (G' := [(6, errT ((⟨(⟨FC (rows.take j), ((FC (rows.take j)).length : Int), ((2 * j : Nat) : Int), true, arm, false, 0, false⟩ : TS), (PD (rows.take j) j).r, (PD (rows.take j) j).b⟩ : DS).addE (last.getD 0 []))), (11, .slice A225 ((rows.map strOfNums).length) c226), (12, .slice A253 (((rows.map strOfNums) ++ ([strOfNums (last.getD 0 [])] : List ByteArray)).length) c254), (14, .slice A342 out344.length c343), (15, errT none)]) ⟨rfl, rfl, rfl, rfl, rfl, trivial⟩ ?_
    refine w_seq ?_
    refine w_seq ?_
    refine w_region ?_
    refine rw_val (v := errT none) (w' := w347) rfl rfl rfl rfl rfl ?_
    refine rw_val (v := .bool ((none : Option Int).isSome)) (w' := w347) rfl rfl rfl rfl (run_as (guard_err_neq _ (none : Option Int) _)) ?_
    refine rw_end ?_
    refine w_cond_f rfl rfl hq24 ?_
    refine w_skip ?_
    refine w_seq ?_
    refine w_seq ?_
    refine w_region ?_
    refine rw_val (v := errT ((⟨(⟨FC (rows.take j), ((FC (rows.take j)).length : Int), ((2 * j : Nat) : Int), true, arm, false, 0, false⟩ : TS), (PD (rows.take j) j).r, (PD (rows.take j) j).b⟩ : DS).addE (last.getD 0 []))) (w' := w347) rfl rfl rfl rfl rfl ?_
    refine rw_call rfl rfl rfl rfl (f := 23) (args := #[errT ((⟨(⟨FC (rows.take j), ((FC (rows.take j)).length : Int), ((2 * j : Nat) : Int), true, arm, false, 0, false⟩ : TS), (PD (rows.take j) j).r, (PD (rows.take j) j).b⟩ : DS).addE (last.getD 0 []))]) (by simp [go_sem, sEv, sLook, nbeq, i64_w, -List.getD_eq_getElem?_getD]) (num_T ((⟨(⟨FC (rows.take j), ((FC (rows.take j)).length : Int), ((2 * j : Nat) : Int), true, arm, false, 0, false⟩ : TS), (PD (rows.take j) j).r, (PD (rows.take j) j).b⟩ : DS).addE (last.getD 0 [])) (cut_num hC328) w347) ?_
    rintro e_ w356 ⟨rfl, hb357⟩
    refine ⟨_, rfl, ?_⟩
    have hs_w356 := hb357.size
    refine rw_end ?_
    refine w_block ?_
    refine w_seq ?_
    refine w_region ?_
    refine rw_val (v := .bool ((numT ((⟨(⟨FC (rows.take j), ((FC (rows.take j)).length : Int), ((2 * j : Nat) : Int), true, arm, false, 0, false⟩ : TS), (PD (rows.take j) j).r, (PD (rows.take j) j).b⟩ : DS).addE (last.getD 0 []))) == 0)) (w' := w356) rfl rfl rfl rfl (by simp [go_sem, sEv, sLook, nbeq, i64_w, -List.getD_eq_getElem?_getD]) ?_
    refine rw_val (v := .bool ((numT ((⟨(⟨FC (rows.take j), ((FC (rows.take j)).length : Int), ((2 * j : Nat) : Int), true, arm, false, 0, false⟩ : TS), (PD (rows.take j) j).r, (PD (rows.take j) j).b⟩ : DS).addE (last.getD 0 []))) == 0)) (w' := w356) rfl rfl rfl rfl rfl ?_
    refine rw_end ?_
    refine w_cond rfl rfl (fun cN0 => ?_) (fun cN0 => ?_)
    ·refine w_seq ?_
     refine w_region ?_
     refine rw_val (v := .slice A342 out344.length c343) (w' := w356) rfl rfl rfl rfl rfl ?_
     refine rw_val (v := .slice A253 (((rows.map strOfNums) ++ ([strOfNums (last.getD 0 [])] : List ByteArray)).length) c254) (w' := w356) rfl rfl rfl rfl rfl ?_
     refine rw_call rfl rfl rfl rfl (f := 13) (args := #[.slice A342 out344.length c343, .slice A253 (((rows.map strOfNums) ++ ([strOfNums (last.getD 0 [])] : List ByteArray)).length) c254]) (by simp [go_sem, sEv, sLook, nbeq, i64_w, -List.getD_eq_getElem?_getD]) (same_calls w356 A342 A253 c343 c254 out344 ((rows.map strOfNums) ++ ([strOfNums (last.getD 0 [])] : List ByteArray)) (Kd.C_below (OwnK.C (d := (Kd.slice 5 (Kd.int .u8))) hL353) hb357) (OwnK.cap (d := (Kd.slice 5 (Kd.int .u8))) hL353) (Kd.C_below (OwnK.C (d := Kd.string) hP355) hb357) (OwnK.cap (d := Kd.string) hP355) (by first | (rw [List.length_map]; omega) | (rw [List.length_append, List.length_map]; simp only [List.length_cons, List.length_nil]; omega))) ?_
     rintro e_ w358 ⟨rfl, hb359⟩
     refine ⟨_, rfl, ?_⟩
     have hs_w358 := hb359.size
     refine rw_val (v := .bool (decide (out344.map strOfNums = ((rows.map strOfNums) ++ ([strOfNums (last.getD 0 [])] : List ByteArray))))) (w' := w358) rfl rfl rfl rfl rfl ?_
     refine rw_end ?_
     refine w_weaken (G' := [(2, .bool (decide (out344.map strOfNums = ((rows.map strOfNums) ++ ([strOfNums (last.getD 0 [])] : List ByteArray))))), (6, errT ((⟨(⟨FC (rows.take j), ((FC (rows.take j)).length : Int), ((2 * j : Nat) : Int), true, arm, false, 0, false⟩ : TS), (PD (rows.take j) j).r, (PD (rows.take j) j).b⟩ : DS).addE (last.getD 0 []))), (11, .slice A225 ((rows.map strOfNums).length) c226), (12, .slice A253 (((rows.map strOfNums) ++ ([strOfNums (last.getD 0 [])] : List ByteArray)).length) c254), (14, .slice A342 out344.length c343)]) ⟨rfl, rfl, rfl, rfl, rfl, trivial⟩ ?_
     have hq360 : (decide (out344.map strOfNums = ((rows.map strOfNums) ++ ([strOfNums (last.getD 0 [])] : List ByteArray)))) = true := by rcases hct_ with ⟨h1_, h2_⟩ | ⟨h1_, _⟩ | ⟨h1_, _⟩; exact (by rw [h2_]; simp); all_goals (exfalso; rw [h1_] at cN0; simp [numT] at cN0)
     refine w_ret (post_ret1 rfl rfl ?_)
     exact ⟨by simp only [hq360], chain hb00 (chain (chain hD349t.1 hb357) hb359)⟩
    refine w_seq ?_
    refine w_region ?_
    refine rw_val (v := .bool ((numT ((⟨(⟨FC (rows.take j), ((FC (rows.take j)).length : Int), ((2 * j : Nat) : Int), true, arm, false, 0, false⟩ : TS), (PD (rows.take j) j).r, (PD (rows.take j) j).b⟩ : DS).addE (last.getD 0 []))) == 6)) (w' := w356) rfl rfl rfl rfl (by simp [go_sem, sEv, sLook, nbeq, i64_w, -List.getD_eq_getElem?_getD]) ?_
    refine rw_val (v := .bool ((numT ((⟨(⟨FC (rows.take j), ((FC (rows.take j)).length : Int), ((2 * j : Nat) : Int), true, arm, false, 0, false⟩ : TS), (PD (rows.take j) j).r, (PD (rows.take j) j).b⟩ : DS).addE (last.getD 0 []))) == 6)) (w' := w356) rfl rfl rfl rfl rfl ?_
    refine rw_end ?_
    refine w_cond rfl rfl (fun cN6 => ?_) (fun cN6 => ?_)
    ·refine w_seq ?_
     refine w_region ?_
     refine rw_val (v := .slice A342 out344.length c343) (w' := w356) rfl rfl rfl rfl rfl ?_
     refine rw_val (v := .slice A225 ((rows.map strOfNums).length) c226) (w' := w356) rfl rfl rfl rfl rfl ?_
     refine rw_call rfl rfl rfl rfl (f := 13) (args := #[.slice A342 out344.length c343, .slice A225 ((rows.map strOfNums).length) c226]) (by simp [go_sem, sEv, sLook, nbeq, i64_w, -List.getD_eq_getElem?_getD]) (same_calls w356 A342 A225 c343 c226 out344 (rows.map strOfNums) (Kd.C_below (OwnK.C (d := (Kd.slice 5 (Kd.int .u8))) hL353) hb357) (OwnK.cap (d := (Kd.slice 5 (Kd.int .u8))) hL353) (Kd.C_below (OwnK.C (d := Kd.string) hP354) hb357) (OwnK.cap (d := Kd.string) hP354) (by first | (rw [List.length_map]; omega) | (rw [List.length_append, List.length_map]; simp only [List.length_cons, List.length_nil]; omega))) ?_
     rintro e_ w361 ⟨rfl, hb362⟩
     refine ⟨_, rfl, ?_⟩
     have hs_w361 := hb362.size
     refine rw_val (v := .bool (decide (out344.map strOfNums = (rows.map strOfNums)))) (w' := w361) rfl rfl rfl rfl rfl ?_
     refine rw_end ?_
     refine w_weaken (G' := [(2, .bool (decide (out344.map strOfNums = (rows.map strOfNums)))), (6, errT ((⟨(⟨FC (rows.take j), ((FC (rows.take j)).length : Int), ((2 * j : Nat) : Int), true, arm, false, 0, false⟩ : TS), (PD (rows.take j) j).r, (PD (rows.take j) j).b⟩ : DS).addE (last.getD 0 []))), (11, .slice A225 ((rows.map strOfNums).length) c226), (12, .slice A253 (((rows.map strOfNums) ++ ([strOfNums (last.getD 0 [])] : List ByteArray)).length) c254), (14, .slice A342 out344.length c343)]) ⟨rfl, rfl, rfl, rfl, rfl, trivial⟩ ?_
     have hq363 : (decide (out344.map strOfNums = (rows.map strOfNums))) = true := by rcases hct_ with ⟨h1_, _⟩ | ⟨h1_, h2_⟩ | ⟨h1_, _⟩; (exfalso; rw [h1_] at cN6; simp [numT] at cN6); exact (by rw [h2_]; simp); (exfalso; rw [h1_] at cN6; simp [numT] at cN6)
     refine w_ret (post_ret1 rfl rfl ?_)
     exact ⟨by simp only [hq363], chain hb00 (chain (chain hD349t.1 hb357) hb362)⟩
    refine w_skip ?_
    refine w_blk ?_
    refine w_seq ?_
    refine w_region ?_
    refine rw_val (v := errT ((⟨(⟨FC (rows.take j), ((FC (rows.take j)).length : Int), ((2 * j : Nat) : Int), true, arm, false, 0, false⟩ : TS), (PD (rows.take j) j).r, (PD (rows.take j) j).b⟩ : DS).addE (last.getD 0 []))) (w' := w356) rfl rfl rfl rfl rfl ?_
    refine rw_val (v := errT (some 5)) (w' := w356) rfl rfl rfl rfl (by simp [go_sem, sEv, sLook, nbeq, i64_w, -List.getD_eq_getElem?_getD, errT]) ?_
    refine rw_val (v := .bool (decide (((⟨(⟨FC (rows.take j), ((FC (rows.take j)).length : Int), ((2 * j : Nat) : Int), true, arm, false, 0, false⟩ : TS), (PD (rows.take j) j).r, (PD (rows.take j) j).b⟩ : DS).addE (last.getD 0 [])) = some 5))) (w' := w356) rfl rfl rfl rfl (run_as (guard_err_eql _ _ ((⟨(⟨FC (rows.take j), ((FC (rows.take j)).length : Int), ((2 * j : Nat) : Int), true, arm, false, 0, false⟩ : TS), (PD (rows.take j) j).r, (PD (rows.take j) j).b⟩ : DS).addE (last.getD 0 [])) 5 _)) ?_
    refine rw_val (v := .bool (decide (((⟨(⟨FC (rows.take j), ((FC (rows.take j)).length : Int), ((2 * j : Nat) : Int), true, arm, false, 0, false⟩ : TS), (PD (rows.take j) j).r, (PD (rows.take j) j).b⟩ : DS).addE (last.getD 0 [])) = some 5))) (w' := w356) rfl rfl rfl rfl rfl ?_
    have hq364 : (decide (((⟨(⟨FC (rows.take j), ((FC (rows.take j)).length : Int), ((2 * j : Nat) : Int), true, arm, false, 0, false⟩ : TS), (PD (rows.take j) j).r, (PD (rows.take j) j).b⟩ : DS).addE (last.getD 0 [])) = some 5)) = true := by rcases hct_ with ⟨h1_, _⟩ | ⟨h1_, _⟩ | ⟨h1_, _⟩; (exfalso; rw [h1_] at cN0; simp [numT] at cN0); (exfalso; rw [h1_] at cN6; simp [numT] at cN6); (rw [h1_]; simp)
    refine rw_on (c := decide (((⟨(⟨FC (rows.take j), ((FC (rows.take j)).length : Int), ((2 * j : Nat) : Int), true, arm, false, 0, false⟩ : TS), (PD (rows.take j) j).r, (PD (rows.take j) j).b⟩ : DS).addE (last.getD 0 [])) = some 5)) rfl rfl rfl (by first | (rw [hq364]; rfl) | simp [hq364]) ?_
    refine rw_val (v := .slice A342 out344.length c343) (w' := w356) rfl rfl rfl rfl rfl ?_
    refine rw_on (c := decide (((⟨(⟨FC (rows.take j), ((FC (rows.take j)).length : Int), ((2 * j : Nat) : Int), true, arm, false, 0, false⟩ : TS), (PD (rows.take j) j).r, (PD (rows.take j) j).b⟩ : DS).addE (last.getD 0 [])) = some 5)) rfl rfl rfl (by first | (rw [hq364]; rfl) | simp [hq364]) ?_
    refine rw_val (v := .slice A225 ((rows.map strOfNums).length) c226) (w' := w356) rfl rfl rfl rfl rfl ?_
    refine rw_on (c := decide (((⟨(⟨FC (rows.take j), ((FC (rows.take j)).length : Int), ((2 * j : Nat) : Int), true, arm, false, 0, false⟩ : TS), (PD (rows.take j) j).r, (PD (rows.take j) j).b⟩ : DS).addE (last.getD 0 [])) = some 5)) rfl rfl rfl (by first | (rw [hq364]; rfl) | simp [hq364]) ?_
    refine rw_call rfl rfl rfl rfl (f := 13) (args := #[.slice A342 out344.length c343, .slice A225 ((rows.map strOfNums).length) c226]) (by simp [go_sem, sEv, sLook, nbeq, i64_w, -List.getD_eq_getElem?_getD]) (same_calls w356 A342 A225 c343 c226 out344 (rows.map strOfNums) (Kd.C_below (OwnK.C (d := (Kd.slice 5 (Kd.int .u8))) hL353) hb357) (OwnK.cap (d := (Kd.slice 5 (Kd.int .u8))) hL353) (Kd.C_below (OwnK.C (d := Kd.string) hP354) hb357) (OwnK.cap (d := Kd.string) hP354) (by first | (rw [List.length_map]; omega) | (rw [List.length_append, List.length_map]; simp only [List.length_cons, List.length_nil]; omega))) ?_
    rintro e_ w365 ⟨rfl, hb366⟩
    refine ⟨_, rfl, ?_⟩
    have hs_w365 := hb366.size
    refine rw_on (c := decide (((⟨(⟨FC (rows.take j), ((FC (rows.take j)).length : Int), ((2 * j : Nat) : Int), true, arm, false, 0, false⟩ : TS), (PD (rows.take j) j).r, (PD (rows.take j) j).b⟩ : DS).addE (last.getD 0 [])) = some 5)) rfl rfl rfl (by first | (rw [hq364]; rfl) | simp [hq364]) ?_
    refine rw_val (v := .bool (decide (out344.map strOfNums = (rows.map strOfNums)))) (w' := w365) rfl rfl rfl rfl rfl ?_
    rcases bcase (decide (out344.map strOfNums = (rows.map strOfNums))) with cS | cS
    ·have l367 : ¬ (out344.map strOfNums = (rows.map strOfNums)) := of_decide_eq_false cS
     refine rw_on (c := decide (out344.map strOfNums = (rows.map strOfNums))) rfl rfl rfl (by first | (rw [cS]; rfl) | simp [cS]) ?_
     refine rw_val (v := .slice A342 out344.length c343) (w' := w365) rfl rfl rfl rfl rfl ?_
     refine rw_on (c := decide (out344.map strOfNums = (rows.map strOfNums))) rfl rfl rfl (by first | (rw [cS]; rfl) | simp [cS]) ?_
     refine rw_val (v := .slice A253 (((rows.map strOfNums) ++ ([strOfNums (last.getD 0 [])] : List ByteArray)).length) c254) (w' := w365) rfl rfl rfl rfl rfl ?_
     refine rw_on (c := decide (out344.map strOfNums = (rows.map strOfNums))) rfl rfl rfl (by first | (rw [cS]; rfl) | simp [cS]) ?_
     refine rw_call rfl rfl rfl rfl (f := 13) (args := #[.slice A342 out344.length c343, .slice A253 (((rows.map strOfNums) ++ ([strOfNums (last.getD 0 [])] : List ByteArray)).length) c254]) (by simp [go_sem, sEv, sLook, nbeq, i64_w, -List.getD_eq_getElem?_getD]) (same_calls w365 A342 A253 c343 c254 out344 ((rows.map strOfNums) ++ ([strOfNums (last.getD 0 [])] : List ByteArray)) (Kd.C_below (OwnK.C (d := (Kd.slice 5 (Kd.int .u8))) hL353) (chain hb357 hb366)) (OwnK.cap (d := (Kd.slice 5 (Kd.int .u8))) hL353) (Kd.C_below (OwnK.C (d := Kd.string) hP355) (chain hb357 hb366)) (OwnK.cap (d := Kd.string) hP355) (by first | (rw [List.length_map]; omega) | (rw [List.length_append, List.length_map]; simp only [List.length_cons, List.length_nil]; omega))) ?_
     rintro e_ w368 ⟨rfl, hb369⟩
     refine ⟨_, rfl, ?_⟩
     have hs_w368 := hb369.size
     refine rw_on (c := decide (((⟨(⟨FC (rows.take j), ((FC (rows.take j)).length : Int), ((2 * j : Nat) : Int), true, arm, false, 0, false⟩ : TS), (PD (rows.take j) j).r, (PD (rows.take j) j).b⟩ : DS).addE (last.getD 0 [])) = some 5)) rfl rfl rfl (by first | (rw [hq364]; rfl) | simp [hq364]) ?_
     refine rw_val (v := .bool (decide (out344.map strOfNums = ((rows.map strOfNums) ++ ([strOfNums (last.getD 0 [])] : List ByteArray))))) (w' := w368) rfl rfl rfl rfl (by first | (simp [go_sem, sEv, sLook, nbeq, i64_w, -List.getD_eq_getElem?_getD, cS]; done) | (rw [cS]; simp [go_sem, sEv, sLook, nbeq, i64_w, -List.getD_eq_getElem?_getD]; done) | (simp [go_sem, sEv, sLook, nbeq, i64_w, -List.getD_eq_getElem?_getD] <;> omega) | (simp [go_sem, sEv, sLook, nbeq, i64_w, -List.getD_eq_getElem?_getD]; intro h_; exact absurd (by omega) h_)) ?_
     refine rw_val (v := .bool (decide (out344.map strOfNums = ((rows.map strOfNums) ++ ([strOfNums (last.getD 0 [])] : List ByteArray))))) (w' := w368) rfl rfl rfl rfl (by first | (simp [go_sem, sEv, sLook, nbeq, i64_w, -List.getD_eq_getElem?_getD, hq364]; done) | (rw [hq364]; simp [go_sem, sEv, sLook, nbeq, i64_w, -List.getD_eq_getElem?_getD]; done) | (simp [go_sem, sEv, sLook, nbeq, i64_w, -List.getD_eq_getElem?_getD] <;> omega) | (simp [go_sem, sEv, sLook, nbeq, i64_w, -List.getD_eq_getElem?_getD]; intro h_; exact absurd (by omega) h_)) ?_
     refine rw_val (v := .bool (decide (out344.map strOfNums = ((rows.map strOfNums) ++ ([strOfNums (last.getD 0 [])] : List ByteArray))))) (w' := w368) rfl rfl rfl rfl rfl ?_
     refine rw_end ?_
     refine w_weaken (G' := [(2, .bool (decide (out344.map strOfNums = ((rows.map strOfNums) ++ ([strOfNums (last.getD 0 [])] : List ByteArray)))))]) ⟨rfl, trivial⟩ ?_
     have hq370 : (decide (out344.map strOfNums = ((rows.map strOfNums) ++ ([strOfNums (last.getD 0 [])] : List ByteArray)))) = true := by rcases hct_ with ⟨h1_, h2_⟩ | ⟨h1_, h2_⟩ | ⟨h1_, h2_ | h2_⟩; exact (by rw [h2_]; simp); (exfalso; rw [h2_] at cS; simp at cS); (exfalso; rw [h2_] at cS; simp at cS); exact (by rw [h2_]; simp)
     refine w_ret (post_ret1 rfl rfl ?_)
     exact ⟨by simp only [hq370], chain hb00 (chain (chain (chain hD349t.1 hb357) hb366) hb369)⟩
    have l371 : (out344.map strOfNums = (rows.map strOfNums)) := of_decide_eq_true cS
    refine rw_off (c := decide (out344.map strOfNums = (rows.map strOfNums))) rfl rfl rfl (by first | (rw [cS]; rfl) | simp [cS]) rfl rfl ?_
    refine rw_off (c := decide (out344.map strOfNums = (rows.map strOfNums))) rfl rfl rfl (by first | (rw [cS]; rfl) | simp [cS]) rfl rfl ?_
    refine rw_off (c := decide (out344.map strOfNums = (rows.map strOfNums))) rfl rfl rfl (by first | (rw [cS]; rfl) | simp [cS]) rfl rfl ?_
    refine rw_on (c := decide (((⟨(⟨FC (rows.take j), ((FC (rows.take j)).length : Int), ((2 * j : Nat) : Int), true, arm, false, 0, false⟩ : TS), (PD (rows.take j) j).r, (PD (rows.take j) j).b⟩ : DS).addE (last.getD 0 [])) = some 5)) rfl rfl rfl (by first | (rw [hq364]; rfl) | simp [hq364]) ?_
    refine rw_val (v := .bool true) (w' := w365) rfl rfl rfl rfl (by first | (simp [go_sem, sEv, sLook, nbeq, i64_w, -List.getD_eq_getElem?_getD, cS]; done) | (rw [cS]; simp [go_sem, sEv, sLook, nbeq, i64_w, -List.getD_eq_getElem?_getD]; done) | (simp [go_sem, sEv, sLook, nbeq, i64_w, -List.getD_eq_getElem?_getD] <;> omega) | (simp [go_sem, sEv, sLook, nbeq, i64_w, -List.getD_eq_getElem?_getD]; intro h_; exact absurd (by omega) h_)) ?_
    refine rw_val (v := .bool true) (w' := w365) rfl rfl rfl rfl (by first | (simp [go_sem, sEv, sLook, nbeq, i64_w, -List.getD_eq_getElem?_getD, hq364]; done) | (rw [hq364]; simp [go_sem, sEv, sLook, nbeq, i64_w, -List.getD_eq_getElem?_getD]; done) | (simp [go_sem, sEv, sLook, nbeq, i64_w, -List.getD_eq_getElem?_getD] <;> omega) | (simp [go_sem, sEv, sLook, nbeq, i64_w, -List.getD_eq_getElem?_getD]; intro h_; exact absurd (by omega) h_)) ?_
    refine rw_val (v := .bool true) (w' := w365) rfl rfl rfl rfl rfl ?_
    refine rw_end ?_
    refine w_weaken (G' := [(2, .bool true)]) ⟨rfl, trivial⟩ ?_
    refine w_ret (post_ret1 rfl rfl ?_)
    exact ⟨rfl, chain hb00 (chain (chain hD349t.1 hb357) hb366)⟩
   have l372 : ¬ (0 ≤ arm) := of_decide_eq_false c65
   refine w_skip ?_
   refine w_seq ?_
   refine w_seq ?_
   refine w_region ?_
   refine rw_val (v := .pointer (some ⟨gb, 4, none⟩)) (w' := w_L48) rfl rfl rfl rfl (by simp [go_sem, sEv, sLook, nbeq, i64_w, -List.getD_eq_getElem?_getD, Try.underlying45]) ?_
   refine rw_val (v := .int .i64 fail) (w' := w_L48) rfl rfl rfl rfl (by have eb_ := (hkb.on hB_L48); have e0_ := eb_.cellv (i := 4) (v := (.int .i64 fail : Value)) rfl; simp [go_sem, sEv, sLook, nbeq, i64_w, -List.getD_eq_getElem?_getD, e0_]) ?_
   refine rw_val (v := .bool (decide (0 ≤ fail))) (w' := w_L48) rfl rfl rfl rfl (by simp [go_sem, sEv, sLook, nbeq, i64_w, -List.getD_eq_getElem?_getD]) ?_
   refine rw_end ?_
   refine w_cond rfl rfl (fun c373 => ?_) (fun c373 => ?_)
   ·have l374 : (0 ≤ fail) := of_decide_eq_true c373
    refine w_region ?_
    refine rw_val (v := .pointer (some ⟨g10, 0, none⟩)) (w' := w_L48) rfl rfl rfl rfl rfl ?_
    refine rw_val (v := .pointer (some ⟨gb, 4, none⟩)) (w' := w_L48) rfl rfl rfl rfl (by simp [go_sem, sEv, sLook, nbeq, i64_w, -List.getD_eq_getElem?_getD, Try.underlying45]) ?_
    refine rw_val (v := .int .i64 fail) (w' := w_L48) rfl rfl rfl rfl (by have eb_ := (hkb.on hB_L48); have e0_ := eb_.cellv (i := 4) (v := (.int .i64 fail : Value)) rfl; simp [go_sem, sEv, sLook, nbeq, i64_w, -List.getD_eq_getElem?_getD, e0_]) ?_
    refine rw_call rfl rfl rfl rfl (f := 20) (args := #[.pointer (some ⟨g10, 0, none⟩), .int .i64 fail]) (by simp [go_sem, sEv, sLook, nbeq, i64_w, -List.getD_eq_getElem?_getD]) (fail_T w w_L48 g10 md (HX gd14 (fun _ => False)) (HX.lt (by omega) (fun q h_ => h_.elim)) ((PD (rows.take j) j).s) hEt_ (PD_ok _ _ (by omega) (by omega)) fail (by rw [decide_eq_false_iff_not]; omega)) ?_
    rintro e_ w375 ⟨rfl, hT376, hs377, hx378⟩
    refine ⟨_, rfl, ?_⟩
    have hz_w375 := hT376.size
    have hk_w375 : Blk w375 gd14 80 _ := (hx378 gd14 hEx_ hEg_).trans (hEb_)
    have hlt_w375 := hk_w375.lt
    refine rw_end ?_
    refine w_weaken (G' := [(1, .pointer (some ⟨gb, 0, none⟩)), (3, .pointer (some ⟨g10, 0, none⟩)), (4, .pointer (some ⟨gd14, 0, none⟩))]) ⟨rfl, rfl, rfl, trivial⟩ ?_
    refine w_seq ?_
    refine w_region ?_
    refine rw_val (v := .pointer (some ⟨gb, 0, none⟩)) (w' := w375) rfl rfl rfl rfl (by simp [go_sem, sEv, sLook, nbeq, i64_w, -List.getD_eq_getElem?_getD, Try.underlying45]) ?_
    refine rw_val (v := .slice A1 rows.length c1) (w' := w375) rfl rfl rfl rfl (by have eb_ := (hkb.on hT376.1); have e0_ := eb_.cellv (i := 0) (v := (.slice A1 rows.length c1 : Value)) rfl; simp [go_sem, sEv, sLook, nbeq, i64_w, -List.getD_eq_getElem?_getD, e0_, Try.underlying22]) ?_
    have ej_ : j = rows.length := by omega
    have hfc_ : FC (rows.take j) = FC rows := by rw [ej_, List.take_length]
    have hfl_ : (FC (rows.take j)).length = (FC rows).length := by rw [hfc_]
    have hr2_ : ∀ p ∈ rows, p.length ≤ 16376 := fun p hp => by have h_ := hf28 p (by rw [ej_, List.take_length]; exact hp); omega
    have hl2_ : ∀ p ∈ last, p.length ≤ 2000 := fun p hp => hf51 p (by rw [show i = last.length by omega, List.take_length]; exact hp)
    have hln_ : ∀ p ∈ last, p.length ≤ 16376 := fun p hp => Nat.le_trans (hl2_ p hp) (by decide)
    have hlF_ := FC_bound last hl2_
    have hl0a_ := hl2_ (last.getD 0 []) (getD_mem last 0 [] (by omega))
    have hl0_ : (last.getD 0 []).length ≤ 16376 := by omega
    refine rw_call rfl rfl rfl rfl (f := 14) (args := #[.slice A1 rows.length c1]) (by simp [go_sem, sEv, sLook, nbeq, i64_w, -List.getD_eq_getElem?_getD]) (texts_calls w375 A1 c1 rows (Kd.C_below hr hT376.1) hchr (by omega)) ?_
    rintro e_ w381 ⟨A379, c380, rfl, hO382, hB383⟩
    refine ⟨_, rfl, ?_⟩
    have hs_w381 := hB383.size
    have hL384 : OwnK Kd.string 9 w381 w.heap.size w375.heap.size A379 (rows.map strOfNums).length c380 (rows.map strOfNums) := OwnK.lower hO382 (by omega)
    refine rw_val (v := .slice A379 ((rows.map strOfNums).length) c380) (w' := w381) rfl rfl rfl rfl rfl ?_
    refine rw_end ?_
    refine w_weaken (G' := [(1, .pointer (some ⟨gb, 0, none⟩)), (3, .pointer (some ⟨g10, 0, none⟩)), (4, .pointer (some ⟨gd14, 0, none⟩)), (11, .slice A379 ((rows.map strOfNums).length) c380)]) ⟨rfl, rfl, rfl, rfl, trivial⟩ ?_
    refine w_seq ?_
    obtain ⟨ad392, A395, c396, hA393, he397, hle398, hC399⟩ := rows_at (Kd.C_below hl (chain hT376.1 hB383)) 0 (by first | omega | decide)
    subst hA393
    have he400 : w381.cell? (ad392) = some (.slice A395 ((last.getD 0 []).length) c396) := cell_00 he397
    refine w_drawk (M := [0, 0, 3, 0, 8, 24, 56, 120, 248, 511, 1023]) (ss := [SlcSpec w381.heap.size 9 #[] 0, Is (.slice A379 ((rows.map strOfNums).length) c380), (OwnKSpec Kd.string 9 w381.heap.size w381.heap.size (rows.map strOfNums)), Is (.pointer (some ⟨gb, 1, none⟩)), Is (.slice (some ad392) last.length c2), Is (.pointer (some (ad392))), Is (.slice A395 ((last.getD 0 []).length) c396), Is (.string (strOfNums (last.getD 0 []))), SlcSpec w381.heap.size 9 #[.string (strOfNums (last.getD 0 []))] 1]) 9 rfl (by decide +kernel) ?_
    refine t_val (SlcSpec w381.heap.size 9 #[] 0) rfl rfl rfl rfl (fun W_ hW_ F_ => slc_gives _ _ _ _ (below_of_drew hW_).size (by kernel_rfl)) ?_
    rintro _ ⟨g385, rfl⟩
    refine t_is (.slice A379 ((rows.map strOfNums).length) c380) rfl rfl rfl rfl (fun W_ hW_ F_ => rfl) ?_
    refine t_val (OwnKSpec Kd.string 9 w381.heap.size w381.heap.size (rows.map strOfNums)) rfl rfl rfl rfl (fun W_ hW_ F_ => app_gives (d := Kd.string) w381.heap.size (.tmp 95) (.tmp 96) 35 9 (.string ByteArray.empty) 16 rfl (by kernel_rfl) (by kernel_rfl) rfl (show 0 < 1 by decide) (by decide) (fun W b => (fun _ _ h => h)) (fun _ => ⟨1, by kernel_rfl⟩) rfl rfl (slc_fact (F_ 0 _ _ rfl rfl)).2 (slc_fact (F_ 0 _ _ rfl rfl)).1 (OwnK.Cn (d := Kd.string) (OwnK.on (d := Kd.string) hL384 (below_of_drew hW_))) (by first | omega | (simp only [List.length_map, List.length_append, List.length_cons, List.length_nil]; omega))) ?_
    rintro _ ⟨A388, c389, rfl, hle390⟩
    refine t_is (.pointer (some ⟨gb, 1, none⟩)) rfl rfl rfl rfl (fun W_ hW_ F_ => by simp [go_sem, sEv, sLook, nbeq, i64_w, -List.getD_eq_getElem?_getD, Try.underlying45]) ?_
    refine t_is (.slice (some ad392) last.length c2) rfl rfl rfl rfl (fun W_ hW_ F_ => by have eb_ := (((hkb.on hT376.1).on hB383).on (below_of_drew hW_)); have e0_ := eb_.cellv (i := 1) (v := (.slice (some ad392) last.length c2 : Value)) rfl; simp [go_sem, sEv, sLook, nbeq, i64_w, -List.getD_eq_getElem?_getD, e0_, Try.underlying22]) ?_
    refine t_is (.pointer (some (ad392))) rfl rfl rfl rfl (fun W_ hW_ F_ => (run_as (run_at_z (P := Try.prog) (e := 32) (sz := 1) (by kernel_rfl) (by kernel_rfl)  (by first | omega | decide) _))) ?_
    refine t_is (.slice A395 ((last.getD 0 []).length) c396) rfl rfl rfl rfl (fun W_ hW_ F_ => by have e0_ := cellOn he400 (below_of_drew hW_); simp [go_sem, sEv, sLook, nbeq, i64_w, -List.getD_eq_getElem?_getD, e0_, Try.underlying32]) ?_
    refine t_is (.string (strOfNums (last.getD 0 []))) rfl rfl rfl rfl (fun W_ hW_ F_ => (run_as (run_str_of (P := Try.prog) (e := 5) (by kernel_rfl) (by kernel_rfl) (by kernel_rfl) (Kd.C_below hC399 (chain (Below.refl _ _) (below_of_drew hW_)))))) ?_
    refine t_val (SlcSpec w381.heap.size 9 #[.string (strOfNums (last.getD 0 []))] 1) rfl rfl rfl rfl (fun W_ hW_ F_ => slc_gives _ _ _ _ (below_of_drew hW_).size (by kernel_rfl)) ?_
    rintro _ ⟨g401, rfl⟩
    refine t_tail ?_
    intro w404 hb405_ F406
    have hb405 := below_of_drew hb405_
    have hs_w404 := hb405.size
    obtain ⟨hge387, hk386⟩ := slc_fact (F406 0 _ _ rfl)
    have hlt_g385 := hk386.lt
    have hO391 : OwnK Kd.string 9 w404 w.heap.size w381.heap.size A388 (rows.map strOfNums).length c389 (rows.map strOfNums) := OwnK.lower (ownk_fact (F406 2 (OwnKSpec Kd.string 9 w381.heap.size w381.heap.size (rows.map strOfNums)) (.slice A388 (rows.map strOfNums).length c389) (by kernel_rfl))) (by omega)
    obtain ⟨hge403, hk402⟩ := slc_fact (F406 8 _ _ rfl)
    have hlt_g401 := hk402.lt
    have hk386r : OwnK Kd.string 9 w404 w.heap.size g385 (some ⟨g385, 0, none⟩) 0 0 ([] : List ByteArray) := lit_nilK _ w.heap.size hk386 (by omega)
    have hk402r : OwnK Kd.string 9 w404 w.heap.size g401 (some ⟨g401, 0, none⟩) 1 1 ([strOfNums (last.getD 0 [])] : List ByteArray) := scal_own w.heap.size hk402 (by omega) rfl rfl (by simp)
    have oA413 : OwnK Kd.string 9 w404 w.heap.size w381.heap.size A388 ((rows.map strOfNums).length) c389 (rows.map strOfNums) := hO391
    refine rw_append_kd (d := Kd.string) w.heap.size rfl rfl rfl (.tmp 97) (.tmp 103) rfl rfl 35 9 (.string ByteArray.empty) 16 rfl (by kernel_rfl) (by kernel_rfl) rfl (show 0 < 1 by decide) (by decide) (fun _ _ h => h) (b := w381.heap.size) rfl rfl (by omega) oA413 (OwnK.Cn (d := Kd.string) hk402r) (chain (chain hT376.1 hB383) hb405) (by omega) (by first | omega | (simp only [List.length_map, List.length_append, List.length_cons, List.length_nil]; omega)) ?_
    intro A407 c408 w409 hO410 hB411 hG412
    have hs_w409 := hB411.size
    have hgs_w409 := hG412.size
    have hO414 := OwnK.elder (d := Kd.string) hL384 hb405 hG412 (fun q hq => Nat.le_trans (by omega) (OwnK.blk_ge (d := Kd.string) oA413 hq))
    have hk417 := OwnK.blk_grown ((hk_w375.on hB383).on hb405) oA413 (.inr (by decide)) hG412
    have hT418 : TapeAt w w409 g10 w375.heap.size (HX gd14 (fun _ => False)) (⟨FC (rows.take j), ((FC (rows.take j)).length : Int), ((2 * j : Nat) : Int), false, 0, true, fail, false⟩ : TS) := TapeAt.grown (TapeAt.on (TapeAt.on hT376 hB383) hb405) oA413 (by omega) hB411 hG412
    refine rw_val (v := .slice A407 (((rows.map strOfNums) ++ ([strOfNums (last.getD 0 [])] : List ByteArray)).length) c408) (w' := w409) rfl rfl rfl rfl rfl ?_
    refine rw_end ?_
    refine w_weaken (G' := [(1, .pointer (some ⟨gb, 0, none⟩)), (3, .pointer (some ⟨g10, 0, none⟩)), (4, .pointer (some ⟨gd14, 0, none⟩)), (11, .slice A379 ((rows.map strOfNums).length) c380), (12, .slice A407 (((rows.map strOfNums) ++ ([strOfNums (last.getD 0 [])] : List ByteArray)).length) c408)]) ⟨rfl, rfl, rfl, rfl, rfl, trivial⟩ ?_
    refine w_seq ?_
    refine w_seq ?_
    refine w_region ?_
    refine rw_val (v := .pointer (some ⟨gb, 2, none⟩)) (w' := w409) rfl rfl rfl rfl (by simp [go_sem, sEv, sLook, nbeq, i64_w, -List.getD_eq_getElem?_getD, Try.underlying45]) ?_
    refine rw_val (v := .bool rw) (w' := w409) rfl rfl rfl rfl (by have eb_ := (hkb.on hB411); have e0_ := eb_.cellv (i := 2) (v := (.bool rw : Value)) rfl; simp [go_sem, sEv, sLook, nbeq, i64_w, -List.getD_eq_getElem?_getD, e0_]) ?_
    refine rw_end ?_
    refine w_cond rfl rfl (fun cRW => ?_) (fun cRW => ?_)
    ·refine w_seq ?_
     refine w_region ?_
     refine rw_val (v := .pointer (some ⟨gb, 1, none⟩)) (w' := w409) rfl rfl rfl rfl (by simp [go_sem, sEv, sLook, nbeq, i64_w, -List.getD_eq_getElem?_getD, Try.underlying45]) ?_
     refine rw_val (v := .slice (some ad392) last.length c2) (w' := w409) rfl rfl rfl rfl (by have eb_ := (hkb.on hB411); have e0_ := eb_.cellv (i := 1) (v := (.slice (some ad392) last.length c2 : Value)) rfl; simp [go_sem, sEv, sLook, nbeq, i64_w, -List.getD_eq_getElem?_getD, e0_, Try.underlying22]) ?_
     refine rw_call rfl rfl rfl rfl (f := 14) (args := #[.slice (some ad392) last.length c2]) (by simp [go_sem, sEv, sLook, nbeq, i64_w, -List.getD_eq_getElem?_getD]) (texts_calls w409 (some ad392) c2 last (Kd.C_below hl hB411) hchl (by omega)) ?_
     rintro e_ w421 ⟨A419, c420, rfl, hO422, hB423⟩
     refine ⟨_, rfl, ?_⟩
     have hs_w421 := hB423.size
     have hL424 : OwnK Kd.string 9 w421 w.heap.size w409.heap.size A419 (last.map strOfNums).length c420 (last.map strOfNums) := OwnK.lower hO422 (by omega)
     refine rw_val (v := .slice A419 ((last.map strOfNums).length) c420) (w' := w421) rfl rfl rfl rfl rfl ?_
     refine rw_end ?_
     refine w_weaken (G' := [(1, .pointer (some ⟨gb, 0, none⟩)), (3, .pointer (some ⟨g10, 0, none⟩)), (4, .pointer (some ⟨gd14, 0, none⟩)), (11, .slice A379 ((rows.map strOfNums).length) c380), (12, .slice A419 ((last.map strOfNums).length) c420)]) ⟨rfl, rfl, rfl, rfl, rfl, trivial⟩ ?_
     refine w_region ?_
     refine rw_val (v := .pointer (some ⟨gd14, 0, none⟩)) (w' := w421) rfl rfl rfl rfl rfl ?_
     refine rw_val (v := .pointer (some ⟨gb, 1, none⟩)) (w' := w421) rfl rfl rfl rfl (by simp [go_sem, sEv, sLook, nbeq, i64_w, -List.getD_eq_getElem?_getD, Try.underlying45]) ?_
     refine rw_val (v := .slice (some ad392) last.length c2) (w' := w421) rfl rfl rfl rfl (by have eb_ := ((hkb.on hB411).on hB423); have e0_ := eb_.cellv (i := 1) (v := (.slice (some ad392) last.length c2 : Value)) rfl; simp [go_sem, sEv, sLook, nbeq, i64_w, -List.getD_eq_getElem?_getD, e0_, Try.underlying22]) ?_
     have hX_ := cut_rw (⟨(⟨FC (rows.take j), ((FC (rows.take j)).length : Int), ((2 * j : Nat) : Int), false, 0, true, fail, false⟩ : TS), (PD (rows.take j) j).r, (PD (rows.take j) j).b⟩ : DS) rows last keep ⟨by show (0 : Int) ≤ ((2 * j : Nat) : Int) ∧ ((2 * j : Nat) : Int) ≤ 1000000000; omega, by show (0 : Int) ≤ (0 : Int) ∧ (0 : Int) ≤ 9223372036854775807; omega, by show (0 : Int) ≤ fail ∧ fail ≤ 9223372036854775807; omega, by show 0 ≤ (((FC (rows.take j)).length : Nat) : Int) ∧ (((FC (rows.take j)).length : Nat) : Int) ≤ (((FC (rows.take j)).length : Nat) : Int); omega, by show (FC (rows.take j)).length ≤ 1048576; omega⟩ (by show (FC (rows.take j)) = FC rows; exact hfc_) (by show ((FC (rows.take j)).length : Int) = ((FC rows).length : Int); rw [hfc_]) hln_ (by omega) (by show ((2 * j : Nat) : Int) ≤ 1000; omega)
     obtain ⟨X425, hX426, hC427, hX428, hX429⟩ := hX_
     have hn2_ : ∀ p ∈ last, p.length ≤ 16376 := hln_
     refine rw_call rfl rfl rfl rfl (f := 21) (args := #[.pointer (some ⟨gd14, 0, none⟩), .slice (some ad392) last.length c2]) (by simp [go_sem, sEv, sLook, nbeq, i64_w, -List.getD_eq_getElem?_getD]) (rewrite_D w w421 g10 gd14 w375.heap.size (HI gd14 w375.heap.size w421.heap.size) (HI.lt (by omega) (by omega)) (⟨(⟨FC (rows.take j), ((FC (rows.take j)).length : Int), ((2 * j : Nat) : Int), false, 0, true, fail, false⟩ : TS), (PD (rows.take j) j).r, (PD (rows.take j) j).b⟩ : DS) ⟨(TapeAt.hole (TapeAt.on hT418 hB423) (HI gd14 w375.heap.size w421.heap.size) (fun q h1 h2 h3 h4 => h4.elim (fun e => h3 (.inl e)) (fun h => by omega))), (hk417.on hB423), hEg_, hEz_, (.inl rfl)⟩ ⟨by show (0 : Int) ≤ ((2 * j : Nat) : Int) ∧ ((2 * j : Nat) : Int) ≤ 1000000000; omega, by show (0 : Int) ≤ (0 : Int) ∧ (0 : Int) ≤ 9223372036854775807; omega, by show (0 : Int) ≤ fail ∧ fail ≤ 9223372036854775807; omega, by show 0 ≤ (((FC (rows.take j)).length : Nat) : Int) ∧ (((FC (rows.take j)).length : Nat) : Int) ≤ (((FC (rows.take j)).length : Nat) : Int); omega, by show (FC (rows.take j)).length ≤ 1048576; omega⟩ (some ad392) c2 last (Kd.C_below hl (chain hB411 hB423)) hchl (by omega) (fun p hp => Nat.le_trans (hln_ p hp) (by decide))) ?_
     rintro e_ w431 ⟨rfl, m430, hD432, hs433, hk434⟩
     refine ⟨_, rfl, ?_⟩
     obtain ⟨hD432t, hD432b, hD432g, hD432z, hD432x⟩ := hD432
     have hz_w431 := hD432t.size
     have hlt_w431 := hD432b.lt
     refine rw_val (v := errT ((⟨(⟨FC (rows.take j), ((FC (rows.take j)).length : Int), ((2 * j : Nat) : Int), false, 0, true, fail, false⟩ : TS), (PD (rows.take j) j).r, (PD (rows.take j) j).b⟩ : DS).rwE last)) (w' := w431) rfl rfl rfl rfl rfl ?_
     refine rw_end ?_
     refine w_weaken (G' := [(1, .pointer (some ⟨gb, 0, none⟩)), (3, .pointer (some ⟨g10, 0, none⟩)), (6, errT ((⟨(⟨FC (rows.take j), ((FC (rows.take j)).length : Int), ((2 * j : Nat) : Int), false, 0, true, fail, false⟩ : TS), (PD (rows.take j) j).r, (PD (rows.take j) j).b⟩ : DS).rwE last)), (11, .slice A379 ((rows.map strOfNums).length) c380), (12, .slice A419 ((last.map strOfNums).length) c420)]) ⟨rfl, rfl, rfl, rfl, rfl, trivial⟩ ?_
     refine w_seq ?_
     refine w_region ?_
     refine rw_val (v := .pointer (some ⟨g10, 0, none⟩)) (w' := w431) rfl rfl rfl rfl rfl ?_
     refine rw_val (v := .pointer (some ⟨gb, 5, none⟩)) (w' := w431) rfl rfl rfl rfl (by simp [go_sem, sEv, sLook, nbeq, i64_w, -List.getD_eq_getElem?_getD, Try.underlying45]) ?_
     refine rw_val (v := .int .i64 keep) (w' := w431) rfl rfl rfl rfl (by have eb_ := (hkb.on hD432t.1); have e0_ := eb_.cellv (i := 5) (v := (.int .i64 keep : Value)) rfl; simp [go_sem, sEv, sLook, nbeq, i64_w, -List.getD_eq_getElem?_getD, e0_]) ?_
     refine rw_call rfl rfl rfl rfl (f := 22) (args := #[.pointer (some ⟨g10, 0, none⟩), .int .i64 keep]) (by simp [go_sem, sEv, sLook, nbeq, i64_w, -List.getD_eq_getElem?_getD]) (crash_T w w431 g10 m430 (HI gd14 w375.heap.size w421.heap.size) (HI.lt (by omega) (by omega)) (((⟨(⟨FC (rows.take j), ((FC (rows.take j)).length : Int), ((2 * j : Nat) : Int), false, 0, true, fail, false⟩ : TS), (PD (rows.take j) j).r, (PD (rows.take j) j).b⟩ : DS).rw last).s) hD432t hX428 keep) ?_
     rintro e_ w435 ⟨rfl, hT436, hs437, hx438⟩
     refine ⟨.tuple #[], rfl, ?_⟩
     rw [hX426] at hT436
     have hz_w435 := hT436.size
     have hk_w435 : Blk w435 gd14 80 _ := (hx438 gd14 hD432x hD432g).trans (hD432b)
     have hlt_w435 := hk_w435.lt
     refine rw_end ?_
     refine w_weaken (G' := [(3, .pointer (some ⟨g10, 0, none⟩)), (6, errT ((⟨(⟨FC (rows.take j), ((FC (rows.take j)).length : Int), ((2 * j : Nat) : Int), false, 0, true, fail, false⟩ : TS), (PD (rows.take j) j).r, (PD (rows.take j) j).b⟩ : DS).rwE last)), (11, .slice A379 ((rows.map strOfNums).length) c380), (12, .slice A419 ((last.map strOfNums).length) c420)]) ⟨rfl, rfl, rfl, rfl, trivial⟩ ?_
     refine w_seq ?_
     refine w_region ?_
     refine rw_val (v := .pointer (some ⟨g10, 0, none⟩)) (w' := w435) rfl rfl rfl rfl rfl ?_
     refine rw_call rfl rfl rfl rfl (f := 11) (args := #[.pointer (some ⟨g10, 0, none⟩)]) (by simp [go_sem, sEv, sLook, nbeq, i64_w, -List.getD_eq_getElem?_getD]) (open_cut w w435 g10 w435.heap.size (HI gd14 w375.heap.size w421.heap.size) (HI.lt (by omega) (by omega)) X425 ((⟨(⟨FC (rows.take j), ((FC (rows.take j)).length : Int), ((2 * j : Nat) : Int), false, 0, true, fail, false⟩ : TS), (PD (rows.take j) j).r, (PD (rows.take j) j).b⟩ : DS).rw last).s.steps hT436 ⟨hX428.steps.1, hX429⟩ (cut_len hC427 (by omega) (by omega)) (cut_bytes hC427 hby hbl)) ?_
     rintro e_ w446 ⟨gd439, m440, A441, c442, out443, n444, s445, rfl, hS447, hD448, hO449, hs450, hK451⟩
     refine ⟨_, rfl, ?_⟩
     obtain ⟨hD448t, hD448b, hD448g, hD448z, hD448x⟩ := hD448
     have hz_w446 := hD448t.size
     have hlt_w446 := hD448b.lt
     have hL452 : OwnK (Kd.slice 5 (Kd.int .u8)) 32 w446 w.heap.size w.heap.size A441 out443.length c442 out443 := OwnK.mono (d := (Kd.slice 5 (Kd.int .u8))) (OwnK.lower (d := (Kd.slice 5 (Kd.int .u8))) hO449 (by omega)) (by omega)
     have hct_ := cut_told hC427 hr2_ hn2_ hS447
     have hP453 : OwnK Kd.string 9 w446 w.heap.size w375.heap.size A379 ((rows.map strOfNums).length) c380 (rows.map strOfNums) := OwnK.step (d := Kd.string) (OwnK.on (d := Kd.string) hO414 hB423) (fun q hq hlt => by have hq_ : (HI gd14 w375.heap.size w421.heap.size) q := .inr ⟨(by omega), hlt⟩; have hqg : q ≠ g10 := (by omega); have hqd : q ≠ gd14 := (by omega); exact ((hK451.2 q (by omega) hqg).trans ((hx438 q hq_ hqg).trans (hk434 q hq_ hqg hqd))))
     have hP454 : OwnK Kd.string 9 w446 w.heap.size w409.heap.size A419 ((last.map strOfNums).length) c420 (last.map strOfNums) := OwnK.step (d := Kd.string) hL424 (fun q hq hlt => by have hq_ : (HI gd14 w375.heap.size w421.heap.size) q := .inr ⟨(by omega), hlt⟩; have hqg : q ≠ g10 := (by omega); have hqd : q ≠ gd14 := (by omega); exact ((hK451.2 q (by omega) hqg).trans ((hx438 q hq_ hqg).trans (hk434 q hq_ hqg hqd))))
     refine rw_val (v := .tuple #[.pointer (some ⟨gd439, 0, none⟩), .slice A441 out443.length c442, errT none]) (w' := w446) rfl rfl rfl rfl rfl ?_
     refine rw_val (v := .pointer (some ⟨gd439, 0, none⟩)) (w' := w446) rfl rfl rfl rfl (by simp [go_sem, sEv, sLook, nbeq, i64_w, -List.getD_eq_getElem?_getD]) ?_
     refine rw_val (v := .slice A441 out443.length c442) (w' := w446) rfl rfl rfl rfl (by simp [go_sem, sEv, sLook, nbeq, i64_w, -List.getD_eq_getElem?_getD]) ?_
     refine rw_val (v := errT none) (w' := w446) rfl rfl rfl rfl (by simp [go_sem, sEv, sLook, nbeq, i64_w, -List.getD_eq_getElem?_getD]) ?_
     refine rw_val (v := .pointer (some ⟨gd439, 0, none⟩)) (w' := w446) rfl rfl rfl rfl rfl ?_
     refine rw_val (v := .slice A441 out443.length c442) (w' := w446) rfl rfl rfl rfl rfl ?_
     refine rw_val (v := errT none) (w' := w446) rfl rfl rfl rfl rfl ?_
     refine rw_end ?_
     refine w_weaken (G' := [(6, errT ((⟨(⟨FC (rows.take j), ((FC (rows.take j)).length : Int), ((2 * j : Nat) : Int), false, 0, true, fail, false⟩ : TS), (PD (rows.take j) j).r, (PD (rows.take j) j).b⟩ : DS).rwE last)), (11, .slice A379 ((rows.map strOfNums).length) c380), (12, .slice A419 ((last.map strOfNums).length) c420), (14, .slice A441 out443.length c442), (15, errT none)]) ⟨rfl, rfl, rfl, rfl, rfl, trivial⟩ ?_
     refine w_seq ?_
     refine w_seq ?_
     refine w_region ?_
     refine rw_val (v := errT none) (w' := w446) rfl rfl rfl rfl rfl ?_
     refine rw_val (v := .bool ((none : Option Int).isSome)) (w' := w446) rfl rfl rfl rfl (run_as (guard_err_neq _ (none : Option Int) _)) ?_
     refine rw_end ?_
     refine w_cond_f rfl rfl hq24 ?_
     refine w_skip ?_
     refine w_seq ?_
     refine w_seq ?_
     refine w_region ?_
     refine rw_val (v := errT ((⟨(⟨FC (rows.take j), ((FC (rows.take j)).length : Int), ((2 * j : Nat) : Int), false, 0, true, fail, false⟩ : TS), (PD (rows.take j) j).r, (PD (rows.take j) j).b⟩ : DS).rwE last)) (w' := w446) rfl rfl rfl rfl rfl ?_
     refine rw_call rfl rfl rfl rfl (f := 23) (args := #[errT ((⟨(⟨FC (rows.take j), ((FC (rows.take j)).length : Int), ((2 * j : Nat) : Int), false, 0, true, fail, false⟩ : TS), (PD (rows.take j) j).r, (PD (rows.take j) j).b⟩ : DS).rwE last)]) (by simp [go_sem, sEv, sLook, nbeq, i64_w, -List.getD_eq_getElem?_getD]) (num_T ((⟨(⟨FC (rows.take j), ((FC (rows.take j)).length : Int), ((2 * j : Nat) : Int), false, 0, true, fail, false⟩ : TS), (PD (rows.take j) j).r, (PD (rows.take j) j).b⟩ : DS).rwE last) (cut_num hC427) w446) ?_
     rintro e_ w455 ⟨rfl, hb456⟩
     refine ⟨_, rfl, ?_⟩
     have hs_w455 := hb456.size
     refine rw_end ?_
     refine w_block ?_
     refine w_seq ?_
     refine w_region ?_
     refine rw_val (v := .bool ((numT ((⟨(⟨FC (rows.take j), ((FC (rows.take j)).length : Int), ((2 * j : Nat) : Int), false, 0, true, fail, false⟩ : TS), (PD (rows.take j) j).r, (PD (rows.take j) j).b⟩ : DS).rwE last)) == 0)) (w' := w455) rfl rfl rfl rfl (by simp [go_sem, sEv, sLook, nbeq, i64_w, -List.getD_eq_getElem?_getD]) ?_
     refine rw_val (v := .bool ((numT ((⟨(⟨FC (rows.take j), ((FC (rows.take j)).length : Int), ((2 * j : Nat) : Int), false, 0, true, fail, false⟩ : TS), (PD (rows.take j) j).r, (PD (rows.take j) j).b⟩ : DS).rwE last)) == 0)) (w' := w455) rfl rfl rfl rfl rfl ?_
     refine rw_end ?_
     refine w_cond rfl rfl (fun cN0 => ?_) (fun cN0 => ?_)
     ·refine w_seq ?_
      refine w_region ?_
      refine rw_val (v := .slice A441 out443.length c442) (w' := w455) rfl rfl rfl rfl rfl ?_
      refine rw_val (v := .slice A419 ((last.map strOfNums).length) c420) (w' := w455) rfl rfl rfl rfl rfl ?_
      refine rw_call rfl rfl rfl rfl (f := 13) (args := #[.slice A441 out443.length c442, .slice A419 ((last.map strOfNums).length) c420]) (by simp [go_sem, sEv, sLook, nbeq, i64_w, -List.getD_eq_getElem?_getD]) (same_calls w455 A441 A419 c442 c420 out443 (last.map strOfNums) (Kd.C_below (OwnK.C (d := (Kd.slice 5 (Kd.int .u8))) hL452) hb456) (OwnK.cap (d := (Kd.slice 5 (Kd.int .u8))) hL452) (Kd.C_below (OwnK.C (d := Kd.string) hP454) hb456) (OwnK.cap (d := Kd.string) hP454) (by first | (rw [List.length_map]; omega) | (rw [List.length_append, List.length_map]; simp only [List.length_cons, List.length_nil]; omega))) ?_
      rintro e_ w457 ⟨rfl, hb458⟩
      refine ⟨_, rfl, ?_⟩
      have hs_w457 := hb458.size
      refine rw_val (v := .bool (decide (out443.map strOfNums = (last.map strOfNums)))) (w' := w457) rfl rfl rfl rfl rfl ?_
      refine rw_end ?_
      refine w_weaken (G' := [(2, .bool (decide (out443.map strOfNums = (last.map strOfNums)))), (6, errT ((⟨(⟨FC (rows.take j), ((FC (rows.take j)).length : Int), ((2 * j : Nat) : Int), false, 0, true, fail, false⟩ : TS), (PD (rows.take j) j).r, (PD (rows.take j) j).b⟩ : DS).rwE last)), (11, .slice A379 ((rows.map strOfNums).length) c380), (12, .slice A419 ((last.map strOfNums).length) c420), (14, .slice A441 out443.length c442)]) ⟨rfl, rfl, rfl, rfl, rfl, trivial⟩ ?_
      have hq459 : (decide (out443.map strOfNums = (last.map strOfNums))) = true := by rcases hct_ with ⟨h1_, h2_⟩ | ⟨h1_, _⟩ | ⟨h1_, _⟩; exact (by rw [h2_]; simp); all_goals (exfalso; rw [h1_] at cN0; simp [numT] at cN0)
      refine w_ret (post_ret1 rfl rfl ?_)
      exact ⟨by simp only [hq459], chain hb00 (chain (chain hD448t.1 hb456) hb458)⟩
     refine w_seq ?_
     refine w_region ?_
     refine rw_val (v := .bool ((numT ((⟨(⟨FC (rows.take j), ((FC (rows.take j)).length : Int), ((2 * j : Nat) : Int), false, 0, true, fail, false⟩ : TS), (PD (rows.take j) j).r, (PD (rows.take j) j).b⟩ : DS).rwE last)) == 6)) (w' := w455) rfl rfl rfl rfl (by simp [go_sem, sEv, sLook, nbeq, i64_w, -List.getD_eq_getElem?_getD]) ?_
     refine rw_val (v := .bool ((numT ((⟨(⟨FC (rows.take j), ((FC (rows.take j)).length : Int), ((2 * j : Nat) : Int), false, 0, true, fail, false⟩ : TS), (PD (rows.take j) j).r, (PD (rows.take j) j).b⟩ : DS).rwE last)) == 6)) (w' := w455) rfl rfl rfl rfl rfl ?_
     refine rw_end ?_
     refine w_cond rfl rfl (fun cN6 => ?_) (fun cN6 => ?_)
     ·refine w_seq ?_
      refine w_region ?_
      refine rw_val (v := .slice A441 out443.length c442) (w' := w455) rfl rfl rfl rfl rfl ?_
      refine rw_val (v := .slice A379 ((rows.map strOfNums).length) c380) (w' := w455) rfl rfl rfl rfl rfl ?_
      refine rw_call rfl rfl rfl rfl (f := 13) (args := #[.slice A441 out443.length c442, .slice A379 ((rows.map strOfNums).length) c380]) (by simp [go_sem, sEv, sLook, nbeq, i64_w, -List.getD_eq_getElem?_getD]) (same_calls w455 A441 A379 c442 c380 out443 (rows.map strOfNums) (Kd.C_below (OwnK.C (d := (Kd.slice 5 (Kd.int .u8))) hL452) hb456) (OwnK.cap (d := (Kd.slice 5 (Kd.int .u8))) hL452) (Kd.C_below (OwnK.C (d := Kd.string) hP453) hb456) (OwnK.cap (d := Kd.string) hP453) (by first | (rw [List.length_map]; omega) | (rw [List.length_append, List.length_map]; simp only [List.length_cons, List.length_nil]; omega))) ?_
      rintro e_ w460 ⟨rfl, hb461⟩
      refine ⟨_, rfl, ?_⟩
      have hs_w460 := hb461.size
      refine rw_val (v := .bool (decide (out443.map strOfNums = (rows.map strOfNums)))) (w' := w460) rfl rfl rfl rfl rfl ?_
      refine rw_end ?_
      refine w_weaken (G' := [(2, .bool (decide (out443.map strOfNums = (rows.map strOfNums)))), (6, errT ((⟨(⟨FC (rows.take j), ((FC (rows.take j)).length : Int), ((2 * j : Nat) : Int), false, 0, true, fail, false⟩ : TS), (PD (rows.take j) j).r, (PD (rows.take j) j).b⟩ : DS).rwE last)), (11, .slice A379 ((rows.map strOfNums).length) c380), (12, .slice A419 ((last.map strOfNums).length) c420), (14, .slice A441 out443.length c442)]) ⟨rfl, rfl, rfl, rfl, rfl, trivial⟩ ?_
      have hq462 : (decide (out443.map strOfNums = (rows.map strOfNums))) = true := by rcases hct_ with ⟨h1_, _⟩ | ⟨h1_, h2_⟩ | ⟨h1_, _⟩; (exfalso; rw [h1_] at cN6; simp [numT] at cN6); exact (by rw [h2_]; simp); (exfalso; rw [h1_] at cN6; simp [numT] at cN6)
      refine w_ret (post_ret1 rfl rfl ?_)
      exact ⟨by simp only [hq462], chain hb00 (chain (chain hD448t.1 hb456) hb461)⟩
     refine w_skip ?_
     refine w_blk ?_
     refine w_seq ?_
     refine w_region ?_
     refine rw_val (v := errT ((⟨(⟨FC (rows.take j), ((FC (rows.take j)).length : Int), ((2 * j : Nat) : Int), false, 0, true, fail, false⟩ : TS), (PD (rows.take j) j).r, (PD (rows.take j) j).b⟩ : DS).rwE last)) (w' := w455) rfl rfl rfl rfl rfl ?_
     refine rw_val (v := errT (some 5)) (w' := w455) rfl rfl rfl rfl (by simp [go_sem, sEv, sLook, nbeq, i64_w, -List.getD_eq_getElem?_getD, errT]) ?_
     refine rw_val (v := .bool (decide (((⟨(⟨FC (rows.take j), ((FC (rows.take j)).length : Int), ((2 * j : Nat) : Int), false, 0, true, fail, false⟩ : TS), (PD (rows.take j) j).r, (PD (rows.take j) j).b⟩ : DS).rwE last) = some 5))) (w' := w455) rfl rfl rfl rfl (run_as (guard_err_eql _ _ ((⟨(⟨FC (rows.take j), ((FC (rows.take j)).length : Int), ((2 * j : Nat) : Int), false, 0, true, fail, false⟩ : TS), (PD (rows.take j) j).r, (PD (rows.take j) j).b⟩ : DS).rwE last) 5 _)) ?_
     refine rw_val (v := .bool (decide (((⟨(⟨FC (rows.take j), ((FC (rows.take j)).length : Int), ((2 * j : Nat) : Int), false, 0, true, fail, false⟩ : TS), (PD (rows.take j) j).r, (PD (rows.take j) j).b⟩ : DS).rwE last) = some 5))) (w' := w455) rfl rfl rfl rfl rfl ?_
     have hq463 : (decide (((⟨(⟨FC (rows.take j), ((FC (rows.take j)).length : Int), ((2 * j : Nat) : Int), false, 0, true, fail, false⟩ : TS), (PD (rows.take j) j).r, (PD (rows.take j) j).b⟩ : DS).rwE last) = some 5)) = true := by rcases hct_ with ⟨h1_, _⟩ | ⟨h1_, _⟩ | ⟨h1_, _⟩; (exfalso; rw [h1_] at cN0; simp [numT] at cN0); (exfalso; rw [h1_] at cN6; simp [numT] at cN6); (rw [h1_]; simp)
     refine rw_on (c := decide (((⟨(⟨FC (rows.take j), ((FC (rows.take j)).length : Int), ((2 * j : Nat) : Int), false, 0, true, fail, false⟩ : TS), (PD (rows.take j) j).r, (PD (rows.take j) j).b⟩ : DS).rwE last) = some 5)) rfl rfl rfl (by first | (rw [hq463]; rfl) | simp [hq463]) ?_
     refine rw_val (v := .slice A441 out443.length c442) (w' := w455) rfl rfl rfl rfl rfl ?_
     refine rw_on (c := decide (((⟨(⟨FC (rows.take j), ((FC (rows.take j)).length : Int), ((2 * j : Nat) : Int), false, 0, true, fail, false⟩ : TS), (PD (rows.take j) j).r, (PD (rows.take j) j).b⟩ : DS).rwE last) = some 5)) rfl rfl rfl (by first | (rw [hq463]; rfl) | simp [hq463]) ?_
     refine rw_val (v := .slice A379 ((rows.map strOfNums).length) c380) (w' := w455) rfl rfl rfl rfl rfl ?_
     refine rw_on (c := decide (((⟨(⟨FC (rows.take j), ((FC (rows.take j)).length : Int), ((2 * j : Nat) : Int), false, 0, true, fail, false⟩ : TS), (PD (rows.take j) j).r, (PD (rows.take j) j).b⟩ : DS).rwE last) = some 5)) rfl rfl rfl (by first | (rw [hq463]; rfl) | simp [hq463]) ?_
     refine rw_call rfl rfl rfl rfl (f := 13) (args := #[.slice A441 out443.length c442, .slice A379 ((rows.map strOfNums).length) c380]) (by simp [go_sem, sEv, sLook, nbeq, i64_w, -List.getD_eq_getElem?_getD]) (same_calls w455 A441 A379 c442 c380 out443 (rows.map strOfNums) (Kd.C_below (OwnK.C (d := (Kd.slice 5 (Kd.int .u8))) hL452) hb456) (OwnK.cap (d := (Kd.slice 5 (Kd.int .u8))) hL452) (Kd.C_below (OwnK.C (d := Kd.string) hP453) hb456) (OwnK.cap (d := Kd.string) hP453) (by first | (rw [List.length_map]; omega) | (rw [List.length_append, List.length_map]; simp only [List.length_cons, List.length_nil]; omega))) ?_
     rintro e_ w464 ⟨rfl, hb465⟩
     refine ⟨_, rfl, ?_⟩
     have hs_w464 := hb465.size
     refine rw_on (c := decide (((⟨(⟨FC (rows.take j), ((FC (rows.take j)).length : Int), ((2 * j : Nat) : Int), false, 0, true, fail, false⟩ : TS), (PD (rows.take j) j).r, (PD (rows.take j) j).b⟩ : DS).rwE last) = some 5)) rfl rfl rfl (by first | (rw [hq463]; rfl) | simp [hq463]) ?_
     refine rw_val (v := .bool (decide (out443.map strOfNums = (rows.map strOfNums)))) (w' := w464) rfl rfl rfl rfl rfl ?_
     rcases bcase (decide (out443.map strOfNums = (rows.map strOfNums))) with cS | cS
     ·have l466 : ¬ (out443.map strOfNums = (rows.map strOfNums)) := of_decide_eq_false cS
      refine rw_on (c := decide (out443.map strOfNums = (rows.map strOfNums))) rfl rfl rfl (by first | (rw [cS]; rfl) | simp [cS]) ?_
      refine rw_val (v := .slice A441 out443.length c442) (w' := w464) rfl rfl rfl rfl rfl ?_
      refine rw_on (c := decide (out443.map strOfNums = (rows.map strOfNums))) rfl rfl rfl (by first | (rw [cS]; rfl) | simp [cS]) ?_
      refine rw_val (v := .slice A419 ((last.map strOfNums).length) c420) (w' := w464) rfl rfl rfl rfl rfl ?_
      refine rw_on (c := decide (out443.map strOfNums = (rows.map strOfNums))) rfl rfl rfl (by first | (rw [cS]; rfl) | simp [cS]) ?_
      refine rw_call rfl rfl rfl rfl (f := 13) (args := #[.slice A441 out443.length c442, .slice A419 ((last.map strOfNums).length) c420]) (by simp [go_sem, sEv, sLook, nbeq, i64_w, -List.getD_eq_getElem?_getD]) (same_calls w464 A441 A419 c442 c420 out443 (last.map strOfNums) (Kd.C_below (OwnK.C (d := (Kd.slice 5 (Kd.int .u8))) hL452) (chain hb456 hb465)) (OwnK.cap (d := (Kd.slice 5 (Kd.int .u8))) hL452) (Kd.C_below (OwnK.C (d := Kd.string) hP454) (chain hb456 hb465)) (OwnK.cap (d := Kd.string) hP454) (by first | (rw [List.length_map]; omega) | (rw [List.length_append, List.length_map]; simp only [List.length_cons, List.length_nil]; omega))) ?_
      rintro e_ w467 ⟨rfl, hb468⟩
      refine ⟨_, rfl, ?_⟩
      have hs_w467 := hb468.size
      refine rw_on (c := decide (((⟨(⟨FC (rows.take j), ((FC (rows.take j)).length : Int), ((2 * j : Nat) : Int), false, 0, true, fail, false⟩ : TS), (PD (rows.take j) j).r, (PD (rows.take j) j).b⟩ : DS).rwE last) = some 5)) rfl rfl rfl (by first | (rw [hq463]; rfl) | simp [hq463]) ?_
      refine rw_val (v := .bool (decide (out443.map strOfNums = (last.map strOfNums)))) (w' := w467) rfl rfl rfl rfl (by first | (simp [go_sem, sEv, sLook, nbeq, i64_w, -List.getD_eq_getElem?_getD, cS]; done) | (rw [cS]; simp [go_sem, sEv, sLook, nbeq, i64_w, -List.getD_eq_getElem?_getD]; done) | (simp [go_sem, sEv, sLook, nbeq, i64_w, -List.getD_eq_getElem?_getD] <;> omega) | (simp [go_sem, sEv, sLook, nbeq, i64_w, -List.getD_eq_getElem?_getD]; intro h_; exact absurd (by omega) h_)) ?_
      refine rw_val (v := .bool (decide (out443.map strOfNums = (last.map strOfNums)))) (w' := w467) rfl rfl rfl rfl (by first | (simp [go_sem, sEv, sLook, nbeq, i64_w, -List.getD_eq_getElem?_getD, hq463]; done) | (rw [hq463]; simp [go_sem, sEv, sLook, nbeq, i64_w, -List.getD_eq_getElem?_getD]; done) | (simp [go_sem, sEv, sLook, nbeq, i64_w, -List.getD_eq_getElem?_getD] <;> omega) | (simp [go_sem, sEv, sLook, nbeq, i64_w, -List.getD_eq_getElem?_getD]; intro h_; exact absurd (by omega) h_)) ?_
      refine rw_val (v := .bool (decide (out443.map strOfNums = (last.map strOfNums)))) (w' := w467) rfl rfl rfl rfl rfl ?_
      refine rw_end ?_
      refine w_weaken (G' := [(2, .bool (decide (out443.map strOfNums = (last.map strOfNums))))]) ⟨rfl, trivial⟩ ?_
      have hq469 : (decide (out443.map strOfNums = (last.map strOfNums))) = true := by rcases hct_ with ⟨h1_, h2_⟩ | ⟨h1_, h2_⟩ | ⟨h1_, h2_ | h2_⟩; exact (by rw [h2_]; simp); (exfalso; rw [h2_] at cS; simp at cS); (exfalso; rw [h2_] at cS; simp at cS); exact (by rw [h2_]; simp)
      refine w_ret (post_ret1 rfl rfl ?_)
      exact ⟨by simp only [hq469], chain hb00 (chain (chain (chain hD448t.1 hb456) hb465) hb468)⟩
     have l470 : (out443.map strOfNums = (rows.map strOfNums)) := of_decide_eq_true cS
     refine rw_off (c := decide (out443.map strOfNums = (rows.map strOfNums))) rfl rfl rfl (by first | (rw [cS]; rfl) | simp [cS]) rfl rfl ?_
     refine rw_off (c := decide (out443.map strOfNums = (rows.map strOfNums))) rfl rfl rfl (by first | (rw [cS]; rfl) | simp [cS]) rfl rfl ?_
     refine rw_off (c := decide (out443.map strOfNums = (rows.map strOfNums))) rfl rfl rfl (by first | (rw [cS]; rfl) | simp [cS]) rfl rfl ?_
     refine rw_on (c := decide (((⟨(⟨FC (rows.take j), ((FC (rows.take j)).length : Int), ((2 * j : Nat) : Int), false, 0, true, fail, false⟩ : TS), (PD (rows.take j) j).r, (PD (rows.take j) j).b⟩ : DS).rwE last) = some 5)) rfl rfl rfl (by first | (rw [hq463]; rfl) | simp [hq463]) ?_
     refine rw_val (v := .bool true) (w' := w464) rfl rfl rfl rfl (by first | (simp [go_sem, sEv, sLook, nbeq, i64_w, -List.getD_eq_getElem?_getD, cS]; done) | (rw [cS]; simp [go_sem, sEv, sLook, nbeq, i64_w, -List.getD_eq_getElem?_getD]; done) | (simp [go_sem, sEv, sLook, nbeq, i64_w, -List.getD_eq_getElem?_getD] <;> omega) | (simp [go_sem, sEv, sLook, nbeq, i64_w, -List.getD_eq_getElem?_getD]; intro h_; exact absurd (by omega) h_)) ?_
     refine rw_val (v := .bool true) (w' := w464) rfl rfl rfl rfl (by first | (simp [go_sem, sEv, sLook, nbeq, i64_w, -List.getD_eq_getElem?_getD, hq463]; done) | (rw [hq463]; simp [go_sem, sEv, sLook, nbeq, i64_w, -List.getD_eq_getElem?_getD]; done) | (simp [go_sem, sEv, sLook, nbeq, i64_w, -List.getD_eq_getElem?_getD] <;> omega) | (simp [go_sem, sEv, sLook, nbeq, i64_w, -List.getD_eq_getElem?_getD]; intro h_; exact absurd (by omega) h_)) ?_
     refine rw_val (v := .bool true) (w' := w464) rfl rfl rfl rfl rfl ?_
     refine rw_end ?_
     refine w_weaken (G' := [(2, .bool true)]) ⟨rfl, trivial⟩ ?_
     refine w_ret (post_ret1 rfl rfl ?_)
     exact ⟨rfl, chain hb00 (chain (chain hD448t.1 hb456) hb465)⟩
    refine w_region ?_
    refine rw_val (v := .pointer (some ⟨gd14, 0, none⟩)) (w' := w409) rfl rfl rfl rfl rfl ?_
    refine rw_val (v := .pointer (some ⟨gb, 1, none⟩)) (w' := w409) rfl rfl rfl rfl (by simp [go_sem, sEv, sLook, nbeq, i64_w, -List.getD_eq_getElem?_getD, Try.underlying45]) ?_
    refine rw_val (v := .slice (some ad392) last.length c2) (w' := w409) rfl rfl rfl rfl (by have eb_ := (hkb.on hB411); have e0_ := eb_.cellv (i := 1) (v := (.slice (some ad392) last.length c2 : Value)) rfl; simp [go_sem, sEv, sLook, nbeq, i64_w, -List.getD_eq_getElem?_getD, e0_, Try.underlying22]) ?_
    obtain ⟨hc473a, A474, c475, hA472, he476, hle477, hC478⟩ := rows_at (Kd.C_below hl hB411) 0 (by first | omega | decide)
    obtain rfl := Option.some.inj hA472
    have he479 : w409.cell? (ad392) = some (.slice A474 ((last.getD 0 []).length) c475) := cell_00 he476
    refine rw_val (v := .pointer (some (ad392))) (w' := w409) rfl rfl rfl rfl (run_as (run_at_z (P := Try.prog) (e := 32) (sz := 1) (by kernel_rfl) (by kernel_rfl)  (by first | omega | decide) _)) ?_
    refine rw_val (v := .slice A474 ((last.getD 0 []).length) c475) (w' := w409) rfl rfl rfl rfl (by have e0_ := cellOn he479 (Below.refl _ _); simp [go_sem, sEv, sLook, nbeq, i64_w, -List.getD_eq_getElem?_getD, e0_, Try.underlying32]) ?_
    have hX_ := cut_add (⟨(⟨FC (rows.take j), ((FC (rows.take j)).length : Int), ((2 * j : Nat) : Int), false, 0, true, fail, false⟩ : TS), (PD (rows.take j) j).r, (PD (rows.take j) j).b⟩ : DS) rows (last.getD 0 []) keep ⟨by show (0 : Int) ≤ ((2 * j : Nat) : Int) ∧ ((2 * j : Nat) : Int) ≤ 1000000000; omega, by show (0 : Int) ≤ (0 : Int) ∧ (0 : Int) ≤ 9223372036854775807; omega, by show (0 : Int) ≤ fail ∧ fail ≤ 9223372036854775807; omega, by show 0 ≤ (((FC (rows.take j)).length : Nat) : Int) ∧ (((FC (rows.take j)).length : Nat) : Int) ≤ (((FC (rows.take j)).length : Nat) : Int); omega, by show (FC (rows.take j)).length ≤ 1048576; omega⟩ (by show (FC (rows.take j)) = FC rows; exact hfc_) (by show ((FC (rows.take j)).length : Int) = ((FC rows).length : Int); rw [hfc_]) hl0_ (by omega) (by show ((2 * j : Nat) : Int) ≤ 1000; omega)
    obtain ⟨X480, hX481, hC482, hX483, hX484⟩ := hX_
    have hn2_ : ∀ p ∈ (rows ++ [(last.getD 0 [])]), p.length ≤ 16376 := fun p hp => (List.mem_append.1 hp).elim (hr2_ p) (fun hp => by rw [List.mem_singleton.1 hp]; exact hl0_)
    refine rw_call rfl rfl rfl rfl (f := 12) (args := #[.pointer (some ⟨gd14, 0, none⟩), .slice A474 ((last.getD 0 []).length) c475]) (by simp [go_sem, sEv, sLook, nbeq, i64_w, -List.getD_eq_getElem?_getD]) (add_D w w409 g10 gd14 w375.heap.size (HI gd14 w375.heap.size w409.heap.size) (HI.lt (by omega) (by omega)) (⟨(⟨FC (rows.take j), ((FC (rows.take j)).length : Int), ((2 * j : Nat) : Int), false, 0, true, fail, false⟩ : TS), (PD (rows.take j) j).r, (PD (rows.take j) j).b⟩ : DS) ⟨(TapeAt.hole hT418 (HI gd14 w375.heap.size w409.heap.size) (fun q h1 h2 h3 h4 => h4.elim (fun e => h3 (.inl e)) (fun h => by omega))), hk417, hEg_, hEz_, (.inl rfl)⟩ ⟨by show (0 : Int) ≤ ((2 * j : Nat) : Int) ∧ ((2 * j : Nat) : Int) ≤ 1000000000; omega, by show (0 : Int) ≤ (0 : Int) ∧ (0 : Int) ≤ 9223372036854775807; omega, by show (0 : Int) ≤ fail ∧ fail ≤ 9223372036854775807; omega, by show 0 ≤ (((FC (rows.take j)).length : Nat) : Int) ∧ (((FC (rows.take j)).length : Nat) : Int) ≤ (((FC (rows.take j)).length : Nat) : Int); omega, by show (FC (rows.take j)).length ≤ 1048576; omega⟩ (by show ((2 * j : Nat) : Int) ≤ 999999990; omega) (show -1000000000 ≤ (((rows.take j).length : Nat) : Int) ∧ (((rows.take j).length : Nat) : Int) ≤ 1000000000 by rw [List.length_take]; omega) (show -1000000000 ≤ (((FC (rows.take j)).length : Nat) : Int) ∧ (((FC (rows.take j)).length : Nat) : Int) ≤ 1000000000 by omega) A474 c475 (last.getD 0 []) (Kd.C_below hC478 (Below.refl _ _)) hle477 (by omega)) ?_
    rintro e_ w486 ⟨rfl, m485, hD487, hs488, hk489⟩
    refine ⟨_, rfl, ?_⟩
    obtain ⟨hD487t, hD487b, hD487g, hD487z, hD487x⟩ := hD487
    have hz_w486 := hD487t.size
    have hlt_w486 := hD487b.lt
    refine rw_val (v := errT ((⟨(⟨FC (rows.take j), ((FC (rows.take j)).length : Int), ((2 * j : Nat) : Int), false, 0, true, fail, false⟩ : TS), (PD (rows.take j) j).r, (PD (rows.take j) j).b⟩ : DS).addE (last.getD 0 []))) (w' := w486) rfl rfl rfl rfl rfl ?_
    refine rw_end ?_
    refine w_weaken (G' := [(1, .pointer (some ⟨gb, 0, none⟩)), (3, .pointer (some ⟨g10, 0, none⟩)), (6, errT ((⟨(⟨FC (rows.take j), ((FC (rows.take j)).length : Int), ((2 * j : Nat) : Int), false, 0, true, fail, false⟩ : TS), (PD (rows.take j) j).r, (PD (rows.take j) j).b⟩ : DS).addE (last.getD 0 []))), (11, .slice A379 ((rows.map strOfNums).length) c380), (12, .slice A407 (((rows.map strOfNums) ++ ([strOfNums (last.getD 0 [])] : List ByteArray)).length) c408)]) ⟨rfl, rfl, rfl, rfl, rfl, trivial⟩ ?_
    refine w_seq ?_
    refine w_region ?_
    refine rw_val (v := .pointer (some ⟨g10, 0, none⟩)) (w' := w486) rfl rfl rfl rfl rfl ?_
    refine rw_val (v := .pointer (some ⟨gb, 5, none⟩)) (w' := w486) rfl rfl rfl rfl (by simp [go_sem, sEv, sLook, nbeq, i64_w, -List.getD_eq_getElem?_getD, Try.underlying45]) ?_
    refine rw_val (v := .int .i64 keep) (w' := w486) rfl rfl rfl rfl (by have eb_ := (hkb.on hD487t.1); have e0_ := eb_.cellv (i := 5) (v := (.int .i64 keep : Value)) rfl; simp [go_sem, sEv, sLook, nbeq, i64_w, -List.getD_eq_getElem?_getD, e0_]) ?_
    refine rw_call rfl rfl rfl rfl (f := 22) (args := #[.pointer (some ⟨g10, 0, none⟩), .int .i64 keep]) (by simp [go_sem, sEv, sLook, nbeq, i64_w, -List.getD_eq_getElem?_getD]) (crash_T w w486 g10 m485 (HI gd14 w375.heap.size w409.heap.size) (HI.lt (by omega) (by omega)) (((⟨(⟨FC (rows.take j), ((FC (rows.take j)).length : Int), ((2 * j : Nat) : Int), false, 0, true, fail, false⟩ : TS), (PD (rows.take j) j).r, (PD (rows.take j) j).b⟩ : DS).add (last.getD 0 [])).s) hD487t hX483 keep) ?_
    rintro e_ w490 ⟨rfl, hT491, hs492, hx493⟩
    refine ⟨.tuple #[], rfl, ?_⟩
    rw [hX481] at hT491
    have hz_w490 := hT491.size
    have hk_w490 : Blk w490 gd14 80 _ := (hx493 gd14 hD487x hD487g).trans (hD487b)
    have hlt_w490 := hk_w490.lt
    refine rw_end ?_
    refine w_weaken (G' := [(3, .pointer (some ⟨g10, 0, none⟩)), (6, errT ((⟨(⟨FC (rows.take j), ((FC (rows.take j)).length : Int), ((2 * j : Nat) : Int), false, 0, true, fail, false⟩ : TS), (PD (rows.take j) j).r, (PD (rows.take j) j).b⟩ : DS).addE (last.getD 0 []))), (11, .slice A379 ((rows.map strOfNums).length) c380), (12, .slice A407 (((rows.map strOfNums) ++ ([strOfNums (last.getD 0 [])] : List ByteArray)).length) c408)]) ⟨rfl, rfl, rfl, rfl, trivial⟩ ?_
    refine w_seq ?_
    refine w_region ?_
    refine rw_val (v := .pointer (some ⟨g10, 0, none⟩)) (w' := w490) rfl rfl rfl rfl rfl ?_
    refine rw_call rfl rfl rfl rfl (f := 11) (args := #[.pointer (some ⟨g10, 0, none⟩)]) (by simp [go_sem, sEv, sLook, nbeq, i64_w, -List.getD_eq_getElem?_getD]) (open_cut w w490 g10 w490.heap.size (HI gd14 w375.heap.size w409.heap.size) (HI.lt (by omega) (by omega)) X480 ((⟨(⟨FC (rows.take j), ((FC (rows.take j)).length : Int), ((2 * j : Nat) : Int), false, 0, true, fail, false⟩ : TS), (PD (rows.take j) j).r, (PD (rows.take j) j).b⟩ : DS).add (last.getD 0 [])).s.steps hT491 ⟨hX483.steps.1, hX484⟩ (cut_len hC482 (by omega) (by rw [FC_append, FC_one, List.length_append, frameB_len _ hl0_]; omega)) (cut_bytes hC482 hby (fun r hr_ => (List.mem_append.1 hr_).elim (hby r) (fun hr_ => by rw [List.mem_singleton.1 hr_]; exact hbl _ (getD_mem last 0 [] (by omega)))))) ?_
    rintro e_ w501 ⟨gd494, m495, A496, c497, out498, n499, s500, rfl, hS502, hD503, hO504, hs505, hK506⟩
    refine ⟨_, rfl, ?_⟩
    obtain ⟨hD503t, hD503b, hD503g, hD503z, hD503x⟩ := hD503
    have hz_w501 := hD503t.size
    have hlt_w501 := hD503b.lt
    have hL507 : OwnK (Kd.slice 5 (Kd.int .u8)) 32 w501 w.heap.size w.heap.size A496 out498.length c497 out498 := OwnK.mono (d := (Kd.slice 5 (Kd.int .u8))) (OwnK.lower (d := (Kd.slice 5 (Kd.int .u8))) hO504 (by omega)) (by omega)
    have hct_ := cut_told hC482 hr2_ hn2_ hS502
    have hP508 : OwnK Kd.string 9 w501 w.heap.size w375.heap.size A379 ((rows.map strOfNums).length) c380 (rows.map strOfNums) := OwnK.step (d := Kd.string) hO414 (fun q hq hlt => by have hq_ : (HI gd14 w375.heap.size w409.heap.size) q := .inr ⟨(by omega), hlt⟩; have hqg : q ≠ g10 := (by omega); have hqd : q ≠ gd14 := (by omega); exact ((hK506.2 q (by omega) hqg).trans ((hx493 q hq_ hqg).trans (hk489 q hq_ hqg hqd))))
    have hP509 : OwnK Kd.string 9 w501 w.heap.size w381.heap.size A407 (((rows.map strOfNums) ++ ([strOfNums (last.getD 0 [])] : List ByteArray)).length) c408 ((rows.map strOfNums) ++ ([strOfNums (last.getD 0 [])] : List ByteArray)) := OwnK.step (d := Kd.string) hO410 (fun q hq hlt => by have hq_ : (HI gd14 w375.heap.size w409.heap.size) q := .inr ⟨(by omega), hlt⟩; have hqg : q ≠ g10 := (by omega); have hqd : q ≠ gd14 := (by omega); exact ((hK506.2 q (by omega) hqg).trans ((hx493 q hq_ hqg).trans (hk489 q hq_ hqg hqd))))
    refine rw_val (v := .tuple #[.pointer (some ⟨gd494, 0, none⟩), .slice A496 out498.length c497, errT none]) (w' := w501) rfl rfl rfl rfl rfl ?_
    refine rw_val (v := .pointer (some ⟨gd494, 0, none⟩)) (w' := w501) rfl rfl rfl rfl (by simp [go_sem, sEv, sLook, nbeq, i64_w, -List.getD_eq_getElem?_getD]) ?_
    refine rw_val (v := .slice A496 out498.length c497) (w' := w501) rfl rfl rfl rfl (by simp [go_sem, sEv, sLook, nbeq, i64_w, -List.getD_eq_getElem?_getD]) ?_
    refine rw_val (v := errT none) (w' := w501) rfl rfl rfl rfl (by simp [go_sem, sEv, sLook, nbeq, i64_w, -List.getD_eq_getElem?_getD]) ?_
    refine rw_val (v := .pointer (some ⟨gd494, 0, none⟩)) (w' := w501) rfl rfl rfl rfl rfl ?_
    refine rw_val (v := .slice A496 out498.length c497) (w' := w501) rfl rfl rfl rfl rfl ?_
    refine rw_val (v := errT none) (w' := w501) rfl rfl rfl rfl rfl ?_
    refine rw_end ?_
    refine w_weaken (G' := [(6, errT ((⟨(⟨FC (rows.take j), ((FC (rows.take j)).length : Int), ((2 * j : Nat) : Int), false, 0, true, fail, false⟩ : TS), (PD (rows.take j) j).r, (PD (rows.take j) j).b⟩ : DS).addE (last.getD 0 []))), (11, .slice A379 ((rows.map strOfNums).length) c380), (12, .slice A407 (((rows.map strOfNums) ++ ([strOfNums (last.getD 0 [])] : List ByteArray)).length) c408), (14, .slice A496 out498.length c497), (15, errT none)]) ⟨rfl, rfl, rfl, rfl, rfl, trivial⟩ ?_
    refine w_seq ?_
    refine w_seq ?_
    refine w_region ?_
    refine rw_val (v := errT none) (w' := w501) rfl rfl rfl rfl rfl ?_
    refine rw_val (v := .bool ((none : Option Int).isSome)) (w' := w501) rfl rfl rfl rfl (run_as (guard_err_neq _ (none : Option Int) _)) ?_
    refine rw_end ?_
    refine w_cond_f rfl rfl hq24 ?_
    refine w_skip ?_
    refine w_seq ?_
    refine w_seq ?_
    refine w_region ?_
    refine rw_val (v := errT ((⟨(⟨FC (rows.take j), ((FC (rows.take j)).length : Int), ((2 * j : Nat) : Int), false, 0, true, fail, false⟩ : TS), (PD (rows.take j) j).r, (PD (rows.take j) j).b⟩ : DS).addE (last.getD 0 []))) (w' := w501) rfl rfl rfl rfl rfl ?_
    refine rw_call rfl rfl rfl rfl (f := 23) (args := #[errT ((⟨(⟨FC (rows.take j), ((FC (rows.take j)).length : Int), ((2 * j : Nat) : Int), false, 0, true, fail, false⟩ : TS), (PD (rows.take j) j).r, (PD (rows.take j) j).b⟩ : DS).addE (last.getD 0 []))]) (by simp [go_sem, sEv, sLook, nbeq, i64_w, -List.getD_eq_getElem?_getD]) (num_T ((⟨(⟨FC (rows.take j), ((FC (rows.take j)).length : Int), ((2 * j : Nat) : Int), false, 0, true, fail, false⟩ : TS), (PD (rows.take j) j).r, (PD (rows.take j) j).b⟩ : DS).addE (last.getD 0 [])) (cut_num hC482) w501) ?_
    rintro e_ w510 ⟨rfl, hb511⟩
    refine ⟨_, rfl, ?_⟩
    have hs_w510 := hb511.size
    refine rw_end ?_
    refine w_block ?_
    refine w_seq ?_
    refine w_region ?_
    refine rw_val (v := .bool ((numT ((⟨(⟨FC (rows.take j), ((FC (rows.take j)).length : Int), ((2 * j : Nat) : Int), false, 0, true, fail, false⟩ : TS), (PD (rows.take j) j).r, (PD (rows.take j) j).b⟩ : DS).addE (last.getD 0 []))) == 0)) (w' := w510) rfl rfl rfl rfl (by simp [go_sem, sEv, sLook, nbeq, i64_w, -List.getD_eq_getElem?_getD]) ?_
    refine rw_val (v := .bool ((numT ((⟨(⟨FC (rows.take j), ((FC (rows.take j)).length : Int), ((2 * j : Nat) : Int), false, 0, true, fail, false⟩ : TS), (PD (rows.take j) j).r, (PD (rows.take j) j).b⟩ : DS).addE (last.getD 0 []))) == 0)) (w' := w510) rfl rfl rfl rfl rfl ?_
    refine rw_end ?_
    refine w_cond rfl rfl (fun cN0 => ?_) (fun cN0 => ?_)
    ·refine w_seq ?_
     refine w_region ?_
     refine rw_val (v := .slice A496 out498.length c497) (w' := w510) rfl rfl rfl rfl rfl ?_
     refine rw_val (v := .slice A407 (((rows.map strOfNums) ++ ([strOfNums (last.getD 0 [])] : List ByteArray)).length) c408) (w' := w510) rfl rfl rfl rfl rfl ?_
     refine rw_call rfl rfl rfl rfl (f := 13) (args := #[.slice A496 out498.length c497, .slice A407 (((rows.map strOfNums) ++ ([strOfNums (last.getD 0 [])] : List ByteArray)).length) c408]) (by simp [go_sem, sEv, sLook, nbeq, i64_w, -List.getD_eq_getElem?_getD]) (same_calls w510 A496 A407 c497 c408 out498 ((rows.map strOfNums) ++ ([strOfNums (last.getD 0 [])] : List ByteArray)) (Kd.C_below (OwnK.C (d := (Kd.slice 5 (Kd.int .u8))) hL507) hb511) (OwnK.cap (d := (Kd.slice 5 (Kd.int .u8))) hL507) (Kd.C_below (OwnK.C (d := Kd.string) hP509) hb511) (OwnK.cap (d := Kd.string) hP509) (by first | (rw [List.length_map]; omega) | (rw [List.length_append, List.length_map]; simp only [List.length_cons, List.length_nil]; omega))) ?_
     rintro e_ w512 ⟨rfl, hb513⟩
     refine ⟨_, rfl, ?_⟩
     have hs_w512 := hb513.size
     refine rw_val (v := .bool (decide (out498.map strOfNums = ((rows.map strOfNums) ++ ([strOfNums (last.getD 0 [])] : List ByteArray))))) (w' := w512) rfl rfl rfl rfl rfl ?_
     refine rw_end ?_
     refine w_weaken (G' := [(2, .bool (decide (out498.map strOfNums = ((rows.map strOfNums) ++ ([strOfNums (last.getD 0 [])] : List ByteArray))))), (6, errT ((⟨(⟨FC (rows.take j), ((FC (rows.take j)).length : Int), ((2 * j : Nat) : Int), false, 0, true, fail, false⟩ : TS), (PD (rows.take j) j).r, (PD (rows.take j) j).b⟩ : DS).addE (last.getD 0 []))), (11, .slice A379 ((rows.map strOfNums).length) c380), (12, .slice A407 (((rows.map strOfNums) ++ ([strOfNums (last.getD 0 [])] : List ByteArray)).length) c408), (14, .slice A496 out498.length c497)]) ⟨rfl, rfl, rfl, rfl, rfl, trivial⟩ ?_
     have hq514 : (decide (out498.map strOfNums = ((rows.map strOfNums) ++ ([strOfNums (last.getD 0 [])] : List ByteArray)))) = true := by rcases hct_ with ⟨h1_, h2_⟩ | ⟨h1_, _⟩ | ⟨h1_, _⟩; exact (by rw [h2_]; simp); all_goals (exfalso; rw [h1_] at cN0; simp [numT] at cN0)
     refine w_ret (post_ret1 rfl rfl ?_)
     exact ⟨by simp only [hq514], chain hb00 (chain (chain hD503t.1 hb511) hb513)⟩
    refine w_seq ?_
    refine w_region ?_
    refine rw_val (v := .bool ((numT ((⟨(⟨FC (rows.take j), ((FC (rows.take j)).length : Int), ((2 * j : Nat) : Int), false, 0, true, fail, false⟩ : TS), (PD (rows.take j) j).r, (PD (rows.take j) j).b⟩ : DS).addE (last.getD 0 []))) == 6)) (w' := w510) rfl rfl rfl rfl (by simp [go_sem, sEv, sLook, nbeq, i64_w, -List.getD_eq_getElem?_getD]) ?_
    refine rw_val (v := .bool ((numT ((⟨(⟨FC (rows.take j), ((FC (rows.take j)).length : Int), ((2 * j : Nat) : Int), false, 0, true, fail, false⟩ : TS), (PD (rows.take j) j).r, (PD (rows.take j) j).b⟩ : DS).addE (last.getD 0 []))) == 6)) (w' := w510) rfl rfl rfl rfl rfl ?_
    refine rw_end ?_
    refine w_cond rfl rfl (fun cN6 => ?_) (fun cN6 => ?_)
    ·refine w_seq ?_
     refine w_region ?_
     refine rw_val (v := .slice A496 out498.length c497) (w' := w510) rfl rfl rfl rfl rfl ?_
     refine rw_val (v := .slice A379 ((rows.map strOfNums).length) c380) (w' := w510) rfl rfl rfl rfl rfl ?_
     refine rw_call rfl rfl rfl rfl (f := 13) (args := #[.slice A496 out498.length c497, .slice A379 ((rows.map strOfNums).length) c380]) (by simp [go_sem, sEv, sLook, nbeq, i64_w, -List.getD_eq_getElem?_getD]) (same_calls w510 A496 A379 c497 c380 out498 (rows.map strOfNums) (Kd.C_below (OwnK.C (d := (Kd.slice 5 (Kd.int .u8))) hL507) hb511) (OwnK.cap (d := (Kd.slice 5 (Kd.int .u8))) hL507) (Kd.C_below (OwnK.C (d := Kd.string) hP508) hb511) (OwnK.cap (d := Kd.string) hP508) (by first | (rw [List.length_map]; omega) | (rw [List.length_append, List.length_map]; simp only [List.length_cons, List.length_nil]; omega))) ?_
     rintro e_ w515 ⟨rfl, hb516⟩
     refine ⟨_, rfl, ?_⟩
     have hs_w515 := hb516.size
     refine rw_val (v := .bool (decide (out498.map strOfNums = (rows.map strOfNums)))) (w' := w515) rfl rfl rfl rfl rfl ?_
     refine rw_end ?_
     refine w_weaken (G' := [(2, .bool (decide (out498.map strOfNums = (rows.map strOfNums)))), (6, errT ((⟨(⟨FC (rows.take j), ((FC (rows.take j)).length : Int), ((2 * j : Nat) : Int), false, 0, true, fail, false⟩ : TS), (PD (rows.take j) j).r, (PD (rows.take j) j).b⟩ : DS).addE (last.getD 0 []))), (11, .slice A379 ((rows.map strOfNums).length) c380), (12, .slice A407 (((rows.map strOfNums) ++ ([strOfNums (last.getD 0 [])] : List ByteArray)).length) c408), (14, .slice A496 out498.length c497)]) ⟨rfl, rfl, rfl, rfl, rfl, trivial⟩ ?_
     have hq517 : (decide (out498.map strOfNums = (rows.map strOfNums))) = true := by rcases hct_ with ⟨h1_, _⟩ | ⟨h1_, h2_⟩ | ⟨h1_, _⟩; (exfalso; rw [h1_] at cN6; simp [numT] at cN6); exact (by rw [h2_]; simp); (exfalso; rw [h1_] at cN6; simp [numT] at cN6)
     refine w_ret (post_ret1 rfl rfl ?_)
     exact ⟨by simp only [hq517], chain hb00 (chain (chain hD503t.1 hb511) hb516)⟩
    refine w_skip ?_
    refine w_blk ?_
    refine w_seq ?_
    refine w_region ?_
    refine rw_val (v := errT ((⟨(⟨FC (rows.take j), ((FC (rows.take j)).length : Int), ((2 * j : Nat) : Int), false, 0, true, fail, false⟩ : TS), (PD (rows.take j) j).r, (PD (rows.take j) j).b⟩ : DS).addE (last.getD 0 []))) (w' := w510) rfl rfl rfl rfl rfl ?_
    refine rw_val (v := errT (some 5)) (w' := w510) rfl rfl rfl rfl (by simp [go_sem, sEv, sLook, nbeq, i64_w, -List.getD_eq_getElem?_getD, errT]) ?_
    refine rw_val (v := .bool (decide (((⟨(⟨FC (rows.take j), ((FC (rows.take j)).length : Int), ((2 * j : Nat) : Int), false, 0, true, fail, false⟩ : TS), (PD (rows.take j) j).r, (PD (rows.take j) j).b⟩ : DS).addE (last.getD 0 [])) = some 5))) (w' := w510) rfl rfl rfl rfl (run_as (guard_err_eql _ _ ((⟨(⟨FC (rows.take j), ((FC (rows.take j)).length : Int), ((2 * j : Nat) : Int), false, 0, true, fail, false⟩ : TS), (PD (rows.take j) j).r, (PD (rows.take j) j).b⟩ : DS).addE (last.getD 0 [])) 5 _)) ?_
    refine rw_val (v := .bool (decide (((⟨(⟨FC (rows.take j), ((FC (rows.take j)).length : Int), ((2 * j : Nat) : Int), false, 0, true, fail, false⟩ : TS), (PD (rows.take j) j).r, (PD (rows.take j) j).b⟩ : DS).addE (last.getD 0 [])) = some 5))) (w' := w510) rfl rfl rfl rfl rfl ?_
    have hq518 : (decide (((⟨(⟨FC (rows.take j), ((FC (rows.take j)).length : Int), ((2 * j : Nat) : Int), false, 0, true, fail, false⟩ : TS), (PD (rows.take j) j).r, (PD (rows.take j) j).b⟩ : DS).addE (last.getD 0 [])) = some 5)) = true := by rcases hct_ with ⟨h1_, _⟩ | ⟨h1_, _⟩ | ⟨h1_, _⟩; (exfalso; rw [h1_] at cN0; simp [numT] at cN0); (exfalso; rw [h1_] at cN6; simp [numT] at cN6); (rw [h1_]; simp)
    refine rw_on (c := decide (((⟨(⟨FC (rows.take j), ((FC (rows.take j)).length : Int), ((2 * j : Nat) : Int), false, 0, true, fail, false⟩ : TS), (PD (rows.take j) j).r, (PD (rows.take j) j).b⟩ : DS).addE (last.getD 0 [])) = some 5)) rfl rfl rfl (by first | (rw [hq518]; rfl) | simp [hq518]) ?_
    refine rw_val (v := .slice A496 out498.length c497) (w' := w510) rfl rfl rfl rfl rfl ?_
    refine rw_on (c := decide (((⟨(⟨FC (rows.take j), ((FC (rows.take j)).length : Int), ((2 * j : Nat) : Int), false, 0, true, fail, false⟩ : TS), (PD (rows.take j) j).r, (PD (rows.take j) j).b⟩ : DS).addE (last.getD 0 [])) = some 5)) rfl rfl rfl (by first | (rw [hq518]; rfl) | simp [hq518]) ?_
    refine rw_val (v := .slice A379 ((rows.map strOfNums).length) c380) (w' := w510) rfl rfl rfl rfl rfl ?_
    refine rw_on (c := decide (((⟨(⟨FC (rows.take j), ((FC (rows.take j)).length : Int), ((2 * j : Nat) : Int), false, 0, true, fail, false⟩ : TS), (PD (rows.take j) j).r, (PD (rows.take j) j).b⟩ : DS).addE (last.getD 0 [])) = some 5)) rfl rfl rfl (by first | (rw [hq518]; rfl) | simp [hq518]) ?_
    refine rw_call rfl rfl rfl rfl (f := 13) (args := #[.slice A496 out498.length c497, .slice A379 ((rows.map strOfNums).length) c380]) (by simp [go_sem, sEv, sLook, nbeq, i64_w, -List.getD_eq_getElem?_getD]) (same_calls w510 A496 A379 c497 c380 out498 (rows.map strOfNums) (Kd.C_below (OwnK.C (d := (Kd.slice 5 (Kd.int .u8))) hL507) hb511) (OwnK.cap (d := (Kd.slice 5 (Kd.int .u8))) hL507) (Kd.C_below (OwnK.C (d := Kd.string) hP508) hb511) (OwnK.cap (d := Kd.string) hP508) (by first | (rw [List.length_map]; omega) | (rw [List.length_append, List.length_map]; simp only [List.length_cons, List.length_nil]; omega))) ?_
    rintro e_ w519 ⟨rfl, hb520⟩
    refine ⟨_, rfl, ?_⟩
    have hs_w519 := hb520.size
    refine rw_on (c := decide (((⟨(⟨FC (rows.take j), ((FC (rows.take j)).length : Int), ((2 * j : Nat) : Int), false, 0, true, fail, false⟩ : TS), (PD (rows.take j) j).r, (PD (rows.take j) j).b⟩ : DS).addE (last.getD 0 [])) = some 5)) rfl rfl rfl (by first | (rw [hq518]; rfl) | simp [hq518]) ?_
    refine rw_val (v := .bool (decide (out498.map strOfNums = (rows.map strOfNums)))) (w' := w519) rfl rfl rfl rfl rfl ?_
    rcases bcase (decide (out498.map strOfNums = (rows.map strOfNums))) with cS | cS
    ·have l521 : ¬ (out498.map strOfNums = (rows.map strOfNums)) := of_decide_eq_false cS
     refine rw_on (c := decide (out498.map strOfNums = (rows.map strOfNums))) rfl rfl rfl (by first | (rw [cS]; rfl) | simp [cS]) ?_
     refine rw_val (v := .slice A496 out498.length c497) (w' := w519) rfl rfl rfl rfl rfl ?_
     refine rw_on (c := decide (out498.map strOfNums = (rows.map strOfNums))) rfl rfl rfl (by first | (rw [cS]; rfl) | simp [cS]) ?_
     refine rw_val (v := .slice A407 (((rows.map strOfNums) ++ ([strOfNums (last.getD 0 [])] : List ByteArray)).length) c408) (w' := w519) rfl rfl rfl rfl rfl ?_
     refine rw_on (c := decide (out498.map strOfNums = (rows.map strOfNums))) rfl rfl rfl (by first | (rw [cS]; rfl) | simp [cS]) ?_
     refine rw_call rfl rfl rfl rfl (f := 13) (args := #[.slice A496 out498.length c497, .slice A407 (((rows.map strOfNums) ++ ([strOfNums (last.getD 0 [])] : List ByteArray)).length) c408]) (by simp [go_sem, sEv, sLook, nbeq, i64_w, -List.getD_eq_getElem?_getD]) (same_calls w519 A496 A407 c497 c408 out498 ((rows.map strOfNums) ++ ([strOfNums (last.getD 0 [])] : List ByteArray)) (Kd.C_below (OwnK.C (d := (Kd.slice 5 (Kd.int .u8))) hL507) (chain hb511 hb520)) (OwnK.cap (d := (Kd.slice 5 (Kd.int .u8))) hL507) (Kd.C_below (OwnK.C (d := Kd.string) hP509) (chain hb511 hb520)) (OwnK.cap (d := Kd.string) hP509) (by first | (rw [List.length_map]; omega) | (rw [List.length_append, List.length_map]; simp only [List.length_cons, List.length_nil]; omega))) ?_
     rintro e_ w522 ⟨rfl, hb523⟩
     refine ⟨_, rfl, ?_⟩
     have hs_w522 := hb523.size
     refine rw_on (c := decide (((⟨(⟨FC (rows.take j), ((FC (rows.take j)).length : Int), ((2 * j : Nat) : Int), false, 0, true, fail, false⟩ : TS), (PD (rows.take j) j).r, (PD (rows.take j) j).b⟩ : DS).addE (last.getD 0 [])) = some 5)) rfl rfl rfl (by first | (rw [hq518]; rfl) | simp [hq518]) ?_
     refine rw_val (v := .bool (decide (out498.map strOfNums = ((rows.map strOfNums) ++ ([strOfNums (last.getD 0 [])] : List ByteArray))))) (w' := w522) rfl rfl rfl rfl (by first | (simp [go_sem, sEv, sLook, nbeq, i64_w, -List.getD_eq_getElem?_getD, cS]; done) | (rw [cS]; simp [go_sem, sEv, sLook, nbeq, i64_w, -List.getD_eq_getElem?_getD]; done) | (simp [go_sem, sEv, sLook, nbeq, i64_w, -List.getD_eq_getElem?_getD] <;> omega) | (simp [go_sem, sEv, sLook, nbeq, i64_w, -List.getD_eq_getElem?_getD]; intro h_; exact absurd (by omega) h_)) ?_
     refine rw_val (v := .bool (decide (out498.map strOfNums = ((rows.map strOfNums) ++ ([strOfNums (last.getD 0 [])] : List ByteArray))))) (w' := w522) rfl rfl rfl rfl (by first | (simp [go_sem, sEv, sLook, nbeq, i64_w, -List.getD_eq_getElem?_getD, hq518]; done) | (rw [hq518]; simp [go_sem, sEv, sLook, nbeq, i64_w, -List.getD_eq_getElem?_getD]; done) | (simp [go_sem, sEv, sLook, nbeq, i64_w, -List.getD_eq_getElem?_getD] <;> omega) | (simp [go_sem, sEv, sLook, nbeq, i64_w, -List.getD_eq_getElem?_getD]; intro h_; exact absurd (by omega) h_)) ?_
     refine rw_val (v := .bool (decide (out498.map strOfNums = ((rows.map strOfNums) ++ ([strOfNums (last.getD 0 [])] : List ByteArray))))) (w' := w522) rfl rfl rfl rfl rfl ?_
     refine rw_end ?_
     refine w_weaken (G' := [(2, .bool (decide (out498.map strOfNums = ((rows.map strOfNums) ++ ([strOfNums (last.getD 0 [])] : List ByteArray)))))]) ⟨rfl, trivial⟩ ?_
     have hq524 : (decide (out498.map strOfNums = ((rows.map strOfNums) ++ ([strOfNums (last.getD 0 [])] : List ByteArray)))) = true := by rcases hct_ with ⟨h1_, h2_⟩ | ⟨h1_, h2_⟩ | ⟨h1_, h2_ | h2_⟩; exact (by rw [h2_]; simp); (exfalso; rw [h2_] at cS; simp at cS); (exfalso; rw [h2_] at cS; simp at cS); exact (by rw [h2_]; simp)
     refine w_ret (post_ret1 rfl rfl ?_)
     exact ⟨by simp only [hq524], chain hb00 (chain (chain (chain hD503t.1 hb511) hb520) hb523)⟩
    have l525 : (out498.map strOfNums = (rows.map strOfNums)) := of_decide_eq_true cS
    refine rw_off (c := decide (out498.map strOfNums = (rows.map strOfNums))) rfl rfl rfl (by first | (rw [cS]; rfl) | simp [cS]) rfl rfl ?_
    refine rw_off (c := decide (out498.map strOfNums = (rows.map strOfNums))) rfl rfl rfl (by first | (rw [cS]; rfl) | simp [cS]) rfl rfl ?_
    refine rw_off (c := decide (out498.map strOfNums = (rows.map strOfNums))) rfl rfl rfl (by first | (rw [cS]; rfl) | simp [cS]) rfl rfl ?_
    refine rw_on (c := decide (((⟨(⟨FC (rows.take j), ((FC (rows.take j)).length : Int), ((2 * j : Nat) : Int), false, 0, true, fail, false⟩ : TS), (PD (rows.take j) j).r, (PD (rows.take j) j).b⟩ : DS).addE (last.getD 0 [])) = some 5)) rfl rfl rfl (by first | (rw [hq518]; rfl) | simp [hq518]) ?_
    refine rw_val (v := .bool true) (w' := w519) rfl rfl rfl rfl (by first | (simp [go_sem, sEv, sLook, nbeq, i64_w, -List.getD_eq_getElem?_getD, cS]; done) | (rw [cS]; simp [go_sem, sEv, sLook, nbeq, i64_w, -List.getD_eq_getElem?_getD]; done) | (simp [go_sem, sEv, sLook, nbeq, i64_w, -List.getD_eq_getElem?_getD] <;> omega) | (simp [go_sem, sEv, sLook, nbeq, i64_w, -List.getD_eq_getElem?_getD]; intro h_; exact absurd (by omega) h_)) ?_
    refine rw_val (v := .bool true) (w' := w519) rfl rfl rfl rfl (by first | (simp [go_sem, sEv, sLook, nbeq, i64_w, -List.getD_eq_getElem?_getD, hq518]; done) | (rw [hq518]; simp [go_sem, sEv, sLook, nbeq, i64_w, -List.getD_eq_getElem?_getD]; done) | (simp [go_sem, sEv, sLook, nbeq, i64_w, -List.getD_eq_getElem?_getD] <;> omega) | (simp [go_sem, sEv, sLook, nbeq, i64_w, -List.getD_eq_getElem?_getD]; intro h_; exact absurd (by omega) h_)) ?_
    refine rw_val (v := .bool true) (w' := w519) rfl rfl rfl rfl rfl ?_
    refine rw_end ?_
    refine w_weaken (G' := [(2, .bool true)]) ⟨rfl, trivial⟩ ?_
    refine w_ret (post_ret1 rfl rfl ?_)
    exact ⟨rfl, chain hb00 (chain (chain hD503t.1 hb511) hb520)⟩
   have l526 : ¬ (0 ≤ fail) := of_decide_eq_false c373
   refine w_skip ?_
   refine w_seq ?_
   refine w_region ?_
   refine rw_val (v := .pointer (some ⟨gb, 0, none⟩)) (w' := w_L48) rfl rfl rfl rfl (by simp [go_sem, sEv, sLook, nbeq, i64_w, -List.getD_eq_getElem?_getD, Try.underlying45]) ?_
   refine rw_val (v := .slice A1 rows.length c1) (w' := w_L48) rfl rfl rfl rfl (by have eb_ := (hkb.on hB_L48); have e0_ := eb_.cellv (i := 0) (v := (.slice A1 rows.length c1 : Value)) rfl; simp [go_sem, sEv, sLook, nbeq, i64_w, -List.getD_eq_getElem?_getD, e0_, Try.underlying22]) ?_
   have ej_ : j = rows.length := by omega
   have hfc_ : FC (rows.take j) = FC rows := by rw [ej_, List.take_length]
   have hfl_ : (FC (rows.take j)).length = (FC rows).length := by rw [hfc_]
   have hr2_ : ∀ p ∈ rows, p.length ≤ 16376 := fun p hp => by have h_ := hf28 p (by rw [ej_, List.take_length]; exact hp); omega
   have hl2_ : ∀ p ∈ last, p.length ≤ 2000 := fun p hp => hf51 p (by rw [show i = last.length by omega, List.take_length]; exact hp)
   have hln_ : ∀ p ∈ last, p.length ≤ 16376 := fun p hp => Nat.le_trans (hl2_ p hp) (by decide)
   have hlF_ := FC_bound last hl2_
   have hl0a_ := hl2_ (last.getD 0 []) (getD_mem last 0 [] (by omega))
   have hl0_ : (last.getD 0 []).length ≤ 16376 := by omega
   refine rw_call rfl rfl rfl rfl (f := 14) (args := #[.slice A1 rows.length c1]) (by simp [go_sem, sEv, sLook, nbeq, i64_w, -List.getD_eq_getElem?_getD]) (texts_calls w_L48 A1 c1 rows (Kd.C_below hr hB_L48) hchr (by omega)) ?_
   rintro e_ w529 ⟨A527, c528, rfl, hO530, hB531⟩
   refine ⟨_, rfl, ?_⟩
   have hs_w529 := hB531.size
   have hL532 : OwnK Kd.string 9 w529 w.heap.size w_L48.heap.size A527 (rows.map strOfNums).length c528 (rows.map strOfNums) := OwnK.lower hO530 (by omega)
   refine rw_val (v := .slice A527 ((rows.map strOfNums).length) c528) (w' := w529) rfl rfl rfl rfl rfl ?_
   refine rw_end ?_
   refine w_weaken (G' := [(1, .pointer (some ⟨gb, 0, none⟩)), (3, .pointer (some ⟨g10, 0, none⟩)), (4, .pointer (some ⟨gd14, 0, none⟩)), (11, .slice A527 ((rows.map strOfNums).length) c528)]) ⟨rfl, rfl, rfl, rfl, trivial⟩ ?_
   refine w_seq ?_
   obtain ⟨ad540, A543, c544, hA541, he545, hle546, hC547⟩ := rows_at (Kd.C_below hl (chain hB_L48 hB531)) 0 (by first | omega | decide)
   subst hA541
   have he548 : w529.cell? (ad540) = some (.slice A543 ((last.getD 0 []).length) c544) := cell_00 he545
   refine w_drawk (M := [0, 0, 3, 0, 8, 24, 56, 120, 248, 511, 1023]) (ss := [SlcSpec w529.heap.size 9 #[] 0, Is (.slice A527 ((rows.map strOfNums).length) c528), (OwnKSpec Kd.string 9 w529.heap.size w529.heap.size (rows.map strOfNums)), Is (.pointer (some ⟨gb, 1, none⟩)), Is (.slice (some ad540) last.length c2), Is (.pointer (some (ad540))), Is (.slice A543 ((last.getD 0 []).length) c544), Is (.string (strOfNums (last.getD 0 []))), SlcSpec w529.heap.size 9 #[.string (strOfNums (last.getD 0 []))] 1]) 9 rfl (by decide +kernel) ?_
   refine t_val (SlcSpec w529.heap.size 9 #[] 0) rfl rfl rfl rfl (fun W_ hW_ F_ => slc_gives _ _ _ _ (below_of_drew hW_).size (by kernel_rfl)) ?_
   rintro _ ⟨g533, rfl⟩
   refine t_is (.slice A527 ((rows.map strOfNums).length) c528) rfl rfl rfl rfl (fun W_ hW_ F_ => rfl) ?_
   refine t_val (OwnKSpec Kd.string 9 w529.heap.size w529.heap.size (rows.map strOfNums)) rfl rfl rfl rfl (fun W_ hW_ F_ => app_gives (d := Kd.string) w529.heap.size (.tmp 95) (.tmp 96) 35 9 (.string ByteArray.empty) 16 rfl (by kernel_rfl) (by kernel_rfl) rfl (show 0 < 1 by decide) (by decide) (fun W b => (fun _ _ h => h)) (fun _ => ⟨1, by kernel_rfl⟩) rfl rfl (slc_fact (F_ 0 _ _ rfl rfl)).2 (slc_fact (F_ 0 _ _ rfl rfl)).1 (OwnK.Cn (d := Kd.string) (OwnK.on (d := Kd.string) hL532 (below_of_drew hW_))) (by first | omega | (simp only [List.length_map, List.length_append, List.length_cons, List.length_nil]; omega))) ?_
   rintro _ ⟨A536, c537, rfl, hle538⟩
   refine t_is (.pointer (some ⟨gb, 1, none⟩)) rfl rfl rfl rfl (fun W_ hW_ F_ => by simp [go_sem, sEv, sLook, nbeq, i64_w, -List.getD_eq_getElem?_getD, Try.underlying45]) ?_
   refine t_is (.slice (some ad540) last.length c2) rfl rfl rfl rfl (fun W_ hW_ F_ => by have eb_ := (((hkb.on hB_L48).on hB531).on (below_of_drew hW_)); have e0_ := eb_.cellv (i := 1) (v := (.slice (some ad540) last.length c2 : Value)) rfl; simp [go_sem, sEv, sLook, nbeq, i64_w, -List.getD_eq_getElem?_getD, e0_, Try.underlying22]) ?_
   refine t_is (.pointer (some (ad540))) rfl rfl rfl rfl (fun W_ hW_ F_ => (run_as (run_at_z (P := Try.prog) (e := 32) (sz := 1) (by kernel_rfl) (by kernel_rfl)  (by first | omega | decide) _))) ?_
   refine t_is (.slice A543 ((last.getD 0 []).length) c544) rfl rfl rfl rfl (fun W_ hW_ F_ => by have e0_ := cellOn he548 (below_of_drew hW_); simp [go_sem, sEv, sLook, nbeq, i64_w, -List.getD_eq_getElem?_getD, e0_, Try.underlying32]) ?_
   refine t_is (.string (strOfNums (last.getD 0 []))) rfl rfl rfl rfl (fun W_ hW_ F_ => (run_as (run_str_of (P := Try.prog) (e := 5) (by kernel_rfl) (by kernel_rfl) (by kernel_rfl) (Kd.C_below hC547 (chain (Below.refl _ _) (below_of_drew hW_)))))) ?_
   refine t_val (SlcSpec w529.heap.size 9 #[.string (strOfNums (last.getD 0 []))] 1) rfl rfl rfl rfl (fun W_ hW_ F_ => slc_gives _ _ _ _ (below_of_drew hW_).size (by kernel_rfl)) ?_
   rintro _ ⟨g549, rfl⟩
   refine t_tail ?_
   intro w552 hb553_ F554
   have hb553 := below_of_drew hb553_
   have hs_w552 := hb553.size
   obtain ⟨hge535, hk534⟩ := slc_fact (F554 0 _ _ rfl)
   have hlt_g533 := hk534.lt
   have hO539 : OwnK Kd.string 9 w552 w.heap.size w529.heap.size A536 (rows.map strOfNums).length c537 (rows.map strOfNums) := OwnK.lower (ownk_fact (F554 2 (OwnKSpec Kd.string 9 w529.heap.size w529.heap.size (rows.map strOfNums)) (.slice A536 (rows.map strOfNums).length c537) (by kernel_rfl))) (by omega)
   obtain ⟨hge551, hk550⟩ := slc_fact (F554 8 _ _ rfl)
   have hlt_g549 := hk550.lt
   have hk534r : OwnK Kd.string 9 w552 w.heap.size g533 (some ⟨g533, 0, none⟩) 0 0 ([] : List ByteArray) := lit_nilK _ w.heap.size hk534 (by omega)
   have hk550r : OwnK Kd.string 9 w552 w.heap.size g549 (some ⟨g549, 0, none⟩) 1 1 ([strOfNums (last.getD 0 [])] : List ByteArray) := scal_own w.heap.size hk550 (by omega) rfl rfl (by simp)
   have oA561 : OwnK Kd.string 9 w552 w.heap.size w529.heap.size A536 ((rows.map strOfNums).length) c537 (rows.map strOfNums) := hO539
   refine rw_append_kd (d := Kd.string) w.heap.size rfl rfl rfl (.tmp 97) (.tmp 103) rfl rfl 35 9 (.string ByteArray.empty) 16 rfl (by kernel_rfl) (by kernel_rfl) rfl (show 0 < 1 by decide) (by decide) (fun _ _ h => h) (b := w529.heap.size) rfl rfl (by omega) oA561 (OwnK.Cn (d := Kd.string) hk550r) (chain (chain hB_L48 hB531) hb553) (by omega) (by first | omega | (simp only [List.length_map, List.length_append, List.length_cons, List.length_nil]; omega)) ?_
   intro A555 c556 w557 hO558 hB559 hG560
   have hs_w557 := hB559.size
   have hgs_w557 := hG560.size
   have hO562 := OwnK.elder (d := Kd.string) hL532 hb553 hG560 (fun q hq => Nat.le_trans (by omega) (OwnK.blk_ge (d := Kd.string) oA561 hq))
   have hk565 := OwnK.blk_grown ((hEb_.on hB531).on hb553) oA561 (.inr (by decide)) hG560
   have hT566 : TapeAt w w557 g10 md (HX gd14 (fun _ => False)) ((PD (rows.take j) j).s) := TapeAt.grown (TapeAt.on (TapeAt.on hEt_ hB531) hb553) oA561 (by omega) hB559 hG560
   refine rw_val (v := .slice A555 (((rows.map strOfNums) ++ ([strOfNums (last.getD 0 [])] : List ByteArray)).length) c556) (w' := w557) rfl rfl rfl rfl rfl ?_
   refine rw_end ?_
   refine w_weaken (G' := [(1, .pointer (some ⟨gb, 0, none⟩)), (3, .pointer (some ⟨g10, 0, none⟩)), (4, .pointer (some ⟨gd14, 0, none⟩)), (11, .slice A527 ((rows.map strOfNums).length) c528), (12, .slice A555 (((rows.map strOfNums) ++ ([strOfNums (last.getD 0 [])] : List ByteArray)).length) c556)]) ⟨rfl, rfl, rfl, rfl, rfl, trivial⟩ ?_
   refine w_seq ?_
   refine w_seq ?_
   refine w_region ?_
   refine rw_val (v := .pointer (some ⟨gb, 2, none⟩)) (w' := w557) rfl rfl rfl rfl (by simp [go_sem, sEv, sLook, nbeq, i64_w, -List.getD_eq_getElem?_getD, Try.underlying45]) ?_
   refine rw_val (v := .bool rw) (w' := w557) rfl rfl rfl rfl (by have eb_ := (hkb.on hB559); have e0_ := eb_.cellv (i := 2) (v := (.bool rw : Value)) rfl; simp [go_sem, sEv, sLook, nbeq, i64_w, -List.getD_eq_getElem?_getD, e0_]) ?_
   refine rw_end ?_
   refine w_cond rfl rfl (fun cRW => ?_) (fun cRW => ?_)
   ·refine w_seq ?_
    refine w_region ?_
    refine rw_val (v := .pointer (some ⟨gb, 1, none⟩)) (w' := w557) rfl rfl rfl rfl (by simp [go_sem, sEv, sLook, nbeq, i64_w, -List.getD_eq_getElem?_getD, Try.underlying45]) ?_
    refine rw_val (v := .slice (some ad540) last.length c2) (w' := w557) rfl rfl rfl rfl (by have eb_ := (hkb.on hB559); have e0_ := eb_.cellv (i := 1) (v := (.slice (some ad540) last.length c2 : Value)) rfl; simp [go_sem, sEv, sLook, nbeq, i64_w, -List.getD_eq_getElem?_getD, e0_, Try.underlying22]) ?_
    refine rw_call rfl rfl rfl rfl (f := 14) (args := #[.slice (some ad540) last.length c2]) (by simp [go_sem, sEv, sLook, nbeq, i64_w, -List.getD_eq_getElem?_getD]) (texts_calls w557 (some ad540) c2 last (Kd.C_below hl hB559) hchl (by omega)) ?_
    rintro e_ w569 ⟨A567, c568, rfl, hO570, hB571⟩
    refine ⟨_, rfl, ?_⟩
    have hs_w569 := hB571.size
    have hL572 : OwnK Kd.string 9 w569 w.heap.size w557.heap.size A567 (last.map strOfNums).length c568 (last.map strOfNums) := OwnK.lower hO570 (by omega)
    refine rw_val (v := .slice A567 ((last.map strOfNums).length) c568) (w' := w569) rfl rfl rfl rfl rfl ?_
    refine rw_end ?_
    refine w_weaken (G' := [(1, .pointer (some ⟨gb, 0, none⟩)), (3, .pointer (some ⟨g10, 0, none⟩)), (4, .pointer (some ⟨gd14, 0, none⟩)), (11, .slice A527 ((rows.map strOfNums).length) c528), (12, .slice A567 ((last.map strOfNums).length) c568)]) ⟨rfl, rfl, rfl, rfl, rfl, trivial⟩ ?_
    refine w_region ?_
    refine rw_val (v := .pointer (some ⟨gd14, 0, none⟩)) (w' := w569) rfl rfl rfl rfl rfl ?_
    refine rw_val (v := .pointer (some ⟨gb, 1, none⟩)) (w' := w569) rfl rfl rfl rfl (by simp [go_sem, sEv, sLook, nbeq, i64_w, -List.getD_eq_getElem?_getD, Try.underlying45]) ?_
    refine rw_val (v := .slice (some ad540) last.length c2) (w' := w569) rfl rfl rfl rfl (by have eb_ := ((hkb.on hB559).on hB571); have e0_ := eb_.cellv (i := 1) (v := (.slice (some ad540) last.length c2 : Value)) rfl; simp [go_sem, sEv, sLook, nbeq, i64_w, -List.getD_eq_getElem?_getD, e0_, Try.underlying22]) ?_
    have hX_ := cut_rw (PD (rows.take j) j) rows last keep (PD_ok _ _ (by omega) (by omega)) (by show (FC (rows.take j)) = FC rows; exact hfc_) (by show ((FC (rows.take j)).length : Int) = ((FC rows).length : Int); rw [hfc_]) hln_ (by omega) (by show ((2 * j : Nat) : Int) ≤ 1000; omega)
    obtain ⟨X573, hX574, hC575, hX576, hX577⟩ := hX_
    have hn2_ : ∀ p ∈ last, p.length ≤ 16376 := hln_
    refine rw_call rfl rfl rfl rfl (f := 21) (args := #[.pointer (some ⟨gd14, 0, none⟩), .slice (some ad540) last.length c2]) (by simp [go_sem, sEv, sLook, nbeq, i64_w, -List.getD_eq_getElem?_getD]) (rewrite_D w w569 g10 gd14 md (HI gd14 md w569.heap.size) (HI.lt (by omega) (by omega)) (PD (rows.take j) j) ⟨(TapeAt.hole (TapeAt.on hT566 hB571) (HI gd14 md w569.heap.size) (fun q h1 h2 h3 h4 => h4.elim (fun e => h3 (.inl e)) (fun h => by omega))), (hk565.on hB571), hEg_, hEz_, (.inl rfl)⟩ (PD_ok _ _ (by omega) (by omega)) (some ad540) c2 last (Kd.C_below hl (chain hB559 hB571)) hchl (by omega) (fun p hp => Nat.le_trans (hln_ p hp) (by decide))) ?_
    rintro e_ w579 ⟨rfl, m578, hD580, hs581, hk582⟩
    refine ⟨_, rfl, ?_⟩
    obtain ⟨hD580t, hD580b, hD580g, hD580z, hD580x⟩ := hD580
    have hz_w579 := hD580t.size
    have hlt_w579 := hD580b.lt
    refine rw_val (v := errT ((PD (rows.take j) j).rwE last)) (w' := w579) rfl rfl rfl rfl rfl ?_
    refine rw_end ?_
    refine w_weaken (G' := [(1, .pointer (some ⟨gb, 0, none⟩)), (3, .pointer (some ⟨g10, 0, none⟩)), (6, errT ((PD (rows.take j) j).rwE last)), (11, .slice A527 ((rows.map strOfNums).length) c528), (12, .slice A567 ((last.map strOfNums).length) c568)]) ⟨rfl, rfl, rfl, rfl, rfl, trivial⟩ ?_
    refine w_seq ?_
    refine w_region ?_
    refine rw_val (v := .pointer (some ⟨g10, 0, none⟩)) (w' := w579) rfl rfl rfl rfl rfl ?_
    refine rw_val (v := .pointer (some ⟨gb, 5, none⟩)) (w' := w579) rfl rfl rfl rfl (by simp [go_sem, sEv, sLook, nbeq, i64_w, -List.getD_eq_getElem?_getD, Try.underlying45]) ?_
    refine rw_val (v := .int .i64 keep) (w' := w579) rfl rfl rfl rfl (by have eb_ := (hkb.on hD580t.1); have e0_ := eb_.cellv (i := 5) (v := (.int .i64 keep : Value)) rfl; simp [go_sem, sEv, sLook, nbeq, i64_w, -List.getD_eq_getElem?_getD, e0_]) ?_
    refine rw_call rfl rfl rfl rfl (f := 22) (args := #[.pointer (some ⟨g10, 0, none⟩), .int .i64 keep]) (by simp [go_sem, sEv, sLook, nbeq, i64_w, -List.getD_eq_getElem?_getD]) (crash_T w w579 g10 m578 (HI gd14 md w569.heap.size) (HI.lt (by omega) (by omega)) (((PD (rows.take j) j).rw last).s) hD580t hX576 keep) ?_
    rintro e_ w583 ⟨rfl, hT584, hs585, hx586⟩
    refine ⟨.tuple #[], rfl, ?_⟩
    rw [hX574] at hT584
    have hz_w583 := hT584.size
    have hk_w583 : Blk w583 gd14 80 _ := (hx586 gd14 hD580x hD580g).trans (hD580b)
    have hlt_w583 := hk_w583.lt
    refine rw_end ?_
    refine w_weaken (G' := [(3, .pointer (some ⟨g10, 0, none⟩)), (6, errT ((PD (rows.take j) j).rwE last)), (11, .slice A527 ((rows.map strOfNums).length) c528), (12, .slice A567 ((last.map strOfNums).length) c568)]) ⟨rfl, rfl, rfl, rfl, trivial⟩ ?_
    refine w_seq ?_
    refine w_region ?_
    refine rw_val (v := .pointer (some ⟨g10, 0, none⟩)) (w' := w583) rfl rfl rfl rfl rfl ?_
    refine rw_call rfl rfl rfl rfl (f := 11) (args := #[.pointer (some ⟨g10, 0, none⟩)]) (by simp [go_sem, sEv, sLook, nbeq, i64_w, -List.getD_eq_getElem?_getD]) (open_cut w w583 g10 w583.heap.size (HI gd14 md w569.heap.size) (HI.lt (by omega) (by omega)) X573 ((PD (rows.take j) j).rw last).s.steps hT584 ⟨hX576.steps.1, hX577⟩ (cut_len hC575 (by omega) (by omega)) (cut_bytes hC575 hby hbl)) ?_
    rintro e_ w594 ⟨gd587, m588, A589, c590, out591, n592, s593, rfl, hS595, hD596, hO597, hs598, hK599⟩
    refine ⟨_, rfl, ?_⟩
    obtain ⟨hD596t, hD596b, hD596g, hD596z, hD596x⟩ := hD596
    have hz_w594 := hD596t.size
    have hlt_w594 := hD596b.lt
    have hL600 : OwnK (Kd.slice 5 (Kd.int .u8)) 32 w594 w.heap.size w.heap.size A589 out591.length c590 out591 := OwnK.mono (d := (Kd.slice 5 (Kd.int .u8))) (OwnK.lower (d := (Kd.slice 5 (Kd.int .u8))) hO597 (by omega)) (by omega)
    have hct_ := cut_told hC575 hr2_ hn2_ hS595
    have hP601 : OwnK Kd.string 9 w594 w.heap.size w_L48.heap.size A527 ((rows.map strOfNums).length) c528 (rows.map strOfNums) := OwnK.step (d := Kd.string) (OwnK.on (d := Kd.string) hO562 hB571) (fun q hq hlt => by have hq_ : (HI gd14 md w569.heap.size) q := .inr ⟨(by omega), hlt⟩; have hqg : q ≠ g10 := (by omega); have hqd : q ≠ gd14 := (by omega); exact ((hK599.2 q (by omega) hqg).trans ((hx586 q hq_ hqg).trans (hk582 q hq_ hqg hqd))))
    have hP602 : OwnK Kd.string 9 w594 w.heap.size w557.heap.size A567 ((last.map strOfNums).length) c568 (last.map strOfNums) := OwnK.step (d := Kd.string) hL572 (fun q hq hlt => by have hq_ : (HI gd14 md w569.heap.size) q := .inr ⟨(by omega), hlt⟩; have hqg : q ≠ g10 := (by omega); have hqd : q ≠ gd14 := (by omega); exact ((hK599.2 q (by omega) hqg).trans ((hx586 q hq_ hqg).trans (hk582 q hq_ hqg hqd))))
    refine rw_val (v := .tuple #[.pointer (some ⟨gd587, 0, none⟩), .slice A589 out591.length c590, errT none]) (w' := w594) rfl rfl rfl rfl rfl ?_
    refine rw_val (v := .pointer (some ⟨gd587, 0, none⟩)) (w' := w594) rfl rfl rfl rfl (by simp [go_sem, sEv, sLook, nbeq, i64_w, -List.getD_eq_getElem?_getD]) ?_
    refine rw_val (v := .slice A589 out591.length c590) (w' := w594) rfl rfl rfl rfl (by simp [go_sem, sEv, sLook, nbeq, i64_w, -List.getD_eq_getElem?_getD]) ?_
    refine rw_val (v := errT none) (w' := w594) rfl rfl rfl rfl (by simp [go_sem, sEv, sLook, nbeq, i64_w, -List.getD_eq_getElem?_getD]) ?_
    refine rw_val (v := .pointer (some ⟨gd587, 0, none⟩)) (w' := w594) rfl rfl rfl rfl rfl ?_
    refine rw_val (v := .slice A589 out591.length c590) (w' := w594) rfl rfl rfl rfl rfl ?_
    refine rw_val (v := errT none) (w' := w594) rfl rfl rfl rfl rfl ?_
    refine rw_end ?_
    refine w_weaken (G' := [(6, errT ((PD (rows.take j) j).rwE last)), (11, .slice A527 ((rows.map strOfNums).length) c528), (12, .slice A567 ((last.map strOfNums).length) c568), (14, .slice A589 out591.length c590), (15, errT none)]) ⟨rfl, rfl, rfl, rfl, rfl, trivial⟩ ?_
    refine w_seq ?_
    refine w_seq ?_
    refine w_region ?_
    refine rw_val (v := errT none) (w' := w594) rfl rfl rfl rfl rfl ?_
    refine rw_val (v := .bool ((none : Option Int).isSome)) (w' := w594) rfl rfl rfl rfl (run_as (guard_err_neq _ (none : Option Int) _)) ?_
    refine rw_end ?_
    refine w_cond_f rfl rfl hq24 ?_
    refine w_skip ?_
    refine w_seq ?_
    refine w_seq ?_
    refine w_region ?_
    refine rw_val (v := errT ((PD (rows.take j) j).rwE last)) (w' := w594) rfl rfl rfl rfl rfl ?_
    refine rw_call rfl rfl rfl rfl (f := 23) (args := #[errT ((PD (rows.take j) j).rwE last)]) (by simp [go_sem, sEv, sLook, nbeq, i64_w, -List.getD_eq_getElem?_getD]) (num_T ((PD (rows.take j) j).rwE last) (cut_num hC575) w594) ?_
    rintro e_ w603 ⟨rfl, hb604⟩
    refine ⟨_, rfl, ?_⟩
    have hs_w603 := hb604.size
    refine rw_end ?_
    refine w_block ?_
    refine w_seq ?_
    refine w_region ?_
    refine rw_val (v := .bool ((numT ((PD (rows.take j) j).rwE last)) == 0)) (w' := w603) rfl rfl rfl rfl (by simp [go_sem, sEv, sLook, nbeq, i64_w, -List.getD_eq_getElem?_getD]) ?_
    refine rw_val (v := .bool ((numT ((PD (rows.take j) j).rwE last)) == 0)) (w' := w603) rfl rfl rfl rfl rfl ?_
    refine rw_end ?_
    refine w_cond rfl rfl (fun cN0 => ?_) (fun cN0 => ?_)
    ·have l605 : (numT ((PD (rows.take j) j).rwE last)) = 0 := by simpa using cN0
     refine w_seq ?_
     refine w_region ?_
     refine rw_val (v := .slice A589 out591.length c590) (w' := w603) rfl rfl rfl rfl rfl ?_
     refine rw_val (v := .slice A567 ((last.map strOfNums).length) c568) (w' := w603) rfl rfl rfl rfl rfl ?_
     refine rw_call rfl rfl rfl rfl (f := 13) (args := #[.slice A589 out591.length c590, .slice A567 ((last.map strOfNums).length) c568]) (by simp [go_sem, sEv, sLook, nbeq, i64_w, -List.getD_eq_getElem?_getD]) (same_calls w603 A589 A567 c590 c568 out591 (last.map strOfNums) (Kd.C_below (OwnK.C (d := (Kd.slice 5 (Kd.int .u8))) hL600) hb604) (OwnK.cap (d := (Kd.slice 5 (Kd.int .u8))) hL600) (Kd.C_below (OwnK.C (d := Kd.string) hP602) hb604) (OwnK.cap (d := Kd.string) hP602) (by first | (rw [List.length_map]; omega) | (rw [List.length_append, List.length_map]; simp only [List.length_cons, List.length_nil]; omega))) ?_
     rintro e_ w606 ⟨rfl, hb607⟩
     refine ⟨_, rfl, ?_⟩
     have hs_w606 := hb607.size
     refine rw_val (v := .bool (decide (out591.map strOfNums = (last.map strOfNums)))) (w' := w606) rfl rfl rfl rfl rfl ?_
     refine rw_end ?_
     refine w_weaken (G' := [(2, .bool (decide (out591.map strOfNums = (last.map strOfNums)))), (6, errT ((PD (rows.take j) j).rwE last)), (11, .slice A527 ((rows.map strOfNums).length) c528), (12, .slice A567 ((last.map strOfNums).length) c568), (14, .slice A589 out591.length c590)]) ⟨rfl, rfl, rfl, rfl, rfl, trivial⟩ ?_
     have hq608 : (decide (out591.map strOfNums = (last.map strOfNums))) = true := by rcases hct_ with ⟨h1_, h2_⟩ | ⟨h1_, _⟩ | ⟨h1_, _⟩; exact (by rw [h2_]; simp); all_goals (exfalso; rw [h1_] at cN0; simp [numT] at cN0)
     refine w_ret (post_ret1 rfl rfl ?_)
     exact ⟨by simp only [hq608], chain hb00 (chain (chain hD596t.1 hb604) hb607)⟩
    have l609 : ¬ (numT ((PD (rows.take j) j).rwE last)) = 0 := by simpa using cN0
    refine w_seq ?_
    refine w_region ?_
    refine rw_val (v := .bool ((numT ((PD (rows.take j) j).rwE last)) == 6)) (w' := w603) rfl rfl rfl rfl (by simp [go_sem, sEv, sLook, nbeq, i64_w, -List.getD_eq_getElem?_getD]) ?_
    refine rw_val (v := .bool ((numT ((PD (rows.take j) j).rwE last)) == 6)) (w' := w603) rfl rfl rfl rfl rfl ?_
    refine rw_end ?_
    refine w_cond rfl rfl (fun cN6 => ?_) (fun cN6 => ?_)
    ·have l610 : (numT ((PD (rows.take j) j).rwE last)) = 6 := by simpa using cN6
     refine w_seq ?_
     refine w_region ?_
     refine rw_val (v := .slice A589 out591.length c590) (w' := w603) rfl rfl rfl rfl rfl ?_
     refine rw_val (v := .slice A527 ((rows.map strOfNums).length) c528) (w' := w603) rfl rfl rfl rfl rfl ?_
     refine rw_call rfl rfl rfl rfl (f := 13) (args := #[.slice A589 out591.length c590, .slice A527 ((rows.map strOfNums).length) c528]) (by simp [go_sem, sEv, sLook, nbeq, i64_w, -List.getD_eq_getElem?_getD]) (same_calls w603 A589 A527 c590 c528 out591 (rows.map strOfNums) (Kd.C_below (OwnK.C (d := (Kd.slice 5 (Kd.int .u8))) hL600) hb604) (OwnK.cap (d := (Kd.slice 5 (Kd.int .u8))) hL600) (Kd.C_below (OwnK.C (d := Kd.string) hP601) hb604) (OwnK.cap (d := Kd.string) hP601) (by first | (rw [List.length_map]; omega) | (rw [List.length_append, List.length_map]; simp only [List.length_cons, List.length_nil]; omega))) ?_
     rintro e_ w611 ⟨rfl, hb612⟩
     refine ⟨_, rfl, ?_⟩
     have hs_w611 := hb612.size
     refine rw_val (v := .bool (decide (out591.map strOfNums = (rows.map strOfNums)))) (w' := w611) rfl rfl rfl rfl rfl ?_
     refine rw_end ?_
     refine w_weaken (G' := [(2, .bool (decide (out591.map strOfNums = (rows.map strOfNums)))), (6, errT ((PD (rows.take j) j).rwE last)), (11, .slice A527 ((rows.map strOfNums).length) c528), (12, .slice A567 ((last.map strOfNums).length) c568), (14, .slice A589 out591.length c590)]) ⟨rfl, rfl, rfl, rfl, rfl, trivial⟩ ?_
     have hq613 : (decide (out591.map strOfNums = (rows.map strOfNums))) = true := by rcases hct_ with ⟨h1_, _⟩ | ⟨h1_, h2_⟩ | ⟨h1_, _⟩; (exfalso; rw [h1_] at cN6; simp [numT] at cN6); exact (by rw [h2_]; simp); (exfalso; rw [h1_] at cN6; simp [numT] at cN6)
     refine w_ret (post_ret1 rfl rfl ?_)
     exact ⟨by simp only [hq613], chain hb00 (chain (chain hD596t.1 hb604) hb612)⟩
    have l614 : ¬ (numT ((PD (rows.take j) j).rwE last)) = 6 := by simpa using cN6
    refine w_skip ?_
    refine w_blk ?_
    refine w_seq ?_
    refine w_region ?_
    refine rw_val (v := errT ((PD (rows.take j) j).rwE last)) (w' := w603) rfl rfl rfl rfl rfl ?_
    refine rw_val (v := errT (some 5)) (w' := w603) rfl rfl rfl rfl (by simp [go_sem, sEv, sLook, nbeq, i64_w, -List.getD_eq_getElem?_getD, errT]) ?_
    refine rw_val (v := .bool (decide (((PD (rows.take j) j).rwE last) = some 5))) (w' := w603) rfl rfl rfl rfl (run_as (guard_err_eql _ _ ((PD (rows.take j) j).rwE last) 5 _)) ?_
    refine rw_val (v := .bool (decide (((PD (rows.take j) j).rwE last) = some 5))) (w' := w603) rfl rfl rfl rfl rfl ?_
    have hq615 : (decide (((PD (rows.take j) j).rwE last) = some 5)) = true := by rcases hct_ with ⟨h1_, _⟩ | ⟨h1_, _⟩ | ⟨h1_, _⟩; (exfalso; rw [h1_] at cN0; simp [numT] at cN0); (exfalso; rw [h1_] at cN6; simp [numT] at cN6); (rw [h1_]; simp)
    refine rw_on (c := decide (((PD (rows.take j) j).rwE last) = some 5)) rfl rfl rfl (by first | (rw [hq615]; rfl) | simp [hq615]) ?_
    refine rw_val (v := .slice A589 out591.length c590) (w' := w603) rfl rfl rfl rfl rfl ?_
    refine rw_on (c := decide (((PD (rows.take j) j).rwE last) = some 5)) rfl rfl rfl (by first | (rw [hq615]; rfl) | simp [hq615]) ?_
    refine rw_val (v := .slice A527 ((rows.map strOfNums).length) c528) (w' := w603) rfl rfl rfl rfl rfl ?_
    refine rw_on (c := decide (((PD (rows.take j) j).rwE last) = some 5)) rfl rfl rfl (by first | (rw [hq615]; rfl) | simp [hq615]) ?_
    refine rw_call rfl rfl rfl rfl (f := 13) (args := #[.slice A589 out591.length c590, .slice A527 ((rows.map strOfNums).length) c528]) (by simp [go_sem, sEv, sLook, nbeq, i64_w, -List.getD_eq_getElem?_getD]) (same_calls w603 A589 A527 c590 c528 out591 (rows.map strOfNums) (Kd.C_below (OwnK.C (d := (Kd.slice 5 (Kd.int .u8))) hL600) hb604) (OwnK.cap (d := (Kd.slice 5 (Kd.int .u8))) hL600) (Kd.C_below (OwnK.C (d := Kd.string) hP601) hb604) (OwnK.cap (d := Kd.string) hP601) (by first | (rw [List.length_map]; omega) | (rw [List.length_append, List.length_map]; simp only [List.length_cons, List.length_nil]; omega))) ?_
    rintro e_ w616 ⟨rfl, hb617⟩
    refine ⟨_, rfl, ?_⟩
    have hs_w616 := hb617.size
    refine rw_on (c := decide (((PD (rows.take j) j).rwE last) = some 5)) rfl rfl rfl (by first | (rw [hq615]; rfl) | simp [hq615]) ?_
    refine rw_val (v := .bool (decide (out591.map strOfNums = (rows.map strOfNums)))) (w' := w616) rfl rfl rfl rfl rfl ?_
    rcases bcase (decide (out591.map strOfNums = (rows.map strOfNums))) with cS | cS
    ·have l618 : ¬ (out591.map strOfNums = (rows.map strOfNums)) := of_decide_eq_false cS
     refine rw_on (c := decide (out591.map strOfNums = (rows.map strOfNums))) rfl rfl rfl (by first | (rw [cS]; rfl) | simp [cS]) ?_
     refine rw_val (v := .slice A589 out591.length c590) (w' := w616) rfl rfl rfl rfl rfl ?_
     refine rw_on (c := decide (out591.map strOfNums = (rows.map strOfNums))) rfl rfl rfl (by first | (rw [cS]; rfl) | simp [cS]) ?_
     refine rw_val (v := .slice A567 ((last.map strOfNums).length) c568) (w' := w616) rfl rfl rfl rfl rfl ?_
     refine rw_on (c := decide (out591.map strOfNums = (rows.map strOfNums))) rfl rfl rfl (by first | (rw [cS]; rfl) | simp [cS]) ?_
     refine rw_call rfl rfl rfl rfl (f := 13) (args := #[.slice A589 out591.length c590, .slice A567 ((last.map strOfNums).length) c568]) (by simp [go_sem, sEv, sLook, nbeq, i64_w, -List.getD_eq_getElem?_getD]) (same_calls w616 A589 A567 c590 c568 out591 (last.map strOfNums) (Kd.C_below (OwnK.C (d := (Kd.slice 5 (Kd.int .u8))) hL600) (chain hb604 hb617)) (OwnK.cap (d := (Kd.slice 5 (Kd.int .u8))) hL600) (Kd.C_below (OwnK.C (d := Kd.string) hP602) (chain hb604 hb617)) (OwnK.cap (d := Kd.string) hP602) (by first | (rw [List.length_map]; omega) | (rw [List.length_append, List.length_map]; simp only [List.length_cons, List.length_nil]; omega))) ?_
     rintro e_ w619 ⟨rfl, hb620⟩
     refine ⟨_, rfl, ?_⟩
     have hs_w619 := hb620.size
     refine rw_on (c := decide (((PD (rows.take j) j).rwE last) = some 5)) rfl rfl rfl (by first | (rw [hq615]; rfl) | simp [hq615]) ?_
     refine rw_val (v := .bool (decide (out591.map strOfNums = (last.map strOfNums)))) (w' := w619) rfl rfl rfl rfl (by first | (simp [go_sem, sEv, sLook, nbeq, i64_w, -List.getD_eq_getElem?_getD, cS]; done) | (rw [cS]; simp [go_sem, sEv, sLook, nbeq, i64_w, -List.getD_eq_getElem?_getD]; done) | (simp [go_sem, sEv, sLook, nbeq, i64_w, -List.getD_eq_getElem?_getD] <;> omega) | (simp [go_sem, sEv, sLook, nbeq, i64_w, -List.getD_eq_getElem?_getD]; intro h_; exact absurd (by omega) h_)) ?_
     refine rw_val (v := .bool (decide (out591.map strOfNums = (last.map strOfNums)))) (w' := w619) rfl rfl rfl rfl (by first | (simp [go_sem, sEv, sLook, nbeq, i64_w, -List.getD_eq_getElem?_getD, hq615]; done) | (rw [hq615]; simp [go_sem, sEv, sLook, nbeq, i64_w, -List.getD_eq_getElem?_getD]; done) | (simp [go_sem, sEv, sLook, nbeq, i64_w, -List.getD_eq_getElem?_getD] <;> omega) | (simp [go_sem, sEv, sLook, nbeq, i64_w, -List.getD_eq_getElem?_getD]; intro h_; exact absurd (by omega) h_)) ?_
     refine rw_val (v := .bool (decide (out591.map strOfNums = (last.map strOfNums)))) (w' := w619) rfl rfl rfl rfl rfl ?_
     refine rw_end ?_
     refine w_weaken (G' := [(2, .bool (decide (out591.map strOfNums = (last.map strOfNums))))]) ⟨rfl, trivial⟩ ?_
     have hq621 : (decide (out591.map strOfNums = (last.map strOfNums))) = true := by rcases hct_ with ⟨h1_, h2_⟩ | ⟨h1_, h2_⟩ | ⟨h1_, h2_ | h2_⟩; exact (by rw [h2_]; simp); (exfalso; rw [h2_] at cS; simp at cS); (exfalso; rw [h2_] at cS; simp at cS); exact (by rw [h2_]; simp)
     refine w_ret (post_ret1 rfl rfl ?_)
     exact ⟨by simp only [hq621], chain hb00 (chain (chain (chain hD596t.1 hb604) hb617) hb620)⟩
    have l622 : (out591.map strOfNums = (rows.map strOfNums)) := of_decide_eq_true cS
    refine rw_off (c := decide (out591.map strOfNums = (rows.map strOfNums))) rfl rfl rfl (by first | (rw [cS]; rfl) | simp [cS]) rfl rfl ?_
    refine rw_off (c := decide (out591.map strOfNums = (rows.map strOfNums))) rfl rfl rfl (by first | (rw [cS]; rfl) | simp [cS]) rfl rfl ?_
    refine rw_off (c := decide (out591.map strOfNums = (rows.map strOfNums))) rfl rfl rfl (by first | (rw [cS]; rfl) | simp [cS]) rfl rfl ?_
    refine rw_on (c := decide (((PD (rows.take j) j).rwE last) = some 5)) rfl rfl rfl (by first | (rw [hq615]; rfl) | simp [hq615]) ?_
    refine rw_val (v := .bool true) (w' := w616) rfl rfl rfl rfl (by first | (simp [go_sem, sEv, sLook, nbeq, i64_w, -List.getD_eq_getElem?_getD, cS]; done) | (rw [cS]; simp [go_sem, sEv, sLook, nbeq, i64_w, -List.getD_eq_getElem?_getD]; done) | (simp [go_sem, sEv, sLook, nbeq, i64_w, -List.getD_eq_getElem?_getD] <;> omega) | (simp [go_sem, sEv, sLook, nbeq, i64_w, -List.getD_eq_getElem?_getD]; intro h_; exact absurd (by omega) h_)) ?_
    refine rw_val (v := .bool true) (w' := w616) rfl rfl rfl rfl (by first | (simp [go_sem, sEv, sLook, nbeq, i64_w, -List.getD_eq_getElem?_getD, hq615]; done) | (rw [hq615]; simp [go_sem, sEv, sLook, nbeq, i64_w, -List.getD_eq_getElem?_getD]; done) | (simp [go_sem, sEv, sLook, nbeq, i64_w, -List.getD_eq_getElem?_getD] <;> omega) | (simp [go_sem, sEv, sLook, nbeq, i64_w, -List.getD_eq_getElem?_getD]; intro h_; exact absurd (by omega) h_)) ?_
    refine rw_val (v := .bool true) (w' := w616) rfl rfl rfl rfl rfl ?_
    refine rw_end ?_
    refine w_weaken (G' := [(2, .bool true)]) ⟨rfl, trivial⟩ ?_
    refine w_ret (post_ret1 rfl rfl ?_)
    exact ⟨rfl, chain hb00 (chain (chain hD596t.1 hb604) hb617)⟩
   refine w_region ?_
   refine rw_val (v := .pointer (some ⟨gd14, 0, none⟩)) (w' := w557) rfl rfl rfl rfl rfl ?_
   refine rw_val (v := .pointer (some ⟨gb, 1, none⟩)) (w' := w557) rfl rfl rfl rfl (by simp [go_sem, sEv, sLook, nbeq, i64_w, -List.getD_eq_getElem?_getD, Try.underlying45]) ?_
   refine rw_val (v := .slice (some ad540) last.length c2) (w' := w557) rfl rfl rfl rfl (by have eb_ := (hkb.on hB559); have e0_ := eb_.cellv (i := 1) (v := (.slice (some ad540) last.length c2 : Value)) rfl; simp [go_sem, sEv, sLook, nbeq, i64_w, -List.getD_eq_getElem?_getD, e0_, Try.underlying22]) ?_
   obtain ⟨hc625a, A626, c627, hA624, he628, hle629, hC630⟩ := rows_at (Kd.C_below hl hB559) 0 (by first | omega | decide)
   obtain rfl := Option.some.inj hA624
   have he631 : w557.cell? (ad540) = some (.slice A626 ((last.getD 0 []).length) c627) := cell_00 he628
   refine rw_val (v := .pointer (some (ad540))) (w' := w557) rfl rfl rfl rfl (run_as (run_at_z (P := Try.prog) (e := 32) (sz := 1) (by kernel_rfl) (by kernel_rfl)  (by first | omega | decide) _)) ?_
   refine rw_val (v := .slice A626 ((last.getD 0 []).length) c627) (w' := w557) rfl rfl rfl rfl (by have e0_ := cellOn he631 (Below.refl _ _); simp [go_sem, sEv, sLook, nbeq, i64_w, -List.getD_eq_getElem?_getD, e0_, Try.underlying32]) ?_
   have hX_ := cut_add (PD (rows.take j) j) rows (last.getD 0 []) keep (PD_ok _ _ (by omega) (by omega)) (by show (FC (rows.take j)) = FC rows; exact hfc_) (by show ((FC (rows.take j)).length : Int) = ((FC rows).length : Int); rw [hfc_]) hl0_ (by omega) (by show ((2 * j : Nat) : Int) ≤ 1000; omega)
   obtain ⟨X632, hX633, hC634, hX635, hX636⟩ := hX_
   have hn2_ : ∀ p ∈ (rows ++ [(last.getD 0 [])]), p.length ≤ 16376 := fun p hp => (List.mem_append.1 hp).elim (hr2_ p) (fun hp => by rw [List.mem_singleton.1 hp]; exact hl0_)
   refine rw_call rfl rfl rfl rfl (f := 12) (args := #[.pointer (some ⟨gd14, 0, none⟩), .slice A626 ((last.getD 0 []).length) c627]) (by simp [go_sem, sEv, sLook, nbeq, i64_w, -List.getD_eq_getElem?_getD]) (add_D w w557 g10 gd14 md (HI gd14 md w557.heap.size) (HI.lt (by omega) (by omega)) (PD (rows.take j) j) ⟨(TapeAt.hole hT566 (HI gd14 md w557.heap.size) (fun q h1 h2 h3 h4 => h4.elim (fun e => h3 (.inl e)) (fun h => by omega))), hk565, hEg_, hEz_, (.inl rfl)⟩ (PD_ok _ _ (by omega) (by omega)) (by show ((2 * j : Nat) : Int) ≤ 999999990; omega) (show -1000000000 ≤ (((rows.take j).length : Nat) : Int) ∧ (((rows.take j).length : Nat) : Int) ≤ 1000000000 by rw [List.length_take]; omega) (show -1000000000 ≤ (((FC (rows.take j)).length : Nat) : Int) ∧ (((FC (rows.take j)).length : Nat) : Int) ≤ 1000000000 by omega) A626 c627 (last.getD 0 []) (Kd.C_below hC630 (Below.refl _ _)) hle629 (by omega)) ?_
   rintro e_ w638 ⟨rfl, m637, hD639, hs640, hk641⟩
   refine ⟨_, rfl, ?_⟩
   obtain ⟨hD639t, hD639b, hD639g, hD639z, hD639x⟩ := hD639
   have hz_w638 := hD639t.size
   have hlt_w638 := hD639b.lt
   refine rw_val (v := errT ((PD (rows.take j) j).addE (last.getD 0 []))) (w' := w638) rfl rfl rfl rfl rfl ?_
   refine rw_end ?_
   refine w_weaken (G' := [(1, .pointer (some ⟨gb, 0, none⟩)), (3, .pointer (some ⟨g10, 0, none⟩)), (6, errT ((PD (rows.take j) j).addE (last.getD 0 []))), (11, .slice A527 ((rows.map strOfNums).length) c528), (12, .slice A555 (((rows.map strOfNums) ++ ([strOfNums (last.getD 0 [])] : List ByteArray)).length) c556)]) ⟨rfl, rfl, rfl, rfl, rfl, trivial⟩ ?_
   refine w_seq ?_
   refine w_region ?_
   refine rw_val (v := .pointer (some ⟨g10, 0, none⟩)) (w' := w638) rfl rfl rfl rfl rfl ?_
   refine rw_val (v := .pointer (some ⟨gb, 5, none⟩)) (w' := w638) rfl rfl rfl rfl (by simp [go_sem, sEv, sLook, nbeq, i64_w, -List.getD_eq_getElem?_getD, Try.underlying45]) ?_
   refine rw_val (v := .int .i64 keep) (w' := w638) rfl rfl rfl rfl (by have eb_ := (hkb.on hD639t.1); have e0_ := eb_.cellv (i := 5) (v := (.int .i64 keep : Value)) rfl; simp [go_sem, sEv, sLook, nbeq, i64_w, -List.getD_eq_getElem?_getD, e0_]) ?_
   refine rw_call rfl rfl rfl rfl (f := 22) (args := #[.pointer (some ⟨g10, 0, none⟩), .int .i64 keep]) (by simp [go_sem, sEv, sLook, nbeq, i64_w, -List.getD_eq_getElem?_getD]) (crash_T w w638 g10 m637 (HI gd14 md w557.heap.size) (HI.lt (by omega) (by omega)) (((PD (rows.take j) j).add (last.getD 0 [])).s) hD639t hX635 keep) ?_
   rintro e_ w642 ⟨rfl, hT643, hs644, hx645⟩
   refine ⟨.tuple #[], rfl, ?_⟩
   rw [hX633] at hT643
   have hz_w642 := hT643.size
   have hk_w642 : Blk w642 gd14 80 _ := (hx645 gd14 hD639x hD639g).trans (hD639b)
   have hlt_w642 := hk_w642.lt
   refine rw_end ?_
   refine w_weaken (G' := [(3, .pointer (some ⟨g10, 0, none⟩)), (6, errT ((PD (rows.take j) j).addE (last.getD 0 []))), (11, .slice A527 ((rows.map strOfNums).length) c528), (12, .slice A555 (((rows.map strOfNums) ++ ([strOfNums (last.getD 0 [])] : List ByteArray)).length) c556)]) ⟨rfl, rfl, rfl, rfl, trivial⟩ ?_
   refine w_seq ?_
   refine w_region ?_
   refine rw_val (v := .pointer (some ⟨g10, 0, none⟩)) (w' := w642) rfl rfl rfl rfl rfl ?_
   refine rw_call rfl rfl rfl rfl (f := 11) (args := #[.pointer (some ⟨g10, 0, none⟩)]) (by simp [go_sem, sEv, sLook, nbeq, i64_w, -List.getD_eq_getElem?_getD]) (open_cut w w642 g10 w642.heap.size (HI gd14 md w557.heap.size) (HI.lt (by omega) (by omega)) X632 ((PD (rows.take j) j).add (last.getD 0 [])).s.steps hT643 ⟨hX635.steps.1, hX636⟩ (cut_len hC634 (by omega) (by rw [FC_append, FC_one, List.length_append, frameB_len _ hl0_]; omega)) (cut_bytes hC634 hby (fun r hr_ => (List.mem_append.1 hr_).elim (hby r) (fun hr_ => by rw [List.mem_singleton.1 hr_]; exact hbl _ (getD_mem last 0 [] (by omega)))))) ?_
   rintro e_ w653 ⟨gd646, m647, A648, c649, out650, n651, s652, rfl, hS654, hD655, hO656, hs657, hK658⟩
   refine ⟨_, rfl, ?_⟩
   obtain ⟨hD655t, hD655b, hD655g, hD655z, hD655x⟩ := hD655
   have hz_w653 := hD655t.size
   have hlt_w653 := hD655b.lt
   have hL659 : OwnK (Kd.slice 5 (Kd.int .u8)) 32 w653 w.heap.size w.heap.size A648 out650.length c649 out650 := OwnK.mono (d := (Kd.slice 5 (Kd.int .u8))) (OwnK.lower (d := (Kd.slice 5 (Kd.int .u8))) hO656 (by omega)) (by omega)
   have hct_ := cut_told hC634 hr2_ hn2_ hS654
   have hP660 : OwnK Kd.string 9 w653 w.heap.size w_L48.heap.size A527 ((rows.map strOfNums).length) c528 (rows.map strOfNums) := OwnK.step (d := Kd.string) hO562 (fun q hq hlt => by have hq_ : (HI gd14 md w557.heap.size) q := .inr ⟨(by omega), hlt⟩; have hqg : q ≠ g10 := (by omega); have hqd : q ≠ gd14 := (by omega); exact ((hK658.2 q (by omega) hqg).trans ((hx645 q hq_ hqg).trans (hk641 q hq_ hqg hqd))))
   have hP661 : OwnK Kd.string 9 w653 w.heap.size w529.heap.size A555 (((rows.map strOfNums) ++ ([strOfNums (last.getD 0 [])] : List ByteArray)).length) c556 ((rows.map strOfNums) ++ ([strOfNums (last.getD 0 [])] : List ByteArray)) := OwnK.step (d := Kd.string) hO558 (fun q hq hlt => by have hq_ : (HI gd14 md w557.heap.size) q := .inr ⟨(by omega), hlt⟩; have hqg : q ≠ g10 := (by omega); have hqd : q ≠ gd14 := (by omega); exact ((hK658.2 q (by omega) hqg).trans ((hx645 q hq_ hqg).trans (hk641 q hq_ hqg hqd))))
   refine rw_val (v := .tuple #[.pointer (some ⟨gd646, 0, none⟩), .slice A648 out650.length c649, errT none]) (w' := w653) rfl rfl rfl rfl rfl ?_
   refine rw_val (v := .pointer (some ⟨gd646, 0, none⟩)) (w' := w653) rfl rfl rfl rfl (by simp [go_sem, sEv, sLook, nbeq, i64_w, -List.getD_eq_getElem?_getD]) ?_
   refine rw_val (v := .slice A648 out650.length c649) (w' := w653) rfl rfl rfl rfl (by simp [go_sem, sEv, sLook, nbeq, i64_w, -List.getD_eq_getElem?_getD]) ?_
   refine rw_val (v := errT none) (w' := w653) rfl rfl rfl rfl (by simp [go_sem, sEv, sLook, nbeq, i64_w, -List.getD_eq_getElem?_getD]) ?_
   refine rw_val (v := .pointer (some ⟨gd646, 0, none⟩)) (w' := w653) rfl rfl rfl rfl rfl ?_
   refine rw_val (v := .slice A648 out650.length c649) (w' := w653) rfl rfl rfl rfl rfl ?_
   refine rw_val (v := errT none) (w' := w653) rfl rfl rfl rfl rfl ?_
   refine rw_end ?_
   refine w_weaken (G' := [(6, errT ((PD (rows.take j) j).addE (last.getD 0 []))), (11, .slice A527 ((rows.map strOfNums).length) c528), (12, .slice A555 (((rows.map strOfNums) ++ ([strOfNums (last.getD 0 [])] : List ByteArray)).length) c556), (14, .slice A648 out650.length c649), (15, errT none)]) ⟨rfl, rfl, rfl, rfl, rfl, trivial⟩ ?_
   refine w_seq ?_
   refine w_seq ?_
   refine w_region ?_
   refine rw_val (v := errT none) (w' := w653) rfl rfl rfl rfl rfl ?_
   refine rw_val (v := .bool ((none : Option Int).isSome)) (w' := w653) rfl rfl rfl rfl (run_as (guard_err_neq _ (none : Option Int) _)) ?_
   refine rw_end ?_
   refine w_cond_f rfl rfl hq24 ?_
   refine w_skip ?_
   refine w_seq ?_
   refine w_seq ?_
   refine w_region ?_
   refine rw_val (v := errT ((PD (rows.take j) j).addE (last.getD 0 []))) (w' := w653) rfl rfl rfl rfl rfl ?_
   refine rw_call rfl rfl rfl rfl (f := 23) (args := #[errT ((PD (rows.take j) j).addE (last.getD 0 []))]) (by simp [go_sem, sEv, sLook, nbeq, i64_w, -List.getD_eq_getElem?_getD]) (num_T ((PD (rows.take j) j).addE (last.getD 0 [])) (cut_num hC634) w653) ?_
   rintro e_ w662 ⟨rfl, hb663⟩
   refine ⟨_, rfl, ?_⟩
   have hs_w662 := hb663.size
   refine rw_end ?_
   refine w_block ?_
   refine w_seq ?_
   refine w_region ?_
   refine rw_val (v := .bool ((numT ((PD (rows.take j) j).addE (last.getD 0 []))) == 0)) (w' := w662) rfl rfl rfl rfl (by simp [go_sem, sEv, sLook, nbeq, i64_w, -List.getD_eq_getElem?_getD]) ?_
   refine rw_val (v := .bool ((numT ((PD (rows.take j) j).addE (last.getD 0 []))) == 0)) (w' := w662) rfl rfl rfl rfl rfl ?_
   refine rw_end ?_
   refine w_cond rfl rfl (fun cN0 => ?_) (fun cN0 => ?_)
   ·have l664 : (numT ((PD (rows.take j) j).addE (last.getD 0 []))) = 0 := by simpa using cN0
    refine w_seq ?_
    refine w_region ?_
    refine rw_val (v := .slice A648 out650.length c649) (w' := w662) rfl rfl rfl rfl rfl ?_
    refine rw_val (v := .slice A555 (((rows.map strOfNums) ++ ([strOfNums (last.getD 0 [])] : List ByteArray)).length) c556) (w' := w662) rfl rfl rfl rfl rfl ?_
    refine rw_call rfl rfl rfl rfl (f := 13) (args := #[.slice A648 out650.length c649, .slice A555 (((rows.map strOfNums) ++ ([strOfNums (last.getD 0 [])] : List ByteArray)).length) c556]) (by simp [go_sem, sEv, sLook, nbeq, i64_w, -List.getD_eq_getElem?_getD]) (same_calls w662 A648 A555 c649 c556 out650 ((rows.map strOfNums) ++ ([strOfNums (last.getD 0 [])] : List ByteArray)) (Kd.C_below (OwnK.C (d := (Kd.slice 5 (Kd.int .u8))) hL659) hb663) (OwnK.cap (d := (Kd.slice 5 (Kd.int .u8))) hL659) (Kd.C_below (OwnK.C (d := Kd.string) hP661) hb663) (OwnK.cap (d := Kd.string) hP661) (by first | (rw [List.length_map]; omega) | (rw [List.length_append, List.length_map]; simp only [List.length_cons, List.length_nil]; omega))) ?_
    rintro e_ w665 ⟨rfl, hb666⟩
    refine ⟨_, rfl, ?_⟩
    have hs_w665 := hb666.size
    refine rw_val (v := .bool (decide (out650.map strOfNums = ((rows.map strOfNums) ++ ([strOfNums (last.getD 0 [])] : List ByteArray))))) (w' := w665) rfl rfl rfl rfl rfl ?_
    refine rw_end ?_
    refine w_weaken (G' := [(2, .bool (decide (out650.map strOfNums = ((rows.map strOfNums) ++ ([strOfNums (last.getD 0 [])] : List ByteArray))))), (6, errT ((PD (rows.take j) j).addE (last.getD 0 []))), (11, .slice A527 ((rows.map strOfNums).length) c528), (12, .slice A555 (((rows.map strOfNums) ++ ([strOfNums (last.getD 0 [])] : List ByteArray)).length) c556), (14, .slice A648 out650.length c649)]) ⟨rfl, rfl, rfl, rfl, rfl, trivial⟩ ?_
    have hq667 : (decide (out650.map strOfNums = ((rows.map strOfNums) ++ ([strOfNums (last.getD 0 [])] : List ByteArray)))) = true := by rcases hct_ with ⟨h1_, h2_⟩ | ⟨h1_, _⟩ | ⟨h1_, _⟩; exact (by rw [h2_]; simp); all_goals (exfalso; rw [h1_] at cN0; simp [numT] at cN0)
    refine w_ret (post_ret1 rfl rfl ?_)
    exact ⟨by simp only [hq667], chain hb00 (chain (chain hD655t.1 hb663) hb666)⟩
   have l668 : ¬ (numT ((PD (rows.take j) j).addE (last.getD 0 []))) = 0 := by simpa using cN0
   refine w_seq ?_
   refine w_region ?_
   refine rw_val (v := .bool ((numT ((PD (rows.take j) j).addE (last.getD 0 []))) == 6)) (w' := w662) rfl rfl rfl rfl (by simp [go_sem, sEv, sLook, nbeq, i64_w, -List.getD_eq_getElem?_getD]) ?_
   refine rw_val (v := .bool ((numT ((PD (rows.take j) j).addE (last.getD 0 []))) == 6)) (w' := w662) rfl rfl rfl rfl rfl ?_
   refine rw_end ?_
   refine w_cond rfl rfl (fun cN6 => ?_) (fun cN6 => ?_)
   ·have l669 : (numT ((PD (rows.take j) j).addE (last.getD 0 []))) = 6 := by simpa using cN6
    refine w_seq ?_
    refine w_region ?_
    refine rw_val (v := .slice A648 out650.length c649) (w' := w662) rfl rfl rfl rfl rfl ?_
    refine rw_val (v := .slice A527 ((rows.map strOfNums).length) c528) (w' := w662) rfl rfl rfl rfl rfl ?_
    refine rw_call rfl rfl rfl rfl (f := 13) (args := #[.slice A648 out650.length c649, .slice A527 ((rows.map strOfNums).length) c528]) (by simp [go_sem, sEv, sLook, nbeq, i64_w, -List.getD_eq_getElem?_getD]) (same_calls w662 A648 A527 c649 c528 out650 (rows.map strOfNums) (Kd.C_below (OwnK.C (d := (Kd.slice 5 (Kd.int .u8))) hL659) hb663) (OwnK.cap (d := (Kd.slice 5 (Kd.int .u8))) hL659) (Kd.C_below (OwnK.C (d := Kd.string) hP660) hb663) (OwnK.cap (d := Kd.string) hP660) (by first | (rw [List.length_map]; omega) | (rw [List.length_append, List.length_map]; simp only [List.length_cons, List.length_nil]; omega))) ?_
    rintro e_ w670 ⟨rfl, hb671⟩
    refine ⟨_, rfl, ?_⟩
    have hs_w670 := hb671.size
    refine rw_val (v := .bool (decide (out650.map strOfNums = (rows.map strOfNums)))) (w' := w670) rfl rfl rfl rfl rfl ?_
    refine rw_end ?_
    refine w_weaken (G' := [(2, .bool (decide (out650.map strOfNums = (rows.map strOfNums)))), (6, errT ((PD (rows.take j) j).addE (last.getD 0 []))), (11, .slice A527 ((rows.map strOfNums).length) c528), (12, .slice A555 (((rows.map strOfNums) ++ ([strOfNums (last.getD 0 [])] : List ByteArray)).length) c556), (14, .slice A648 out650.length c649)]) ⟨rfl, rfl, rfl, rfl, rfl, trivial⟩ ?_
    have hq672 : (decide (out650.map strOfNums = (rows.map strOfNums))) = true := by rcases hct_ with ⟨h1_, _⟩ | ⟨h1_, h2_⟩ | ⟨h1_, _⟩; (exfalso; rw [h1_] at cN6; simp [numT] at cN6); exact (by rw [h2_]; simp); (exfalso; rw [h1_] at cN6; simp [numT] at cN6)
    refine w_ret (post_ret1 rfl rfl ?_)
    exact ⟨by simp only [hq672], chain hb00 (chain (chain hD655t.1 hb663) hb671)⟩
   have l673 : ¬ (numT ((PD (rows.take j) j).addE (last.getD 0 []))) = 6 := by simpa using cN6
   refine w_skip ?_
   refine w_blk ?_
   refine w_seq ?_
   refine w_region ?_
   refine rw_val (v := errT ((PD (rows.take j) j).addE (last.getD 0 []))) (w' := w662) rfl rfl rfl rfl rfl ?_
   refine rw_val (v := errT (some 5)) (w' := w662) rfl rfl rfl rfl (by simp [go_sem, sEv, sLook, nbeq, i64_w, -List.getD_eq_getElem?_getD, errT]) ?_
   refine rw_val (v := .bool (decide (((PD (rows.take j) j).addE (last.getD 0 [])) = some 5))) (w' := w662) rfl rfl rfl rfl (run_as (guard_err_eql _ _ ((PD (rows.take j) j).addE (last.getD 0 [])) 5 _)) ?_
   refine rw_val (v := .bool (decide (((PD (rows.take j) j).addE (last.getD 0 [])) = some 5))) (w' := w662) rfl rfl rfl rfl rfl ?_
   have hq674 : (decide (((PD (rows.take j) j).addE (last.getD 0 [])) = some 5)) = true := by rcases hct_ with ⟨h1_, _⟩ | ⟨h1_, _⟩ | ⟨h1_, _⟩; (exfalso; rw [h1_] at cN0; simp [numT] at cN0); (exfalso; rw [h1_] at cN6; simp [numT] at cN6); (rw [h1_]; simp)
   refine rw_on (c := decide (((PD (rows.take j) j).addE (last.getD 0 [])) = some 5)) rfl rfl rfl (by first | (rw [hq674]; rfl) | simp [hq674]) ?_
   refine rw_val (v := .slice A648 out650.length c649) (w' := w662) rfl rfl rfl rfl rfl ?_
   refine rw_on (c := decide (((PD (rows.take j) j).addE (last.getD 0 [])) = some 5)) rfl rfl rfl (by first | (rw [hq674]; rfl) | simp [hq674]) ?_
   refine rw_val (v := .slice A527 ((rows.map strOfNums).length) c528) (w' := w662) rfl rfl rfl rfl rfl ?_
   refine rw_on (c := decide (((PD (rows.take j) j).addE (last.getD 0 [])) = some 5)) rfl rfl rfl (by first | (rw [hq674]; rfl) | simp [hq674]) ?_
   refine rw_call rfl rfl rfl rfl (f := 13) (args := #[.slice A648 out650.length c649, .slice A527 ((rows.map strOfNums).length) c528]) (by simp [go_sem, sEv, sLook, nbeq, i64_w, -List.getD_eq_getElem?_getD]) (same_calls w662 A648 A527 c649 c528 out650 (rows.map strOfNums) (Kd.C_below (OwnK.C (d := (Kd.slice 5 (Kd.int .u8))) hL659) hb663) (OwnK.cap (d := (Kd.slice 5 (Kd.int .u8))) hL659) (Kd.C_below (OwnK.C (d := Kd.string) hP660) hb663) (OwnK.cap (d := Kd.string) hP660) (by first | (rw [List.length_map]; omega) | (rw [List.length_append, List.length_map]; simp only [List.length_cons, List.length_nil]; omega))) ?_
   rintro e_ w675 ⟨rfl, hb676⟩
   refine ⟨_, rfl, ?_⟩
   have hs_w675 := hb676.size
   refine rw_on (c := decide (((PD (rows.take j) j).addE (last.getD 0 [])) = some 5)) rfl rfl rfl (by first | (rw [hq674]; rfl) | simp [hq674]) ?_
   refine rw_val (v := .bool (decide (out650.map strOfNums = (rows.map strOfNums)))) (w' := w675) rfl rfl rfl rfl rfl ?_
   rcases bcase (decide (out650.map strOfNums = (rows.map strOfNums))) with cS | cS
   ·have l677 : ¬ (out650.map strOfNums = (rows.map strOfNums)) := of_decide_eq_false cS
    refine rw_on (c := decide (out650.map strOfNums = (rows.map strOfNums))) rfl rfl rfl (by first | (rw [cS]; rfl) | simp [cS]) ?_
    refine rw_val (v := .slice A648 out650.length c649) (w' := w675) rfl rfl rfl rfl rfl ?_
    refine rw_on (c := decide (out650.map strOfNums = (rows.map strOfNums))) rfl rfl rfl (by first | (rw [cS]; rfl) | simp [cS]) ?_
    refine rw_val (v := .slice A555 (((rows.map strOfNums) ++ ([strOfNums (last.getD 0 [])] : List ByteArray)).length) c556) (w' := w675) rfl rfl rfl rfl rfl ?_
    refine rw_on (c := decide (out650.map strOfNums = (rows.map strOfNums))) rfl rfl rfl (by first | (rw [cS]; rfl) | simp [cS]) ?_
    refine rw_call rfl rfl rfl rfl (f := 13) (args := #[.slice A648 out650.length c649, .slice A555 (((rows.map strOfNums) ++ ([strOfNums (last.getD 0 [])] : List ByteArray)).length) c556]) (by simp [go_sem, sEv, sLook, nbeq, i64_w, -List.getD_eq_getElem?_getD]) (same_calls w675 A648 A555 c649 c556 out650 ((rows.map strOfNums) ++ ([strOfNums (last.getD 0 [])] : List ByteArray)) (Kd.C_below (OwnK.C (d := (Kd.slice 5 (Kd.int .u8))) hL659) (chain hb663 hb676)) (OwnK.cap (d := (Kd.slice 5 (Kd.int .u8))) hL659) (Kd.C_below (OwnK.C (d := Kd.string) hP661) (chain hb663 hb676)) (OwnK.cap (d := Kd.string) hP661) (by first | (rw [List.length_map]; omega) | (rw [List.length_append, List.length_map]; simp only [List.length_cons, List.length_nil]; omega))) ?_
    rintro e_ w678 ⟨rfl, hb679⟩
    refine ⟨_, rfl, ?_⟩
    have hs_w678 := hb679.size
    refine rw_on (c := decide (((PD (rows.take j) j).addE (last.getD 0 [])) = some 5)) rfl rfl rfl (by first | (rw [hq674]; rfl) | simp [hq674]) ?_
    refine rw_val (v := .bool (decide (out650.map strOfNums = ((rows.map strOfNums) ++ ([strOfNums (last.getD 0 [])] : List ByteArray))))) (w' := w678) rfl rfl rfl rfl (by first | (simp [go_sem, sEv, sLook, nbeq, i64_w, -List.getD_eq_getElem?_getD, cS]; done) | (rw [cS]; simp [go_sem, sEv, sLook, nbeq, i64_w, -List.getD_eq_getElem?_getD]; done) | (simp [go_sem, sEv, sLook, nbeq, i64_w, -List.getD_eq_getElem?_getD] <;> omega) | (simp [go_sem, sEv, sLook, nbeq, i64_w, -List.getD_eq_getElem?_getD]; intro h_; exact absurd (by omega) h_)) ?_
    refine rw_val (v := .bool (decide (out650.map strOfNums = ((rows.map strOfNums) ++ ([strOfNums (last.getD 0 [])] : List ByteArray))))) (w' := w678) rfl rfl rfl rfl (by first | (simp [go_sem, sEv, sLook, nbeq, i64_w, -List.getD_eq_getElem?_getD, hq674]; done) | (rw [hq674]; simp [go_sem, sEv, sLook, nbeq, i64_w, -List.getD_eq_getElem?_getD]; done) | (simp [go_sem, sEv, sLook, nbeq, i64_w, -List.getD_eq_getElem?_getD] <;> omega) | (simp [go_sem, sEv, sLook, nbeq, i64_w, -List.getD_eq_getElem?_getD]; intro h_; exact absurd (by omega) h_)) ?_
    refine rw_val (v := .bool (decide (out650.map strOfNums = ((rows.map strOfNums) ++ ([strOfNums (last.getD 0 [])] : List ByteArray))))) (w' := w678) rfl rfl rfl rfl rfl ?_
    refine rw_end ?_
    refine w_weaken (G' := [(2, .bool (decide (out650.map strOfNums = ((rows.map strOfNums) ++ ([strOfNums (last.getD 0 [])] : List ByteArray)))))]) ⟨rfl, trivial⟩ ?_
    have hq680 : (decide (out650.map strOfNums = ((rows.map strOfNums) ++ ([strOfNums (last.getD 0 [])] : List ByteArray)))) = true := by rcases hct_ with ⟨h1_, h2_⟩ | ⟨h1_, h2_⟩ | ⟨h1_, h2_ | h2_⟩; exact (by rw [h2_]; simp); (exfalso; rw [h2_] at cS; simp at cS); (exfalso; rw [h2_] at cS; simp at cS); exact (by rw [h2_]; simp)
    refine w_ret (post_ret1 rfl rfl ?_)
    exact ⟨by simp only [hq680], chain hb00 (chain (chain (chain hD655t.1 hb663) hb676) hb679)⟩
   have l681 : (out650.map strOfNums = (rows.map strOfNums)) := of_decide_eq_true cS
   refine rw_off (c := decide (out650.map strOfNums = (rows.map strOfNums))) rfl rfl rfl (by first | (rw [cS]; rfl) | simp [cS]) rfl rfl ?_
   refine rw_off (c := decide (out650.map strOfNums = (rows.map strOfNums))) rfl rfl rfl (by first | (rw [cS]; rfl) | simp [cS]) rfl rfl ?_
   refine rw_off (c := decide (out650.map strOfNums = (rows.map strOfNums))) rfl rfl rfl (by first | (rw [cS]; rfl) | simp [cS]) rfl rfl ?_
   refine rw_on (c := decide (((PD (rows.take j) j).addE (last.getD 0 [])) = some 5)) rfl rfl rfl (by first | (rw [hq674]; rfl) | simp [hq674]) ?_
   refine rw_val (v := .bool true) (w' := w675) rfl rfl rfl rfl (by first | (simp [go_sem, sEv, sLook, nbeq, i64_w, -List.getD_eq_getElem?_getD, cS]; done) | (rw [cS]; simp [go_sem, sEv, sLook, nbeq, i64_w, -List.getD_eq_getElem?_getD]; done) | (simp [go_sem, sEv, sLook, nbeq, i64_w, -List.getD_eq_getElem?_getD] <;> omega) | (simp [go_sem, sEv, sLook, nbeq, i64_w, -List.getD_eq_getElem?_getD]; intro h_; exact absurd (by omega) h_)) ?_
   refine rw_val (v := .bool true) (w' := w675) rfl rfl rfl rfl (by first | (simp [go_sem, sEv, sLook, nbeq, i64_w, -List.getD_eq_getElem?_getD, hq674]; done) | (rw [hq674]; simp [go_sem, sEv, sLook, nbeq, i64_w, -List.getD_eq_getElem?_getD]; done) | (simp [go_sem, sEv, sLook, nbeq, i64_w, -List.getD_eq_getElem?_getD] <;> omega) | (simp [go_sem, sEv, sLook, nbeq, i64_w, -List.getD_eq_getElem?_getD]; intro h_; exact absurd (by omega) h_)) ?_
   refine rw_val (v := .bool true) (w' := w675) rfl rfl rfl rfl rfl ?_
   refine rw_end ?_
   refine w_weaken (G' := [(2, .bool true)]) ⟨rfl, trivial⟩ ?_
   refine w_ret (post_ret1 rfl rfl ?_)
   exact ⟨rfl, chain hb00 (chain (chain hD655t.1 hb663) hb676)⟩
  have l682 : (20 < ((last.length : Nat) : Int)) := of_decide_eq_true c5
  refine rw_off (c := decide (20 < ((last.length : Nat) : Int))) rfl rfl rfl (by first | (rw [c5]; rfl) | simp [c5]) rfl rfl ?_
  refine rw_off (c := decide (20 < ((last.length : Nat) : Int))) rfl rfl rfl (by first | (rw [c5]; rfl) | simp [c5]) rfl rfl ?_
  refine rw_off (c := decide (20 < ((last.length : Nat) : Int))) rfl rfl rfl (by first | (rw [c5]; rfl) | simp [c5]) rfl rfl ?_
  refine rw_off (c := decide (20 < ((last.length : Nat) : Int))) rfl rfl rfl (by first | (rw [c5]; rfl) | simp [c5]) rfl rfl ?_
  refine rw_val (v := .bool true) (w' := w1) rfl rfl rfl rfl (by first | (simp [go_sem, sEv, sLook, nbeq, i64_w, -List.getD_eq_getElem?_getD, c5]; done) | (rw [c5]; simp [go_sem, sEv, sLook, nbeq, i64_w, -List.getD_eq_getElem?_getD]; done) | (simp [go_sem, sEv, sLook, nbeq, i64_w, -List.getD_eq_getElem?_getD] <;> omega) | (simp [go_sem, sEv, sLook, nbeq, i64_w, -List.getD_eq_getElem?_getD]; intro h_; exact absurd (by omega) h_)) ?_
  refine rw_end ?_
  refine w_weaken (G' := [(1, .pointer (some ⟨gb, 0, none⟩)), (2, .bool false), (33, .bool true)]) ⟨rfl, rfl, rfl, trivial⟩ ?_
  refine w_cond_t rfl rfl rfl ?_
  refine w_seq ?_
  refine w_region ?_
  refine rw_val (v := .bool true) (w' := w1) rfl rfl rfl rfl rfl ?_
  refine rw_end ?_
  refine w_ret (post_ret1 rfl rfl ?_)
  exact ⟨rfl, chain hb00 hb2⟩
 have l683 : (60 < ((rows.length : Nat) : Int)) := of_decide_eq_true c3
 refine rw_off (c := decide (60 < ((rows.length : Nat) : Int))) rfl rfl rfl (by first | (rw [c3]; rfl) | simp [c3]) rfl rfl ?_
 refine rw_off (c := decide (60 < ((rows.length : Nat) : Int))) rfl rfl rfl (by first | (rw [c3]; rfl) | simp [c3]) rfl rfl ?_
 refine rw_off (c := decide (60 < ((rows.length : Nat) : Int))) rfl rfl rfl (by first | (rw [c3]; rfl) | simp [c3]) rfl rfl ?_
 refine rw_off (c := decide (60 < ((rows.length : Nat) : Int))) rfl rfl rfl (by first | (rw [c3]; rfl) | simp [c3]) rfl rfl ?_
 refine rw_val (v := .bool true) (w' := w1) rfl rfl rfl rfl (by first | (simp [go_sem, sEv, sLook, nbeq, i64_w, -List.getD_eq_getElem?_getD, c3]; done) | (rw [c3]; simp [go_sem, sEv, sLook, nbeq, i64_w, -List.getD_eq_getElem?_getD]; done) | (simp [go_sem, sEv, sLook, nbeq, i64_w, -List.getD_eq_getElem?_getD] <;> omega) | (simp [go_sem, sEv, sLook, nbeq, i64_w, -List.getD_eq_getElem?_getD]; intro h_; exact absurd (by omega) h_)) ?_
 refine rw_val (v := .bool true) (w' := w1) rfl rfl rfl rfl rfl ?_
 refine rw_off (c := true) rfl rfl rfl rfl rfl rfl ?_
 refine rw_off (c := true) rfl rfl rfl rfl rfl rfl ?_
 refine rw_off (c := true) rfl rfl rfl rfl rfl rfl ?_
 refine rw_off (c := true) rfl rfl rfl rfl rfl rfl ?_
 refine rw_val (v := .bool true) (w' := w1) rfl rfl rfl rfl (by simp [go_sem, sEv, sLook, nbeq, i64_w, -List.getD_eq_getElem?_getD]) ?_
 refine rw_end ?_
 refine w_weaken (G' := [(1, .pointer (some ⟨gb, 0, none⟩)), (2, .bool false), (33, .bool true)]) ⟨rfl, rfl, rfl, trivial⟩ ?_
 refine w_cond_t rfl rfl rfl ?_
 refine w_seq ?_
 refine w_region ?_
 refine rw_val (v := .bool true) (w' := w1) rfl rfl rfl rfl rfl ?_
 refine rw_end ?_
 refine w_ret (post_ret1 rfl rfl ?_)
 exact ⟨rfl, chain hb00 hb2⟩
end Go.Proofs.Ytiiljpaedelhlaa.Tp
