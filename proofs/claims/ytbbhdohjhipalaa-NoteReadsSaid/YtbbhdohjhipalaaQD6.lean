/- Parts of the proofs of noteReads_holds: NtDec, NtAlive, NtLive, NtRSame, NtBackL, CeRTake, NtRDec. -/
import Derived.Deep.Upon
import Derived.Laws.CopyRow
import Derived.Test.YtbbhdohjhipalaaQD5
section
namespace Go.Proofs.Ytbbhdohjhipalaa.Ce
open Go.RowKit Go.Proofs.YtbbhdohjhipalaaW.PrintWords Go.Proofs.YtbbhdohjhipalaaW.PrintLast Go.Proofs.YtbbhdohjhipalaaW.PrintMore
open Go.Proofs.Ytbbhdohjhipalaa.Flow
open Go.Proofs.Ytbbhdohjhipalaa.PNoteReads
set_option linter.unusedVariables false
set_option linter.unusedSimpArgs false
theorem numsP_le : ∀ (K : Nat) (b x : List Int), (numsP K b 4096 x).1.length ≤ 4096
  | 0, b, x => by simp [numsP]
  | K + 1, b, x => by
    rw [numsP]
    split
    · split
      · simp
      · show x.length ≤ 4096
        omega
    · split
      · simp
      · exact numsP_le K _ _
theorem NL_4096 (b : List Int) : (NL b).length ≤ 4096 := numsP_le _ _ _
theorem dec_no (b : List Int) (h : wholeP b = 0 ∨ 0 < (UR b).length) : decN b = (NT.zero, some 3) := if_pos h
theorem dec_bad (b : List Int) (h1 : wholeP b ≠ 0) (h2 : (UR b).length = 0) (h : NO (UN b) = false) : decN b = (NT.zero, some 4) := by
  unfold decN
  rw [if_neg (by omega), if_pos h]
theorem dec_bad2 (b : List Int) {n : NT} {s : RS} (h1 : wholeP b ≠ 0) (h2 : (UR b).length = 0) (h3 : NO (UN b) = true) (hn : noteR ⟨NL (UN b), false⟩ = (n, s)) (h : s.bad = true ∨ 0 < s.xs.length ∨ goodN n = false) : decN b = (NT.zero, some 4) := by
  unfold decN
  rw [if_neg (by omega), if_neg (by rw [h3]; simp), hn, if_pos h]
theorem dec_ok (b : List Int) {n : NT} {s : RS} (h1 : wholeP b ≠ 0) (h2 : (UR b).length = 0) (h3 : NO (UN b) = true) (hn : noteR ⟨NL (UN b), false⟩ = (n, s)) (h4 : s.bad = false) (h5 : s.xs.length = 0) (h6 : goodN n = true) : decN b = (n, none) := by
  unfold decN
  rw [if_neg (by omega), if_neg (by rw [h3]; simp), hn, if_neg (by rw [h4, h6]; simp; exact List.length_eq_zero_iff.1 h5)]
theorem note_sz2 {s s2 : RS} {n : NT} (h : noteR s = (n, s2)) : n.nums.length ≤ 64 ∧ n.ops.length ≤ 16 ∧ n.ents.length ≤ 16 := by
  have q := note_sz s
  rw [h] at q
  exact q
set_option maxHeartbeats 4000000 in
theorem dec_calls (w : World) (A0 : Option Addr) (c0 : Nat) (b : List Int) (hC : (Kd.int .u8).C w A0 b.length b) (hc : b.length ≤ c0) (hb : Bytes b) (hl : b.length ≤ 1000000) :
  Calls Try.prog 19 #[.slice A0 b.length c0] w fun e w' => ∃ A3 c3 A4 c4 A5 c5, e = .returned (.tuple #[.agg #[.int .i64 (decN b).1.kind, .int .i64 (decN b).1.fr, .int .i64 (decN b).1.tw, .slice A3 (decN b).1.nums.length c3, .slice A4 (decN b).1.ops.length c4, .slice A5 (decN b).1.ents.length c5], errT (decN b).2]) ∧ OwnK (Kd.int .i64) 3 w' w.heap.size w.heap.size A3 (decN b).1.nums.length c3 (decN b).1.nums ∧ OwnK kOp 73 w' w.heap.size w.heap.size A4 (decN b).1.ops.length c4 (decN b).1.ops ∧ OwnK kEntry 83 w' w.heap.size w.heap.size A5 (decN b).1.ents.length c5 (decN b).1.ents ∧ Below w.heap.size w w' := by
 refine calls_flow Try.func19 rfl 59 rfl (Nat.le_of_ble_eq_true rfl) [(0, .slice A0 b.length c0)] ?_ ?_
 ·
  intro t v h; exact args_look rfl t v h
 refine wsr ?_
 refine rw_new (cs := #[.int .i64 0, .int .i64 0, .int .i64 0, .slice none 0 0, .slice none 0 0, .slice none 0 0]) (t := 26) (fun g => .pointer (some ⟨g, 0, none⟩)) rfl rfl rfl rfl (by kernel_rfl) ?_
 intro g1 w2 hg6 hz5 hb3 hk4
 have hs_w2 := hb3.size
 refine rv .nilIface ?_
 refine rw_end ?_
 refine wsr ?_
 refine rv (.slice A0 b.length c0) ?_
 by_cases hw_ : wholeP b = 0
 ·
  refine rcl (funwrap_no w2 A0 c0 b (Kd.C_below hC hb3) hc hb hl hw_) ?_
  rintro e_ w7 ⟨A9, n10, c11, A12, n13, c14, rfl, hb8⟩
  refine ⟨_, rfl, ?_⟩
  have hs_w7 := hb8.size
  refine rv (.tuple #[.slice A9 n10 c11, .slice A12 n13 c14, errT (some 3)]) ?_
  refine rs (.slice A9 n10 c11) ?_
  refine rs (.slice A12 n13 c14) ?_
  refine rs (errT (some 3)) ?_
  refine rv (.slice A9 n10 c11) ?_
  refine rv (.slice A12 n13 c14) ?_
  refine rv (errT (some 3)) ?_
  refine rw_end ?_
  refine w_seq ?_
  refine wsr ?_
  refine rv (errT (some 3)) ?_
  refine rz (.bool ((some 3).isSome)) (run_as (guard_err_neq _ (some 3) _)) ?_
  refine rv (.bool ((some 3).isSome)) ?_
  have hq15 : ((some 3).isSome) = true := by rfl
  refine rok hq15 ?_
  refine rok hq15 ?_
  refine rok hq15 ?_
  refine rp hq15 (.bool true) ?_
  refine rw_end ?_
  refine w_cond_t rfl rfl rfl ?_
  refine wsr ?_
  refine rk (.agg #[.int .i64 0, .int .i64 0, .int .i64 0, .slice none 0 0, .slice none 0 0, .slice none 0 0]) ?_
  refine rz (errT (some 3)) (by simp [go_sem, sEv, sLook, nbeq, i64_w, -List.getD_eq_getElem?_getD, errT]) ?_
  have hb19 := (hk4.on hb8)
  refine rsa hb19 [.int .i64 0, .int .i64 0, .int .i64 0, .slice none 0 0, .slice none 0 0, .slice none 0 0] ?_
  intro w16 hk17 hk18
  have hs_w16 := hk17.size
  refine rv (errT (some 3)) ?_
  refine rw_end ?_
  refine w_ret (post_retct (v := .agg #[.int .i64 0, .int .i64 0, .int .i64 0, .slice none 0 0, .slice none 0 0, .slice none 0 0]) rfl rfl rfl (by have eb_ := hk18; have e0_ := eb_.cellv (i := 0) (v := (.int .i64 0 : Value)) rfl; have e1_ := eb_.cellv (i := 1) (v := (.int .i64 0 : Value)) rfl; have e2_ := eb_.cellv (i := 2) (v := (.int .i64 0 : Value)) rfl; have e3_ := eb_.cellv (i := 3) (v := (.slice none 0 0 : Value)) rfl; have e4_ := eb_.cellv (i := 4) (v := (.slice none 0 0 : Value)) rfl; have e5_ := eb_.cellv (i := 5) (v := (.slice none 0 0 : Value)) rfl; simp [go_sem, e0_, e1_, e2_, e3_, e4_, e5_, Try.underlying26]) ?_)
  rw [dec_no b (.inl hw_)]
  exact ⟨_, _, _, _, _, _, rfl, OwnK.nil _ _ _ _ _, OwnK.nil _ _ _ _ _, OwnK.nil _ _ _ _ _, (hk17.below (by omega) (chain hb3 hb8))⟩
 ·
  refine rcl (funwrap_yes w2 A0 c0 b (Kd.C_below hC hb3) hc hb hl hw_) ?_
  rintro e_ w20 ⟨A23, c24, A25, c26, rfl, hO220, hb21⟩
  refine ⟨_, rfl, ?_⟩
  have hs_w20 := hb21.size
  have hO22 := OwnK.lower (base' := w.heap.size) (d := (Kd.int .u8)) hO220 (by omega)
  refine rv (.tuple #[.slice A23 ((UN b).length) c24, .slice A25 ((UR b).length) c26, .nilIface]) ?_
  refine rs (.slice A23 ((UN b).length) c24) ?_
  refine rs (.slice A25 ((UR b).length) c26) ?_
  refine rs .nilIface ?_
  refine rv (.slice A23 ((UN b).length) c24) ?_
  refine rv (.slice A25 ((UR b).length) c26) ?_
  refine rv .nilIface ?_
  refine rw_end ?_
  refine w_seq ?_
  refine wsr ?_
  refine rv .nilIface ?_
  refine rz (.bool ((none : Option Int).isSome)) (run_as (guard_err_neq _ (none : Option Int) _)) ?_
  refine rv (.bool ((none : Option Int).isSome)) ?_
  have hq27 : ((none : Option Int).isSome) = false := by rfl
  refine rnk hq27 ?_
  refine rv (.slice A25 ((UR b).length) c26) ?_
  refine rnk hq27 ?_
  refine rs (.int .i64 (((UR b).length : Nat) : Int)) ?_
  refine rnk hq27 ?_
  refine rs (.bool (decide (0 < (((UR b).length : Nat) : Int)))) ?_
  refine rp hq27 (.bool (decide (0 < (((UR b).length : Nat) : Int)))) ?_
  refine rw_end ?_
  refine w_cond rfl rfl (fun cU => ?_) (fun cU => ?_)
  ·
   have l28 : (0 < (((UR b).length : Nat) : Int)) := of_decide_eq_true cU
   refine wsr ?_
   refine rk (.agg #[.int .i64 0, .int .i64 0, .int .i64 0, .slice none 0 0, .slice none 0 0, .slice none 0 0]) ?_
   refine rz (errT (some 3)) (by simp [go_sem, sEv, sLook, nbeq, i64_w, -List.getD_eq_getElem?_getD, errT]) ?_
   have hb32 := (hk4.on hb21)
   refine rsa hb32 [.int .i64 0, .int .i64 0, .int .i64 0, .slice none 0 0, .slice none 0 0, .slice none 0 0] ?_
   intro w29 hk30 hk31
   have hs_w29 := hk30.size
   refine rv (errT (some 3)) ?_
   refine rw_end ?_
   refine w_ret (post_retct (v := .agg #[.int .i64 0, .int .i64 0, .int .i64 0, .slice none 0 0, .slice none 0 0, .slice none 0 0]) rfl rfl rfl (by have eb_ := hk31; have e0_ := eb_.cellv (i := 0) (v := (.int .i64 0 : Value)) rfl; have e1_ := eb_.cellv (i := 1) (v := (.int .i64 0 : Value)) rfl; have e2_ := eb_.cellv (i := 2) (v := (.int .i64 0 : Value)) rfl; have e3_ := eb_.cellv (i := 3) (v := (.slice none 0 0 : Value)) rfl; have e4_ := eb_.cellv (i := 4) (v := (.slice none 0 0 : Value)) rfl; have e5_ := eb_.cellv (i := 5) (v := (.slice none 0 0 : Value)) rfl; simp [go_sem, e0_, e1_, e2_, e3_, e4_, e5_, Try.underlying26]) ?_)
   rw [dec_no b (.inr (by simpa using cU))]
   exact ⟨_, _, _, _, _, _, rfl, OwnK.nil _ _ _ _ _, OwnK.nil _ _ _ _ _, OwnK.nil _ _ _ _ _, (hk30.below (by omega) (chain hb3 hb21))⟩
  ·
   have l33 : ¬ (0 < (((UR b).length : Nat) : Int)) := of_decide_eq_false cU
   refine w_skip ?_
   refine wsr ?_
   refine rv (.slice A23 ((UN b).length) c24) ?_
   rcases hn_ : NO (UN b) with _ | _
   ·
    have hul_ := UN_le b
    refine rcl (fnums_no w20 A23 c24 (UN b) _ _ hO22 (UN_bytes hb) (by omega) hn_) ?_
    rintro e_ w34 ⟨A37, c38, rfl, hO360, hb35⟩
    refine ⟨_, rfl, ?_⟩
    have hs_w34 := hb35.size
    have hO36 := OwnK.lower (base' := w.heap.size) (d := (Kd.int .i64)) hO360 (by omega)
    refine rv (.tuple #[.slice A37 ((NL (UN b)).length) c38, errT (some 3)]) ?_
    refine rs (.slice A37 ((NL (UN b)).length) c38) ?_
    refine rs (errT (some 3)) ?_
    refine rv (.slice A37 ((NL (UN b)).length) c38) ?_
    refine rv (errT (some 3)) ?_
    refine rw_end ?_
    refine w_seq ?_
    refine wsr ?_
    refine rv (errT (some 3)) ?_
    refine rz (.bool ((some 3).isSome)) (run_as (guard_err_neq _ (some 3) _)) ?_
    refine rw_end ?_
    have hq39 : ((some 3).isSome) = true := by rfl
    refine w_cond_t rfl rfl hq39 ?_
    refine wsr ?_
    refine rk (.agg #[.int .i64 0, .int .i64 0, .int .i64 0, .slice none 0 0, .slice none 0 0, .slice none 0 0]) ?_
    refine rz (errT (some 4)) (by simp [go_sem, sEv, sLook, nbeq, i64_w, -List.getD_eq_getElem?_getD, errT]) ?_
    have hb43 := ((hk4.on hb21).on hb35)
    refine rsa hb43 [.int .i64 0, .int .i64 0, .int .i64 0, .slice none 0 0, .slice none 0 0, .slice none 0 0] ?_
    intro w40 hk41 hk42
    have hs_w40 := hk41.size
    refine rv (errT (some 4)) ?_
    refine rw_end ?_
    refine w_ret (post_retct (v := .agg #[.int .i64 0, .int .i64 0, .int .i64 0, .slice none 0 0, .slice none 0 0, .slice none 0 0]) rfl rfl rfl (by have eb_ := hk42; have e0_ := eb_.cellv (i := 0) (v := (.int .i64 0 : Value)) rfl; have e1_ := eb_.cellv (i := 1) (v := (.int .i64 0 : Value)) rfl; have e2_ := eb_.cellv (i := 2) (v := (.int .i64 0 : Value)) rfl; have e3_ := eb_.cellv (i := 3) (v := (.slice none 0 0 : Value)) rfl; have e4_ := eb_.cellv (i := 4) (v := (.slice none 0 0 : Value)) rfl; have e5_ := eb_.cellv (i := 5) (v := (.slice none 0 0 : Value)) rfl; simp [go_sem, e0_, e1_, e2_, e3_, e4_, e5_, Try.underlying26]) ?_)
    rw [dec_bad b hw_ (by simpa using cU) hn_]
    exact ⟨_, _, _, _, _, _, rfl, OwnK.nil _ _ _ _ _, OwnK.nil _ _ _ _ _, OwnK.nil _ _ _ _ _, (hk41.below (by omega) (chain (chain hb3 hb21) hb35))⟩
   ·
    have hul_ := UN_le b
    refine rcl (fnums_yes w20 A23 c24 (UN b) _ _ hO22 (UN_bytes hb) (by omega) hn_) ?_
    rintro e_ w44 ⟨A47, c48, rfl, hO460, hb45⟩
    refine ⟨_, rfl, ?_⟩
    have hs_w44 := hb45.size
    have hO46 := OwnK.lower (base' := w.heap.size) (d := (Kd.int .i64)) hO460 (by omega)
    refine rv (.tuple #[.slice A47 ((NL (UN b)).length) c48, .nilIface]) ?_
    refine rs (.slice A47 ((NL (UN b)).length) c48) ?_
    refine rs .nilIface ?_
    refine rv (.slice A47 ((NL (UN b)).length) c48) ?_
    refine rv .nilIface ?_
    refine rw_end ?_
    refine w_seq ?_
    refine wsr ?_
    refine rv .nilIface ?_
    refine rz (.bool ((none : Option Int).isSome)) (run_as (guard_err_neq _ (none : Option Int) _)) ?_
    refine rw_end ?_
    refine w_cond_f rfl rfl hq27 ?_
    refine w_skip ?_
    refine wsr ?_
    refine rv (.slice A47 ((NL (UN b)).length) c48) ?_
    refine rk (.agg #[.slice A47 ((NL (UN b)).length) c48, .bool false]) ?_
    refine rw_new (cs := #[.slice A47 ((NL (UN b)).length) c48, .bool false]) (t := 90) (fun g => .pointer (some ⟨g, 0, none⟩)) rfl rfl rfl rfl (by simp [go_sem, sEv, sLook, nbeq, i64_w, -List.getD_eq_getElem?_getD]) ?_
    intro g49 w50 hg54 hz53 hb51 hk52
    have hs_w50 := hb51.size
    refine rv (.pointer (some ⟨g49, 0, none⟩)) ?_
    refine rw_end ?_
    refine wsr ?_
    refine rv (.pointer (some ⟨g49, 0, none⟩)) ?_
    rcases hN_ : noteR (⟨NL (UN b), false⟩ : RS) with ⟨n9, s9⟩
    obtain ⟨hz3_, hz4_, hz5_⟩ := note_sz2 hN_
    have hnl_ := NL_4096 (UN b)
    have hlow_ := low_own (OwnK.on (d := (Kd.int .i64)) hO46 hb51)
    refine rw_call rfl rfl rfl rfl (f := 38) (args := #[.pointer (some ⟨g49, 0, none⟩)]) (by simp [go_sem, sEv, sLook, nbeq, i64_w, -List.getD_eq_getElem?_getD]) (note_k w44 w50 g49 (⟨NL (UN b), false⟩ : RS) n9 s9 hN_ hb51 (by omega) A47 c48 hk52 (rrow_own (OwnK.on (d := (Kd.int .i64)) hO46 hb51)) (fun ad_ e_ => hlow_ ad_ e_) (by show (NL (UN b)).length ≤ 100000; omega)) ?_
    rintro e_ w55 ⟨A62, c63, A64, c65, A66, c67, rfl, hO680, hO690, hO700, hrd57, hB56⟩
    refine ⟨_, rfl, ?_⟩
    obtain ⟨A58, c59, hb60, hr61⟩ := hrd57
    have hlt9_ := hb60.lt
    have hs_w55 := hB56.size
    have hO68 := OwnK.mono (b' := w44.heap.size) (d := (Kd.int .i64)) (OwnK.lower (base' := w.heap.size) (d := (Kd.int .i64)) hO680 (by omega)) (by omega)
    have hO69 := OwnK.mono (b' := w44.heap.size) (d := kOp) (OwnK.lower (base' := w.heap.size) (d := kOp) hO690 (by omega)) (by omega)
    have hO70 := OwnK.mono (b' := w44.heap.size) (d := kEntry) (OwnK.lower (base' := w.heap.size) (d := kEntry) hO700 (by omega)) (by omega)
    refine rw_new (cs := #[.int .i64 0, .int .i64 0, .int .i64 0, .slice none 0 0, .slice none 0 0, .slice none 0 0]) (t := 26) (fun g => .pointer (some ⟨g, 0, none⟩)) rfl rfl rfl rfl (by kernel_rfl) ?_
    intro g72 w73 hg77 hz76 hb74 hk75
    have hs_w73 := hb74.size
    have hb81 := hk75
    refine rsa hb81 [.int .i64 n9.kind, .int .i64 n9.fr, .int .i64 n9.tw, .slice A62 n9.nums.length c63, .slice A64 n9.ops.length c65, .slice A66 n9.ents.length c67] ?_
    intro w78 hk79 hk80
    have hs_w78 := hk79.size
    refine rw_end ?_
    refine w_seq ?_
    refine wsr ?_
    refine rv (.pointer (some ⟨g49, 0, none⟩)) ?_
    refine rs (.pointer (some ⟨g49, 0, none⟩)) ?_
    refine ru (.pointer (some ⟨g49, 1, none⟩)) ?_
    refine rl ((hb60.on hb74).keep hk79 (by omega)) 1 (.bool s9.bad) ?_
    refine rv (.bool s9.bad) ?_
    rcases bcase s9.bad with cB | cB
    ·
     refine rnk cB ?_
     refine rv (.pointer (some ⟨g49, 0, none⟩)) ?_
     refine rnk cB ?_
     refine rs (.pointer (some ⟨g49, 0, none⟩)) ?_
     refine rnk cB ?_
     refine ru (.pointer (some ⟨g49, 0, none⟩)) ?_
     refine rnk cB ?_
     refine rl ((hb60.on hb74).keep hk79 (by omega)) 0 (.slice A58 s9.xs.length c59) ?_
     refine rnk cB ?_
     refine rs (.int .i64 ((s9.xs.length : Nat) : Int)) ?_
     refine rnk cB ?_
     refine rs (.bool (decide (0 < ((s9.xs.length : Nat) : Int)))) ?_
     refine rp cB (.bool (decide (0 < ((s9.xs.length : Nat) : Int)))) ?_
     refine rv (.bool (decide (0 < ((s9.xs.length : Nat) : Int)))) ?_
     rcases bcase (decide (0 < ((s9.xs.length : Nat) : Int))) with cL | cL
     ·
      have l82 : ¬ (0 < ((s9.xs.length : Nat) : Int)) := of_decide_eq_false cL
      refine rnk cL ?_
      refine rz (.agg #[.int .i64 n9.kind, .int .i64 n9.fr, .int .i64 n9.tw, .slice A62 n9.nums.length c63, .slice A64 n9.ops.length c65, .slice A66 n9.ents.length c67]) (by have eb_ := hk80; have e0_ := eb_.cellv (i := 0) (v := (.int .i64 n9.kind : Value)) rfl; have e1_ := eb_.cellv (i := 1) (v := (.int .i64 n9.fr : Value)) rfl; have e2_ := eb_.cellv (i := 2) (v := (.int .i64 n9.tw : Value)) rfl; have e3_ := eb_.cellv (i := 3) (v := (.slice A62 n9.nums.length c63 : Value)) rfl; have e4_ := eb_.cellv (i := 4) (v := (.slice A64 n9.ops.length c65 : Value)) rfl; have e5_ := eb_.cellv (i := 5) (v := (.slice A66 n9.ents.length c67 : Value)) rfl; simp [go_sem, sEv, sLook, nbeq, i64_w, -List.getD_eq_getElem?_getD, e0_, e1_, e2_, e3_, e4_, e5_, Try.underlying26]) ?_
      refine rnk cL ?_
      rcases hg_ : goodN n9 with _ | _
      ·
       refine rcl (check_no w78 n9 A62 c63 A64 c65 A66 c67 (OwnK.C (d := (Kd.int .i64)) (own_keep (d := (Kd.int .i64)) (OwnK.on (d := (Kd.int .i64)) hO68 hb74) hk75 (by decide) hk79)) (OwnK.cap (d := (Kd.int .i64)) hO68) (OwnK.C (d := kOp) (own_keep (d := kOp) (OwnK.on (d := kOp) hO69 hb74) hk75 (by decide) hk79)) (OwnK.cap (d := kOp) hO69) (OwnK.C (d := kEntry) (own_keep (d := kEntry) (OwnK.on (d := kEntry) hO70 hb74) hk75 (by decide) hk79)) (OwnK.cap (d := kEntry) hO70) (by omega) (by omega) (by omega) hg_) ?_
       rintro e_ w83 ⟨rfl, hb84⟩
       refine ⟨_, rfl, ?_⟩
       have hs_w83 := hb84.size
       refine rnk cL ?_
       refine rz (.bool ((some 2).isSome)) (run_as (guard_err_neq _ (some 2) _)) ?_
       refine rp cL (.bool ((some 2).isSome)) ?_
       refine rw_end ?_
       have hq85 : ((some 2).isSome) = true := by rfl
       refine w_cond_t rfl rfl hq85 ?_
       refine wsr ?_
       refine rk (.agg #[.int .i64 0, .int .i64 0, .int .i64 0, .slice none 0 0, .slice none 0 0, .slice none 0 0]) ?_
       refine rz (errT (some 4)) (by simp [go_sem, sEv, sLook, nbeq, i64_w, -List.getD_eq_getElem?_getD, errT]) ?_
       have hb89 := ((((((hk4.on hb21).on hb45).on hB56).on hb74).keep hk79 (by omega)).on hb84)
       refine rsa hb89 [.int .i64 0, .int .i64 0, .int .i64 0, .slice none 0 0, .slice none 0 0, .slice none 0 0] ?_
       intro w86 hk87 hk88
       have hs_w86 := hk87.size
       refine rv (errT (some 4)) ?_
       refine rw_end ?_
       refine w_ret (post_retct (v := .agg #[.int .i64 0, .int .i64 0, .int .i64 0, .slice none 0 0, .slice none 0 0, .slice none 0 0]) rfl rfl rfl (by have eb_ := hk88; have e0_ := eb_.cellv (i := 0) (v := (.int .i64 0 : Value)) rfl; have e1_ := eb_.cellv (i := 1) (v := (.int .i64 0 : Value)) rfl; have e2_ := eb_.cellv (i := 2) (v := (.int .i64 0 : Value)) rfl; have e3_ := eb_.cellv (i := 3) (v := (.slice none 0 0 : Value)) rfl; have e4_ := eb_.cellv (i := 4) (v := (.slice none 0 0 : Value)) rfl; have e5_ := eb_.cellv (i := 5) (v := (.slice none 0 0 : Value)) rfl; simp [go_sem, e0_, e1_, e2_, e3_, e4_, e5_, Try.underlying26]) ?_)
       rw [dec_bad2 b hw_ (by simpa using cU) hn_ hN_ (by first | exact .inl (by simpa using cB) | exact .inr (.inl (by simpa using cL)) | exact .inr (.inr hg_))]
       exact ⟨_, _, _, _, _, _, rfl, OwnK.nil _ _ _ _ _, OwnK.nil _ _ _ _ _, OwnK.nil _ _ _ _ _, (hk87.below (by omega) (chain (hk79.below (by omega) (chain (chain (chain (chain hb3 hb21) hb45) hB56) hb74)) hb84))⟩
      ·
       refine rcl (check_yes w78 n9 A62 c63 A64 c65 A66 c67 (OwnK.C (d := (Kd.int .i64)) (own_keep (d := (Kd.int .i64)) (OwnK.on (d := (Kd.int .i64)) hO68 hb74) hk75 (by decide) hk79)) (OwnK.cap (d := (Kd.int .i64)) hO68) (OwnK.C (d := kOp) (own_keep (d := kOp) (OwnK.on (d := kOp) hO69 hb74) hk75 (by decide) hk79)) (OwnK.cap (d := kOp) hO69) (OwnK.C (d := kEntry) (own_keep (d := kEntry) (OwnK.on (d := kEntry) hO70 hb74) hk75 (by decide) hk79)) (OwnK.cap (d := kEntry) hO70) (by omega) (by omega) (by omega) hg_) ?_
       rintro e_ w90 ⟨rfl, hb91⟩
       refine ⟨_, rfl, ?_⟩
       have hs_w90 := hb91.size
       refine rnk cL ?_
       refine rz (.bool ((none : Option Int).isSome)) (run_as (guard_err_neq _ (none : Option Int) _)) ?_
       refine rp cL (.bool ((none : Option Int).isSome)) ?_
       refine rw_end ?_
       refine w_cond_f rfl rfl hq27 ?_
       refine w_skip ?_
       refine wsr ?_
       refine rz (.agg #[.int .i64 n9.kind, .int .i64 n9.fr, .int .i64 n9.tw, .slice A62 n9.nums.length c63, .slice A64 n9.ops.length c65, .slice A66 n9.ents.length c67]) (by have eb_ := (hk80.on hb91); have e0_ := eb_.cellv (i := 0) (v := (.int .i64 n9.kind : Value)) rfl; have e1_ := eb_.cellv (i := 1) (v := (.int .i64 n9.fr : Value)) rfl; have e2_ := eb_.cellv (i := 2) (v := (.int .i64 n9.tw : Value)) rfl; have e3_ := eb_.cellv (i := 3) (v := (.slice A62 n9.nums.length c63 : Value)) rfl; have e4_ := eb_.cellv (i := 4) (v := (.slice A64 n9.ops.length c65 : Value)) rfl; have e5_ := eb_.cellv (i := 5) (v := (.slice A66 n9.ents.length c67 : Value)) rfl; simp [go_sem, sEv, sLook, nbeq, i64_w, -List.getD_eq_getElem?_getD, e0_, e1_, e2_, e3_, e4_, e5_, Try.underlying26]) ?_
       have hb95 := ((((((hk4.on hb21).on hb45).on hB56).on hb74).keep hk79 (by omega)).on hb91)
       refine rsa hb95 [.int .i64 n9.kind, .int .i64 n9.fr, .int .i64 n9.tw, .slice A62 n9.nums.length c63, .slice A64 n9.ops.length c65, .slice A66 n9.ents.length c67] ?_
       intro w92 hk93 hk94
       have hs_w92 := hk93.size
       refine rv .nilIface ?_
       refine rw_end ?_
       refine w_ret (post_retct (v := .agg #[.int .i64 n9.kind, .int .i64 n9.fr, .int .i64 n9.tw, .slice A62 n9.nums.length c63, .slice A64 n9.ops.length c65, .slice A66 n9.ents.length c67]) rfl rfl rfl (by have eb_ := hk94; have e0_ := eb_.cellv (i := 0) (v := (.int .i64 n9.kind : Value)) rfl; have e1_ := eb_.cellv (i := 1) (v := (.int .i64 n9.fr : Value)) rfl; have e2_ := eb_.cellv (i := 2) (v := (.int .i64 n9.tw : Value)) rfl; have e3_ := eb_.cellv (i := 3) (v := (.slice A62 n9.nums.length c63 : Value)) rfl; have e4_ := eb_.cellv (i := 4) (v := (.slice A64 n9.ops.length c65 : Value)) rfl; have e5_ := eb_.cellv (i := 5) (v := (.slice A66 n9.ents.length c67 : Value)) rfl; simp [go_sem, e0_, e1_, e2_, e3_, e4_, e5_, Try.underlying26]) ?_)
       rw [dec_ok b hw_ (by simpa using cU) hn_ hN_ (by simpa using cB) (by simpa using cL) hg_]
       exact ⟨_, _, _, _, _, _, rfl, (OwnK.mono (d := (Kd.int .i64)) (own_keep (d := (Kd.int .i64)) (OwnK.on (d := (Kd.int .i64)) (own_keep (d := (Kd.int .i64)) (OwnK.on (d := (Kd.int .i64)) hO68 hb74) hk75 (by decide) hk79) hb91) ((((((hk4.on hb21).on hb45).on hB56).on hb74).keep hk79 (by omega)).on hb91) (by decide) hk93) (by omega)), (OwnK.mono (d := kOp) (own_keep (d := kOp) (OwnK.on (d := kOp) (own_keep (d := kOp) (OwnK.on (d := kOp) hO69 hb74) hk75 (by decide) hk79) hb91) ((((((hk4.on hb21).on hb45).on hB56).on hb74).keep hk79 (by omega)).on hb91) (by decide) hk93) (by omega)), (OwnK.mono (d := kEntry) (own_keep (d := kEntry) (OwnK.on (d := kEntry) (own_keep (d := kEntry) (OwnK.on (d := kEntry) hO70 hb74) hk75 (by decide) hk79) hb91) ((((((hk4.on hb21).on hb45).on hB56).on hb74).keep hk79 (by omega)).on hb91) (by decide) hk93) (by omega)), (hk93.below (by omega) (chain (hk79.below (by omega) (chain (chain (chain (chain hb3 hb21) hb45) hB56) hb74)) hb91))⟩
     ·
      have l96 : (0 < ((s9.xs.length : Nat) : Int)) := of_decide_eq_true cL
      refine rok cL ?_
      refine rok cL ?_
      refine rok cL ?_
      refine rp cL (.bool true) ?_
      refine rw_end ?_
      refine w_cond_t rfl rfl rfl ?_
      refine wsr ?_
      refine rk (.agg #[.int .i64 0, .int .i64 0, .int .i64 0, .slice none 0 0, .slice none 0 0, .slice none 0 0]) ?_
      refine rz (errT (some 4)) (by simp [go_sem, sEv, sLook, nbeq, i64_w, -List.getD_eq_getElem?_getD, errT]) ?_
      have hb100 := (((((hk4.on hb21).on hb45).on hB56).on hb74).keep hk79 (by omega))
      refine rsa hb100 [.int .i64 0, .int .i64 0, .int .i64 0, .slice none 0 0, .slice none 0 0, .slice none 0 0] ?_
      intro w97 hk98 hk99
      have hs_w97 := hk98.size
      refine rv (errT (some 4)) ?_
      refine rw_end ?_
      refine w_ret (post_retct (v := .agg #[.int .i64 0, .int .i64 0, .int .i64 0, .slice none 0 0, .slice none 0 0, .slice none 0 0]) rfl rfl rfl (by have eb_ := hk99; have e0_ := eb_.cellv (i := 0) (v := (.int .i64 0 : Value)) rfl; have e1_ := eb_.cellv (i := 1) (v := (.int .i64 0 : Value)) rfl; have e2_ := eb_.cellv (i := 2) (v := (.int .i64 0 : Value)) rfl; have e3_ := eb_.cellv (i := 3) (v := (.slice none 0 0 : Value)) rfl; have e4_ := eb_.cellv (i := 4) (v := (.slice none 0 0 : Value)) rfl; have e5_ := eb_.cellv (i := 5) (v := (.slice none 0 0 : Value)) rfl; simp [go_sem, e0_, e1_, e2_, e3_, e4_, e5_, Try.underlying26]) ?_)
      rw [dec_bad2 b hw_ (by simpa using cU) hn_ hN_ (by first | exact .inl (by simpa using cB) | exact .inr (.inl (by simpa using cL)) | exact .inr (.inr hg_))]
      exact ⟨_, _, _, _, _, _, rfl, OwnK.nil _ _ _ _ _, OwnK.nil _ _ _ _ _, OwnK.nil _ _ _ _ _, (hk98.below (by omega) (hk79.below (by omega) (chain (chain (chain (chain hb3 hb21) hb45) hB56) hb74)))⟩
    ·
     refine rok cB ?_
     refine rok cB ?_
     refine rok cB ?_
     refine rok cB ?_
     refine rok cB ?_
     refine rok cB ?_
     refine rp cB (.bool true) ?_
     refine rv (.bool true) ?_
     refine ro true ?_
     refine ro true ?_
     refine ro true ?_
     refine rs (.bool true) ?_
     refine rw_end ?_
     refine w_cond_t rfl rfl rfl ?_
     refine wsr ?_
     refine rk (.agg #[.int .i64 0, .int .i64 0, .int .i64 0, .slice none 0 0, .slice none 0 0, .slice none 0 0]) ?_
     refine rz (errT (some 4)) (by simp [go_sem, sEv, sLook, nbeq, i64_w, -List.getD_eq_getElem?_getD, errT]) ?_
     have hb104 := (((((hk4.on hb21).on hb45).on hB56).on hb74).keep hk79 (by omega))
     refine rsa hb104 [.int .i64 0, .int .i64 0, .int .i64 0, .slice none 0 0, .slice none 0 0, .slice none 0 0] ?_
     intro w101 hk102 hk103
     have hs_w101 := hk102.size
     refine rv (errT (some 4)) ?_
     refine rw_end ?_
     refine w_ret (post_retct (v := .agg #[.int .i64 0, .int .i64 0, .int .i64 0, .slice none 0 0, .slice none 0 0, .slice none 0 0]) rfl rfl rfl (by have eb_ := hk103; have e0_ := eb_.cellv (i := 0) (v := (.int .i64 0 : Value)) rfl; have e1_ := eb_.cellv (i := 1) (v := (.int .i64 0 : Value)) rfl; have e2_ := eb_.cellv (i := 2) (v := (.int .i64 0 : Value)) rfl; have e3_ := eb_.cellv (i := 3) (v := (.slice none 0 0 : Value)) rfl; have e4_ := eb_.cellv (i := 4) (v := (.slice none 0 0 : Value)) rfl; have e5_ := eb_.cellv (i := 5) (v := (.slice none 0 0 : Value)) rfl; simp [go_sem, e0_, e1_, e2_, e3_, e4_, e5_, Try.underlying26]) ?_)
     rw [dec_bad2 b hw_ (by simpa using cU) hn_ hN_ (by first | exact .inl (by simpa using cB) | exact .inr (.inl (by simpa using cL)) | exact .inr (.inr hg_))]
     exact ⟨_, _, _, _, _, _, rfl, OwnK.nil _ _ _ _ _, OwnK.nil _ _ _ _ _, OwnK.nil _ _ _ _ _, (hk102.below (by omega) (hk79.below (by omega) (chain (chain (chain (chain hb3 hb21) hb45) hB56) hb74)))⟩
end Go.Proofs.Ytbbhdohjhipalaa.Ce
end
section
namespace Go.Proofs.Ytbbhdohjhipalaa.Ce
open Go.RowKit Go.Proofs.YtbbhdohjhipalaaW.PrintWords Go.Proofs.YtbbhdohjhipalaaW.PrintLast Go.Proofs.YtbbhdohjhipalaaW.PrintMore
open Go.Proofs.Ytbbhdohjhipalaa.Flow Go.Proofs.Ytbbhdohjhipalaa.PNoteReads
set_option linter.unusedVariables false
set_option maxRecDepth 100000
def n0 : NT := ⟨4, 3, 1, [7, 2, 1, 0], [], []⟩
theorem good0 : goodN n0 = true := by decide +kernel
theorem list0 : listN n0 = [4, 3, 1, 4, 7, 2, 1, 0, 0, 0] := by rfl
theorem pb0 : PB (listN n0) = [1, 8, 1, 6, 1, 2, 1, 8, 1, 14, 1, 4, 1, 2, 0, 0, 0] := by rw [list0]; decide +kernel
theorem ee0 : EE n0 = none := by rw [(eb_yes good0).2, pb0]; rfl
theorem eb0_len : (EB n0).length = 25 := by rw [(eb_yes good0).1, pb0]; decide +kernel
theorem bytes0 : Bytes (EB n0) := by
  rw [(eb_yes good0).1, pb0]
  have h : ∀ x ∈ frameB [1, 8, 1, 6, 1, 2, 1, 8, 1, 14, 1, 4, 1, 2, 0, 0, 0], 0 ≤ x ∧ x < 256 := by decide +kernel
  exact h
theorem i64_0 : ∀ y ∈ listN n0, I64 y := by
  rw [list0]
  have h : ∀ y ∈ ([4, 3, 1, 4, 7, 2, 1, 0, 0, 0] : List Int), -9223372036854775808 ≤ y ∧ y ≤ 9223372036854775807 := by decide +kernel
  exact h
theorem dec0 : decN (EB n0) = (n0, none) := by
  have e1 : wholeP (EB n0) = 25 := by rw [(eb_yes good0).1, pb0]; decide +kernel
  have e2 : UN (EB n0) = [1, 8, 1, 6, 1, 2, 1, 8, 1, 14, 1, 4, 1, 2, 0, 0, 0] := by unfold UN; rw [e1, (eb_yes good0).1, pb0]; decide +kernel
  have e3 : (UR (EB n0)).length = 0 := by unfold UR; rw [e1, (eb_yes good0).1, pb0]; decide +kernel
  have e4 : NO (UN (EB n0)) = true := by rw [e2]; decide +kernel
  have e5 : NL (UN (EB n0)) = [4, 3, 1, 4, 7, 2, 1, 0, 0, 0] := by rw [e2]; decide +kernel
  have e6 : noteR ⟨NL (UN (EB n0)), false⟩ = (n0, ⟨[], false⟩) := by rw [e5]; rfl
  exact dec_ok _ (by omega) e3 e4 e6 rfl rfl good0
end Go.Proofs.Ytbbhdohjhipalaa.Ce
end
section
namespace Go.Proofs.Ytbbhdohjhipalaa.Ce
open Go.RowKit Go.Proofs.YtbbhdohjhipalaaW.PrintWords Go.Proofs.YtbbhdohjhipalaaW.PrintLast Go.Proofs.YtbbhdohjhipalaaW.PrintMore
open Go.Proofs.Ytbbhdohjhipalaa.Flow
open Go.Proofs.Ytbbhdohjhipalaa.PNoteReads
set_option linter.unusedVariables false
set_option linter.unusedSimpArgs false
theorem enc_0 (w : World) (A3 : Option Addr) (c3 : Nat) (hn3 : (Kd.int .i64).C w A3 4 [7, 2, 1, 0]) (hc3 : 4 ≤ c3) : Calls Try.prog 12 #[.agg #[.int .i64 4, .int .i64 3, .int .i64 1, .slice A3 4 c3, .slice none 0 0, .slice none 0 0]] w fun e w' => ∃ A' c', e = .returned (.tuple #[.slice A' (EB n0).length c', .nilIface]) ∧ OwnK (Kd.int .u8) 5 w' w.heap.size w.heap.size A' (EB n0).length c' (EB n0) ∧ Below w.heap.size w w' := by
  have h := enc_calls w n0 A3 c3 none 0 none 0 hn3 hc3 (C_nilK kOp w none) (Nat.le_refl 0) (C_nilK kEntry w none) (Nat.le_refl 0) (by decide) (by decide) (by decide) i64_0
  rw [ee0] at h
  exact h
theorem dec_0 (w : World) (A0 : Option Addr) (c0 : Nat) (hC : (Kd.int .u8).C w A0 (EB n0).length (EB n0)) (hc : (EB n0).length ≤ c0) : Calls Try.prog 19 #[.slice A0 (EB n0).length c0] w fun e w' => ∃ A3 c3 A4 c4 A5 c5, e = .returned (.tuple #[.agg #[.int .i64 4, .int .i64 3, .int .i64 1, .slice A3 4 c3, .slice A4 0 c4, .slice A5 0 c5], .nilIface]) ∧ OwnK (Kd.int .i64) 3 w' w.heap.size w.heap.size A3 4 c3 [7, 2, 1, 0] ∧ Below w.heap.size w w' := by
  have h := dec_calls w A0 c0 (EB n0) hC hc bytes0 (by rw [eb0_len]; decide)
  rw [dec0] at h
  refine h.mono ?_
  rintro e w' ⟨A3, c3, A4, c4, A5, c5, rfl, h1, h2, h3, h4⟩
  exact ⟨A3, c3, A4, c4, A5, c5, rfl, h1, h4⟩
set_option maxHeartbeats 4000000 in
theorem alive_calls (w : World) :
  Calls Try.prog 9 #[] w fun e w' => e = .returned (.bool true) ∧ Below w.heap.size w w' := by
 refine calls_flow Try.func9 rfl 52 rfl (Nat.le_of_ble_eq_true rfl) [] ?_ ?_
 ·
  intro t v h; exact args_look rfl t v h
 refine wsr ?_
 refine rv (.bool false) ?_
 refine rw_end ?_
 refine wsr ?_
 refine rw_new (cs := #[.int .i64 7, .int .i64 2, .int .i64 1, .int .i64 0]) (t := 3) (fun g => .slice (some ⟨g, 0, none⟩) 4 4) rfl rfl rfl rfl (by kernel_rfl) ?_
 intro g1 w2 hg6 hz5 hb3 hk4
 have hs_w2 := hb3.size
 have hk4r : OwnK (Kd.int .i64) 3 w2 w.heap.size g1 (some ⟨g1, 0, none⟩) 4 4 ([7, 2, 1, 0] : List Int) := scal_own w.heap.size hk4 (by omega) rfl rfl (by simp)
 refine rk (.agg #[.int .i64 4, .int .i64 3, .int .i64 1, .slice (some ⟨g1, 0, none⟩) 4 4, .slice none 0 0, .slice none 0 0]) ?_
 refine rw_new (cs := #[.int .i64 0, .int .i64 0, .int .i64 0, .slice none 0 0, .slice none 0 0, .slice none 0 0]) (t := 26) (fun g => .pointer (some ⟨g, 0, none⟩)) rfl rfl rfl rfl (by kernel_rfl) ?_
 intro g7 w8 hg12 hz11 hb9 hk10
 have hs_w8 := hb9.size
 have hb16 := hk10
 refine rsa hb16 [.int .i64 4, .int .i64 3, .int .i64 1, .slice (some ⟨g1, 0, none⟩) 4 4, .slice none 0 0, .slice none 0 0] ?_
 intro w13 hk14 hk15
 have hs_w13 := hk14.size
 refine rw_end ?_
 refine wsr ?_
 refine rz (.agg #[.int .i64 4, .int .i64 3, .int .i64 1, .slice (some ⟨g1, 0, none⟩) 4 4, .slice none 0 0, .slice none 0 0]) (by have eb_ := hk15; have e0_ := eb_.cellv (i := 0) (v := (.int .i64 4 : Value)) rfl; have e1_ := eb_.cellv (i := 1) (v := (.int .i64 3 : Value)) rfl; have e2_ := eb_.cellv (i := 2) (v := (.int .i64 1 : Value)) rfl; have e3_ := eb_.cellv (i := 3) (v := (.slice (some ⟨g1, 0, none⟩) 4 4 : Value)) rfl; have e4_ := eb_.cellv (i := 4) (v := (.slice none 0 0 : Value)) rfl; have e5_ := eb_.cellv (i := 5) (v := (.slice none 0 0 : Value)) rfl; simp [go_sem, sEv, sLook, nbeq, i64_w, -List.getD_eq_getElem?_getD, e0_, e1_, e2_, e3_, e4_, e5_, Try.underlying26]) ?_
 refine rw_call rfl rfl rfl rfl (f := 12) (args := #[.agg #[.int .i64 4, .int .i64 3, .int .i64 1, .slice (some ⟨g1, 0, none⟩) 4 4, .slice none 0 0, .slice none 0 0]]) (by simp [go_sem, sEv, sLook, nbeq, i64_w, -List.getD_eq_getElem?_getD]) (enc_0 w13 (some ⟨g1, 0, none⟩) 4 (OwnK.C (d := (Kd.int .i64)) (own_keep (d := (Kd.int .i64)) (OwnK.on (d := (Kd.int .i64)) hk4r hb9) hk10 (by decide) hk14)) (by decide)) ?_
 rintro e_ w17 ⟨A19, c20, rfl, hO210, hb18⟩
 refine ⟨_, rfl, ?_⟩
 have hs_w17 := hb18.size
 have hO21 := OwnK.lower (base' := w.heap.size) (d := (Kd.int .u8)) hO210 (by omega)
 have hl0_ := eb0_len
 refine rv (.tuple #[.slice A19 ((EB n0).length) c20, .nilIface]) ?_
 refine rs (.slice A19 ((EB n0).length) c20) ?_
 refine rs .nilIface ?_
 refine rv (.slice A19 ((EB n0).length) c20) ?_
 refine rv .nilIface ?_
 refine rw_end ?_
 refine wsr ?_
 refine rv (.slice A19 ((EB n0).length) c20) ?_
 refine rcl (dec_0 w17 A19 c20 (OwnK.C (d := (Kd.int .u8)) hO21) (OwnK.cap (d := (Kd.int .u8)) hO21)) ?_
 rintro e_ w22 ⟨A25, c26, A27, c28, A29, c30, rfl, hO240, hb23⟩
 refine ⟨_, rfl, ?_⟩
 have hs_w22 := hb23.size
 have hO24 := OwnK.lower (base' := w.heap.size) (d := (Kd.int .i64)) hO240 (by omega)
 refine rv (.tuple #[.agg #[.int .i64 4, .int .i64 3, .int .i64 1, .slice A25 4 c26, .slice A27 0 c28, .slice A29 0 c30], .nilIface]) ?_
 refine rs (.agg #[.int .i64 4, .int .i64 3, .int .i64 1, .slice A25 4 c26, .slice A27 0 c28, .slice A29 0 c30]) ?_
 refine rs .nilIface ?_
 refine rw_new (cs := #[.int .i64 0, .int .i64 0, .int .i64 0, .slice none 0 0, .slice none 0 0, .slice none 0 0]) (t := 26) (fun g => .pointer (some ⟨g, 0, none⟩)) rfl rfl rfl rfl (by kernel_rfl) ?_
 intro g31 w32 hg36 hz35 hb33 hk34
 have hs_w32 := hb33.size
 have hb40 := hk34
 refine rsa hb40 [.int .i64 4, .int .i64 3, .int .i64 1, .slice A25 4 c26, .slice A27 0 c28, .slice A29 0 c30] ?_
 intro w37 hk38 hk39
 have hs_w37 := hk38.size
 refine rv .nilIface ?_
 refine rw_end ?_
 refine wsr ?_
 refine rv .nilIface ?_
 refine rz (.bool ((none : Option Int).isNone)) (run_as (guard_err_eq0 _ (none : Option Int) _)) ?_
 refine rv (.bool ((none : Option Int).isNone)) ?_
 have hq41 : ((none : Option Int).isNone) = true := by rfl
 refine rnk hq41 ?_
 refine rv .nilIface ?_
 refine rnk hq41 ?_
 refine rz (.bool ((none : Option Int).isNone)) (run_as (guard_err_eq0 _ (none : Option Int) _)) ?_
 refine rp hq41 (.bool ((none : Option Int).isNone)) ?_
 refine rv (.bool ((none : Option Int).isNone)) ?_
 refine rnk hq41 ?_
 refine rv (.slice A19 ((EB n0).length) c20) ?_
 refine rnk hq41 ?_
 refine rs (.int .i64 (((EB n0).length : Nat) : Int)) ?_
 refine rnk hq41 ?_
 refine rs (.bool (decide (8 < (((EB n0).length : Nat) : Int)))) ?_
 refine rp hq41 (.bool (decide (8 < (((EB n0).length : Nat) : Int)))) ?_
 refine rv (.bool (decide (8 < (((EB n0).length : Nat) : Int)))) ?_
 rcases bcase (decide (8 < (((EB n0).length : Nat) : Int))) with c42 | c42
 ·
  have l43 : ¬ (8 < (((EB n0).length : Nat) : Int)) := of_decide_eq_false c42
  refine rok c42 ?_
  refine rok c42 ?_
  refine rok c42 ?_
  refine rp c42 (.bool false) ?_
  refine rv (.bool false) ?_
  refine ro false ?_
  refine ro false ?_
  refine ro false ?_
  refine rs (.bool false) ?_
  refine rv (.bool false) ?_
  refine ro false ?_
  refine ro false ?_
  refine ro false ?_
  refine ro false ?_
  refine rs (.bool false) ?_
  refine rv (.bool false) ?_
  refine ro false ?_
  refine ro false ?_
  refine ro false ?_
  refine ro false ?_
  refine ro false ?_
  refine rs (.bool false) ?_
  refine rv (.bool false) ?_
  refine rw_end ?_
  refine w_ret (post_ret1 rfl rfl ?_)
  exact ⟨by first | rfl | (exfalso; simp_all; done) | simp_all, (hk38.below (by omega) (chain (chain (chain (hk14.below (by omega) (chain hb3 hb9)) hb18) hb23) hb33))⟩
 ·
  have l44 : (8 < (((EB n0).length : Nat) : Int)) := of_decide_eq_true c42
  refine rnk c42 ?_
  refine ru (.pointer (some ⟨g31, 0, none⟩)) ?_
  refine rnk c42 ?_
  refine rl hk39 0 (.int .i64 4) ?_
  refine rnk c42 ?_
  refine rs (.bool true) ?_
  refine rp c42 (.bool true) ?_
  refine rv (.bool true) ?_
  refine rn true ?_
  refine ru (.pointer (some ⟨g31, 1, none⟩)) ?_
  refine rn true ?_
  refine rl hk39 1 (.int .i64 3) ?_
  refine rn true ?_
  refine rs (.bool true) ?_
  refine rs (.bool true) ?_
  refine rv (.bool true) ?_
  refine rn true ?_
  refine ru (.pointer (some ⟨g31, 3, none⟩)) ?_
  refine rn true ?_
  refine rl hk39 3 (.slice A25 4 c26) ?_
  refine rn true ?_
  refine rs (.int .i64 4) ?_
  refine rn true ?_
  refine rs (.bool true) ?_
  refine rs (.bool true) ?_
  refine rv (.bool true) ?_
  refine rn true ?_
  refine ru (.pointer (some ⟨g31, 3, none⟩)) ?_
  refine rn true ?_
  refine rl hk39 3 (.slice A25 4 c26) ?_
  refine rn true ?_
  obtain ⟨g48, rfl⟩ := OwnK.adr (d := (Kd.int .i64)) hO24 (by first | omega | decide)
  obtain ⟨ad45, hA46, hc47⟩ := int_at (OwnK.C (d := (Kd.int .i64)) (own_keep (d := (Kd.int .i64)) (OwnK.on (d := (Kd.int .i64)) hO24 hb33) hk34 (by decide) hk38)) 0 0 (by first | omega | decide)
  obtain rfl := Option.some.inj hA46
  have he49 : w37.cell? ⟨g48, 0, none⟩ = some (.int .i64 (([7, 2, 1, 0] : List Int).getD 0 0)) := cell_g (hc47 0 _ rfl) (by first | rfl | (show 0 * 1 + 0 = 0; omega) | omega)
  refine rz (.pointer (some ⟨g48, 0, none⟩)) (run_as (run_at_z (P := Try.prog) (e := 3) (sz := 1) (by kernel_rfl) (by kernel_rfl)  (by first | omega | decide) _)) ?_
  refine rn true ?_
  refine rz (.int .i64 (([7, 2, 1, 0] : List Int).getD 0 0)) (by have e0_ := cellOn he49 (Below.refl _ _); simp [go_sem, sEv, sLook, nbeq, i64_w, -List.getD_eq_getElem?_getD, e0_]) ?_
  refine rn true ?_
  refine rs (.bool ((([7, 2, 1, 0] : List Int).getD 0 0) == 7)) ?_
  refine rs (.bool ((([7, 2, 1, 0] : List Int).getD 0 0) == 7)) ?_
  refine rv (.bool ((([7, 2, 1, 0] : List Int).getD 0 0) == 7)) ?_
  refine rw_end ?_
  refine w_ret (post_ret1 rfl rfl ?_)
  exact ⟨by first | rfl | (exfalso; simp_all; done) | simp_all, (hk38.below (by omega) (chain (chain (chain (hk14.below (by omega) (chain hb3 hb9)) hb18) hb23) hb33))⟩
end Go.Proofs.Ytbbhdohjhipalaa.Ce
end
section
namespace Go.Proofs.Ytbbhdohjhipalaa.Ce
open Go.RowKit Go.Proofs.YtbbhdohjhipalaaW.PrintWords Go.Proofs.YtbbhdohjhipalaaW.PrintLast Go.Proofs.YtbbhdohjhipalaaW.PrintMore
open Go.Proofs.Ytbbhdohjhipalaa.Flow
set_option linter.unusedVariables false
set_option linter.unusedSimpArgs false
set_option maxHeartbeats 4000000 in
theorem rsame_calls (w : World) (m n : NT) (A3 : Option Addr) (c3 : Nat) (A4 : Option Addr) (c4 : Nat) (A5 : Option Addr) (c5 : Nat) (hn3 : (Kd.int .i64).C w A3 m.nums.length m.nums) (hc3 : m.nums.length ≤ c3) (hk3 : m.nums.length ≤ 140737488355328) (hn4 : kOp.C w A4 m.ops.length m.ops) (hc4 : m.ops.length ≤ c4) (hk4 : m.ops.length ≤ 140737488355328) (hn5 : kEntry.C w A5 m.ents.length m.ents) (hc5 : m.ents.length ≤ c5) (hk5 : m.ents.length ≤ 140737488355328) (A6 : Option Addr) (c6 : Nat) (A7 : Option Addr) (c7 : Nat) (A8 : Option Addr) (c8 : Nat) (hn6 : (Kd.int .i64).C w A6 n.nums.length n.nums) (hc6 : n.nums.length ≤ c6) (hk6 : n.nums.length ≤ 140737488355328) (hn7 : kOp.C w A7 n.ops.length n.ops) (hc7 : n.ops.length ≤ c7) (hk7 : n.ops.length ≤ 140737488355328) (hn8 : kEntry.C w A8 n.ents.length n.ents) (hc8 : n.ents.length ≤ c8) (hk8 : n.ents.length ≤ 140737488355328) :
  Calls Try.prog 17 #[.agg #[.int .i64 m.kind, .int .i64 m.fr, .int .i64 m.tw, .slice A3 m.nums.length c3, .slice A4 m.ops.length c4, .slice A5 m.ents.length c5], .agg #[.int .i64 n.kind, .int .i64 n.fr, .int .i64 n.tw, .slice A6 n.nums.length c6, .slice A7 n.ops.length c7, .slice A8 n.ents.length c8]] w fun e w' => ∃ bb, e = .returned (.bool bb) ∧ (bb = true ↔ m = n) ∧ Below w.heap.size w w' := by
 refine calls_flow Try.func17 rfl 108 rfl (Nat.le_of_ble_eq_true rfl) [(0, .agg #[.int .i64 m.kind, .int .i64 m.fr, .int .i64 m.tw, .slice A3 m.nums.length c3, .slice A4 m.ops.length c4, .slice A5 m.ents.length c5]), (1, .agg #[.int .i64 n.kind, .int .i64 n.fr, .int .i64 n.tw, .slice A6 n.nums.length c6, .slice A7 n.ops.length c7, .slice A8 n.ents.length c8])] ?_ ?_
 ·
  intro t v h; exact args_look rfl t v h
 refine wsr ?_
 refine rw_new (cs := #[.int .i64 m.kind, .int .i64 m.fr, .int .i64 m.tw, .slice A3 m.nums.length c3, .slice A4 m.ops.length c4, .slice A5 m.ents.length c5]) (t := 26) (fun g => .pointer (some ⟨g, 0, none⟩)) rfl rfl rfl rfl (by simp [go_sem, sEv, sLook, nbeq, i64_w, -List.getD_eq_getElem?_getD]) ?_
 intro g1 w2 hg6 hz5 hb3 hk4
 have hs_w2 := hb3.size
 refine rw_new (cs := #[.int .i64 n.kind, .int .i64 n.fr, .int .i64 n.tw, .slice A6 n.nums.length c6, .slice A7 n.ops.length c7, .slice A8 n.ents.length c8]) (t := 26) (fun g => .pointer (some ⟨g, 0, none⟩)) rfl rfl rfl rfl (by simp [go_sem, sEv, sLook, nbeq, i64_w, -List.getD_eq_getElem?_getD]) ?_
 intro g7 w8 hg12 hz11 hb9 hk10
 have hs_w8 := hb9.size
 refine rv (.bool false) ?_
 refine rw_end ?_
 refine w_seq ?_
 refine wsr ?_
 refine ru (.pointer (some ⟨g1, 0, none⟩)) ?_
 refine rl (hk4.on hb9) 0 (.int .i64 m.kind) ?_
 refine ru (.pointer (some ⟨g7, 0, none⟩)) ?_
 refine rl hk10 0 (.int .i64 n.kind) ?_
 refine rs (.bool (m.kind != n.kind)) ?_
 refine rv (.bool (m.kind != n.kind)) ?_
 rcases bcase (m.kind != n.kind) with c13 | c13
 ·
  have l14 : m.kind = n.kind := by simpa using c13
  refine rnk c13 ?_
  refine ru (.pointer (some ⟨g1, 1, none⟩)) ?_
  refine rnk c13 ?_
  refine rl (hk4.on hb9) 1 (.int .i64 m.fr) ?_
  refine rnk c13 ?_
  refine ru (.pointer (some ⟨g7, 1, none⟩)) ?_
  refine rnk c13 ?_
  refine rl hk10 1 (.int .i64 n.fr) ?_
  refine rnk c13 ?_
  refine rs (.bool (m.fr != n.fr)) ?_
  refine rp c13 (.bool (m.fr != n.fr)) ?_
  refine rv (.bool (m.fr != n.fr)) ?_
  rcases bcase (m.fr != n.fr) with c15 | c15
  ·
   have l16 : m.fr = n.fr := by simpa using c15
   refine rnk c15 ?_
   refine ru (.pointer (some ⟨g1, 2, none⟩)) ?_
   refine rnk c15 ?_
   refine rl (hk4.on hb9) 2 (.int .i64 m.tw) ?_
   refine rnk c15 ?_
   refine ru (.pointer (some ⟨g7, 2, none⟩)) ?_
   refine rnk c15 ?_
   refine rl hk10 2 (.int .i64 n.tw) ?_
   refine rnk c15 ?_
   refine rs (.bool (m.tw != n.tw)) ?_
   refine rp c15 (.bool (m.tw != n.tw)) ?_
   refine rv (.bool (m.tw != n.tw)) ?_
   rcases bcase (m.tw != n.tw) with c17 | c17
   ·
    have l18 : m.tw = n.tw := by simpa using c17
    refine rnk c17 ?_
    refine ru (.pointer (some ⟨g1, 3, none⟩)) ?_
    refine rnk c17 ?_
    refine rl (hk4.on hb9) 3 (.slice A3 m.nums.length c3) ?_
    refine rnk c17 ?_
    refine rs (.int .i64 ((m.nums.length : Nat) : Int)) ?_
    refine rnk c17 ?_
    refine ru (.pointer (some ⟨g7, 3, none⟩)) ?_
    refine rnk c17 ?_
    refine rl hk10 3 (.slice A6 n.nums.length c6) ?_
    refine rnk c17 ?_
    refine rs (.int .i64 ((n.nums.length : Nat) : Int)) ?_
    refine rnk c17 ?_
    refine rs (.bool (((m.nums.length : Nat) : Int) != ((n.nums.length : Nat) : Int))) ?_
    refine rp c17 (.bool (((m.nums.length : Nat) : Int) != ((n.nums.length : Nat) : Int))) ?_
    refine rv (.bool (((m.nums.length : Nat) : Int) != ((n.nums.length : Nat) : Int))) ?_
    rcases bcase (((m.nums.length : Nat) : Int) != ((n.nums.length : Nat) : Int)) with c19 | c19
    ·
     have l20 : ((m.nums.length : Nat) : Int) = ((n.nums.length : Nat) : Int) := by simpa using c19
     refine rnk c19 ?_
     refine ru (.pointer (some ⟨g1, 4, none⟩)) ?_
     refine rnk c19 ?_
     refine rl (hk4.on hb9) 4 (.slice A4 m.ops.length c4) ?_
     refine rnk c19 ?_
     refine rs (.int .i64 ((m.ops.length : Nat) : Int)) ?_
     refine rnk c19 ?_
     refine ru (.pointer (some ⟨g7, 4, none⟩)) ?_
     refine rnk c19 ?_
     refine rl hk10 4 (.slice A7 n.ops.length c7) ?_
     refine rnk c19 ?_
     refine rs (.int .i64 ((n.ops.length : Nat) : Int)) ?_
     refine rnk c19 ?_
     refine rs (.bool (((m.ops.length : Nat) : Int) != ((n.ops.length : Nat) : Int))) ?_
     refine rp c19 (.bool (((m.ops.length : Nat) : Int) != ((n.ops.length : Nat) : Int))) ?_
     refine rv (.bool (((m.ops.length : Nat) : Int) != ((n.ops.length : Nat) : Int))) ?_
     rcases bcase (((m.ops.length : Nat) : Int) != ((n.ops.length : Nat) : Int)) with c21 | c21
     ·
      have l22 : ((m.ops.length : Nat) : Int) = ((n.ops.length : Nat) : Int) := by simpa using c21
      refine rnk c21 ?_
      refine ru (.pointer (some ⟨g1, 5, none⟩)) ?_
      refine rnk c21 ?_
      refine rl (hk4.on hb9) 5 (.slice A5 m.ents.length c5) ?_
      refine rnk c21 ?_
      refine rs (.int .i64 ((m.ents.length : Nat) : Int)) ?_
      refine rnk c21 ?_
      refine ru (.pointer (some ⟨g7, 5, none⟩)) ?_
      refine rnk c21 ?_
      refine rl hk10 5 (.slice A8 n.ents.length c8) ?_
      refine rnk c21 ?_
      refine rs (.int .i64 ((n.ents.length : Nat) : Int)) ?_
      refine rnk c21 ?_
      refine rs (.bool (((m.ents.length : Nat) : Int) != ((n.ents.length : Nat) : Int))) ?_
      refine rp c21 (.bool (((m.ents.length : Nat) : Int) != ((n.ents.length : Nat) : Int))) ?_
      refine rw_end ?_
      refine w_cond rfl rfl (fun c23 => ?_) (fun c23 => ?_)
      ·
       have l24 : ¬ ((m.ents.length : Nat) : Int) = ((n.ents.length : Nat) : Int) := by simpa using c23
       refine wsr ?_
       refine rv (.bool false) ?_
       refine rw_end ?_
       refine w_ret (post_ret1 rfl rfl ?_)
       exact ⟨_, rfl, no_iff (fun h_ => by obtain ⟨⟨q1, q2, q3⟩, q4, q5, q6⟩ := (same_iff m n).1 h_; have q7 := congrArg List.length q4; have q8 := congrArg List.length q5; have q9 := congrArg List.length q6; omega), (chain hb3 hb9)⟩
      ·
       have l25 : ((m.ents.length : Nat) : Int) = ((n.ents.length : Nat) : Int) := by simpa using c23
       refine w_skip ?_
       refine w_seq ?_
       refine wsr ?_
       refine rv (.int .i64 0) ?_
       refine rw_end ?_
       refine w_block ?_
       refine w_loop (fun m_ G W_ => ∃ (j0 : Nat), j0 + m_ = m.nums.length ∧ n.nums.length = m.nums.length ∧ Below w.heap.size w W_ ∧ (Blk W_ g1 26 #[.int .i64 m.kind, .int .i64 m.fr, .int .i64 m.tw, .slice A3 m.nums.length c3, .slice A4 m.ops.length c4, .slice A5 m.ents.length c5]) ∧ (Blk W_ g7 26 #[.int .i64 n.kind, .int .i64 n.fr, .int .i64 n.tw, .slice A6 n.nums.length c6, .slice A7 n.ops.length c7, .slice A8 n.ents.length c8]) ∧ (m.nums.take j0 = n.nums.take j0) ∧ G = [(2, .pointer (some ⟨g1, 0, none⟩)), (3, .pointer (some ⟨g7, 0, none⟩)), (5, .int .i64 ((j0 : Nat) : Int))]) m.nums.length [(2, .pointer (some ⟨g1, 0, none⟩)), (3, .pointer (some ⟨g7, 0, none⟩)), (5, .int .i64 0)] ⟨0, by omega, by omega, (chain hb3 hb9), (hk4.on hb9), hk10, (by simp), rfl⟩ ⟨rfl, rfl, rfl, trivial⟩ ?_
       rintro m0_ G w_L26 ⟨j0, hp27, hp28, hB_L26, hf29, hf30, hf31, rfl⟩
       have hs_w_L26 := hB_L26.size
       have hltb_hf29 := hf29.lt
       have hltb_hf30 := hf30.lt
       refine w_seq ?_
       refine wsr ?_
       refine rv (.int .i64 ((j0 : Nat) : Int)) ?_
       refine ru (.pointer (some ⟨g1, 3, none⟩)) ?_
       refine rl hf29 3 (.slice A3 m.nums.length c3) ?_
       refine rs (.int .i64 ((m.nums.length : Nat) : Int)) ?_
       refine rs (.bool (decide (((j0 : Nat) : Int) < ((m.nums.length : Nat) : Int)))) ?_
       refine rw_end ?_
       refine w_cond rfl rfl (fun cJ => ?_) (fun cJ => ?_)
       ·
        have l32 : (((j0 : Nat) : Int) < ((m.nums.length : Nat) : Int)) := of_decide_eq_true cJ
        refine w_skip ?_
        refine w_seq ?_
        refine w_block ?_
        refine w_seq ?_
        obtain ⟨ad33, hA34, hc35⟩ := int_at (Kd.C_below hn3 hB_L26) 0 j0 (by first | omega | decide)
        subst hA34
        have he36 : w_L26.cell? (ad33.add (j0)) = some (.int .i64 (m.nums.getD j0 0)) := cell_0 (hc35 0 _ rfl)
        obtain ⟨ad37, hA38, hc39⟩ := int_at (Kd.C_below hn6 hB_L26) 0 j0 (by first | omega | decide)
        subst hA38
        have he40 : w_L26.cell? (ad37.add (j0)) = some (.int .i64 (n.nums.getD j0 0)) := cell_0 (hc39 0 _ rfl)
        refine w_drawk (M := [0, 1, 0, 7, 15, 0, 32, 0, 224, 480, 1023]) (ss := [Is (.pointer (some ⟨g1, 3, none⟩)), Is (.slice (some ad33) m.nums.length c3), Is (.int .i64 ((j0 : Nat) : Int)), Is (.pointer (some (ad33.add (j0)))), Is (.int .i64 (m.nums.getD j0 0)), Is (.pointer (some ⟨g7, 3, none⟩)), Is (.slice (some ad37) n.nums.length c6), Is (.int .i64 ((j0 : Nat) : Int)), Is (.pointer (some (ad37.add (j0)))), Is (.int .i64 (n.nums.getD j0 0))]) 10 rfl (by decide +kernel) ?_
        refine t_is (.pointer (some ⟨g1, 3, none⟩)) rfl rfl rfl rfl (fun W_ hW_ F_ => by simp [go_sem, sEv, sLook, nbeq, i64_w, -List.getD_eq_getElem?_getD, Try.underlying26]) ?_
        refine t_is (.slice (some ad33) m.nums.length c3) rfl rfl rfl rfl (fun W_ hW_ F_ => by have eb_ := (hf29.on (below_of_drew hW_)); have e0_ := eb_.cellv (i := 3) (v := (.slice (some ad33) m.nums.length c3 : Value)) rfl; simp [go_sem, sEv, sLook, nbeq, i64_w, -List.getD_eq_getElem?_getD, e0_, Try.underlying22]) ?_
        refine tr (.int .i64 ((j0 : Nat) : Int)) ?_
        refine t_is (.pointer (some (ad33.add (j0)))) rfl rfl rfl rfl (fun W_ hW_ F_ => (run_as (run_at_1 (P := Try.prog) (e := 3) (by kernel_rfl) (by kernel_rfl) j0 (by first | omega | decide) _))) ?_
        refine t_is (.int .i64 (m.nums.getD j0 0)) rfl rfl rfl rfl (fun W_ hW_ F_ => by have e0_ := cellOn he36 (below_of_drew hW_); simp [go_sem, sEv, sLook, nbeq, i64_w, -List.getD_eq_getElem?_getD, e0_]) ?_
        refine t_is (.pointer (some ⟨g7, 3, none⟩)) rfl rfl rfl rfl (fun W_ hW_ F_ => by simp [go_sem, sEv, sLook, nbeq, i64_w, -List.getD_eq_getElem?_getD, Try.underlying26]) ?_
        refine t_is (.slice (some ad37) n.nums.length c6) rfl rfl rfl rfl (fun W_ hW_ F_ => by have eb_ := (hf30.on (below_of_drew hW_)); have e0_ := eb_.cellv (i := 3) (v := (.slice (some ad37) n.nums.length c6 : Value)) rfl; simp [go_sem, sEv, sLook, nbeq, i64_w, -List.getD_eq_getElem?_getD, e0_, Try.underlying22]) ?_
        refine tr (.int .i64 ((j0 : Nat) : Int)) ?_
        refine t_is (.pointer (some (ad37.add (j0)))) rfl rfl rfl rfl (fun W_ hW_ F_ => (run_as (run_at_1 (P := Try.prog) (e := 3) (by kernel_rfl) (by kernel_rfl) j0 (by first | omega | decide) _))) ?_
        refine t_is (.int .i64 (n.nums.getD j0 0)) rfl rfl rfl rfl (fun W_ hW_ F_ => by have e0_ := cellOn he40 (below_of_drew hW_); simp [go_sem, sEv, sLook, nbeq, i64_w, -List.getD_eq_getElem?_getD, e0_]) ?_
        refine t_tail ?_
        intro w41 hb42_ F43
        have hb42 := below_of_drew hb42_
        have hs_w41 := hb42.size
        clear F43
        refine rs (.bool ((m.nums.getD j0 0) != (n.nums.getD j0 0))) ?_
        refine rw_end ?_
        refine w_cond rfl rfl (fun cD => ?_) (fun cD => ?_)
        ·
         have l44 : ¬ (m.nums.getD j0 0) = (n.nums.getD j0 0) := by simpa using cD
         refine wsr ?_
         refine rv (.bool false) ?_
         refine rw_end ?_
         refine w_ret (post_ret1 rfl rfl ?_)
         exact ⟨_, rfl, no_iff (fun h_ => getD_ne (z := 0) (j := j0) (by simpa using cD) ((same_iff m n).1 h_).2.1), (chain hB_L26 hb42)⟩
        ·
         have l45 : (m.nums.getD j0 0) = (n.nums.getD j0 0) := by simpa using cD
         refine w_skip ?_
         refine w_blk ?_
         refine w_region ?_
         refine rv (.int .i64 ((j0 : Nat) : Int)) ?_
         refine rw1 (.int .i64 ((j0 + 1 : Nat) : Int)) ?_
         refine rv (.int .i64 ((j0 + 1 : Nat) : Int)) ?_
         refine rw_end ?_
         exact w_back (m0_ - 1) [(2, .pointer (some ⟨g1, 0, none⟩)), (3, .pointer (some ⟨g7, 0, none⟩)), (5, .int .i64 ((j0 + 1 : Nat) : Int))] (by omega) ⟨rfl, rfl, rfl, trivial⟩ ⟨(j0 + 1), by omega, by omega, (chain hB_L26 hb42), (hf29.on hb42), (hf30.on hb42), (take_eq_step (z := 0) (by omega) (by omega) hf31 (by simpa using cD)), rfl⟩
       ·
        have l46 : ¬ (((j0 : Nat) : Int) < ((m.nums.length : Nat) : Int)) := of_decide_eq_false cJ
        refine w_exit rfl ?_
        refine w_seq ?_
        refine wsr ?_
        refine rv (.int .i64 0) ?_
        refine rw_end ?_
        refine w_block ?_
        have heq1_ : m.nums = n.nums := take_eq_all (by omega) (by omega) hf31
        refine w_loop (fun m_ G W_ => ∃ (j1 : Nat), j1 + m_ = m.ops.length ∧ n.ops.length = m.ops.length ∧ Below w.heap.size w W_ ∧ (Blk W_ g1 26 #[.int .i64 m.kind, .int .i64 m.fr, .int .i64 m.tw, .slice A3 m.nums.length c3, .slice A4 m.ops.length c4, .slice A5 m.ents.length c5]) ∧ (Blk W_ g7 26 #[.int .i64 n.kind, .int .i64 n.fr, .int .i64 n.tw, .slice A6 n.nums.length c6, .slice A7 n.ops.length c7, .slice A8 n.ents.length c8]) ∧ (m.ops.take j1 = n.ops.take j1) ∧ G = [(2, .pointer (some ⟨g1, 0, none⟩)), (3, .pointer (some ⟨g7, 0, none⟩)), (6, .int .i64 ((j1 : Nat) : Int))]) m.ops.length [(2, .pointer (some ⟨g1, 0, none⟩)), (3, .pointer (some ⟨g7, 0, none⟩)), (6, .int .i64 0)] ⟨0, by omega, by omega, hB_L26, hf29, hf30, (by simp), rfl⟩ ⟨rfl, rfl, rfl, trivial⟩ ?_
        rintro m1_ G w_L47 ⟨j1, hp48, hp49, hB_L47, hf50, hf51, hf52, rfl⟩
        have hs_w_L47 := hB_L47.size
        have hltb_hf50 := hf50.lt
        have hltb_hf51 := hf51.lt
        refine w_seq ?_
        refine wsr ?_
        refine rv (.int .i64 ((j1 : Nat) : Int)) ?_
        refine ru (.pointer (some ⟨g1, 4, none⟩)) ?_
        refine rl hf50 4 (.slice A4 m.ops.length c4) ?_
        refine rs (.int .i64 ((m.ops.length : Nat) : Int)) ?_
        refine rs (.bool (decide (((j1 : Nat) : Int) < ((m.ops.length : Nat) : Int)))) ?_
        refine rw_end ?_
        refine w_cond rfl rfl (fun cJ => ?_) (fun cJ => ?_)
        ·
         have l53 : (((j1 : Nat) : Int) < ((m.ops.length : Nat) : Int)) := of_decide_eq_true cJ
         refine w_skip ?_
         refine w_seq ?_
         refine w_block ?_
         refine w_seq ?_
         obtain ⟨ad54, hA55, hc56⟩ := flat_at (Kd.C_below hn4 hB_L47) (0, 0, 0, 0, 0) j1 (by first | omega | decide)
         subst hA55
         have he57 : w_L47.cell? (ad54.add (j1 * 5)) = some (.int .i64 ((m.ops.getD j1 (0, 0, 0, 0, 0)).1)) := cell_0 (hc56 0 _ rfl)
         have he58 : w_L47.cell? ⟨(ad54.add (j1 * 5)).block, (ad54.add (j1 * 5)).off + 1, none⟩ = some (.int .i64 ((m.ops.getD j1 (0, 0, 0, 0, 0)).2.1)) := cell_j (hc56 1 _ rfl)
         have he59 : w_L47.cell? ⟨(ad54.add (j1 * 5)).block, (ad54.add (j1 * 5)).off + 2, none⟩ = some (.int .i64 ((m.ops.getD j1 (0, 0, 0, 0, 0)).2.2.1)) := cell_j (hc56 2 _ rfl)
         have he60 : w_L47.cell? ⟨(ad54.add (j1 * 5)).block, (ad54.add (j1 * 5)).off + 3, none⟩ = some (.int .i64 ((m.ops.getD j1 (0, 0, 0, 0, 0)).2.2.2.1)) := cell_j (hc56 3 _ rfl)
         have he61 : w_L47.cell? ⟨(ad54.add (j1 * 5)).block, (ad54.add (j1 * 5)).off + 4, none⟩ = some (.int .i64 ((m.ops.getD j1 (0, 0, 0, 0, 0)).2.2.2.2)) := cell_j (hc56 4 _ rfl)
         obtain ⟨ad62, hA63, hc64⟩ := flat_at (Kd.C_below hn7 hB_L47) (0, 0, 0, 0, 0) j1 (by first | omega | decide)
         subst hA63
         have he65 : w_L47.cell? (ad62.add (j1 * 5)) = some (.int .i64 ((n.ops.getD j1 (0, 0, 0, 0, 0)).1)) := cell_0 (hc64 0 _ rfl)
         have he66 : w_L47.cell? ⟨(ad62.add (j1 * 5)).block, (ad62.add (j1 * 5)).off + 1, none⟩ = some (.int .i64 ((n.ops.getD j1 (0, 0, 0, 0, 0)).2.1)) := cell_j (hc64 1 _ rfl)
         have he67 : w_L47.cell? ⟨(ad62.add (j1 * 5)).block, (ad62.add (j1 * 5)).off + 2, none⟩ = some (.int .i64 ((n.ops.getD j1 (0, 0, 0, 0, 0)).2.2.1)) := cell_j (hc64 2 _ rfl)
         have he68 : w_L47.cell? ⟨(ad62.add (j1 * 5)).block, (ad62.add (j1 * 5)).off + 3, none⟩ = some (.int .i64 ((n.ops.getD j1 (0, 0, 0, 0, 0)).2.2.2.1)) := cell_j (hc64 3 _ rfl)
         have he69 : w_L47.cell? ⟨(ad62.add (j1 * 5)).block, (ad62.add (j1 * 5)).off + 4, none⟩ = some (.int .i64 ((n.ops.getD j1 (0, 0, 0, 0, 0)).2.2.2.2)) := cell_j (hc64 4 _ rfl)
         refine w_drawk (M := [0, 1, 0, 7, 15, 0, 32, 0, 224, 480, 1023]) (ss := [Is (.pointer (some ⟨g1, 4, none⟩)), Is (.slice (some ad54) m.ops.length c4), Is (.int .i64 ((j1 : Nat) : Int)), Is (.pointer (some (ad54.add (j1 * 5)))), Is (.agg #[.int .i64 ((m.ops.getD j1 (0, 0, 0, 0, 0)).1), .int .i64 ((m.ops.getD j1 (0, 0, 0, 0, 0)).2.1), .int .i64 ((m.ops.getD j1 (0, 0, 0, 0, 0)).2.2.1), .int .i64 ((m.ops.getD j1 (0, 0, 0, 0, 0)).2.2.2.1), .int .i64 ((m.ops.getD j1 (0, 0, 0, 0, 0)).2.2.2.2)]), Is (.pointer (some ⟨g7, 4, none⟩)), Is (.slice (some ad62) n.ops.length c7), Is (.int .i64 ((j1 : Nat) : Int)), Is (.pointer (some (ad62.add (j1 * 5)))), Is (.agg #[.int .i64 ((n.ops.getD j1 (0, 0, 0, 0, 0)).1), .int .i64 ((n.ops.getD j1 (0, 0, 0, 0, 0)).2.1), .int .i64 ((n.ops.getD j1 (0, 0, 0, 0, 0)).2.2.1), .int .i64 ((n.ops.getD j1 (0, 0, 0, 0, 0)).2.2.2.1), .int .i64 ((n.ops.getD j1 (0, 0, 0, 0, 0)).2.2.2.2)])]) 10 rfl (by decide +kernel) ?_
         refine t_is (.pointer (some ⟨g1, 4, none⟩)) rfl rfl rfl rfl (fun W_ hW_ F_ => by simp [go_sem, sEv, sLook, nbeq, i64_w, -List.getD_eq_getElem?_getD, Try.underlying26]) ?_
         refine t_is (.slice (some ad54) m.ops.length c4) rfl rfl rfl rfl (fun W_ hW_ F_ => by have eb_ := (hf50.on (below_of_drew hW_)); have e0_ := eb_.cellv (i := 4) (v := (.slice (some ad54) m.ops.length c4 : Value)) rfl; simp [go_sem, sEv, sLook, nbeq, i64_w, -List.getD_eq_getElem?_getD, e0_, Try.underlying23]) ?_
         refine tr (.int .i64 ((j1 : Nat) : Int)) ?_
         refine t_is (.pointer (some (ad54.add (j1 * 5)))) rfl rfl rfl rfl (fun W_ hW_ F_ => (run_as (run_at_k (P := Try.prog) (e := 73) (sz := 5) (by kernel_rfl) (by kernel_rfl) j1 (by first | omega | decide) _))) ?_
         refine t_is (.agg #[.int .i64 ((m.ops.getD j1 (0, 0, 0, 0, 0)).1), .int .i64 ((m.ops.getD j1 (0, 0, 0, 0, 0)).2.1), .int .i64 ((m.ops.getD j1 (0, 0, 0, 0, 0)).2.2.1), .int .i64 ((m.ops.getD j1 (0, 0, 0, 0, 0)).2.2.2.1), .int .i64 ((m.ops.getD j1 (0, 0, 0, 0, 0)).2.2.2.2)]) rfl rfl rfl rfl (fun W_ hW_ F_ => by have e0_ := cellOn he57 (below_of_drew hW_); have e1_ := cellOn he58 (below_of_drew hW_); have e2_ := cellOn he59 (below_of_drew hW_); have e3_ := cellOn he60 (below_of_drew hW_); have e4_ := cellOn he61 (below_of_drew hW_); simp [go_sem, sEv, sLook, nbeq, i64_w, -List.getD_eq_getElem?_getD, e0_, e1_, e2_, e3_, e4_, Try.underlying73]) ?_
         refine t_is (.pointer (some ⟨g7, 4, none⟩)) rfl rfl rfl rfl (fun W_ hW_ F_ => by simp [go_sem, sEv, sLook, nbeq, i64_w, -List.getD_eq_getElem?_getD, Try.underlying26]) ?_
         refine t_is (.slice (some ad62) n.ops.length c7) rfl rfl rfl rfl (fun W_ hW_ F_ => by have eb_ := (hf51.on (below_of_drew hW_)); have e0_ := eb_.cellv (i := 4) (v := (.slice (some ad62) n.ops.length c7 : Value)) rfl; simp [go_sem, sEv, sLook, nbeq, i64_w, -List.getD_eq_getElem?_getD, e0_, Try.underlying23]) ?_
         refine tr (.int .i64 ((j1 : Nat) : Int)) ?_
         refine t_is (.pointer (some (ad62.add (j1 * 5)))) rfl rfl rfl rfl (fun W_ hW_ F_ => (run_as (run_at_k (P := Try.prog) (e := 73) (sz := 5) (by kernel_rfl) (by kernel_rfl) j1 (by first | omega | decide) _))) ?_
         refine t_is (.agg #[.int .i64 ((n.ops.getD j1 (0, 0, 0, 0, 0)).1), .int .i64 ((n.ops.getD j1 (0, 0, 0, 0, 0)).2.1), .int .i64 ((n.ops.getD j1 (0, 0, 0, 0, 0)).2.2.1), .int .i64 ((n.ops.getD j1 (0, 0, 0, 0, 0)).2.2.2.1), .int .i64 ((n.ops.getD j1 (0, 0, 0, 0, 0)).2.2.2.2)]) rfl rfl rfl rfl (fun W_ hW_ F_ => by have e0_ := cellOn he65 (below_of_drew hW_); have e1_ := cellOn he66 (below_of_drew hW_); have e2_ := cellOn he67 (below_of_drew hW_); have e3_ := cellOn he68 (below_of_drew hW_); have e4_ := cellOn he69 (below_of_drew hW_); simp [go_sem, sEv, sLook, nbeq, i64_w, -List.getD_eq_getElem?_getD, e0_, e1_, e2_, e3_, e4_, Try.underlying73]) ?_
         refine t_tail ?_
         intro w70 hb71_ F72
         have hb71 := below_of_drew hb71_
         have hs_w70 := hb71.size
         clear F72
         refine rz (.bool (!(((m.ops.getD j1 (0, 0, 0, 0, 0)).1) == ((n.ops.getD j1 (0, 0, 0, 0, 0)).1) && (((m.ops.getD j1 (0, 0, 0, 0, 0)).2.1) == ((n.ops.getD j1 (0, 0, 0, 0, 0)).2.1) && (((m.ops.getD j1 (0, 0, 0, 0, 0)).2.2.1) == ((n.ops.getD j1 (0, 0, 0, 0, 0)).2.2.1) && (((m.ops.getD j1 (0, 0, 0, 0, 0)).2.2.2.1) == ((n.ops.getD j1 (0, 0, 0, 0, 0)).2.2.2.1) && (((m.ops.getD j1 (0, 0, 0, 0, 0)).2.2.2.2) == ((n.ops.getD j1 (0, 0, 0, 0, 0)).2.2.2.2)))))))) (by simp [go_sem, sEv, sLook, nbeq, i64_w, -List.getD_eq_getElem?_getD, eqA73]) ?_
         refine rw_end ?_
         refine w_cond rfl rfl (fun cD => ?_) (fun cD => ?_)
         ·
          refine wsr ?_
          refine rv (.bool false) ?_
          refine rw_end ?_
          refine w_ret (post_ret1 rfl rfl ?_)
          exact ⟨_, rfl, no_iff (fun h_ => getD_ne (z := (0, 0, 0, 0, 0)) (j := j1) (fun e_ => by rw [e_] at cD; simp at cD) ((same_iff m n).1 h_).2.2.1), (chain hB_L47 hb71)⟩
         ·
          refine w_skip ?_
          refine w_blk ?_
          refine w_region ?_
          refine rv (.int .i64 ((j1 : Nat) : Int)) ?_
          refine rw1 (.int .i64 ((j1 + 1 : Nat) : Int)) ?_
          refine rv (.int .i64 ((j1 + 1 : Nat) : Int)) ?_
          refine rw_end ?_
          exact w_back (m1_ - 1) [(2, .pointer (some ⟨g1, 0, none⟩)), (3, .pointer (some ⟨g7, 0, none⟩)), (6, .int .i64 ((j1 + 1 : Nat) : Int))] (by omega) ⟨rfl, rfl, rfl, trivial⟩ ⟨(j1 + 1), by omega, by omega, (chain hB_L47 hb71), (hf50.on hb71), (hf51.on hb71), (take_eq_step (z := (0, 0, 0, 0, 0)) (by omega) (by omega) hf52 (by simp only [Bool.not_eq_false', Bool.not_false, Bool.and_eq_true, beq_iff_eq] at cD; obtain ⟨q1, q2, q3, q4, q5⟩ := cD; exact Prod.ext q1 (Prod.ext q2 (Prod.ext q3 (Prod.ext q4 q5))))), rfl⟩
        ·
         have l73 : ¬ (((j1 : Nat) : Int) < ((m.ops.length : Nat) : Int)) := of_decide_eq_false cJ
         refine w_exit rfl ?_
         refine w_seq ?_
         refine wsr ?_
         refine rv (.int .i64 0) ?_
         refine rw_end ?_
         refine w_block ?_
         have heq2_ : m.ops = n.ops := take_eq_all (by omega) (by omega) hf52
         refine w_loop (fun m_ G W_ => ∃ (j2 : Nat), j2 + m_ = m.ents.length ∧ n.ents.length = m.ents.length ∧ Below w.heap.size w W_ ∧ (Blk W_ g1 26 #[.int .i64 m.kind, .int .i64 m.fr, .int .i64 m.tw, .slice A3 m.nums.length c3, .slice A4 m.ops.length c4, .slice A5 m.ents.length c5]) ∧ (Blk W_ g7 26 #[.int .i64 n.kind, .int .i64 n.fr, .int .i64 n.tw, .slice A6 n.nums.length c6, .slice A7 n.ops.length c7, .slice A8 n.ents.length c8]) ∧ (m.ents.take j2 = n.ents.take j2) ∧ G = [(2, .pointer (some ⟨g1, 0, none⟩)), (3, .pointer (some ⟨g7, 0, none⟩)), (7, .int .i64 ((j2 : Nat) : Int))]) m.ents.length [(2, .pointer (some ⟨g1, 0, none⟩)), (3, .pointer (some ⟨g7, 0, none⟩)), (7, .int .i64 0)] ⟨0, by omega, by omega, hB_L47, hf50, hf51, (by simp), rfl⟩ ⟨rfl, rfl, rfl, trivial⟩ ?_
         rintro m2_ G w_L74 ⟨j2, hp75, hp76, hB_L74, hf77, hf78, hf79, rfl⟩
         have hs_w_L74 := hB_L74.size
         have hltb_hf77 := hf77.lt
         have hltb_hf78 := hf78.lt
         refine w_seq ?_
         refine wsr ?_
         refine rv (.int .i64 ((j2 : Nat) : Int)) ?_
         refine ru (.pointer (some ⟨g1, 5, none⟩)) ?_
         refine rl hf77 5 (.slice A5 m.ents.length c5) ?_
         refine rs (.int .i64 ((m.ents.length : Nat) : Int)) ?_
         refine rs (.bool (decide (((j2 : Nat) : Int) < ((m.ents.length : Nat) : Int)))) ?_
         refine rw_end ?_
         refine w_cond rfl rfl (fun cJ => ?_) (fun cJ => ?_)
         ·
          have l80 : (((j2 : Nat) : Int) < ((m.ents.length : Nat) : Int)) := of_decide_eq_true cJ
          refine w_skip ?_
          refine w_seq ?_
          refine w_block ?_
          refine w_seq ?_
          obtain ⟨ad81, hA82, hc83⟩ := flat_at (Kd.C_below hn5 hB_L74) EL.zero j2 (by first | omega | decide)
          subst hA82
          obtain ⟨ad84, hA85, hc86⟩ := flat_at (Kd.C_below hn8 hB_L74) EL.zero j2 (by first | omega | decide)
          subst hA85
          refine w_drawk (M := [0, 1, 0, 7, 15, 0, 32, 0, 224, 480, 1023]) (ss := [Is (.pointer (some ⟨g1, 5, none⟩)), Is (.slice (some ad81) m.ents.length c5), Is (.int .i64 ((j2 : Nat) : Int)), Is (.pointer (some (ad81.add (j2 * 76)))), Is (.agg (earr (m.ents.getD j2 EL.zero))), Is (.pointer (some ⟨g7, 5, none⟩)), Is (.slice (some ad84) n.ents.length c8), Is (.int .i64 ((j2 : Nat) : Int)), Is (.pointer (some (ad84.add (j2 * 76)))), Is (.agg (earr (n.ents.getD j2 EL.zero)))]) 10 rfl (by decide +kernel) ?_
          refine t_is (.pointer (some ⟨g1, 5, none⟩)) rfl rfl rfl rfl (fun W_ hW_ F_ => by simp [go_sem, sEv, sLook, nbeq, i64_w, -List.getD_eq_getElem?_getD, Try.underlying26]) ?_
          refine t_is (.slice (some ad81) m.ents.length c5) rfl rfl rfl rfl (fun W_ hW_ F_ => by have eb_ := (hf77.on (below_of_drew hW_)); have e0_ := eb_.cellv (i := 5) (v := (.slice (some ad81) m.ents.length c5 : Value)) rfl; simp [go_sem, sEv, sLook, nbeq, i64_w, -List.getD_eq_getElem?_getD, e0_, Try.underlying24]) ?_
          refine tr (.int .i64 ((j2 : Nat) : Int)) ?_
          refine t_is (.pointer (some (ad81.add (j2 * 76)))) rfl rfl rfl rfl (fun W_ hW_ F_ => (run_as (run_at_k (P := Try.prog) (e := 83) (sz := 76) (by kernel_rfl) (by kernel_rfl) j2 (by first | omega | decide) _))) ?_
          refine t_is (.agg (earr (m.ents.getD j2 EL.zero))) rfl rfl rfl rfl (fun W_ hW_ F_ => (run_as (load_eel (x := (m.ents.getD j2 EL.zero)) (fun j u hj => cellOn (hc83 j u hj) (chain (Below.refl _ _) (below_of_drew hW_)))))) ?_
          refine t_is (.pointer (some ⟨g7, 5, none⟩)) rfl rfl rfl rfl (fun W_ hW_ F_ => by simp [go_sem, sEv, sLook, nbeq, i64_w, -List.getD_eq_getElem?_getD, Try.underlying26]) ?_
          refine t_is (.slice (some ad84) n.ents.length c8) rfl rfl rfl rfl (fun W_ hW_ F_ => by have eb_ := (hf78.on (below_of_drew hW_)); have e0_ := eb_.cellv (i := 5) (v := (.slice (some ad84) n.ents.length c8 : Value)) rfl; simp [go_sem, sEv, sLook, nbeq, i64_w, -List.getD_eq_getElem?_getD, e0_, Try.underlying24]) ?_
          refine tr (.int .i64 ((j2 : Nat) : Int)) ?_
          refine t_is (.pointer (some (ad84.add (j2 * 76)))) rfl rfl rfl rfl (fun W_ hW_ F_ => (run_as (run_at_k (P := Try.prog) (e := 83) (sz := 76) (by kernel_rfl) (by kernel_rfl) j2 (by first | omega | decide) _))) ?_
          refine t_is (.agg (earr (n.ents.getD j2 EL.zero))) rfl rfl rfl rfl (fun W_ hW_ F_ => (run_as (load_eel (x := (n.ents.getD j2 EL.zero)) (fun j u hj => cellOn (hc86 j u hj) (chain (Below.refl _ _) (below_of_drew hW_)))))) ?_
          refine t_tail ?_
          intro w87 hb88_ F89
          have hb88 := below_of_drew hb88_
          have hs_w87 := hb88.size
          clear F89
          refine rz (.bool (!(eqE (m.ents.getD j2 EL.zero) (n.ents.getD j2 EL.zero)))) (run_as (guard_ne_entry _ _ _ _ _)) ?_
          refine rw_end ?_
          refine w_cond rfl rfl (fun cD => ?_) (fun cD => ?_)
          ·
           refine wsr ?_
           refine rv (.bool false) ?_
           refine rw_end ?_
           refine w_ret (post_ret1 rfl rfl ?_)
           exact ⟨_, rfl, no_iff (fun h_ => getD_ne (z := EL.zero) (j := j2) (fun e_ => by rw [e_] at cD; simp [eqE_self] at cD) ((same_iff m n).1 h_).2.2.2), (chain hB_L74 hb88)⟩
          ·
           refine w_skip ?_
           refine w_blk ?_
           refine w_region ?_
           refine rv (.int .i64 ((j2 : Nat) : Int)) ?_
           refine rw1 (.int .i64 ((j2 + 1 : Nat) : Int)) ?_
           refine rv (.int .i64 ((j2 + 1 : Nat) : Int)) ?_
           refine rw_end ?_
           exact w_back (m2_ - 1) [(2, .pointer (some ⟨g1, 0, none⟩)), (3, .pointer (some ⟨g7, 0, none⟩)), (7, .int .i64 ((j2 + 1 : Nat) : Int))] (by omega) ⟨rfl, rfl, rfl, trivial⟩ ⟨(j2 + 1), by omega, by omega, (chain hB_L74 hb88), (hf77.on hb88), (hf78.on hb88), (take_eq_step (z := EL.zero) (by omega) (by omega) hf79 ((eqE_iff _ _).1 (by simpa using cD))), rfl⟩
         ·
          have l90 : ¬ (((j2 : Nat) : Int) < ((m.ents.length : Nat) : Int)) := of_decide_eq_false cJ
          refine w_exit rfl ?_
          refine wsr ?_
          refine rv (.bool true) ?_
          refine rw_end ?_
          refine w_ret (post_ret1 rfl rfl ?_)
          exact ⟨_, rfl, yes_iff ((same_iff m n).2 ⟨⟨by omega, by omega, by omega⟩, heq1_, heq2_, take_eq_all (by omega) (by omega) hf79⟩), hB_L74⟩
     ·
      have l91 : ¬ ((m.ops.length : Nat) : Int) = ((n.ops.length : Nat) : Int) := by simpa using c21
      refine rok c21 ?_
      refine rok c21 ?_
      refine rok c21 ?_
      refine rok c21 ?_
      refine rok c21 ?_
      refine rok c21 ?_
      refine rok c21 ?_
      refine rp c21 (.bool true) ?_
      refine rw_end ?_
      refine w_cond_t rfl rfl rfl ?_
      refine wsr ?_
      refine rv (.bool false) ?_
      refine rw_end ?_
      refine w_ret (post_ret1 rfl rfl ?_)
      exact ⟨_, rfl, no_iff (fun h_ => by obtain ⟨⟨q1, q2, q3⟩, q4, q5, q6⟩ := (same_iff m n).1 h_; have q7 := congrArg List.length q4; have q8 := congrArg List.length q5; have q9 := congrArg List.length q6; omega), (chain hb3 hb9)⟩
    ·
     have l92 : ¬ ((m.nums.length : Nat) : Int) = ((n.nums.length : Nat) : Int) := by simpa using c19
     refine rok c19 ?_
     refine rok c19 ?_
     refine rok c19 ?_
     refine rok c19 ?_
     refine rok c19 ?_
     refine rok c19 ?_
     refine rok c19 ?_
     refine rp c19 (.bool true) ?_
     refine rv (.bool true) ?_
     refine ro true ?_
     refine ro true ?_
     refine ro true ?_
     refine ro true ?_
     refine ro true ?_
     refine ro true ?_
     refine ro true ?_
     refine rs (.bool true) ?_
     refine rw_end ?_
     refine w_cond_t rfl rfl rfl ?_
     refine wsr ?_
     refine rv (.bool false) ?_
     refine rw_end ?_
     refine w_ret (post_ret1 rfl rfl ?_)
     exact ⟨_, rfl, no_iff (fun h_ => by obtain ⟨⟨q1, q2, q3⟩, q4, q5, q6⟩ := (same_iff m n).1 h_; have q7 := congrArg List.length q4; have q8 := congrArg List.length q5; have q9 := congrArg List.length q6; omega), (chain hb3 hb9)⟩
   ·
    have l93 : ¬ m.tw = n.tw := by simpa using c17
    refine rok c17 ?_
    refine rok c17 ?_
    refine rok c17 ?_
    refine rok c17 ?_
    refine rok c17 ?_
    refine rok c17 ?_
    refine rok c17 ?_
    refine rp c17 (.bool true) ?_
    refine rv (.bool true) ?_
    refine ro true ?_
    refine ro true ?_
    refine ro true ?_
    refine ro true ?_
    refine ro true ?_
    refine ro true ?_
    refine ro true ?_
    refine rs (.bool true) ?_
    refine rv (.bool true) ?_
    refine ro true ?_
    refine ro true ?_
    refine ro true ?_
    refine ro true ?_
    refine ro true ?_
    refine ro true ?_
    refine ro true ?_
    refine rs (.bool true) ?_
    refine rw_end ?_
    refine w_cond_t rfl rfl rfl ?_
    refine wsr ?_
    refine rv (.bool false) ?_
    refine rw_end ?_
    refine w_ret (post_ret1 rfl rfl ?_)
    exact ⟨_, rfl, no_iff (fun h_ => by obtain ⟨⟨q1, q2, q3⟩, q4, q5, q6⟩ := (same_iff m n).1 h_; have q7 := congrArg List.length q4; have q8 := congrArg List.length q5; have q9 := congrArg List.length q6; omega), (chain hb3 hb9)⟩
  ·
   have l94 : ¬ m.fr = n.fr := by simpa using c15
   refine rok c15 ?_
   refine rok c15 ?_
   refine rok c15 ?_
   refine rok c15 ?_
   refine rok c15 ?_
   refine rp c15 (.bool true) ?_
   refine rv (.bool true) ?_
   refine ro true ?_
   refine ro true ?_
   refine ro true ?_
   refine ro true ?_
   refine ro true ?_
   refine ro true ?_
   refine ro true ?_
   refine rs (.bool true) ?_
   refine rv (.bool true) ?_
   refine ro true ?_
   refine ro true ?_
   refine ro true ?_
   refine ro true ?_
   refine ro true ?_
   refine ro true ?_
   refine ro true ?_
   refine rs (.bool true) ?_
   refine rv (.bool true) ?_
   refine ro true ?_
   refine ro true ?_
   refine ro true ?_
   refine ro true ?_
   refine ro true ?_
   refine ro true ?_
   refine ro true ?_
   refine rs (.bool true) ?_
   refine rw_end ?_
   refine w_cond_t rfl rfl rfl ?_
   refine wsr ?_
   refine rv (.bool false) ?_
   refine rw_end ?_
   refine w_ret (post_ret1 rfl rfl ?_)
   exact ⟨_, rfl, no_iff (fun h_ => by obtain ⟨⟨q1, q2, q3⟩, q4, q5, q6⟩ := (same_iff m n).1 h_; have q7 := congrArg List.length q4; have q8 := congrArg List.length q5; have q9 := congrArg List.length q6; omega), (chain hb3 hb9)⟩
 ·
  have l95 : ¬ m.kind = n.kind := by simpa using c13
  refine rok c13 ?_
  refine rok c13 ?_
  refine rok c13 ?_
  refine rok c13 ?_
  refine rok c13 ?_
  refine rp c13 (.bool true) ?_
  refine rv (.bool true) ?_
  refine ro true ?_
  refine ro true ?_
  refine ro true ?_
  refine ro true ?_
  refine ro true ?_
  refine rs (.bool true) ?_
  refine rv (.bool true) ?_
  refine ro true ?_
  refine ro true ?_
  refine ro true ?_
  refine ro true ?_
  refine ro true ?_
  refine ro true ?_
  refine ro true ?_
  refine rs (.bool true) ?_
  refine rv (.bool true) ?_
  refine ro true ?_
  refine ro true ?_
  refine ro true ?_
  refine ro true ?_
  refine ro true ?_
  refine ro true ?_
  refine ro true ?_
  refine rs (.bool true) ?_
  refine rv (.bool true) ?_
  refine ro true ?_
  refine ro true ?_
  refine ro true ?_
  refine ro true ?_
  refine ro true ?_
  refine ro true ?_
  refine ro true ?_
  refine rs (.bool true) ?_
  refine rw_end ?_
  refine w_cond_t rfl rfl rfl ?_
  refine wsr ?_
  refine rv (.bool false) ?_
  refine rw_end ?_
  refine w_ret (post_ret1 rfl rfl ?_)
  exact ⟨_, rfl, no_iff (fun h_ => by obtain ⟨⟨q1, q2, q3⟩, q4, q5, q6⟩ := (same_iff m n).1 h_; have q7 := congrArg List.length q4; have q8 := congrArg List.length q5; have q9 := congrArg List.length q6; omega), (chain hb3 hb9)⟩
end Go.Proofs.Ytbbhdohjhipalaa.Ce
end
section
namespace Go.Proofs.Ytbbhdohjhipalaa.Ce
open Go.RowKit Go.Proofs.YtbbhdohjhipalaaW.PrintWords Go.Proofs.YtbbhdohjhipalaaW.PrintLast Go.Proofs.YtbbhdohjhipalaaW.PrintMore
open Go.Proofs.Ytbbhdohjhipalaa.Flow
open Go.Proofs.Ytbbhdohjhipalaa.PNoteReads
set_option linter.unusedVariables false
set_option linter.unusedSimpArgs false
theorem rsame_self (w : World) (n : NT) (A3 : Option Addr) (c3 : Nat) (A4 : Option Addr) (c4 : Nat) (A5 : Option Addr) (c5 : Nat) (hn3 : (Kd.int .i64).C w A3 n.nums.length n.nums) (hc3 : n.nums.length ≤ c3) (hk3 : n.nums.length ≤ 140737488355328) (hn4 : kOp.C w A4 n.ops.length n.ops) (hc4 : n.ops.length ≤ c4) (hk4 : n.ops.length ≤ 140737488355328) (hn5 : kEntry.C w A5 n.ents.length n.ents) (hc5 : n.ents.length ≤ c5) (hk5 : n.ents.length ≤ 140737488355328) (A6 : Option Addr) (c6 : Nat) (A7 : Option Addr) (c7 : Nat) (A8 : Option Addr) (c8 : Nat) (hn6 : (Kd.int .i64).C w A6 n.nums.length n.nums) (hc6 : n.nums.length ≤ c6) (hk6 : n.nums.length ≤ 140737488355328) (hn7 : kOp.C w A7 n.ops.length n.ops) (hc7 : n.ops.length ≤ c7) (hk7 : n.ops.length ≤ 140737488355328) (hn8 : kEntry.C w A8 n.ents.length n.ents) (hc8 : n.ents.length ≤ c8) (hk8 : n.ents.length ≤ 140737488355328) : Calls Try.prog 17 #[.agg #[.int .i64 n.kind, .int .i64 n.fr, .int .i64 n.tw, .slice A3 n.nums.length c3, .slice A4 n.ops.length c4, .slice A5 n.ents.length c5], .agg #[.int .i64 n.kind, .int .i64 n.fr, .int .i64 n.tw, .slice A6 n.nums.length c6, .slice A7 n.ops.length c7, .slice A8 n.ents.length c8]] w fun e w' => e = .returned (.bool true) ∧ Below w.heap.size w w' := by
  refine (rsame_calls w n n A3 c3 A4 c4 A5 c5 hn3 hc3 hk3 hn4 hc4 hk4 hn5 hc5 hk5 A6 c6 A7 c7 A8 c8 hn6 hc6 hk6 hn7 hc7 hk7 hn8 hc8 hk8).mono ?_
  rintro e w' ⟨bb, rfl, hi, hb⟩
  exact ⟨by rw [hi.2 rfl], hb⟩
end Go.Proofs.Ytbbhdohjhipalaa.Ce
end
section
namespace Go.Proofs.Ytbbhdohjhipalaa.Ce
open Go.RowKit Go.Proofs.YtbbhdohjhipalaaW.PrintWords Go.Proofs.YtbbhdohjhipalaaW.PrintLast Go.Proofs.YtbbhdohjhipalaaW.PrintMore
open Go.Proofs.Ytbbhdohjhipalaa.Flow
set_option linter.unusedVariables false
set_option linter.unusedSimpArgs false
theorem take_okP {l : List Int} {c : CL} {r : List Int} (h : takeC l = some (c, r)) (j : Nat) (hj : j < nC l) : 0 ≤ l.getD (10 + 2 * j) 0 ∧ l.getD (10 + 2 * j) 0 ≤ 64 := by
  unfold takeC at h
  split at h
  · split at h
    · cases h
    · rename_i last hh hf
      exact (foldT_R _ last hh hf).1 (pairA l j) (List.mem_map.2 ⟨j, List.mem_range.2 hj, rfl⟩)
  · cases h
theorem take_again {l : List Int} {c : CL} {r : List Int} (h : takeC l = some (c, r)) (h2 : I64 (l.getD 2 0)) : numsC (baseC l (foldR (prsOf l (nC l)))) = l.take (10 + 2 * nC l) := by
  have h3 := (takeC_nums h h2).2.1
  unfold takeC at h
  split at h
  · split at h
    · cases h
    · rename_i last hh hf
      have h4 := (foldT_R _ last hh hf).2
      simp only [Option.some.injEq, Prod.mk.injEq] at h
      rw [← h4, h.1]
      exact h3
  · cases h
theorem take_no {l : List Int} (h : ∀ c r, takeC l = some (c, r) → False) : takeC l = none := by
  cases e : takeC l with
  | none => rfl
  | some x => exact (h x.1 x.2 e).elim
theorem take_of_again {l : List Int} (hs : shapeC l = true) (hp : ∀ p ∈ prsOf l (nC l), okP p) (h2 : I64 (l.getD 2 0)) (he : numsC (baseC l (foldR (prsOf l (nC l)))) = l.take (10 + 2 * nC l)) :
    takeC l = some (baseC l (foldR (prsOf l (nC l))), l.drop (10 + 2 * nC l)) := by
  cases e : takeC l with
  | none =>
    have h3 := (rtake_take (l := l) (fun _ => h2)).1 e
    unfold rtakeC at h3
    rw [if_pos hs, if_pos ⟨hp, he⟩] at h3
    cases h3
  | some x =>
    have h3 := (rtake_take (l := l) (fun _ => h2)).2 x.1 x.2 e
    have h4 := (takeC_nums (c := x.1) (r := x.2) e h2).2.2.1
    unfold rtakeC at h3
    rw [if_pos hs, if_pos ⟨hp, he⟩] at h3
    simp only [Option.some.injEq, Prod.mk.injEq, and_true] at h3
    rw [h3, ← h4]
theorem foldR_succ (l : List Int) (j : Nat) : foldR (prsOf l (j + 1)) = updF (foldR (prsOf l j)) (l.getD (10 + 2 * j) 0).toNat (l.getD (10 + 2 * j + 1) 0) := by rw [prsOf_succ, foldR_snoc]; rfl
theorem okP_succ {l : List Int} {j : Nat} (h : ∀ p ∈ prsOf l j, okP p) (h1 : 0 ≤ l.getD (10 + 2 * j) 0) (h2 : l.getD (10 + 2 * j) 0 ≤ 64) : ∀ p ∈ prsOf l (j + 1), okP p := by
  rw [prsOf_succ]
  intro p hp
  rcases List.mem_append.1 hp with hp | hp
  · exact h p hp
  · rw [List.mem_singleton.1 hp]
    exact ⟨h1, h2⟩
theorem eq_upto {a b : List Int} {n : Nat} (ha : a.length = n) (hb : n ≤ b.length) (h : ∀ i, i < n → a.getD i 0 = b.getD i 0) : a = b.take n := by
  apply List.ext_getElem
  · rw [ha, List.length_take]; omega
  · intro i h1 h2
    have h3 := h i (by omega)
    simp only [List.getD_eq_getElem?_getD] at h3
    rw [List.getElem?_eq_getElem h1, List.getElem?_eq_getElem (by omega)] at h3
    simpa using h3
theorem upto_getD {a b : List Int} {n i : Nat} (h : a = b.take n) (hi : i < n) : a.getD i 0 = b.getD i 0 := by
  rw [h]
  simp only [List.getD_eq_getElem?_getD]
  rw [List.getElem?_take, if_pos hi]
theorem upto_succ2 {a b : List Int} {j : Nat} (h : ∀ i, i < j → a.getD i 0 = b.getD i 0) (e : a.getD j 0 = b.getD j 0) : ∀ i, i < j + 1 → a.getD i 0 = b.getD i 0 := fun i hi => by
  rcases Nat.lt_or_ge i j with h1 | h1
  · exact h i h1
  · rw [show i = j by omega]; exact e
set_option maxHeartbeats 4000000 in
theorem rtake_calls (w : World) (A1 : Option Addr) (c1 : Nat) (l : List Int) (hl : (Kd.int .i64).C w A1 l.length l) (hc : l.length ≤ c1) (hln : l.length ≤ 100000) (hv : 10 ≤ l.length → I64 (l.getD 2 0)) :
  Calls Try.prog 42 #[.slice A1 l.length c1] w fun e w' => (takeC l = none ∧ e = .returned (.tuple #[.agg (carr CL.unit), .int .i64 0]) ∨ ∃ c r, takeC l = some (c, r) ∧ e = .returned (.tuple #[.agg (carr c), .int .i64 ((10 + 2 * nC l : Nat) : Int)])) ∧ Below w.heap.size w w' := by
 refine calls_flow Try.func42 rfl 124 rfl (Nat.le_of_ble_eq_true rfl) [(0, .slice A1 l.length c1)] ?_ ?_
 ·
  intro t v h; exact args_look rfl t v h
 refine wsr ?_
 refine rw_new (cs := carr CL.unit) (t := 81) (fun g => .pointer (some ⟨g, 0, none⟩)) rfl rfl rfl rfl (by kernel_rfl) ?_
 intro g1 w2 hg6 hz5 hb3 hk4
 have hs_w2 := hb3.size
 refine rv (.int .i64 0) ?_
 refine rw_end ?_
 refine w_seq ?_
 refine wsr ?_
 refine rv (.slice A1 l.length c1) ?_
 refine rs (.int .i64 ((l.length : Nat) : Int)) ?_
 refine rs (.bool (decide (((l.length : Nat) : Int) < 10))) ?_
 refine rv (.bool (decide (((l.length : Nat) : Int) < 10))) ?_
 rcases bcase (decide (((l.length : Nat) : Int) < 10)) with c7 | c7
 ·
  have l8 : ¬ (((l.length : Nat) : Int) < 10) := of_decide_eq_false c7
  refine rnk c7 ?_
  refine rv (.slice A1 l.length c1) ?_
  refine rnk c7 ?_
  obtain ⟨ad9, hA10, hc11⟩ := int_at (Kd.C_below hl hb3) 0 9 (by first | omega | decide)
  subst hA10
  have he12 : w2.cell? ⟨ad9.block, ad9.off + 9, none⟩ = some (.int .i64 (l.getD 9 0)) := cell_lit (cell_0 (hc11 0 _ rfl)) (by omega)
  refine rz (.pointer (some (ad9.add (9)))) (run_as (run_at_1 (P := Try.prog) (e := 3) (by kernel_rfl) (by kernel_rfl) 9 (by first | omega | decide) _)) ?_
  refine rnk c7 ?_
  refine rz (.int .i64 (l.getD 9 0)) (by have e0_ := cellOn he12 (Below.refl _ _); simp [go_sem, sEv, sLook, nbeq, i64_w, -List.getD_eq_getElem?_getD, e0_]) ?_
  refine rnk c7 ?_
  refine rs (.bool (decide ((l.getD 9 0) < 0))) ?_
  refine rp c7 (.bool (decide ((l.getD 9 0) < 0))) ?_
  refine rv (.bool (decide ((l.getD 9 0) < 0))) ?_
  rcases bcase (decide ((l.getD 9 0) < 0)) with c13 | c13
  ·
   have l14 : ¬ ((l.getD 9 0) < 0) := of_decide_eq_false c13
   refine rnk c13 ?_
   refine rv (.slice (some ad9) l.length c1) ?_
   refine rnk c13 ?_
   refine rz (.pointer (some (ad9.add (9)))) (run_as (run_at_1 (P := Try.prog) (e := 3) (by kernel_rfl) (by kernel_rfl) 9 (by first | omega | decide) _)) ?_
   refine rnk c13 ?_
   refine rz (.int .i64 (l.getD 9 0)) (by have e0_ := cellOn he12 (Below.refl _ _); simp [go_sem, sEv, sLook, nbeq, i64_w, -List.getD_eq_getElem?_getD, e0_]) ?_
   refine rnk c13 ?_
   refine rs (.bool (decide (65 < (l.getD 9 0)))) ?_
   refine rp c13 (.bool (decide (65 < (l.getD 9 0)))) ?_
   refine rv (.bool (decide (65 < (l.getD 9 0)))) ?_
   rcases bcase (decide (65 < (l.getD 9 0))) with c15 | c15
   ·
    have l16 : ¬ (65 < (l.getD 9 0)) := of_decide_eq_false c15
    refine rnk c15 ?_
    refine rv (.slice (some ad9) l.length c1) ?_
    refine rnk c15 ?_
    refine rs (.int .i64 ((l.length : Nat) : Int)) ?_
    refine rnk c15 ?_
    refine rv (.slice (some ad9) l.length c1) ?_
    refine rnk c15 ?_
    refine rz (.pointer (some (ad9.add (9)))) (run_as (run_at_1 (P := Try.prog) (e := 3) (by kernel_rfl) (by kernel_rfl) 9 (by first | omega | decide) _)) ?_
    refine rnk c15 ?_
    refine rz (.int .i64 (l.getD 9 0)) (by have e0_ := cellOn he12 (Below.refl _ _); simp [go_sem, sEv, sLook, nbeq, i64_w, -List.getD_eq_getElem?_getD, e0_]) ?_
    refine rnk c15 ?_
    refine rw1 (.int .i64 (2 * (l.getD 9 0))) ?_
    refine rnk c15 ?_
    refine rw1 (.int .i64 (10 + (2 * (l.getD 9 0)))) ?_
    refine rnk c15 ?_
    refine rs (.bool (decide (((l.length : Nat) : Int) < (10 + (2 * (l.getD 9 0)))))) ?_
    refine rp c15 (.bool (decide (((l.length : Nat) : Int) < (10 + (2 * (l.getD 9 0)))))) ?_
    refine rw_end ?_
    refine w_weaken (G' := [(0, .slice (some ad9) l.length c1), (2, .pointer (some ⟨g1, 0, none⟩)), (3, .int .i64 0), (33, .bool (decide (((l.length : Nat) : Int) < (10 + (2 * (l.getD 9 0))))))]) ⟨rfl, rfl, rfl, rfl, trivial⟩ ?_
    refine w_cond rfl rfl (fun c17 => ?_) (fun c17 => ?_)
    ·
     have l18 : (((l.length : Nat) : Int) < (10 + (2 * (l.getD 9 0)))) := of_decide_eq_true c17
     refine w_seq ?_
     have hns_ : ¬ shapeC l = true := by unfold shapeC; simp only [Bool.and_eq_true, decide_eq_true_eq]; omega
     refine w_region ?_
     refine rk (.agg (carr CL.unit)) ?_
     refine rw_seg (g := g1) (off := 0) (ty := 81) (p := .tmp 2) (x := .tmp 34) (v := .agg (carr CL.unit)) (cs' := carr CL.unit) rfl rfl rfl rfl rfl rfl hk4 (by show (sizeOf 81).run _ _ = .ok (carr _).size _; rw [carr_size]; kernel_rfl) (Nat.le_of_eq (by rw [Nat.zero_add]; exact (carr_size _).trans (carr_size _).symm)) (encC_one _) (seg_all CL.unit CL.unit) ?_
     intro w19 hk20 hb21
     have hs_w19 := hk20.size
     refine rv (.int .i64 0) ?_
     refine rw_end ?_
     refine w_ret (post_retct (v := .agg (carr CL.unit)) rfl rfl rfl (load_cell (c := CL.unit) hb21) ?_)
     exact ⟨.inl ⟨takeC_short hns_, rfl⟩, (hk20.below (by omega) hb3)⟩
    ·
     have l22 : ¬ (((l.length : Nat) : Int) < (10 + (2 * (l.getD 9 0)))) := of_decide_eq_false c17
     refine w_skip ?_
     refine w_seq ?_
     have hsh_ : shapeC l = true := by unfold shapeC; simp only [Bool.and_eq_true, decide_eq_true_eq]; omega
     obtain ⟨s1_, s2_, s3_, s4_⟩ := shape_spec hsh_
     obtain ⟨ad23, hA24, hc25⟩ := int_at (Kd.C_below hl hb3) 0 0 (by first | omega | decide)
     obtain rfl := Option.some.inj hA24
     have he26 : w2.cell? (ad9) = some (.int .i64 (l.getD 0 0)) := cell_00 (hc25 0 _ rfl)
     obtain ⟨ad27, hA28, hc29⟩ := int_at (Kd.C_below hl hb3) 0 1 (by first | omega | decide)
     obtain rfl := Option.some.inj hA28
     have he30 : w2.cell? ⟨ad9.block, ad9.off + 1, none⟩ = some (.int .i64 (l.getD 1 0)) := cell_lit (cell_0 (hc29 0 _ rfl)) (by omega)
     obtain ⟨ad31, hA32, hc33⟩ := int_at (Kd.C_below hl hb3) 0 2 (by first | omega | decide)
     obtain rfl := Option.some.inj hA32
     have he34 : w2.cell? ⟨ad9.block, ad9.off + 2, none⟩ = some (.int .i64 (l.getD 2 0)) := cell_lit (cell_0 (hc33 0 _ rfl)) (by omega)
     obtain ⟨ad35, hA36, hc37⟩ := int_at (Kd.C_below hl hb3) 0 3 (by first | omega | decide)
     obtain rfl := Option.some.inj hA36
     have he38 : w2.cell? ⟨ad9.block, ad9.off + 3, none⟩ = some (.int .i64 (l.getD 3 0)) := cell_lit (cell_0 (hc37 0 _ rfl)) (by omega)
     obtain ⟨ad39, hA40, hc41⟩ := int_at (Kd.C_below hl hb3) 0 4 (by first | omega | decide)
     obtain rfl := Option.some.inj hA40
     have he42 : w2.cell? ⟨ad9.block, ad9.off + 4, none⟩ = some (.int .i64 (l.getD 4 0)) := cell_lit (cell_0 (hc41 0 _ rfl)) (by omega)
     obtain ⟨ad43, hA44, hc45⟩ := int_at (Kd.C_below hl hb3) 0 5 (by first | omega | decide)
     obtain rfl := Option.some.inj hA44
     have he46 : w2.cell? ⟨ad9.block, ad9.off + 5, none⟩ = some (.int .i64 (l.getD 5 0)) := cell_lit (cell_0 (hc45 0 _ rfl)) (by omega)
     obtain ⟨ad47, hA48, hc49⟩ := int_at (Kd.C_below hl hb3) 0 6 (by first | omega | decide)
     obtain rfl := Option.some.inj hA48
     have he50 : w2.cell? ⟨ad9.block, ad9.off + 6, none⟩ = some (.int .i64 (l.getD 6 0)) := cell_lit (cell_0 (hc49 0 _ rfl)) (by omega)
     obtain ⟨ad51, hA52, hc53⟩ := int_at (Kd.C_below hl hb3) 0 7 (by first | omega | decide)
     obtain rfl := Option.some.inj hA52
     have he54 : w2.cell? ⟨ad9.block, ad9.off + 7, none⟩ = some (.int .i64 (l.getD 7 0)) := cell_lit (cell_0 (hc53 0 _ rfl)) (by omega)
     obtain ⟨ad55, hA56, hc57⟩ := int_at (Kd.C_below hl hb3) 0 8 (by first | omega | decide)
     obtain rfl := Option.some.inj hA56
     have he58 : w2.cell? ⟨ad9.block, ad9.off + 8, none⟩ = some (.int .i64 (l.getD 8 0)) := cell_lit (cell_0 (hc57 0 _ rfl)) (by omega)
     refine w_drawk (M := [0, 1, 3, 0, 8, 24, 0, 64, 192, 448, 1016, 0, 2048, 6144, 0, 16384, 49152, 0, 131072, 393216, 0, 1048576, 3145728, 0, 8388608, 25165824, 0, 67108864, 201326592, 536739840, 1073741823, 0, 4294967295]) (ss := [Is (.slice (some ad9) l.length c1), Is (.pointer (some (ad9))), Is (.int .i64 (l.getD 0 0)), Is (.slice (some ad9) l.length c1), Is (.pointer (some (ad9.add (1)))), Is (.int .i64 (l.getD 1 0)), Is (.slice (some ad9) l.length c1), Is (.pointer (some (ad9.add (2)))), Is (.int .i64 (l.getD 2 0)), Is (.int .u64 (l.getD 2 0 % 18446744073709551616)), Is (.agg #[.int .i64 (l.getD 1 0), .int .u64 (l.getD 2 0 % 18446744073709551616)]), Is (.slice (some ad9) l.length c1), Is (.pointer (some (ad9.add (3)))), Is (.int .i64 (l.getD 3 0)), Is (.slice (some ad9) l.length c1), Is (.pointer (some (ad9.add (4)))), Is (.int .i64 (l.getD 4 0)), Is (.slice (some ad9) l.length c1), Is (.pointer (some (ad9.add (5)))), Is (.int .i64 (l.getD 5 0)), Is (.slice (some ad9) l.length c1), Is (.pointer (some (ad9.add (6)))), Is (.int .i64 (l.getD 6 0)), Is (.slice (some ad9) l.length c1), Is (.pointer (some (ad9.add (7)))), Is (.int .i64 (l.getD 7 0)), Is (.slice (some ad9) l.length c1), Is (.pointer (some (ad9.add (8)))), Is (.int .i64 (l.getD 8 0)), Is (.agg #[.int .i64 (l.getD 5 0), .int .i64 (l.getD 6 0), .int .i64 (l.getD 7 0), .int .i64 (l.getD 8 0)]), Is (.agg (carr (⟨(l.getD 0 0), (l.getD 1 0), (l.getD 2 0 % 18446744073709551616), (l.getD 3 0), (l.getD 4 0), (l.getD 5 0), (l.getD 6 0), (l.getD 7 0), (l.getD 8 0), (fun _ => 0)⟩ : CL))), BlkSpec w2.heap.size 81 (carr CL.unit)]) 32 rfl (by decide +kernel) ?_
     refine tr (.slice (some ad9) l.length c1) ?_
     refine t_is (.pointer (some (ad9))) rfl rfl rfl rfl (fun W_ hW_ F_ => (run_as (run_at_z (P := Try.prog) (e := 3) (sz := 1) (by kernel_rfl) (by kernel_rfl)  (by first | omega | decide) _))) ?_
     refine t_is (.int .i64 (l.getD 0 0)) rfl rfl rfl rfl (fun W_ hW_ F_ => by have e0_ := cellOn he26 (below_of_drew hW_); simp [go_sem, sEv, sLook, nbeq, i64_w, -List.getD_eq_getElem?_getD, e0_]) ?_
     refine tr (.slice (some ad9) l.length c1) ?_
     refine t_is (.pointer (some (ad9.add (1)))) rfl rfl rfl rfl (fun W_ hW_ F_ => (run_as (run_at_1 (P := Try.prog) (e := 3) (by kernel_rfl) (by kernel_rfl) 1 (by first | omega | decide) _))) ?_
     refine t_is (.int .i64 (l.getD 1 0)) rfl rfl rfl rfl (fun W_ hW_ F_ => by have e0_ := cellOn he30 (below_of_drew hW_); simp [go_sem, sEv, sLook, nbeq, i64_w, -List.getD_eq_getElem?_getD, e0_]) ?_
     refine tr (.slice (some ad9) l.length c1) ?_
     refine t_is (.pointer (some (ad9.add (2)))) rfl rfl rfl rfl (fun W_ hW_ F_ => (run_as (run_at_1 (P := Try.prog) (e := 3) (by kernel_rfl) (by kernel_rfl) 2 (by first | omega | decide) _))) ?_
     refine t_is (.int .i64 (l.getD 2 0)) rfl rfl rfl rfl (fun W_ hW_ F_ => by have e0_ := cellOn he34 (below_of_drew hW_); simp [go_sem, sEv, sLook, nbeq, i64_w, -List.getD_eq_getElem?_getD, e0_]) ?_
     refine t_is (.int .u64 (l.getD 2 0 % 18446744073709551616)) rfl rfl rfl rfl (fun W_ hW_ F_ => by simp [go_sem, sEv, sLook, nbeq, i64_w, -List.getD_eq_getElem?_getD, u64_wrap, Try.underlying3, Try.underlying12]) ?_
     refine t_is (.agg #[.int .i64 (l.getD 1 0), .int .u64 (l.getD 2 0 % 18446744073709551616)]) rfl rfl rfl rfl (fun W_ hW_ F_ => by kernel_rfl) ?_
     refine tr (.slice (some ad9) l.length c1) ?_
     refine t_is (.pointer (some (ad9.add (3)))) rfl rfl rfl rfl (fun W_ hW_ F_ => (run_as (run_at_1 (P := Try.prog) (e := 3) (by kernel_rfl) (by kernel_rfl) 3 (by first | omega | decide) _))) ?_
     refine t_is (.int .i64 (l.getD 3 0)) rfl rfl rfl rfl (fun W_ hW_ F_ => by have e0_ := cellOn he38 (below_of_drew hW_); simp [go_sem, sEv, sLook, nbeq, i64_w, -List.getD_eq_getElem?_getD, e0_]) ?_
     refine tr (.slice (some ad9) l.length c1) ?_
     refine t_is (.pointer (some (ad9.add (4)))) rfl rfl rfl rfl (fun W_ hW_ F_ => (run_as (run_at_1 (P := Try.prog) (e := 3) (by kernel_rfl) (by kernel_rfl) 4 (by first | omega | decide) _))) ?_
     refine t_is (.int .i64 (l.getD 4 0)) rfl rfl rfl rfl (fun W_ hW_ F_ => by have e0_ := cellOn he42 (below_of_drew hW_); simp [go_sem, sEv, sLook, nbeq, i64_w, -List.getD_eq_getElem?_getD, e0_]) ?_
     refine tr (.slice (some ad9) l.length c1) ?_
     refine t_is (.pointer (some (ad9.add (5)))) rfl rfl rfl rfl (fun W_ hW_ F_ => (run_as (run_at_1 (P := Try.prog) (e := 3) (by kernel_rfl) (by kernel_rfl) 5 (by first | omega | decide) _))) ?_
     refine t_is (.int .i64 (l.getD 5 0)) rfl rfl rfl rfl (fun W_ hW_ F_ => by have e0_ := cellOn he46 (below_of_drew hW_); simp [go_sem, sEv, sLook, nbeq, i64_w, -List.getD_eq_getElem?_getD, e0_]) ?_
     refine tr (.slice (some ad9) l.length c1) ?_
     refine t_is (.pointer (some (ad9.add (6)))) rfl rfl rfl rfl (fun W_ hW_ F_ => (run_as (run_at_1 (P := Try.prog) (e := 3) (by kernel_rfl) (by kernel_rfl) 6 (by first | omega | decide) _))) ?_
     refine t_is (.int .i64 (l.getD 6 0)) rfl rfl rfl rfl (fun W_ hW_ F_ => by have e0_ := cellOn he50 (below_of_drew hW_); simp [go_sem, sEv, sLook, nbeq, i64_w, -List.getD_eq_getElem?_getD, e0_]) ?_
     refine tr (.slice (some ad9) l.length c1) ?_
     refine t_is (.pointer (some (ad9.add (7)))) rfl rfl rfl rfl (fun W_ hW_ F_ => (run_as (run_at_1 (P := Try.prog) (e := 3) (by kernel_rfl) (by kernel_rfl) 7 (by first | omega | decide) _))) ?_
     refine t_is (.int .i64 (l.getD 7 0)) rfl rfl rfl rfl (fun W_ hW_ F_ => by have e0_ := cellOn he54 (below_of_drew hW_); simp [go_sem, sEv, sLook, nbeq, i64_w, -List.getD_eq_getElem?_getD, e0_]) ?_
     refine tr (.slice (some ad9) l.length c1) ?_
     refine t_is (.pointer (some (ad9.add (8)))) rfl rfl rfl rfl (fun W_ hW_ F_ => (run_as (run_at_1 (P := Try.prog) (e := 3) (by kernel_rfl) (by kernel_rfl) 8 (by first | omega | decide) _))) ?_
     refine t_is (.int .i64 (l.getD 8 0)) rfl rfl rfl rfl (fun W_ hW_ F_ => by have e0_ := cellOn he58 (below_of_drew hW_); simp [go_sem, sEv, sLook, nbeq, i64_w, -List.getD_eq_getElem?_getD, e0_]) ?_
     refine t_is (.agg #[.int .i64 (l.getD 5 0), .int .i64 (l.getD 6 0), .int .i64 (l.getD 7 0), .int .i64 (l.getD 8 0)]) rfl rfl rfl rfl (fun W_ hW_ F_ => by kernel_rfl) ?_
     refine t_is (.agg (carr (⟨(l.getD 0 0), (l.getD 1 0), (l.getD 2 0 % 18446744073709551616), (l.getD 3 0), (l.getD 4 0), (l.getD 5 0), (l.getD 6 0), (l.getD 7 0), (l.getD 8 0), (fun _ => 0)⟩ : CL))) rfl rfl rfl rfl (fun W_ hW_ F_ => (by kernel_rfl)) ?_
     refine t_val (BlkSpec w2.heap.size 81 (carr CL.unit)) rfl rfl rfl rfl (fun W_ hW_ F_ => blk_gives _ _ _ (below_of_drew hW_).size (by kernel_rfl)) ?_
     rintro _ ⟨g59, rfl⟩
     refine t_tail ?_
     intro w62 hb63_ F64
     have hb63 := below_of_drew hb63_
     have hs_w62 := hb63.size
     obtain ⟨hge61, hk60⟩ := blk_fact (F64 31 (BlkSpec w2.heap.size 81 (carr CL.unit)) (.pointer (some ⟨g59, 0, none⟩)) (by kernel_rfl))
     have hlt_g59 := hk60.lt
     clear F64
     refine rw_seg (g := g59) (off := 0) (ty := 81) (p := .tmp 4) (x := .tmp 65) (v := .agg (carr (⟨(l.getD 0 0), (l.getD 1 0), (l.getD 2 0 % 18446744073709551616), (l.getD 3 0), (l.getD 4 0), (l.getD 5 0), (l.getD 6 0), (l.getD 7 0), (l.getD 8 0), (fun _ => 0)⟩ : CL))) (cs' := carr (⟨(l.getD 0 0), (l.getD 1 0), (l.getD 2 0 % 18446744073709551616), (l.getD 3 0), (l.getD 4 0), (l.getD 5 0), (l.getD 6 0), (l.getD 7 0), (l.getD 8 0), (fun _ => 0)⟩ : CL)) rfl rfl rfl rfl rfl rfl hk60 (by show (sizeOf 81).run _ _ = .ok (carr _).size _; rw [carr_size]; kernel_rfl) (Nat.le_of_eq (by rw [Nat.zero_add]; exact (carr_size _).trans (carr_size _).symm)) (encC_one _) (seg_all CL.unit (⟨(l.getD 0 0), (l.getD 1 0), (l.getD 2 0 % 18446744073709551616), (l.getD 3 0), (l.getD 4 0), (l.getD 5 0), (l.getD 6 0), (l.getD 7 0), (l.getD 8 0), (fun _ => 0)⟩ : CL)) ?_
     intro w65 hk66 hb67
     have hs_w65 := hk66.size
     refine rw_end ?_
     refine w_weaken (G' := [(0, .slice (some ad9) l.length c1), (2, .pointer (some ⟨g1, 0, none⟩)), (3, .int .i64 0), (4, .pointer (some ⟨g59, 0, none⟩))]) ⟨rfl, rfl, rfl, rfl, trivial⟩ ?_
     refine wsr ?_
     refine rv (.slice (some ad9) l.length c1) ?_
     obtain ⟨ad68, hA69, hc70⟩ := int_at (Kd.C_below hl (hk66.below (by omega) (chain hb3 hb63))) 0 9 (by first | omega | decide)
     obtain rfl := Option.some.inj hA69
     have he71 : w65.cell? ⟨ad9.block, ad9.off + 9, none⟩ = some (.int .i64 (l.getD 9 0)) := cell_lit (cell_0 (hc70 0 _ rfl)) (by omega)
     refine rz (.pointer (some (ad9.add (9)))) (run_as (run_at_1 (P := Try.prog) (e := 3) (by kernel_rfl) (by kernel_rfl) 9 (by first | omega | decide) _)) ?_
     refine rz (.int .i64 ((nC l : Nat) : Int)) (by rw [s3_]; have e0_ := cellOn he71 (Below.refl _ _); simp [go_sem, sEv, sLook, nbeq, i64_w, -List.getD_eq_getElem?_getD, e0_]) ?_
     refine rw1 (.int .i64 ((2 * (nC l) : Nat) : Int)) ?_
     refine rw1 (.int .i64 ((10 + (2 * (nC l)) : Nat) : Int)) ?_
     refine rv (.int .i64 ((10 + (2 * (nC l)) : Nat) : Int)) ?_
     refine rw_end ?_
     refine w_weaken (G' := [(0, .slice (some ad9) l.length c1), (2, .pointer (some ⟨g1, 0, none⟩)), (3, .int .i64 0), (4, .pointer (some ⟨g59, 0, none⟩)), (5, .int .i64 ((10 + (2 * (nC l)) : Nat) : Int))]) ⟨rfl, rfl, rfl, rfl, rfl, trivial⟩ ?_
     refine w_seq ?_
     refine wsr ?_
     refine rv (.int .i64 10) ?_
     refine rw_end ?_
     refine w_block ?_
     refine w_loop (fun m_ G W_ => ∃ (j : Nat), j + m_ = nC l ∧ Below w.heap.size w W_ ∧ (∀ p ∈ prsOf l j, okP p) ∧ (Blk W_ g59 81 (carr (baseC l (foldR (prsOf l j))))) ∧ (Blk W_ g1 81 (carr CL.unit)) ∧ G = [(0, .slice (some ad9) l.length c1), (2, .pointer (some ⟨g1, 0, none⟩)), (4, .pointer (some ⟨g59, 0, none⟩)), (5, .int .i64 ((10 + (2 * (nC l)) : Nat) : Int)), (6, .int .i64 ((10 + 2 * j : Nat) : Int))]) (nC l) [(0, .slice (some ad9) l.length c1), (2, .pointer (some ⟨g1, 0, none⟩)), (4, .pointer (some ⟨g59, 0, none⟩)), (5, .int .i64 ((10 + (2 * (nC l)) : Nat) : Int)), (6, .int .i64 ((10 + 2 * 0 : Nat) : Int))] ⟨0, by omega, (hk66.below (by omega) (chain hb3 hb63)), (by intro p hp; cases hp), hb67, ((hk4.on hb63).keep hk66 (by omega)), rfl⟩ ⟨rfl, rfl, rfl, rfl, rfl, trivial⟩ ?_
     rintro m_ G w_L72 ⟨j, hp73, hB_L72, hf74, hf75, hf76, rfl⟩
     have hs_w_L72 := hB_L72.size
     have hlt4_ := hf75.lt
     have hlt2_ := hf76.lt
     have hok0_ := hf74
     refine w_seq ?_
     refine wsr ?_
     refine rv (.int .i64 ((10 + 2 * j : Nat) : Int)) ?_
     refine rv (.int .i64 ((10 + (2 * (nC l)) : Nat) : Int)) ?_
     refine rs (.bool (decide (((10 + 2 * j : Nat) : Int) < ((10 + (2 * (nC l)) : Nat) : Int)))) ?_
     refine rw_end ?_
     refine w_cond rfl rfl (fun c77 => ?_) (fun c77 => ?_)
     ·
      have l78 : (((10 + 2 * j : Nat) : Int) < ((10 + (2 * (nC l)) : Nat) : Int)) := of_decide_eq_true c77
      refine w_skip ?_
      refine w_seq ?_
      refine w_block ?_
      refine w_seq ?_
      refine wsr ?_
      refine rv (.slice (some ad9) l.length c1) ?_
      refine rv (.int .i64 ((10 + 2 * j : Nat) : Int)) ?_
      obtain ⟨ad79, hA80, hc81⟩ := int_at (Kd.C_below hl hB_L72) 0 (10 + 2 * j) (by first | omega | decide)
      obtain rfl := Option.some.inj hA80
      have he82 : w_L72.cell? (ad9.add (10 + 2 * j)) = some (.int .i64 (l.getD (10 + 2 * j) 0)) := cell_0 (hc81 0 _ rfl)
      refine rz (.pointer (some (ad9.add (10 + 2 * j)))) (run_as (run_at_1 (P := Try.prog) (e := 3) (by kernel_rfl) (by kernel_rfl) (10 + 2 * j) (by first | omega | decide) _)) ?_
      refine rz (.int .i64 (l.getD (10 + 2 * j) 0)) (by have e0_ := cellOn he82 (Below.refl _ _); simp [go_sem, sEv, sLook, nbeq, i64_w, -List.getD_eq_getElem?_getD, e0_]) ?_
      refine rs (.bool (decide ((l.getD (10 + 2 * j) 0) < 0))) ?_
      refine rv (.bool (decide ((l.getD (10 + 2 * j) 0) < 0))) ?_
      rcases bcase (decide ((l.getD (10 + 2 * j) 0) < 0)) with c83 | c83
      ·
       have l84 : ¬ ((l.getD (10 + 2 * j) 0) < 0) := of_decide_eq_false c83
       refine rnk c83 ?_
       refine rv (.slice (some ad9) l.length c1) ?_
       refine rnk c83 ?_
       refine rv (.int .i64 ((10 + 2 * j : Nat) : Int)) ?_
       refine rnk c83 ?_
       refine rz (.pointer (some (ad9.add (10 + 2 * j)))) (run_as (run_at_1 (P := Try.prog) (e := 3) (by kernel_rfl) (by kernel_rfl) (10 + 2 * j) (by first | omega | decide) _)) ?_
       refine rnk c83 ?_
       refine rz (.int .i64 (l.getD (10 + 2 * j) 0)) (by have e0_ := cellOn he82 (Below.refl _ _); simp [go_sem, sEv, sLook, nbeq, i64_w, -List.getD_eq_getElem?_getD, e0_]) ?_
       refine rnk c83 ?_
       refine rs (.bool (decide (64 < (l.getD (10 + 2 * j) 0)))) ?_
       refine rp c83 (.bool (decide (64 < (l.getD (10 + 2 * j) 0)))) ?_
       refine rw_end ?_
       refine w_weaken (G' := [(0, .slice (some ad9) l.length c1), (2, .pointer (some ⟨g1, 0, none⟩)), (4, .pointer (some ⟨g59, 0, none⟩)), (5, .int .i64 ((10 + (2 * (nC l)) : Nat) : Int)), (6, .int .i64 ((10 + 2 * j : Nat) : Int)), (87, .bool (decide (64 < (l.getD (10 + 2 * j) 0))))]) ⟨rfl, rfl, rfl, rfl, rfl, rfl, trivial⟩ ?_
       refine w_cond rfl rfl (fun c85 => ?_) (fun c85 => ?_)
       ·
        have l86 : (64 < (l.getD (10 + 2 * j) 0)) := of_decide_eq_true c85
        refine wsr ?_
        refine rk (.agg (carr CL.unit)) ?_
        refine rw_seg (g := g1) (off := 0) (ty := 81) (p := .tmp 2) (x := .tmp 88) (v := .agg (carr CL.unit)) (cs' := carr CL.unit) rfl rfl rfl rfl rfl rfl hf76 (by show (sizeOf 81).run _ _ = .ok (carr _).size _; rw [carr_size]; kernel_rfl) (Nat.le_of_eq (by rw [Nat.zero_add]; exact (carr_size _).trans (carr_size _).symm)) (encC_one _) (seg_all CL.unit CL.unit) ?_
        intro w87 hk88 hb89
        have hs_w87 := hk88.size
        refine rv (.int .i64 0) ?_
        refine rw_end ?_
        refine w_ret (post_retct (v := .agg (carr CL.unit)) rfl rfl rfl (load_cell (c := CL.unit) hb89) ?_)
        exact ⟨.inl ⟨take_no (fun c_ r_ e_ => by have h_ := take_okP e_ j (by omega); omega), rfl⟩, (hk88.below (by omega) hB_L72)⟩
       ·
        have l90 : ¬ (64 < (l.getD (10 + 2 * j) 0)) := of_decide_eq_false c85
        refine w_skip ?_
        obtain ⟨ad91, hA92, hc93⟩ := int_at (Kd.C_below hl hB_L72) 0 (10 + 2 * j + 1) (by first | omega | decide)
        obtain rfl := Option.some.inj hA92
        have he94 : w_L72.cell? ⟨ad9.block, ad9.off + (10 + 2 * j + 1), none⟩ = some (.int .i64 (l.getD (10 + 2 * j + 1) 0)) := cell_lit (cell_0 (hc93 0 _ rfl)) (by omega)
        refine w_drawk (M := [0, 0, 3, 7, 0, 0, 32, 112, 240, 0, 1023, 2047]) (ss := [Is (.slice (some ad9) l.length c1), Is (.int .i64 ((10 + 2 * j : Nat) : Int)), Is (.pointer (some (ad9.add (10 + 2 * j)))), Is (.int .i64 (((l.getD (10 + 2 * j) 0).toNat : Nat) : Int)), Is (.slice (some ad9) l.length c1), Is (.int .i64 ((10 + 2 * j : Nat) : Int)), Is (.int .i64 ((10 + 2 * j + 1 : Nat) : Int)), Is (.pointer (some (ad9.add (10 + 2 * j + 1)))), Is (.int .i64 (l.getD (10 + 2 * j + 1) 0)), Is (.pointer (some ⟨g59, 9, none⟩))]) 10 rfl (by decide +kernel) ?_
        refine tr (.slice (some ad9) l.length c1) ?_
        refine tr (.int .i64 ((10 + 2 * j : Nat) : Int)) ?_
        refine t_is (.pointer (some (ad9.add (10 + 2 * j)))) rfl rfl rfl rfl (fun W_ hW_ F_ => (run_as (run_at_1 (P := Try.prog) (e := 3) (by kernel_rfl) (by kernel_rfl) (10 + 2 * j) (by first | omega | decide) _))) ?_
        refine t_is (.int .i64 (((l.getD (10 + 2 * j) 0).toNat : Nat) : Int)) rfl rfl rfl rfl (fun W_ hW_ F_ => by have e0_ := cellOn he82 (below_of_drew hW_); rw [cast_toNat (by omega)]; simp [go_sem, sEv, sLook, nbeq, i64_w, -List.getD_eq_getElem?_getD, e0_]) ?_
        refine tr (.slice (some ad9) l.length c1) ?_
        refine tr (.int .i64 ((10 + 2 * j : Nat) : Int)) ?_
        refine t_is (.int .i64 ((10 + 2 * j + 1 : Nat) : Int)) rfl rfl rfl rfl (fun W_ hW_ F_ => by simp [go_sem, sEv, sLook, nbeq, i64_w, -List.getD_eq_getElem?_getD]; exact wrap_id (by omega) (by omega)) ?_
        refine t_is (.pointer (some (ad9.add (10 + 2 * j + 1)))) rfl rfl rfl rfl (fun W_ hW_ F_ => (run_as (run_at_1 (P := Try.prog) (e := 3) (by kernel_rfl) (by kernel_rfl) (10 + 2 * j + 1) (by first | omega | decide) _))) ?_
        refine t_is (.int .i64 (l.getD (10 + 2 * j + 1) 0)) rfl rfl rfl rfl (fun W_ hW_ F_ => by have e0_ := cellOn he94 (below_of_drew hW_); simp [go_sem, sEv, sLook, nbeq, i64_w, -List.getD_eq_getElem?_getD, e0_]) ?_
        refine t_is (.pointer (some ⟨g59, 9, none⟩)) rfl rfl rfl rfl (fun W_ hW_ F_ => by simp [go_sem, sEv, sLook, nbeq, i64_w, -List.getD_eq_getElem?_getD, Try.underlying81]) ?_
        refine t_tail ?_
        intro w95 hb96_ F97
        have hb96 := below_of_drew hb96_
        have hs_w95 := hb96.size
        clear F97
        refine rz (.pointer (some ⟨g59, 9 + ((l.getD (10 + 2 * j) 0).toNat), none⟩)) (run_as (addr_hist ((l.getD (10 + 2 * j) 0).toNat) (by omega) _)) ?_
        refine rw_seg (g := g59) (off := (9 + ((l.getD (10 + 2 * j) 0).toNat))) (ty := 3) (p := .tmp 99) (x := .tmp 97) (v := .int .i64 (l.getD (10 + 2 * j + 1) 0)) (cs' := carr (⟨(baseC l (foldR (prsOf l j))).cnt, (baseC l (foldR (prsOf l j))).hi, (baseC l (foldR (prsOf l j))).lo, (baseC l (foldR (prsOf l j))).mn, (baseC l (foldR (prsOf l j))).mx, (baseC l (foldR (prsOf l j))).t, (baseC l (foldR (prsOf l j))).src, (baseC l (foldR (prsOf l j))).seq, (baseC l (foldR (prsOf l j))).v, (updF ((baseC l (foldR (prsOf l j))).h) ((l.getD (10 + 2 * j) 0).toNat) (l.getD (10 + 2 * j + 1) 0))⟩ : CL)) rfl rfl rfl rfl rfl rfl (hf75.on hb96) (by kernel_rfl) (by rw [carr_size]; show 9 + ((l.getD (10 + 2 * j) 0).toNat) + 1 ≤ 74; omega) (by intro q hq; simp only [List.mem_cons, List.not_mem_nil, or_false, Value.cells] at hq; (first | (rcases hq with rfl | rfl | rfl | rfl <;> rfl) | (rcases hq with rfl | rfl <;> rfl) | (subst hq; rfl))) (seg_h (baseC l (foldR (prsOf l j))) ((l.getD (10 + 2 * j) 0).toNat) (by omega) (l.getD (10 + 2 * j + 1) 0)) ?_
        intro w98 hk99 hb100
        have hs_w98 := hk99.size
        refine rw_end ?_
        refine w_weaken (G' := [(0, .slice (some ad9) l.length c1), (2, .pointer (some ⟨g1, 0, none⟩)), (4, .pointer (some ⟨g59, 0, none⟩)), (5, .int .i64 ((10 + (2 * (nC l)) : Nat) : Int)), (6, .int .i64 ((10 + 2 * j : Nat) : Int))]) ⟨rfl, rfl, rfl, rfl, rfl, trivial⟩ ?_
        refine w_blk ?_
        refine w_region ?_
        refine rv (.int .i64 ((10 + 2 * j : Nat) : Int)) ?_
        refine rw1 (.int .i64 ((10 + 2 * j + 2 : Nat) : Int)) ?_
        refine rv (.int .i64 ((10 + 2 * j + 2 : Nat) : Int)) ?_
        refine rw_end ?_
        exact w_back (m_ - 1) [(0, .slice (some ad9) l.length c1), (2, .pointer (some ⟨g1, 0, none⟩)), (4, .pointer (some ⟨g59, 0, none⟩)), (5, .int .i64 ((10 + (2 * (nC l)) : Nat) : Int)), (6, .int .i64 ((10 + 2 * (j + 1) : Nat) : Int))] (by omega) ⟨rfl, rfl, rfl, rfl, rfl, trivial⟩ ⟨(j + 1), by omega, (hk99.below (by omega) (chain hB_L72 hb96)), (okP_succ hok0_ (by omega) (by omega)), (by rw [foldR_succ]; exact hb100), ((hf76.on hb96).keep hk99 (by omega)), rfl⟩
      ·
       have l101 : ((l.getD (10 + 2 * j) 0) < 0) := of_decide_eq_true c83
       refine rok c83 ?_
       refine rok c83 ?_
       refine rok c83 ?_
       refine rok c83 ?_
       refine rok c83 ?_
       refine rp c83 (.bool true) ?_
       refine rw_end ?_
       refine w_weaken (G' := [(0, .slice (some ad9) l.length c1), (2, .pointer (some ⟨g1, 0, none⟩)), (4, .pointer (some ⟨g59, 0, none⟩)), (5, .int .i64 ((10 + (2 * (nC l)) : Nat) : Int)), (6, .int .i64 ((10 + 2 * j : Nat) : Int)), (87, .bool true)]) ⟨rfl, rfl, rfl, rfl, rfl, rfl, trivial⟩ ?_
       refine w_cond_t rfl rfl rfl ?_
       refine wsr ?_
       refine rk (.agg (carr CL.unit)) ?_
       refine rw_seg (g := g1) (off := 0) (ty := 81) (p := .tmp 2) (x := .tmp 88) (v := .agg (carr CL.unit)) (cs' := carr CL.unit) rfl rfl rfl rfl rfl rfl hf76 (by show (sizeOf 81).run _ _ = .ok (carr _).size _; rw [carr_size]; kernel_rfl) (Nat.le_of_eq (by rw [Nat.zero_add]; exact (carr_size _).trans (carr_size _).symm)) (encC_one _) (seg_all CL.unit CL.unit) ?_
       intro w102 hk103 hb104
       have hs_w102 := hk103.size
       refine rv (.int .i64 0) ?_
       refine rw_end ?_
       refine w_ret (post_retct (v := .agg (carr CL.unit)) rfl rfl rfl (load_cell (c := CL.unit) hb104) ?_)
       exact ⟨.inl ⟨take_no (fun c_ r_ e_ => by have h_ := take_okP e_ j (by omega); omega), rfl⟩, (hk103.below (by omega) hB_L72)⟩
     ·
      have l105 : ¬ (((10 + 2 * j : Nat) : Int) < ((10 + (2 * (nC l)) : Nat) : Int)) := of_decide_eq_false c77
      refine w_exit rfl ?_
      refine wsr ?_
      have ej_ : j = nC l := by omega
      have hok_ : ∀ p ∈ prsOf l (nC l), okP p := by rw [← ej_]; exact hok0_
      have hb4106 : Blk w_L72 g59 81 (carr (baseC l (foldR (prsOf l (nC l))))) := by have h_ := hf75; rw [ej_] at h_; exact h_
      refine rz (.agg (carr (baseC l (foldR (prsOf l (nC l)))))) (run_as (load_cell (c := (baseC l (foldR (prsOf l (nC l))))) hb4106)) ?_
      refine rcl ((rnums_calls w_L72 (baseC l (foldR (prsOf l (nC l)))))) ?_
      rintro e_ w109 ⟨A107, c108, rfl, hO110, hB111⟩
      refine ⟨_, rfl, ?_⟩
      have hs_w109 := hB111.size
      have hL112 : OwnK (Kd.int .i64) 3 w109 w.heap.size w_L72.heap.size A107 (numsC (baseC l (foldR (prsOf l (nC l))))).length c108 (numsC (baseC l (foldR (prsOf l (nC l))))) := OwnK.lower hO110 (by omega)
      refine rv (.slice A107 ((numsC (baseC l (foldR (prsOf l (nC l))))).length) c108) ?_
      refine rw_end ?_
      refine w_seq ?_
      refine wsr ?_
      refine rv (.slice A107 ((numsC (baseC l (foldR (prsOf l (nC l))))).length) c108) ?_
      refine rs (.int .i64 (((numsC (baseC l (foldR (prsOf l (nC l))))).length : Nat) : Int)) ?_
      refine rv (.int .i64 ((10 + (2 * (nC l)) : Nat) : Int)) ?_
      refine rs (.bool ((((numsC (baseC l (foldR (prsOf l (nC l))))).length : Nat) : Int) != ((10 + (2 * (nC l)) : Nat) : Int))) ?_
      refine rw_end ?_
      refine w_weaken (G' := [(0, .slice (some ad9) l.length c1), (2, .pointer (some ⟨g1, 0, none⟩)), (4, .pointer (some ⟨g59, 0, none⟩)), (5, .int .i64 ((10 + (2 * (nC l)) : Nat) : Int)), (7, .slice A107 ((numsC (baseC l (foldR (prsOf l (nC l))))).length) c108), (105, .bool ((((numsC (baseC l (foldR (prsOf l (nC l))))).length : Nat) : Int) != ((10 + (2 * (nC l)) : Nat) : Int)))]) ⟨rfl, rfl, rfl, rfl, rfl, rfl, trivial⟩ ?_
      refine w_cond rfl rfl (fun c113 => ?_) (fun c113 => ?_)
      ·
       have l114 : ¬ (((numsC (baseC l (foldR (prsOf l (nC l))))).length : Nat) : Int) = ((10 + (2 * (nC l)) : Nat) : Int) := by simpa using c113
       refine w_seq ?_
       have hal_ : ¬ (numsC (baseC l (foldR (prsOf l (nC l))))).length = 10 + 2 * nC l := by intro z_; omega
       refine w_region ?_
       refine rk (.agg (carr CL.unit)) ?_
       refine rw_seg (g := g1) (off := 0) (ty := 81) (p := .tmp 2) (x := .tmp 106) (v := .agg (carr CL.unit)) (cs' := carr CL.unit) rfl rfl rfl rfl rfl rfl (hf76.on hB111) (by show (sizeOf 81).run _ _ = .ok (carr _).size _; rw [carr_size]; kernel_rfl) (Nat.le_of_eq (by rw [Nat.zero_add]; exact (carr_size _).trans (carr_size _).symm)) (encC_one _) (seg_all CL.unit CL.unit) ?_
       intro w115 hk116 hb117
       have hs_w115 := hk116.size
       refine rv (.int .i64 0) ?_
       refine rw_end ?_
       refine w_ret (post_retct (v := .agg (carr CL.unit)) rfl rfl rfl (load_cell (c := CL.unit) hb117) ?_)
       exact ⟨.inl ⟨take_no (fun c_ r_ e_ => hal_ (by rw [take_again e_ (hv s1_), List.length_take]; omega)), rfl⟩, (hk116.below (by omega) (chain hB_L72 hB111))⟩
      ·
       have l118 : (((numsC (baseC l (foldR (prsOf l (nC l))))).length : Nat) : Int) = ((10 + (2 * (nC l)) : Nat) : Int) := by simpa using c113
       refine w_skip ?_
       refine w_seq ?_
       refine w_seq ?_
       have hlen_ : (numsC (baseC l (foldR (prsOf l (nC l))))).length = 10 + 2 * nC l := by omega
       refine w_region ?_
       refine rv (.int .i64 0) ?_
       refine rw_end ?_
       refine w_block ?_
       refine w_loop (fun m_ G W_ => ∃ (i : Nat) (A7_ : Option Addr) (c7_ : Nat), i + m_ = 10 + 2 * nC l ∧ Below w.heap.size w W_ ∧ OwnK (Kd.int .i64) 3 W_ w.heap.size w.heap.size A7_ (numsC (baseC l (foldR (prsOf l (nC l))))).length c7_ (numsC (baseC l (foldR (prsOf l (nC l))))) ∧ (∀ i_, i_ < i → (numsC (baseC l (foldR (prsOf l (nC l))))).getD i_ 0 = l.getD i_ 0) ∧ (Blk W_ g59 81 (carr (baseC l (foldR (prsOf l (nC l)))))) ∧ (Blk W_ g1 81 (carr CL.unit)) ∧ G = [(0, .slice (some ad9) l.length c1), (2, .pointer (some ⟨g1, 0, none⟩)), (4, .pointer (some ⟨g59, 0, none⟩)), (5, .int .i64 ((10 + (2 * (nC l)) : Nat) : Int)), (7, .slice A7_ ((numsC (baseC l (foldR (prsOf l (nC l))))).length) c7_), (8, .int .i64 ((i : Nat) : Int))]) (10 + 2 * nC l) [(0, .slice (some ad9) l.length c1), (2, .pointer (some ⟨g1, 0, none⟩)), (4, .pointer (some ⟨g59, 0, none⟩)), (5, .int .i64 ((10 + (2 * (nC l)) : Nat) : Int)), (7, .slice A107 ((numsC (baseC l (foldR (prsOf l (nC l))))).length) c108), (8, .int .i64 0)] ⟨0, A107, c108, by omega, (chain hB_L72 hB111), (OwnK.mono (d := (Kd.int .i64)) hL112 (by omega)), (by intro i_ h_; omega), (hb4106.on hB111), (hf76.on hB111), rfl⟩ ⟨rfl, rfl, rfl, rfl, rfl, rfl, trivial⟩ ?_
       rintro m1_ G w_L119 ⟨i, A7_, c7_, hp120, hB_L119, hO7_, hf121, hf122, hf123, rfl⟩
       have hs_w_L119 := hB_L119.size
       have hlt4b_ := hf122.lt
       have hlt2b_ := hf123.lt
       have heq_ := hf121
       refine w_seq ?_
       refine wsr ?_
       refine rv (.int .i64 ((i : Nat) : Int)) ?_
       refine rv (.int .i64 ((10 + (2 * (nC l)) : Nat) : Int)) ?_
       refine rs (.bool (decide (((i : Nat) : Int) < ((10 + (2 * (nC l)) : Nat) : Int)))) ?_
       refine rw_end ?_
       refine w_cond rfl rfl (fun c124 => ?_) (fun c124 => ?_)
       ·
        have l125 : (((i : Nat) : Int) < ((10 + (2 * (nC l)) : Nat) : Int)) := of_decide_eq_true c124
        refine w_skip ?_
        refine w_seq ?_
        refine w_block ?_
        refine w_seq ?_
        obtain ⟨g129, rfl⟩ := OwnK.adr (d := (Kd.int .i64)) hO7_ (by first | omega | decide)
        obtain ⟨ad126, hA127, hc128⟩ := int_at (Kd.C_below (OwnK.C (d := (Kd.int .i64)) hO7_) (Below.refl _ _)) 0 i (by first | omega | decide)
        obtain rfl := Option.some.inj hA127
        have he130 : w_L119.cell? ⟨g129, i, none⟩ = some (.int .i64 ((numsC (baseC l (foldR (prsOf l (nC l))))).getD i 0)) := cell_g (hc128 0 _ rfl) rfl
        obtain ⟨ad131, hA132, hc133⟩ := int_at (Kd.C_below hl hB_L119) 0 i (by first | omega | decide)
        obtain rfl := Option.some.inj hA132
        have he134 : w_L119.cell? (ad9.add (i)) = some (.int .i64 (l.getD i 0)) := cell_0 (hc133 0 _ rfl)
        refine w_drawk (M := [0, 0, 3, 7, 0, 0, 48, 112, 255]) (ss := [Is (.slice (some ⟨g129, 0, none⟩) ((numsC (baseC l (foldR (prsOf l (nC l))))).length) c7_), Is (.int .i64 ((i : Nat) : Int)), Is (.pointer (some ⟨g129, i, none⟩)), Is (.int .i64 ((numsC (baseC l (foldR (prsOf l (nC l))))).getD i 0)), Is (.slice (some ad9) l.length c1), Is (.int .i64 ((i : Nat) : Int)), Is (.pointer (some (ad9.add (i)))), Is (.int .i64 (l.getD i 0))]) 8 rfl (by decide +kernel) ?_
        refine tr (.slice (some ⟨g129, 0, none⟩) ((numsC (baseC l (foldR (prsOf l (nC l))))).length) c7_) ?_
        refine tr (.int .i64 ((i : Nat) : Int)) ?_
        refine t_is (.pointer (some ⟨g129, i, none⟩)) rfl rfl rfl rfl (fun W_ hW_ F_ => (by rw [← add_plain g129 (i)]; exact (run_as (run_at_1 (P := Try.prog) (e := 3) (by kernel_rfl) (by kernel_rfl) i (by first | omega | decide) _)))) ?_
        refine t_is (.int .i64 ((numsC (baseC l (foldR (prsOf l (nC l))))).getD i 0)) rfl rfl rfl rfl (fun W_ hW_ F_ => by have e0_ := cellOn he130 (below_of_drew hW_); simp [go_sem, sEv, sLook, nbeq, i64_w, -List.getD_eq_getElem?_getD, e0_]) ?_
        refine tr (.slice (some ad9) l.length c1) ?_
        refine tr (.int .i64 ((i : Nat) : Int)) ?_
        refine t_is (.pointer (some (ad9.add (i)))) rfl rfl rfl rfl (fun W_ hW_ F_ => (run_as (run_at_1 (P := Try.prog) (e := 3) (by kernel_rfl) (by kernel_rfl) i (by first | omega | decide) _))) ?_
        refine t_is (.int .i64 (l.getD i 0)) rfl rfl rfl rfl (fun W_ hW_ F_ => by have e0_ := cellOn he134 (below_of_drew hW_); simp [go_sem, sEv, sLook, nbeq, i64_w, -List.getD_eq_getElem?_getD, e0_]) ?_
        refine t_tail ?_
        intro w135 hb136_ F137
        have hb136 := below_of_drew hb136_
        have hs_w135 := hb136.size
        clear F137
        refine rs (.bool (((numsC (baseC l (foldR (prsOf l (nC l))))).getD i 0) != (l.getD i 0))) ?_
        refine rw_end ?_
        refine w_weaken (G' := [(0, .slice (some ad9) l.length c1), (2, .pointer (some ⟨g1, 0, none⟩)), (4, .pointer (some ⟨g59, 0, none⟩)), (5, .int .i64 ((10 + (2 * (nC l)) : Nat) : Int)), (7, .slice (some ⟨g129, 0, none⟩) ((numsC (baseC l (foldR (prsOf l (nC l))))).length) c7_), (8, .int .i64 ((i : Nat) : Int)), (120, .bool (((numsC (baseC l (foldR (prsOf l (nC l))))).getD i 0) != (l.getD i 0)))]) ⟨rfl, rfl, rfl, rfl, rfl, rfl, rfl, trivial⟩ ?_
        refine w_cond rfl rfl (fun c138 => ?_) (fun c138 => ?_)
        ·
         have l139 : ¬ ((numsC (baseC l (foldR (prsOf l (nC l))))).getD i 0) = (l.getD i 0) := by simpa using c138
         refine w_seq ?_
         have hne_ : ¬ (numsC (baseC l (foldR (prsOf l (nC l))))).getD i 0 = l.getD i 0 := by assumption
         refine w_region ?_
         refine rk (.agg (carr CL.unit)) ?_
         refine rw_seg (g := g1) (off := 0) (ty := 81) (p := .tmp 2) (x := .tmp 121) (v := .agg (carr CL.unit)) (cs' := carr CL.unit) rfl rfl rfl rfl rfl rfl (hf123.on hb136) (by show (sizeOf 81).run _ _ = .ok (carr _).size _; rw [carr_size]; kernel_rfl) (Nat.le_of_eq (by rw [Nat.zero_add]; exact (carr_size _).trans (carr_size _).symm)) (encC_one _) (seg_all CL.unit CL.unit) ?_
         intro w140 hk141 hb142
         have hs_w140 := hk141.size
         refine rv (.int .i64 0) ?_
         refine rw_end ?_
         refine w_ret (post_retct (v := .agg (carr CL.unit)) rfl rfl rfl (load_cell (c := CL.unit) hb142) ?_)
         exact ⟨.inl ⟨take_no (fun c_ r_ e_ => hne_ (upto_getD (take_again e_ (hv s1_)) (by omega))), rfl⟩, (hk141.below (by omega) (chain hB_L119 hb136))⟩
        ·
         have l143 : ((numsC (baseC l (foldR (prsOf l (nC l))))).getD i 0) = (l.getD i 0) := by simpa using c138
         refine w_skip ?_
         refine w_blk ?_
         refine w_region ?_
         refine rv (.int .i64 ((i : Nat) : Int)) ?_
         refine rw1 (.int .i64 ((i + 1 : Nat) : Int)) ?_
         refine rv (.int .i64 ((i + 1 : Nat) : Int)) ?_
         refine rw_end ?_
         exact w_back (m1_ - 1) [(0, .slice (some ad9) l.length c1), (2, .pointer (some ⟨g1, 0, none⟩)), (4, .pointer (some ⟨g59, 0, none⟩)), (5, .int .i64 ((10 + (2 * (nC l)) : Nat) : Int)), (7, .slice (some ⟨g129, 0, none⟩) ((numsC (baseC l (foldR (prsOf l (nC l))))).length) c7_), (8, .int .i64 ((i + 1 : Nat) : Int))] (by omega) ⟨rfl, rfl, rfl, rfl, rfl, rfl, trivial⟩ ⟨(i + 1), (some ⟨g129, 0, none⟩), c7_, by omega, (chain hB_L119 hb136), (OwnK.mono (d := (Kd.int .i64)) (OwnK.on (d := (Kd.int .i64)) hO7_ hb136) (by omega)), (upto_succ2 heq_ (by assumption)), (hf122.on hb136), (hf123.on hb136), rfl⟩
       ·
        have l147 : ¬ (((i : Nat) : Int) < ((10 + (2 * (nC l)) : Nat) : Int)) := of_decide_eq_false c124
        refine w_exit rfl ?_
        refine wsr ?_
        refine rz (.agg (carr (baseC l (foldR (prsOf l (nC l)))))) (run_as (load_cell (c := (baseC l (foldR (prsOf l (nC l))))) hf122)) ?_
        refine rv (.int .i64 ((10 + (2 * (nC l)) : Nat) : Int)) ?_
        refine rw_seg (g := g1) (off := 0) (ty := 81) (p := .tmp 2) (x := .tmp 122) (v := .agg (carr (baseC l (foldR (prsOf l (nC l)))))) (cs' := carr (baseC l (foldR (prsOf l (nC l))))) rfl rfl rfl rfl rfl rfl hf123 (by show (sizeOf 81).run _ _ = .ok (carr _).size _; rw [carr_size]; kernel_rfl) (Nat.le_of_eq (by rw [Nat.zero_add]; exact (carr_size _).trans (carr_size _).symm)) (encC_one _) (seg_all CL.unit (baseC l (foldR (prsOf l (nC l))))) ?_
        intro w148 hk149 hb150
        have hs_w148 := hk149.size
        refine rv (.int .i64 ((10 + (2 * (nC l)) : Nat) : Int)) ?_
        refine rw_end ?_
        refine w_weaken (G' := [(2, .pointer (some ⟨g1, 0, none⟩)), (3, .int .i64 ((10 + (2 * (nC l)) : Nat) : Int))]) ⟨rfl, rfl, trivial⟩ ?_
        refine w_ret (post_retct (v := .agg (carr (baseC l (foldR (prsOf l (nC l)))))) rfl rfl rfl (load_cell (c := (baseC l (foldR (prsOf l (nC l))))) hb150) ?_)
        exact ⟨.inr ⟨_, _, take_of_again hsh_ hok_ (hv s1_) (eq_upto hlen_ s4_ (fun i_ hi_ => heq_ i_ (by omega))), rfl⟩, (hk149.below (by omega) hB_L119)⟩
   ·
    have l151 : (65 < (l.getD 9 0)) := of_decide_eq_true c15
    refine rok c15 ?_
    refine rok c15 ?_
    refine rok c15 ?_
    refine rok c15 ?_
    refine rok c15 ?_
    refine rok c15 ?_
    refine rok c15 ?_
    refine rok c15 ?_
    refine rp c15 (.bool true) ?_
    refine rw_end ?_
    refine w_weaken (G' := [(0, .slice (some ad9) l.length c1), (2, .pointer (some ⟨g1, 0, none⟩)), (3, .int .i64 0), (33, .bool true)]) ⟨rfl, rfl, rfl, rfl, trivial⟩ ?_
    refine w_cond_t rfl rfl rfl ?_
    refine w_seq ?_
    have hns_ : ¬ shapeC l = true := by unfold shapeC; simp only [Bool.and_eq_true, decide_eq_true_eq]; omega
    refine w_region ?_
    refine rk (.agg (carr CL.unit)) ?_
    refine rw_seg (g := g1) (off := 0) (ty := 81) (p := .tmp 2) (x := .tmp 34) (v := .agg (carr CL.unit)) (cs' := carr CL.unit) rfl rfl rfl rfl rfl rfl hk4 (by show (sizeOf 81).run _ _ = .ok (carr _).size _; rw [carr_size]; kernel_rfl) (Nat.le_of_eq (by rw [Nat.zero_add]; exact (carr_size _).trans (carr_size _).symm)) (encC_one _) (seg_all CL.unit CL.unit) ?_
    intro w152 hk153 hb154
    have hs_w152 := hk153.size
    refine rv (.int .i64 0) ?_
    refine rw_end ?_
    refine w_ret (post_retct (v := .agg (carr CL.unit)) rfl rfl rfl (load_cell (c := CL.unit) hb154) ?_)
    exact ⟨.inl ⟨takeC_short hns_, rfl⟩, (hk153.below (by omega) hb3)⟩
  ·
   have l155 : ((l.getD 9 0) < 0) := of_decide_eq_true c13
   refine rok c13 ?_
   refine rok c13 ?_
   refine rok c13 ?_
   refine rok c13 ?_
   refine rp c13 (.bool true) ?_
   refine rv (.bool true) ?_
   refine ro true ?_
   refine ro true ?_
   refine ro true ?_
   refine ro true ?_
   refine ro true ?_
   refine ro true ?_
   refine ro true ?_
   refine ro true ?_
   refine rs (.bool true) ?_
   refine rw_end ?_
   refine w_weaken (G' := [(0, .slice (some ad9) l.length c1), (2, .pointer (some ⟨g1, 0, none⟩)), (3, .int .i64 0), (33, .bool true)]) ⟨rfl, rfl, rfl, rfl, trivial⟩ ?_
   refine w_cond_t rfl rfl rfl ?_
   refine w_seq ?_
   have hns_ : ¬ shapeC l = true := by unfold shapeC; simp only [Bool.and_eq_true, decide_eq_true_eq]; omega
   refine w_region ?_
   refine rk (.agg (carr CL.unit)) ?_
   refine rw_seg (g := g1) (off := 0) (ty := 81) (p := .tmp 2) (x := .tmp 34) (v := .agg (carr CL.unit)) (cs' := carr CL.unit) rfl rfl rfl rfl rfl rfl hk4 (by show (sizeOf 81).run _ _ = .ok (carr _).size _; rw [carr_size]; kernel_rfl) (Nat.le_of_eq (by rw [Nat.zero_add]; exact (carr_size _).trans (carr_size _).symm)) (encC_one _) (seg_all CL.unit CL.unit) ?_
   intro w156 hk157 hb158
   have hs_w156 := hk157.size
   refine rv (.int .i64 0) ?_
   refine rw_end ?_
   refine w_ret (post_retct (v := .agg (carr CL.unit)) rfl rfl rfl (load_cell (c := CL.unit) hb158) ?_)
   exact ⟨.inl ⟨takeC_short hns_, rfl⟩, (hk157.below (by omega) hb3)⟩
 ·
  have l159 : (((l.length : Nat) : Int) < 10) := of_decide_eq_true c7
  refine rok c7 ?_
  refine rok c7 ?_
  refine rok c7 ?_
  refine rok c7 ?_
  refine rp c7 (.bool true) ?_
  refine rv (.bool true) ?_
  refine ro true ?_
  refine ro true ?_
  refine ro true ?_
  refine ro true ?_
  refine rs (.bool true) ?_
  refine rv (.bool true) ?_
  refine ro true ?_
  refine ro true ?_
  refine ro true ?_
  refine ro true ?_
  refine ro true ?_
  refine ro true ?_
  refine ro true ?_
  refine ro true ?_
  refine rs (.bool true) ?_
  refine rw_end ?_
  refine w_weaken (G' := [(0, .slice A1 l.length c1), (2, .pointer (some ⟨g1, 0, none⟩)), (3, .int .i64 0), (33, .bool true)]) ⟨rfl, rfl, rfl, rfl, trivial⟩ ?_
  refine w_cond_t rfl rfl rfl ?_
  refine w_seq ?_
  have hns_ : ¬ shapeC l = true := by unfold shapeC; simp only [Bool.and_eq_true, decide_eq_true_eq]; omega
  refine w_region ?_
  refine rk (.agg (carr CL.unit)) ?_
  refine rw_seg (g := g1) (off := 0) (ty := 81) (p := .tmp 2) (x := .tmp 34) (v := .agg (carr CL.unit)) (cs' := carr CL.unit) rfl rfl rfl rfl rfl rfl hk4 (by show (sizeOf 81).run _ _ = .ok (carr _).size _; rw [carr_size]; kernel_rfl) (Nat.le_of_eq (by rw [Nat.zero_add]; exact (carr_size _).trans (carr_size _).symm)) (encC_one _) (seg_all CL.unit CL.unit) ?_
  intro w160 hk161 hb162
  have hs_w160 := hk161.size
  refine rv (.int .i64 0) ?_
  refine rw_end ?_
  refine w_ret (post_retct (v := .agg (carr CL.unit)) rfl rfl rfl (load_cell (c := CL.unit) hb162) ?_)
  exact ⟨.inl ⟨takeC_short hns_, rfl⟩, (hk161.below (by omega) hb3)⟩
end Go.Proofs.Ytbbhdohjhipalaa.Ce
end
section
namespace Go.Proofs.Ytbbhdohjhipalaa.Ce
open Go.RowKit Go.Proofs.YtbbhdohjhipalaaW.PrintWords Go.Proofs.YtbbhdohjhipalaaW.PrintLast Go.Proofs.YtbbhdohjhipalaaW.PrintMore
open Go.Proofs.Ytbbhdohjhipalaa.Flow
open Go.Proofs.Ytbbhdohjhipalaa.PNoteReads
set_option linter.unusedVariables false
set_option linter.unusedSimpArgs false
theorem rf_unw (w : World) (A0 : Option Addr) (c0 : Nat) (b : List Int) (hC : (Kd.int .u8).C w A0 b.length b) (hc : b.length ≤ c0) (hb : Bytes b) (hl : b.length ≤ 1000000) : Calls Try.prog 39 #[.slice A0 b.length c0] w fun e w' => ∃ A' c', e = .returned (.tuple #[.slice A' (UN b).length c', .int .i64 ((wholeP b : Nat) : Int)]) ∧ OwnK (Kd.int .u8) 5 w' w.heap.size w.heap.size A' (UN b).length c' (UN b) ∧ Below w.heap.size w w' := by
  refine (refunwrap_calls w A0 c0 b hC hc hb hl).mono ?_
  rintro e w' ⟨A1, n1, c1, rfl, h1, h2⟩
  have e1 := OwnK.len (d := Kd.int .u8) h1
  subst e1
  exact ⟨A1, c1, rfl, h1, h2⟩
theorem rf_nums (w : World) (A0 : Option Addr) (c0 : Nat) (b : List Int) (hC : (Kd.int .u8).C w A0 b.length b) (hc : b.length ≤ c0) (hb : Bytes b) (hl : b.length ≤ 1000000) : Calls Try.prog 40 #[.slice A0 b.length c0, .int .i64 ((b.length + 1 : Nat) : Int)] w fun e w' => ∃ l A' c', l = RNL b ∧ e = .returned (.tuple #[.slice A' l.length c', .bool (RNO b)]) ∧ OwnK (Kd.int .i64) 3 w' w.heap.size w.heap.size A' l.length c' l ∧ Below w.heap.size w w' := by
  refine (refnums_calls w A0 c0 b hC hc hb hl ((b.length + 1 : Nat) : Int)).mono ?_
  rintro e w' ⟨A1, n1, c1, rfl, h1, h2⟩
  have e1 := OwnK.len (d := Kd.int .i64) h1
  subst e1
  exact ⟨RNL b, A1, c1, rfl, rfl, h1, h2⟩
theorem cnt_lt {j : Nat} {x : Int} (h : j < cntL x) : (j : Int) < x ∧ j < 100 := by unfold cntL at h; omega
theorem cnt_iff {j : Nat} {x : Int} : (j : Int) < x ∧ j < 100 ↔ j < cntL x := by unfold cntL; omega
theorem rdec_3 {b : List Int} (h : wholeP b = 0 ∨ wholeP b ≠ b.length) : rdecN b = (NT.zero, 3) := by unfold rdecN; rw [if_pos h]
theorem rdec_4a {b : List Int} (h : ¬ (wholeP b = 0 ∨ wholeP b ≠ b.length)) (h2 : RNO (UN b) = false) : rdecN b = (NT.zero, 4) := by unfold rdecN; rw [if_neg h, if_pos h2]
theorem rdec_4b {b : List Int} (h : ¬ (wholeP b = 0 ∨ wholeP b ≠ b.length)) (h2 : RNO (UN b) = true) (h3 : carN (RNL (UN b)) = none) : rdecN b = (NT.zero, 4) := by unfold rdecN; rw [if_neg h, if_neg (by rw [h2]; simp), h3]
theorem rdec_4c {b : List Int} {n : NT} (h : ¬ (wholeP b = 0 ∨ wholeP b ≠ b.length)) (h2 : RNO (UN b) = true) (h3 : carN (RNL (UN b)) = some n) (h4 : EN n ≠ 0 ∨ EB n ≠ b) : rdecN b = (NT.zero, 4) := by unfold rdecN; rw [if_neg h, if_neg (by rw [h2]; simp), h3]; simp only; rw [if_pos h4]
theorem rdec_0 {b : List Int} {n : NT} (h : ¬ (wholeP b = 0 ∨ wholeP b ≠ b.length)) (h2 : RNO (UN b) = true) (h3 : carN (RNL (UN b)) = some n) (h4 : ¬ (EN n ≠ 0 ∨ EB n ≠ b)) : rdecN b = (n, 0) := by unfold rdecN; rw [if_neg h, if_neg (by rw [h2]; simp), h3]; simp only; rw [if_neg h4]
theorem carEnts_none {l : List Int} {i : Nat} : ∀ {k : Nat}, carEnts l i k = none → ∀ {m : Nat}, k ≤ m → carEnts l i m = none
  | k, h, m, hm => by
    induction m with
    | zero => obtain rfl : k = 0 := by omega
              exact h
    | succ m ih =>
      by_cases e : k = m + 1
      · rw [← e]; exact h
      · simp only [carEnts, ih (by omega)]
theorem carN_none {l : List Int} {k : Nat} (h : carEnts l (carI2 l + 1) k = none) (hk : k ≤ cntL (l.getD (carI2 l) 0)) : carN l = none := by
  unfold carN
  rw [carEnts_none h hk]
theorem carN_some {l : List Int} {es : List EL} {j : Nat} (h : carEnts l (carI2 l + 1) (cntL (l.getD (carI2 l) 0)) = some (es, j)) : carN l = some ⟨l.getD 0 0, l.getD 1 0, l.getD 2 0, carNums l 4 (cntL (l.getD 3 0)), carOps l (carI1 l + 1) (cntL (l.getD (carI1 l) 0)), es⟩ := by
  unfold carN
  rw [h]
theorem carEnts_short {l : List Int} {i k j : Nat} {es : List EL} (h : carEnts l i k = some (es, j)) (h2 : l.length < j + 2) : carEnts l i (k + 1) = none := by
  simp only [carEnts, h]
  rw [if_pos h2]
theorem carEnts_bad {l : List Int} {i k j : Nat} {es : List EL} (h : carEnts l i k = some (es, j)) (h2 : ¬ l.length < j + 2) (h3 : takeC (l.drop (j + 2)) = none) : carEnts l i (k + 1) = none := by
  simp only [carEnts, h]
  rw [if_neg h2, h3]
theorem carEnts_more {l r : List Int} {i k j : Nat} {es : List EL} {c : CL} (h : carEnts l i k = some (es, j)) (h2 : ¬ l.length < j + 2) (h3 : takeC (l.drop (j + 2)) = some (c, r)) : carEnts l i (k + 1) = some (es ++ [⟨l.getD j 0, l.getD (j + 1) 0, c⟩], j + 2 + (10 + 2 * nC (l.drop (j + 2)))) := by
  simp only [carEnts, h]
  rw [if_neg h2, h3]
set_option maxHeartbeats 4000000 in
theorem at_calls (w : World) (A1 : Option Addr) (c1 : Nat) (l : List Int) (i : Nat) (hl : (Kd.int .i64).C w A1 l.length l) (hc : l.length ≤ c1) (hi : i ≤ 1000000) :
  Calls Try.prog 41 #[.slice A1 l.length c1, .int .i64 ((i : Nat) : Int)] w fun e w' => e = .returned (.int .i64 (l.getD i 0)) ∧ Below w.heap.size w w' := by
 refine calls_flow Try.func41 rfl 17 rfl (Nat.le_of_ble_eq_true rfl) [(0, .slice A1 l.length c1), (1, .int .i64 ((i : Nat) : Int))] ?_ ?_
 ·
  intro t v h; exact args_look rfl t v h
 refine wsr ?_
 refine rv (.int .i64 0) ?_
 refine rw_end ?_
 refine w_seq ?_
 refine wsr ?_
 refine rv (.int .i64 ((i : Nat) : Int)) ?_
 refine rs (.bool (decide (((i : Nat) : Int) < 0))) ?_
 refine rv (.bool (decide (((i : Nat) : Int) < 0))) ?_
 have hq1 : (decide (((i : Nat) : Int) < 0)) = false := by exact decide_eq_false (by omega)
 refine rnk hq1 ?_
 refine rv (.int .i64 ((i : Nat) : Int)) ?_
 refine rnk hq1 ?_
 refine rv (.slice A1 l.length c1) ?_
 refine rnk hq1 ?_
 refine rs (.int .i64 ((l.length : Nat) : Int)) ?_
 refine rnk hq1 ?_
 refine rs (.bool (decide (((l.length : Nat) : Int) ≤ ((i : Nat) : Int)))) ?_
 refine rp hq1 (.bool (decide (((l.length : Nat) : Int) ≤ ((i : Nat) : Int)))) ?_
 refine rw_end ?_
 refine w_cond rfl rfl (fun cN => ?_) (fun cN => ?_)
 ·
  have l2 : (((l.length : Nat) : Int) ≤ ((i : Nat) : Int)) := of_decide_eq_true cN
  refine wsr ?_
  refine rv (.int .i64 0) ?_
  refine rw_end ?_
  refine w_ret (post_ret1 rfl rfl ?_)
  exact ⟨by first | rfl | (rw [List.getD_eq_getElem?_getD, List.getElem?_eq_none (by simp at cN; omega)]; rfl), (Below.refl _ _)⟩
 ·
  have l3 : ¬ (((l.length : Nat) : Int) ≤ ((i : Nat) : Int)) := of_decide_eq_false cN
  refine w_skip ?_
  refine wsr ?_
  refine rv (.slice A1 l.length c1) ?_
  refine rv (.int .i64 ((i : Nat) : Int)) ?_
  obtain ⟨ad4, hA5, hc6⟩ := int_at (Kd.C_below hl (Below.refl _ _)) 0 i (by first | omega | decide)
  subst hA5
  have he7 : w.cell? (ad4.add (i)) = some (.int .i64 (l.getD i 0)) := cell_0 (hc6 0 _ rfl)
  refine rz (.pointer (some (ad4.add (i)))) (run_as (run_at_1 (P := Try.prog) (e := 3) (by kernel_rfl) (by kernel_rfl) i (by first | omega | decide) _)) ?_
  refine rz (.int .i64 (l.getD i 0)) (by have e0_ := cellOn he7 (Below.refl _ _); simp [go_sem, sEv, sLook, nbeq, i64_w, -List.getD_eq_getElem?_getD, e0_]) ?_
  refine rv (.int .i64 (l.getD i 0)) ?_
  refine rw_end ?_
  refine w_ret (post_ret1 rfl rfl ?_)
  exact ⟨by first | rfl | (rw [List.getD_eq_getElem?_getD, List.getElem?_eq_none (by simp at cN; omega)]; rfl), (Below.refl _ _)⟩
theorem rf_take0 (w : World) (A1 : Option Addr) (c1 : Nat) (l : List Int) (hl : (Kd.int .i64).C w A1 l.length l) (hc : l.length ≤ c1) (hln : l.length ≤ 100000) (hv : 10 ≤ l.length → I64 (l.getD 2 0)) (hT : takeC l = none) : Calls Try.prog 42 #[.slice A1 l.length c1] w fun e w' => e = .returned (.tuple #[.agg (carr CL.unit), .int .i64 0]) ∧ Below w.heap.size w w' := by
  refine (rtake_calls w A1 c1 l hl hc hln hv).mono ?_
  rintro e w' ⟨⟨_, rfl⟩ | ⟨c, r, h, _⟩, hb⟩
  · exact ⟨rfl, hb⟩
  · rw [hT] at h
    cases h
theorem rf_take1 (w : World) (A1 : Option Addr) (c1 : Nat) (l : List Int) (hl : (Kd.int .i64).C w A1 l.length l) (hc : l.length ≤ c1) (hln : l.length ≤ 100000) (hv : 10 ≤ l.length → I64 (l.getD 2 0)) {c : CL} {r : List Int} (hT : takeC l = some (c, r)) : Calls Try.prog 42 #[.slice A1 l.length c1] w fun e w' => e = .returned (.tuple #[.agg (carr c), .int .i64 ((10 + 2 * nC l : Nat) : Int)]) ∧ Below w.heap.size w w' := by
  refine (rtake_calls w A1 c1 l hl hc hln hv).mono ?_
  rintro e w' ⟨⟨h, _⟩ | ⟨c2, r2, h, rfl⟩, hb⟩
  · rw [hT] at h
    cases h
  · rw [hT] at h
    cases h
    exact ⟨rfl, hb⟩
theorem EB_bytes {n : NT} (hI : ∀ y ∈ listN n, I64 y) : Bytes (EB n) := by
  rcases hg : goodN n with _ | _
  · rw [(eb_no hg).1]
    intro c hc
    cases hc
  · exact (eb_facts hg hI).1
set_option maxHeartbeats 40000000 in
theorem rdec_calls (w : World) (A0 : Option Addr) (c0 : Nat) (b : List Int) (hC : (Kd.int .u8).C w A0 b.length b) (hc : b.length ≤ c0) (hb : Bytes b) (hl2_ : b.length ≤ 90000) :
  Calls Try.prog 20 #[.slice A0 b.length c0] w fun e w' => ∃ A3 c3 A4 c4 A5 c5, e = .returned (.tuple #[.agg #[.int .i64 (rdecN b).1.kind, .int .i64 (rdecN b).1.fr, .int .i64 (rdecN b).1.tw, .slice A3 (rdecN b).1.nums.length c3, .slice A4 (rdecN b).1.ops.length c4, .slice A5 (rdecN b).1.ents.length c5], .int .i64 (rdecN b).2]) ∧ OwnK (Kd.int .i64) 3 w' w.heap.size w.heap.size A3 (rdecN b).1.nums.length c3 (rdecN b).1.nums ∧ OwnK kOp 73 w' w.heap.size w.heap.size A4 (rdecN b).1.ops.length c4 (rdecN b).1.ops ∧ OwnK kEntry 83 w' w.heap.size w.heap.size A5 (rdecN b).1.ents.length c5 (rdecN b).1.ents ∧ Below w.heap.size w w' := by
 refine calls_flow Try.func20 rfl 189 rfl (Nat.le_of_ble_eq_true rfl) [(0, .slice A0 b.length c0)] ?_ ?_
 ·
  intro t v h; exact args_look rfl t v h
 refine wsr ?_
 refine rw_new (cs := #[.int .i64 0, .int .i64 0, .int .i64 0, .slice none 0 0, .slice none 0 0, .slice none 0 0]) (t := 26) (fun g => .pointer (some ⟨g, 0, none⟩)) rfl rfl rfl rfl (by kernel_rfl) ?_
 intro g1 w2 hg6 hz5 hb3 hk4
 have hs_w2 := hb3.size
 refine rv (.int .i64 0) ?_
 refine rw_end ?_
 refine wsr ?_
 refine rv (.slice A0 b.length c0) ?_
 refine rcl (rf_unw w2 A0 c0 b (Kd.C_below hC hb3) hc hb (by omega)) ?_
 rintro e_ w7 ⟨A9, c10, rfl, hO110, hb8⟩
 refine ⟨_, rfl, ?_⟩
 have hs_w7 := hb8.size
 have hO11 := OwnK.lower (base' := w.heap.size) (d := (Kd.int .u8)) hO110 (by omega)
 have hul_ := UN_le b
 refine rv (.tuple #[.slice A9 ((UN b).length) c10, .int .i64 ((wholeP b : Nat) : Int)]) ?_
 refine rs (.slice A9 ((UN b).length) c10) ?_
 refine rs (.int .i64 ((wholeP b : Nat) : Int)) ?_
 refine rv (.slice A9 ((UN b).length) c10) ?_
 refine rv (.int .i64 ((wholeP b : Nat) : Int)) ?_
 refine rw_end ?_
 refine w_seq ?_
 refine wsr ?_
 refine rv (.int .i64 ((wholeP b : Nat) : Int)) ?_
 refine rs (.bool (((wholeP b : Nat) : Int) == 0)) ?_
 refine rv (.bool (((wholeP b : Nat) : Int) == 0)) ?_
 rcases bcase (((wholeP b : Nat) : Int) == 0) with c12 | c12
 ·
  have l13 : ¬ ((wholeP b : Nat) : Int) = 0 := by simpa using c12
  refine rnk c12 ?_
  refine rv (.int .i64 ((wholeP b : Nat) : Int)) ?_
  refine rnk c12 ?_
  refine rv (.slice A0 b.length c0) ?_
  refine rnk c12 ?_
  refine rs (.int .i64 ((b.length : Nat) : Int)) ?_
  refine rnk c12 ?_
  refine rs (.bool (((wholeP b : Nat) : Int) != ((b.length : Nat) : Int))) ?_
  refine rp c12 (.bool (((wholeP b : Nat) : Int) != ((b.length : Nat) : Int))) ?_
  refine rw_end ?_
  refine w_cond rfl rfl (fun c14 => ?_) (fun c14 => ?_)
  ·
   have l15 : ¬ ((wholeP b : Nat) : Int) = ((b.length : Nat) : Int) := by simpa using c14
   refine wsr ?_
   refine rk (.agg #[.int .i64 0, .int .i64 0, .int .i64 0, .slice none 0 0, .slice none 0 0, .slice none 0 0]) ?_
   have hb19 := (hk4.on hb8)
   refine rsa hb19 [.int .i64 0, .int .i64 0, .int .i64 0, .slice none 0 0, .slice none 0 0, .slice none 0 0] ?_
   intro w16 hk17 hk18
   have hs_w16 := hk17.size
   refine rv (.int .i64 3) ?_
   refine rw_end ?_
   refine w_ret (post_retct (v := .agg #[.int .i64 0, .int .i64 0, .int .i64 0, .slice none 0 0, .slice none 0 0, .slice none 0 0]) rfl rfl rfl (by have eb_ := hk18; have e0_ := eb_.cellv (i := 0) (v := (.int .i64 0 : Value)) rfl; have e1_ := eb_.cellv (i := 1) (v := (.int .i64 0 : Value)) rfl; have e2_ := eb_.cellv (i := 2) (v := (.int .i64 0 : Value)) rfl; have e3_ := eb_.cellv (i := 3) (v := (.slice none 0 0 : Value)) rfl; have e4_ := eb_.cellv (i := 4) (v := (.slice none 0 0 : Value)) rfl; have e5_ := eb_.cellv (i := 5) (v := (.slice none 0 0 : Value)) rfl; simp [go_sem, e0_, e1_, e2_, e3_, e4_, e5_, Try.underlying26]) ?_)
   rw [rdec_3 (by omega)]
   exact ⟨_, _, _, _, _, _, rfl, OwnK.nil _ _ _ _ _, OwnK.nil _ _ _ _ _, OwnK.nil _ _ _ _ _, (hk17.below (by omega) (chain hb3 hb8))⟩
  ·
   have l20 : ((wholeP b : Nat) : Int) = ((b.length : Nat) : Int) := by simpa using c14
   refine w_skip ?_
   refine wsr ?_
   refine rv (.slice A9 ((UN b).length) c10) ?_
   refine rv (.slice A9 ((UN b).length) c10) ?_
   refine rs (.int .i64 (((UN b).length : Nat) : Int)) ?_
   refine rw1 (.int .i64 (((UN b).length + 1 : Nat) : Int)) ?_
   refine rcl (rf_nums w7 A9 c10 (UN b) (OwnK.C (d := (Kd.int .u8)) hO11) (OwnK.cap (d := (Kd.int .u8)) hO11) (UN_bytes hb) (by omega)) ?_
   rintro e_ w21 ⟨l, A23, c24, hl9_, rfl, hO250, hb22⟩
   refine ⟨_, rfl, ?_⟩
   have hs_w21 := hb22.size
   have hO25 := OwnK.lower (base' := w.heap.size) (d := (Kd.int .i64)) hO250 (by omega)
   refine rv (.tuple #[.slice A23 l.length c24, .bool (RNO (UN b))]) ?_
   refine rs (.slice A23 l.length c24) ?_
   refine rs (.bool (RNO (UN b))) ?_
   refine rv (.slice A23 l.length c24) ?_
   refine rv (.bool (RNO (UN b))) ?_
   refine rw_end ?_
   refine wsr ?_
   refine rv (.int .i64 4) ?_
   refine rw_end ?_
   refine w_seq ?_
   refine wsr ?_
   refine rv (.bool (RNO (UN b))) ?_
   refine rs (.bool (!(RNO (UN b)))) ?_
   refine rw_end ?_
   refine w_cond rfl rfl (fun cO => ?_) (fun cO => ?_)
   ·
    refine wsr ?_
    refine rk (.agg #[.int .i64 0, .int .i64 0, .int .i64 0, .slice none 0 0, .slice none 0 0, .slice none 0 0]) ?_
    refine rv (.int .i64 4) ?_
    have hb29 := ((hk4.on hb8).on hb22)
    refine rsa hb29 [.int .i64 0, .int .i64 0, .int .i64 0, .slice none 0 0, .slice none 0 0, .slice none 0 0] ?_
    intro w26 hk27 hk28
    have hs_w26 := hk27.size
    refine rv (.int .i64 4) ?_
    refine rw_end ?_
    refine w_ret (post_retct (v := .agg #[.int .i64 0, .int .i64 0, .int .i64 0, .slice none 0 0, .slice none 0 0, .slice none 0 0]) rfl rfl rfl (by have eb_ := hk28; have e0_ := eb_.cellv (i := 0) (v := (.int .i64 0 : Value)) rfl; have e1_ := eb_.cellv (i := 1) (v := (.int .i64 0 : Value)) rfl; have e2_ := eb_.cellv (i := 2) (v := (.int .i64 0 : Value)) rfl; have e3_ := eb_.cellv (i := 3) (v := (.slice none 0 0 : Value)) rfl; have e4_ := eb_.cellv (i := 4) (v := (.slice none 0 0 : Value)) rfl; have e5_ := eb_.cellv (i := 5) (v := (.slice none 0 0 : Value)) rfl; simp [go_sem, e0_, e1_, e2_, e3_, e4_, e5_, Try.underlying26]) ?_)
    rw [rdec_4a (by omega) (by simpa using cO)]
    exact ⟨_, _, _, _, _, _, rfl, OwnK.nil _ _ _ _ _, OwnK.nil _ _ _ _ _, OwnK.nil _ _ _ _ _, (hk27.below (by omega) (chain (chain hb3 hb8) hb22))⟩
   ·
    refine w_skip ?_
    refine w_seq ?_
    have hCl_ : (Kd.int .i64).C w21 A23 l.length l := (OwnK.C (d := (Kd.int .i64)) hO25)
    have hcl_ : l.length ≤ c24 := (OwnK.cap (d := (Kd.int .i64)) hO25)
    have hCb_ : (Kd.int .u8).C w21 A0 b.length b := (Kd.C_below hC (chain (chain hb3 hb8) hb22))
    have hk2_ := ((hk4.on hb8).on hb22)
    have hbO_ := (chain (chain hb3 hb8) hb22)
    have hg2O_ : w.heap.size ≤ g1 := by omega
    have hno_ : RNO (UN b) = true := by simpa using cO
    have hli_ : ∀ y ∈ l, I64 y := by rw [hl9_]; exact RNL_s (UN_bytes hb) hno_
    have hll_ : l.length ≤ 1000000 := by rw [hl9_]; have q_ := RNL_len (UN_bytes hb) hno_; omega
    have hcb0_ := cntL_le (l.getD 3 0)
    have hlk_ : l.length ≤ 90000 := by rw [hl9_]; have q_ := RNL_len (UN_bytes hb) hno_; omega
    obtain ⟨wO, hwO_⟩ : ∃ x, x = w := ⟨_, rfl⟩
    subst hwO_
    obtain ⟨w, hwN_⟩ : ∃ x, x = w21 := ⟨_, rfl⟩
    subst hwN_
    have hlt2_ := hk2_.lt
    refine w_region ?_
    refine rv (.slice A23 l.length c24) ?_
    refine rcl (at_calls w A23 c24 l 0 (Kd.C_below hCl_ (Below.refl _ _)) hcl_ (by omega)) ?_
    rintro e_ w30 ⟨rfl, hb31⟩
    refine ⟨_, rfl, ?_⟩
    have hs_w30 := hb31.size
    refine rv (.slice A23 l.length c24) ?_
    refine rcl (at_calls w30 A23 c24 l 1 (Kd.C_below hCl_ hb31) hcl_ (by omega)) ?_
    rintro e_ w32 ⟨rfl, hb33⟩
    refine ⟨_, rfl, ?_⟩
    have hs_w32 := hb33.size
    refine rv (.slice A23 l.length c24) ?_
    refine rcl (at_calls w32 A23 c24 l 2 (Kd.C_below hCl_ (chain hb31 hb33)) hcl_ (by omega)) ?_
    rintro e_ w34 ⟨rfl, hb35⟩
    refine ⟨_, rfl, ?_⟩
    have hs_w34 := hb35.size
    refine rk (.agg #[.int .i64 (l.getD 0 0), .int .i64 (l.getD 1 0), .int .i64 (l.getD 2 0), .slice none 0 0, .slice none 0 0, .slice none 0 0]) ?_
    refine rw_new (cs := #[.int .i64 0, .int .i64 0, .int .i64 0, .slice none 0 0, .slice none 0 0, .slice none 0 0]) (t := 26) (fun g => .pointer (some ⟨g, 0, none⟩)) rfl rfl rfl rfl (by kernel_rfl) ?_
    intro g36 w37 hg41 hz40 hb38 hk39
    have hs_w37 := hb38.size
    have hb45 := hk39
    refine rsa hb45 [.int .i64 (l.getD 0 0), .int .i64 (l.getD 1 0), .int .i64 (l.getD 2 0), .slice none 0 0, .slice none 0 0, .slice none 0 0] ?_
    intro w42 hk43 hk44
    have hs_w42 := hk43.size
    refine rw_end ?_
    refine wsr ?_
    refine rv (.int .i64 4) ?_
    refine rw_end ?_
    refine w_seq ?_
    refine wsr ?_
    refine rv (.int .i64 0) ?_
    refine rw_end ?_
    refine w_block ?_
    refine w_loop (fun m_ G W_ => ∃ (j : Nat) (Aq : Option Addr) (cq : Nat), j + m_ = (cntL (l.getD 3 0)) ∧ (cntL (l.getD 3 0)) ≤ 100 ∧ Below w.heap.size w W_ ∧ (Blk W_ g36 26 #[.int .i64 (l.getD 0 0), .int .i64 (l.getD 1 0), .int .i64 (l.getD 2 0), .slice Aq ((carNums l 4 j).length) cq, .slice none 0 0, .slice none 0 0]) ∧ (OwnK (Kd.int .i64) 3 W_ w.heap.size w.heap.size Aq ((carNums l 4 j).length) cq (carNums l 4 j)) ∧ G = [(0, .slice A0 b.length c0), (2, .pointer (some ⟨g1, 0, none⟩)), (3, .int .i64 0), (6, .slice A23 l.length c24), (8, .int .i64 4), (9, .pointer (some ⟨g36, 0, none⟩)), (10, .int .i64 ((4 + j : Nat) : Int)), (11, .int .i64 ((j : Nat) : Int))]) (cntL (l.getD 3 0)) [(0, .slice A0 b.length c0), (2, .pointer (some ⟨g1, 0, none⟩)), (3, .int .i64 0), (6, .slice A23 l.length c24), (8, .int .i64 4), (9, .pointer (some ⟨g36, 0, none⟩)), (10, .int .i64 ((4 + 0 : Nat) : Int)), (11, .int .i64 0)] ⟨0, none, 0, by omega, by omega, (hk43.below (by omega) (chain (chain (chain hb31 hb33) hb35) hb38)), hk44, (OwnK.nil _ _ _ _ _), rfl⟩ ⟨rfl, rfl, rfl, rfl, rfl, rfl, rfl, rfl, trivial⟩ ?_
    rintro m0_ G w_L46 ⟨j, Aq, cq, hp47, hp48, hB_L46, hf49, hf50, rfl⟩
    have hs_w_L46 := hB_L46.size
    have hln0_ := carNums_len l 4 j
    have hlt_g36_w_L46 := hf49.lt
    refine w_seq ?_
    refine w_seq ?_
    refine w_join (fun G W_ => Below w_L46.heap.size w_L46 W_ ∧ G = [(0, .slice A0 b.length c0), (2, .pointer (some ⟨g1, 0, none⟩)), (3, .int .i64 0), (6, .slice A23 l.length c24), (8, .int .i64 4), (9, .pointer (some ⟨g36, 0, none⟩)), (10, .int .i64 ((4 + j : Nat) : Int)), (11, .int .i64 ((j : Nat) : Int)), (61, .bool (decide (j < (cntL (l.getD 3 0)))))]) ?_ ?_
    ·
     refine w_region ?_
     refine rv (.int .i64 ((j : Nat) : Int)) ?_
     refine rv (.slice A23 l.length c24) ?_
     refine rcl (at_calls w_L46 A23 c24 l 3 (Kd.C_below hCl_ hB_L46) hcl_ (by omega)) ?_
     rintro e_ w51 ⟨rfl, hb52⟩
     refine ⟨_, rfl, ?_⟩
     have hs_w51 := hb52.size
     refine rs (.bool (decide (((j : Nat) : Int) < (l.getD 3 0)))) ?_
     refine rv (.bool (decide (((j : Nat) : Int) < (l.getD 3 0)))) ?_
     rcases bcase (decide (((j : Nat) : Int) < (l.getD 3 0))) with c53 | c53
     ·
      have l54 : ¬ (((j : Nat) : Int) < (l.getD 3 0)) := of_decide_eq_false c53
      refine rok c53 ?_
      refine rok c53 ?_
      refine rp c53 (.bool false) ?_
      refine rw_end ?_
      have hj55 : false = decide (j < (cntL (l.getD 3 0))) := (decide_eq_false (fun h_ => by have q_ := cnt_lt h_; omega)).symm
      exact w_joined [(0, .slice A0 b.length c0), (2, .pointer (some ⟨g1, 0, none⟩)), (3, .int .i64 0), (6, .slice A23 l.length c24), (8, .int .i64 4), (9, .pointer (some ⟨g36, 0, none⟩)), (10, .int .i64 ((4 + j : Nat) : Int)), (11, .int .i64 ((j : Nat) : Int)), (61, .bool (decide (j < (cntL (l.getD 3 0)))))] ⟨rfl, rfl, rfl, rfl, rfl, rfl, rfl, rfl, (by rw [← hj55]; rfl), trivial⟩ ⟨hb52, rfl⟩
     ·
      have l56 : (((j : Nat) : Int) < (l.getD 3 0)) := of_decide_eq_true c53
      refine rnk c53 ?_
      refine rv (.int .i64 ((j : Nat) : Int)) ?_
      refine rnk c53 ?_
      refine rs (.bool (decide (((j : Nat) : Int) < 100))) ?_
      refine rp c53 (.bool (decide (((j : Nat) : Int) < 100))) ?_
      refine rw_end ?_
      have hj57 : (decide (((j : Nat) : Int) < 100)) = decide (j < (cntL (l.getD 3 0))) := decide_eq_decide.2 ⟨fun h_ => cnt_iff.1 ⟨by omega, by omega⟩, fun h_ => by have q_ := cnt_lt h_; omega⟩
      exact w_joined [(0, .slice A0 b.length c0), (2, .pointer (some ⟨g1, 0, none⟩)), (3, .int .i64 0), (6, .slice A23 l.length c24), (8, .int .i64 4), (9, .pointer (some ⟨g36, 0, none⟩)), (10, .int .i64 ((4 + j : Nat) : Int)), (11, .int .i64 ((j : Nat) : Int)), (61, .bool (decide (j < (cntL (l.getD 3 0)))))] ⟨rfl, rfl, rfl, rfl, rfl, rfl, rfl, rfl, (by rw [← hj57]; rfl), trivial⟩ ⟨hb52, rfl⟩
    ·
     rintro _ w58 ⟨hb59, rfl⟩
     have hs_w58 := hb59.size
     refine w_cond rfl rfl (fun cJ => ?_) (fun cJ => ?_)
     ·
      have l60 : (j < (cntL (l.getD 3 0))) := of_decide_eq_true cJ
      refine w_skip ?_
      refine w_seq ?_
      refine w_block ?_
      refine w_seq ?_
      refine w_drawk (M := [0, 1, 0, 0, 12, 28, 63, 127, 255]) (ss := [Is (.pointer (some ⟨g36, 3, none⟩)), Is (.slice Aq ((carNums l 4 j).length) cq), Is (.slice A23 l.length c24), Is (.int .i64 ((4 + j : Nat) : Int)), (Is (.int .i64 (l.getD (4 + j) 0))), SlcSpec w58.heap.size 3 #[.int .i64 (l.getD (4 + j) 0)] 1]) 6 rfl (by decide +kernel) ?_
      refine t_is (.pointer (some ⟨g36, 3, none⟩)) rfl rfl rfl rfl (fun W_ hW_ F_ => by simp [go_sem, sEv, sLook, nbeq, i64_w, -List.getD_eq_getElem?_getD, Try.underlying26]) ?_
      refine t_is (.slice Aq ((carNums l 4 j).length) cq) rfl rfl rfl rfl (fun W_ hW_ F_ => by have eb_ := ((hf49.on hb59).on (below_of_drew hW_)); have e0_ := eb_.cellv (i := 3) (v := (.slice Aq ((carNums l 4 j).length) cq : Value)) rfl; simp [go_sem, sEv, sLook, nbeq, i64_w, -List.getD_eq_getElem?_getD, e0_, Try.underlying22]) ?_
      refine tr (.slice A23 l.length c24) ?_
      refine tr (.int .i64 ((4 + j : Nat) : Int)) ?_
      refine t_call (f := 41) (args := #[.slice A23 l.length c24, .int .i64 ((4 + j : Nat) : Int)]) (Is (.int .i64 (l.getD (4 + j) 0))) rfl rfl rfl rfl (fun W_ => by simp [go_sem, sEv, sLook, nbeq, i64_w, -List.getD_eq_getElem?_getD]) (fun W_ hW_ F_ => ?_) ?_
      ·
       refine (at_calls W_ A23 c24 l (4 + j) (Kd.C_below hCl_ (chain (chain hB_L46 hb59) (below_of_drew hW_))) hcl_ (by omega)).mono ?_
       rintro e_ w_ ⟨rfl, hb_⟩
       exact ⟨_, rfl, rfl, hb_⟩
      rintro _ rfl
      refine t_val (SlcSpec w58.heap.size 3 #[.int .i64 (l.getD (4 + j) 0)] 1) rfl rfl rfl rfl (fun W_ hW_ F_ => slc_gives _ _ _ _ (below_of_drew hW_).size (by kernel_rfl)) ?_
      rintro _ ⟨g61, rfl⟩
      refine t_tail ?_
      intro w64 hb65_ F66
      have hb65 := below_of_drew hb65_
      have hs_w64 := hb65.size
      obtain ⟨hge63, hk62⟩ := slc_fact (F66 5 (SlcSpec w58.heap.size 3 #[.int .i64 (l.getD (4 + j) 0)] 1) (.slice (some ⟨g61, 0, none⟩) 1 1) (by kernel_rfl))
      have hlt_g61 := hk62.lt
      clear F66
      have hk62r : OwnK (Kd.int .i64) 3 w64 w.heap.size g61 (some ⟨g61, 0, none⟩) 1 1 ([(l.getD (4 + j) 0)] : List Int) := scal_own w.heap.size hk62 (by omega) rfl rfl (by simp)
      have oA73 : OwnK (Kd.int .i64) 3 w64 w.heap.size w.heap.size Aq ((carNums l 4 j).length) cq (carNums l 4 j) := (OwnK.on (d := (Kd.int .i64)) (OwnK.on (d := (Kd.int .i64)) hf50 hb59) hb65)
      refine rw_append_kd (d := (Kd.int .i64)) w.heap.size rfl rfl rfl (.tmp 65) (.tmp 69) rfl rfl 22 3 (.int .i64 0) 8 rfl (by kernel_rfl) (by kernel_rfl) rfl (show 0 < 1 by decide) (by decide) (fun _ _ h => h) (b := w.heap.size) rfl rfl (by omega) oA73 (OwnK.Cn (d := (Kd.int .i64)) hk62r) (chain (chain hB_L46 hb59) hb65) (by omega) (by first | omega | (simp only [List.length_append, List.length_nil, List.length_cons]; omega)) ?_
      intro A67 c68 w69 hO70 hB71 hG72
      have hs_w69 := hB71.size
      have hgs_w69 := hG72.size
      have hk75 := OwnK.blk_grown ((hf49.on hb59).on hb65) oA73 (.inr (by decide)) hG72
      refine ru (.pointer (some ⟨g36, 3, none⟩)) ?_
      have hb79 := hk75
      refine rst hb79 3 [.slice A67 (((carNums l 4 j) ++ ([(l.getD (4 + j) 0)] : List Int)).length) c68] #[.int .i64 (l.getD 0 0), .int .i64 (l.getD 1 0), .int .i64 (l.getD 2 0), .slice A67 (((carNums l 4 j) ++ ([(l.getD (4 + j) 0)] : List Int)).length) c68, .slice none 0 0, .slice none 0 0] ?_
      intro w76 hk77 hk78
      have hs_w76 := hk77.size
      refine rw_end ?_
      refine w_region ?_
      refine rv (.int .i64 ((4 + j : Nat) : Int)) ?_
      refine rw1 (.int .i64 ((4 + j + 1 : Nat) : Int)) ?_
      refine rv (.int .i64 ((4 + j + 1 : Nat) : Int)) ?_
      refine rw_end ?_
      refine w_blk ?_
      refine w_region ?_
      refine rv (.int .i64 ((j : Nat) : Int)) ?_
      refine rw1 (.int .i64 ((j + 1 : Nat) : Int)) ?_
      refine rv (.int .i64 ((j + 1 : Nat) : Int)) ?_
      refine rw_end ?_
      exact w_back (m0_ - 1) [(0, .slice A0 b.length c0), (2, .pointer (some ⟨g1, 0, none⟩)), (3, .int .i64 0), (6, .slice A23 l.length c24), (8, .int .i64 4), (9, .pointer (some ⟨g36, 0, none⟩)), (10, .int .i64 ((4 + j + 1 : Nat) : Int)), (11, .int .i64 ((j + 1 : Nat) : Int))] (by omega) ⟨rfl, rfl, rfl, rfl, rfl, rfl, rfl, rfl, trivial⟩ ⟨(j + 1), A67, c68, by omega, by omega, (hk77.below (by omega) hB71), hk78, (OwnK.mono (d := (Kd.int .i64)) (own_keep (d := (Kd.int .i64)) hO70 hk75 (by decide) hk77) (by omega)), rfl⟩
     ·
      have l80 : ¬ (j < (cntL (l.getD 3 0))) := of_decide_eq_false cJ
      refine w_exit rfl ?_
      refine w_seq ?_
      obtain rfl : j = (cntL (l.getD 3 0)) := by omega
      obtain ⟨i1, hi1_⟩ : ∃ x, x = carI1 l := ⟨_, rfl⟩
      rw [show 4 + cntL (l.getD 3 0) = i1 by rw [hi1_]; rfl]
      have hi1b_ : i1 ≤ 104 := by rw [hi1_]; unfold carI1; have q_ := cntL_le (l.getD 3 0); omega
      have hcb1_ := cntL_le (l.getD i1 0)
      refine w_region ?_
      refine rv (.slice A23 l.length c24) ?_
      refine rv (.int .i64 ((i1 : Nat) : Int)) ?_
      refine rcl (at_calls w58 A23 c24 l i1 (Kd.C_below hCl_ (chain hB_L46 hb59)) hcl_ (by omega)) ?_
      rintro e_ w81 ⟨rfl, hb82⟩
      refine ⟨_, rfl, ?_⟩
      have hs_w81 := hb82.size
      refine rv (.int .i64 (l.getD i1 0)) ?_
      refine rw_end ?_
      refine wsr ?_
      refine rv (.int .i64 ((i1 : Nat) : Int)) ?_
      refine rw1 (.int .i64 ((i1 + 1 : Nat) : Int)) ?_
      refine rv (.int .i64 ((i1 + 1 : Nat) : Int)) ?_
      refine rw_end ?_
      refine w_seq ?_
      refine wsr ?_
      refine rv (.int .i64 0) ?_
      refine rw_end ?_
      refine w_block ?_
      refine w_loop (fun m_ G W_ => ∃ (j1 : Nat) (Ap : Option Addr) (cp : Nat), j1 + m_ = (cntL (l.getD i1 0)) ∧ (cntL (l.getD i1 0)) ≤ 100 ∧ Below w.heap.size w W_ ∧ (Blk W_ g36 26 #[.int .i64 (l.getD 0 0), .int .i64 (l.getD 1 0), .int .i64 (l.getD 2 0), .slice Aq ((carNums l 4 (cntL (l.getD 3 0))).length) cq, .slice Ap ((carOps l (i1 + 1) j1).length) cp, .slice none 0 0]) ∧ (OwnK (Kd.int .i64) 3 W_ w.heap.size w.heap.size Aq ((carNums l 4 (cntL (l.getD 3 0))).length) cq (carNums l 4 (cntL (l.getD 3 0)))) ∧ (OwnK kOp 73 W_ w.heap.size w.heap.size Ap ((carOps l (i1 + 1) j1).length) cp (carOps l (i1 + 1) j1)) ∧ G = [(0, .slice A0 b.length c0), (2, .pointer (some ⟨g1, 0, none⟩)), (3, .int .i64 0), (6, .slice A23 l.length c24), (8, .int .i64 4), (9, .pointer (some ⟨g36, 0, none⟩)), (10, .int .i64 ((i1 + 1 + 5 * j1 : Nat) : Int)), (12, .int .i64 (l.getD i1 0)), (13, .int .i64 ((j1 : Nat) : Int))]) (cntL (l.getD i1 0)) [(0, .slice A0 b.length c0), (2, .pointer (some ⟨g1, 0, none⟩)), (3, .int .i64 0), (6, .slice A23 l.length c24), (8, .int .i64 4), (9, .pointer (some ⟨g36, 0, none⟩)), (10, .int .i64 ((i1 + 1 + 5 * 0 : Nat) : Int)), (12, .int .i64 (l.getD i1 0)), (13, .int .i64 0)] ⟨0, none, 0, by omega, by omega, (chain (chain hB_L46 hb59) hb82), ((hf49.on hb59).on hb82), (OwnK.mono (d := (Kd.int .i64)) (OwnK.on (d := (Kd.int .i64)) (OwnK.on (d := (Kd.int .i64)) hf50 hb59) hb82) (by omega)), (OwnK.nil _ _ _ _ _), rfl⟩ ⟨rfl, rfl, rfl, rfl, rfl, rfl, rfl, rfl, rfl, trivial⟩ ?_
      rintro m1_ G w_L83 ⟨j1, Ap, cp, hp84, hp85, hB_L83, hf86, hf87, hf88, rfl⟩
      have hs_w_L83 := hB_L83.size
      have hln1_ := carOps_len l (i1 + 1) j1
      have hlt_g36_w_L83 := hf86.lt
      refine w_seq ?_
      refine w_seq ?_
      refine w_join (fun G W_ => Below w_L83.heap.size w_L83 W_ ∧ G = [(0, .slice A0 b.length c0), (2, .pointer (some ⟨g1, 0, none⟩)), (3, .int .i64 0), (6, .slice A23 l.length c24), (8, .int .i64 4), (9, .pointer (some ⟨g36, 0, none⟩)), (10, .int .i64 ((i1 + 1 + 5 * j1 : Nat) : Int)), (12, .int .i64 (l.getD i1 0)), (13, .int .i64 ((j1 : Nat) : Int)), (85, .bool (decide (j1 < (cntL (l.getD i1 0)))))]) ?_ ?_
      ·
       refine w_region ?_
       refine rv (.int .i64 ((j1 : Nat) : Int)) ?_
       refine rv (.int .i64 (l.getD i1 0)) ?_
       refine rs (.bool (decide (((j1 : Nat) : Int) < (l.getD i1 0)))) ?_
       refine rv (.bool (decide (((j1 : Nat) : Int) < (l.getD i1 0)))) ?_
       rcases bcase (decide (((j1 : Nat) : Int) < (l.getD i1 0))) with c89 | c89
       ·
        have l90 : ¬ (((j1 : Nat) : Int) < (l.getD i1 0)) := of_decide_eq_false c89
        refine rok c89 ?_
        refine rok c89 ?_
        refine rp c89 (.bool false) ?_
        refine rw_end ?_
        have hj91 : false = decide (j1 < (cntL (l.getD i1 0))) := (decide_eq_false (fun h_ => by have q_ := cnt_lt h_; omega)).symm
        exact w_joined [(0, .slice A0 b.length c0), (2, .pointer (some ⟨g1, 0, none⟩)), (3, .int .i64 0), (6, .slice A23 l.length c24), (8, .int .i64 4), (9, .pointer (some ⟨g36, 0, none⟩)), (10, .int .i64 ((i1 + 1 + 5 * j1 : Nat) : Int)), (12, .int .i64 (l.getD i1 0)), (13, .int .i64 ((j1 : Nat) : Int)), (85, .bool (decide (j1 < (cntL (l.getD i1 0)))))] ⟨rfl, rfl, rfl, rfl, rfl, rfl, rfl, rfl, rfl, (by rw [← hj91]; rfl), trivial⟩ ⟨(Below.refl _ _), rfl⟩
       ·
        have l92 : (((j1 : Nat) : Int) < (l.getD i1 0)) := of_decide_eq_true c89
        refine rnk c89 ?_
        refine rv (.int .i64 ((j1 : Nat) : Int)) ?_
        refine rnk c89 ?_
        refine rs (.bool (decide (((j1 : Nat) : Int) < 100))) ?_
        refine rp c89 (.bool (decide (((j1 : Nat) : Int) < 100))) ?_
        refine rw_end ?_
        have hj93 : (decide (((j1 : Nat) : Int) < 100)) = decide (j1 < (cntL (l.getD i1 0))) := decide_eq_decide.2 ⟨fun h_ => cnt_iff.1 ⟨by omega, by omega⟩, fun h_ => by have q_ := cnt_lt h_; omega⟩
        exact w_joined [(0, .slice A0 b.length c0), (2, .pointer (some ⟨g1, 0, none⟩)), (3, .int .i64 0), (6, .slice A23 l.length c24), (8, .int .i64 4), (9, .pointer (some ⟨g36, 0, none⟩)), (10, .int .i64 ((i1 + 1 + 5 * j1 : Nat) : Int)), (12, .int .i64 (l.getD i1 0)), (13, .int .i64 ((j1 : Nat) : Int)), (85, .bool (decide (j1 < (cntL (l.getD i1 0)))))] ⟨rfl, rfl, rfl, rfl, rfl, rfl, rfl, rfl, rfl, (by rw [← hj93]; rfl), trivial⟩ ⟨(Below.refl _ _), rfl⟩
      ·
       rintro _ w94 ⟨hb95, rfl⟩
       have hs_w94 := hb95.size
       refine w_cond rfl rfl (fun cJ => ?_) (fun cJ => ?_)
       ·
        have l96 : (j1 < (cntL (l.getD i1 0))) := of_decide_eq_true cJ
        refine w_skip ?_
        refine w_seq ?_
        refine w_block ?_
        refine w_seq ?_
        refine w_drawk (M := [0, 1, 0, 0, 12, 0, 0, 64, 252, 0, 0, 1024, 4092, 0, 0, 16384, 65532, 0, 0, 262144, 1048572, 2097148, 4194300, 8388607, 16777215, 33554431]) (ss := [Is (.pointer (some ⟨g36, 4, none⟩)), Is (.slice Ap ((carOps l (i1 + 1) j1).length) cp), Is (.slice A23 l.length c24), Is (.int .i64 ((i1 + 1 + 5 * j1 : Nat) : Int)), (Is (.int .i64 (l.getD (i1 + 1 + 5 * j1) 0))), Is (.slice A23 l.length c24), Is (.int .i64 ((i1 + 1 + 5 * j1 : Nat) : Int)), Is (.int .i64 ((i1 + 1 + 5 * j1 + 1 : Nat) : Int)), (Is (.int .i64 (l.getD (i1 + 1 + 5 * j1 + 1) 0))), Is (.slice A23 l.length c24), Is (.int .i64 ((i1 + 1 + 5 * j1 : Nat) : Int)), Is (.int .i64 ((i1 + 1 + 5 * j1 + 2 : Nat) : Int)), (Is (.int .i64 (l.getD (i1 + 1 + 5 * j1 + 2) 0))), Is (.slice A23 l.length c24), Is (.int .i64 ((i1 + 1 + 5 * j1 : Nat) : Int)), Is (.int .i64 ((i1 + 1 + 5 * j1 + 3 : Nat) : Int)), (Is (.int .i64 (l.getD (i1 + 1 + 5 * j1 + 3) 0))), Is (.slice A23 l.length c24), Is (.int .i64 ((i1 + 1 + 5 * j1 : Nat) : Int)), Is (.int .i64 ((i1 + 1 + 5 * j1 + 4 : Nat) : Int)), (Is (.int .i64 (l.getD (i1 + 1 + 5 * j1 + 4) 0))), Is (.agg #[.int .i64 (l.getD (i1 + 1 + 5 * j1) 0), .int .i64 (l.getD (i1 + 1 + 5 * j1 + 1) 0), .int .i64 (l.getD (i1 + 1 + 5 * j1 + 2) 0), .int .i64 (l.getD (i1 + 1 + 5 * j1 + 3) 0), .int .i64 (l.getD (i1 + 1 + 5 * j1 + 4) 0)]), SlcSpec w94.heap.size 73 #[.int .i64 (l.getD (i1 + 1 + 5 * j1) 0), .int .i64 (l.getD (i1 + 1 + 5 * j1 + 1) 0), .int .i64 (l.getD (i1 + 1 + 5 * j1 + 2) 0), .int .i64 (l.getD (i1 + 1 + 5 * j1 + 3) 0), .int .i64 (l.getD (i1 + 1 + 5 * j1 + 4) 0)] 1]) 23 rfl (by decide +kernel) ?_
        refine t_is (.pointer (some ⟨g36, 4, none⟩)) rfl rfl rfl rfl (fun W_ hW_ F_ => by simp [go_sem, sEv, sLook, nbeq, i64_w, -List.getD_eq_getElem?_getD, Try.underlying26]) ?_
        refine t_is (.slice Ap ((carOps l (i1 + 1) j1).length) cp) rfl rfl rfl rfl (fun W_ hW_ F_ => by have eb_ := ((hf86.on hb95).on (below_of_drew hW_)); have e0_ := eb_.cellv (i := 4) (v := (.slice Ap ((carOps l (i1 + 1) j1).length) cp : Value)) rfl; simp [go_sem, sEv, sLook, nbeq, i64_w, -List.getD_eq_getElem?_getD, e0_, Try.underlying23]) ?_
        refine tr (.slice A23 l.length c24) ?_
        refine tr (.int .i64 ((i1 + 1 + 5 * j1 : Nat) : Int)) ?_
        refine t_call (f := 41) (args := #[.slice A23 l.length c24, .int .i64 ((i1 + 1 + 5 * j1 : Nat) : Int)]) (Is (.int .i64 (l.getD (i1 + 1 + 5 * j1) 0))) rfl rfl rfl rfl (fun W_ => by simp [go_sem, sEv, sLook, nbeq, i64_w, -List.getD_eq_getElem?_getD]) (fun W_ hW_ F_ => ?_) ?_
        ·
         refine (at_calls W_ A23 c24 l (i1 + 1 + 5 * j1) (Kd.C_below hCl_ (chain (chain hB_L83 hb95) (below_of_drew hW_))) hcl_ (by omega)).mono ?_
         rintro e_ w_ ⟨rfl, hb_⟩
         exact ⟨_, rfl, rfl, hb_⟩
        rintro _ rfl
        refine tr (.slice A23 l.length c24) ?_
        refine tr (.int .i64 ((i1 + 1 + 5 * j1 : Nat) : Int)) ?_
        refine t_is (.int .i64 ((i1 + 1 + 5 * j1 + 1 : Nat) : Int)) rfl rfl rfl rfl (fun W_ hW_ F_ => by simp [go_sem, sEv, sLook, nbeq, i64_w, -List.getD_eq_getElem?_getD]; exact wrap_id (by omega) (by omega)) ?_
        refine t_call (f := 41) (args := #[.slice A23 l.length c24, .int .i64 ((i1 + 1 + 5 * j1 + 1 : Nat) : Int)]) (Is (.int .i64 (l.getD (i1 + 1 + 5 * j1 + 1) 0))) rfl rfl rfl rfl (fun W_ => by simp [go_sem, sEv, sLook, nbeq, i64_w, -List.getD_eq_getElem?_getD]) (fun W_ hW_ F_ => ?_) ?_
        ·
         refine (at_calls W_ A23 c24 l (i1 + 1 + 5 * j1 + 1) (Kd.C_below hCl_ (chain (chain hB_L83 hb95) (below_of_drew hW_))) hcl_ (by omega)).mono ?_
         rintro e_ w_ ⟨rfl, hb_⟩
         exact ⟨_, rfl, rfl, hb_⟩
        rintro _ rfl
        refine tr (.slice A23 l.length c24) ?_
        refine tr (.int .i64 ((i1 + 1 + 5 * j1 : Nat) : Int)) ?_
        refine t_is (.int .i64 ((i1 + 1 + 5 * j1 + 2 : Nat) : Int)) rfl rfl rfl rfl (fun W_ hW_ F_ => by simp [go_sem, sEv, sLook, nbeq, i64_w, -List.getD_eq_getElem?_getD]; exact wrap_id (by omega) (by omega)) ?_
        refine t_call (f := 41) (args := #[.slice A23 l.length c24, .int .i64 ((i1 + 1 + 5 * j1 + 2 : Nat) : Int)]) (Is (.int .i64 (l.getD (i1 + 1 + 5 * j1 + 2) 0))) rfl rfl rfl rfl (fun W_ => by simp [go_sem, sEv, sLook, nbeq, i64_w, -List.getD_eq_getElem?_getD]) (fun W_ hW_ F_ => ?_) ?_
        ·
         refine (at_calls W_ A23 c24 l (i1 + 1 + 5 * j1 + 2) (Kd.C_below hCl_ (chain (chain hB_L83 hb95) (below_of_drew hW_))) hcl_ (by omega)).mono ?_
         rintro e_ w_ ⟨rfl, hb_⟩
         exact ⟨_, rfl, rfl, hb_⟩
        rintro _ rfl
        refine tr (.slice A23 l.length c24) ?_
        refine tr (.int .i64 ((i1 + 1 + 5 * j1 : Nat) : Int)) ?_
        refine t_is (.int .i64 ((i1 + 1 + 5 * j1 + 3 : Nat) : Int)) rfl rfl rfl rfl (fun W_ hW_ F_ => by simp [go_sem, sEv, sLook, nbeq, i64_w, -List.getD_eq_getElem?_getD]; exact wrap_id (by omega) (by omega)) ?_
        refine t_call (f := 41) (args := #[.slice A23 l.length c24, .int .i64 ((i1 + 1 + 5 * j1 + 3 : Nat) : Int)]) (Is (.int .i64 (l.getD (i1 + 1 + 5 * j1 + 3) 0))) rfl rfl rfl rfl (fun W_ => by simp [go_sem, sEv, sLook, nbeq, i64_w, -List.getD_eq_getElem?_getD]) (fun W_ hW_ F_ => ?_) ?_
        ·
         refine (at_calls W_ A23 c24 l (i1 + 1 + 5 * j1 + 3) (Kd.C_below hCl_ (chain (chain hB_L83 hb95) (below_of_drew hW_))) hcl_ (by omega)).mono ?_
         rintro e_ w_ ⟨rfl, hb_⟩
         exact ⟨_, rfl, rfl, hb_⟩
        rintro _ rfl
        refine tr (.slice A23 l.length c24) ?_
        refine tr (.int .i64 ((i1 + 1 + 5 * j1 : Nat) : Int)) ?_
        refine t_is (.int .i64 ((i1 + 1 + 5 * j1 + 4 : Nat) : Int)) rfl rfl rfl rfl (fun W_ hW_ F_ => by simp [go_sem, sEv, sLook, nbeq, i64_w, -List.getD_eq_getElem?_getD]; exact wrap_id (by omega) (by omega)) ?_
        refine t_call (f := 41) (args := #[.slice A23 l.length c24, .int .i64 ((i1 + 1 + 5 * j1 + 4 : Nat) : Int)]) (Is (.int .i64 (l.getD (i1 + 1 + 5 * j1 + 4) 0))) rfl rfl rfl rfl (fun W_ => by simp [go_sem, sEv, sLook, nbeq, i64_w, -List.getD_eq_getElem?_getD]) (fun W_ hW_ F_ => ?_) ?_
        ·
         refine (at_calls W_ A23 c24 l (i1 + 1 + 5 * j1 + 4) (Kd.C_below hCl_ (chain (chain hB_L83 hb95) (below_of_drew hW_))) hcl_ (by omega)).mono ?_
         rintro e_ w_ ⟨rfl, hb_⟩
         exact ⟨_, rfl, rfl, hb_⟩
        rintro _ rfl
        refine t_is (.agg #[.int .i64 (l.getD (i1 + 1 + 5 * j1) 0), .int .i64 (l.getD (i1 + 1 + 5 * j1 + 1) 0), .int .i64 (l.getD (i1 + 1 + 5 * j1 + 2) 0), .int .i64 (l.getD (i1 + 1 + 5 * j1 + 3) 0), .int .i64 (l.getD (i1 + 1 + 5 * j1 + 4) 0)]) rfl rfl rfl rfl (fun W_ hW_ F_ => by kernel_rfl) ?_
        refine t_val (SlcSpec w94.heap.size 73 #[.int .i64 (l.getD (i1 + 1 + 5 * j1) 0), .int .i64 (l.getD (i1 + 1 + 5 * j1 + 1) 0), .int .i64 (l.getD (i1 + 1 + 5 * j1 + 2) 0), .int .i64 (l.getD (i1 + 1 + 5 * j1 + 3) 0), .int .i64 (l.getD (i1 + 1 + 5 * j1 + 4) 0)] 1) rfl rfl rfl rfl (fun W_ hW_ F_ => slc_gives _ _ _ _ (below_of_drew hW_).size (by kernel_rfl)) ?_
        rintro _ ⟨g97, rfl⟩
        refine t_tail ?_
        intro w100 hb101_ F102
        have hb101 := below_of_drew hb101_
        have hs_w100 := hb101.size
        obtain ⟨hge99, hk98⟩ := slc_fact (F102 22 (SlcSpec w94.heap.size 73 #[.int .i64 (l.getD (i1 + 1 + 5 * j1) 0), .int .i64 (l.getD (i1 + 1 + 5 * j1 + 1) 0), .int .i64 (l.getD (i1 + 1 + 5 * j1 + 2) 0), .int .i64 (l.getD (i1 + 1 + 5 * j1 + 3) 0), .int .i64 (l.getD (i1 + 1 + 5 * j1 + 4) 0)] 1) (.slice (some ⟨g97, 0, none⟩) 1 1) (by kernel_rfl))
        have hlt_g97 := hk98.lt
        clear F102
        have hk98r : OwnK kOp 73 w100 w.heap.size g97 (some ⟨g97, 0, none⟩) 1 1 ([((l.getD (i1 + 1 + 5 * j1) 0), (l.getD (i1 + 1 + 5 * j1 + 1) 0), (l.getD (i1 + 1 + 5 * j1 + 2) 0), (l.getD (i1 + 1 + 5 * j1 + 3) 0), (l.getD (i1 + 1 + 5 * j1 + 4) 0))] : List OpL) := flat_own w.heap.size hk98 (by omega) rfl rfl (by simp) (by simp)
        have oA109 : OwnK kOp 73 w100 w.heap.size w.heap.size Ap ((carOps l (i1 + 1) j1).length) cp (carOps l (i1 + 1) j1) := (OwnK.on (d := kOp) (OwnK.on (d := kOp) hf88 hb95) hb101)
        refine rw_append_kd (d := kOp) w.heap.size rfl rfl rfl (.tmp 89) (.tmp 110) rfl rfl 23 73 (.agg #[.int .i64 0, .int .i64 0, .int .i64 0, .int .i64 0, .int .i64 0]) 40 rfl (by kernel_rfl) (by kernel_rfl) rfl (show 0 < 5 by decide) (by decide) (fun _ _ h => h) (b := w.heap.size) rfl rfl (by omega) oA109 (OwnK.Cn (d := kOp) hk98r) (chain (chain hB_L83 hb95) hb101) (by omega) (by first | omega | (simp only [List.length_append, List.length_nil, List.length_cons]; omega)) ?_
        intro A103 c104 w105 hO106 hB107 hG108
        have hs_w105 := hB107.size
        have hgs_w105 := hG108.size
        have hO110 := OwnK.grown (d := (Kd.int .i64)) (OwnK.on (d := (Kd.int .i64)) (OwnK.on (d := (Kd.int .i64)) hf87 hb95) hb101) oA109 (by decide) hG108
        have hk112 := OwnK.blk_grown ((hf86.on hb95).on hb101) oA109 (.inr (by decide)) hG108
        refine ru (.pointer (some ⟨g36, 4, none⟩)) ?_
        have hb116 := hk112
        refine rst hb116 4 [.slice A103 (((carOps l (i1 + 1) j1) ++ ([((l.getD (i1 + 1 + 5 * j1) 0), (l.getD (i1 + 1 + 5 * j1 + 1) 0), (l.getD (i1 + 1 + 5 * j1 + 2) 0), (l.getD (i1 + 1 + 5 * j1 + 3) 0), (l.getD (i1 + 1 + 5 * j1 + 4) 0))] : List OpL)).length) c104] #[.int .i64 (l.getD 0 0), .int .i64 (l.getD 1 0), .int .i64 (l.getD 2 0), .slice Aq ((carNums l 4 (cntL (l.getD 3 0))).length) cq, .slice A103 (((carOps l (i1 + 1) j1) ++ ([((l.getD (i1 + 1 + 5 * j1) 0), (l.getD (i1 + 1 + 5 * j1 + 1) 0), (l.getD (i1 + 1 + 5 * j1 + 2) 0), (l.getD (i1 + 1 + 5 * j1 + 3) 0), (l.getD (i1 + 1 + 5 * j1 + 4) 0))] : List OpL)).length) c104, .slice none 0 0] ?_
        intro w113 hk114 hk115
        have hs_w113 := hk114.size
        refine rw_end ?_
        refine w_region ?_
        refine rv (.int .i64 ((i1 + 1 + 5 * j1 : Nat) : Int)) ?_
        refine rw1 (.int .i64 ((i1 + 1 + 5 * j1 + 5 : Nat) : Int)) ?_
        refine rv (.int .i64 ((i1 + 1 + 5 * j1 + 5 : Nat) : Int)) ?_
        refine rw_end ?_
        refine w_blk ?_
        refine w_region ?_
        refine rv (.int .i64 ((j1 : Nat) : Int)) ?_
        refine rw1 (.int .i64 ((j1 + 1 : Nat) : Int)) ?_
        refine rv (.int .i64 ((j1 + 1 : Nat) : Int)) ?_
        refine rw_end ?_
        try rw [show i1 + 1 + 5 * j1 + 5 = i1 + 1 + 5 * (j1 + 1) by omega]
        exact w_back (m1_ - 1) [(0, .slice A0 b.length c0), (2, .pointer (some ⟨g1, 0, none⟩)), (3, .int .i64 0), (6, .slice A23 l.length c24), (8, .int .i64 4), (9, .pointer (some ⟨g36, 0, none⟩)), (10, .int .i64 ((i1 + 1 + 5 * (j1 + 1) : Nat) : Int)), (12, .int .i64 (l.getD i1 0)), (13, .int .i64 ((j1 + 1 : Nat) : Int))] (by omega) ⟨rfl, rfl, rfl, rfl, rfl, rfl, rfl, rfl, rfl, trivial⟩ ⟨(j1 + 1), A103, c104, by omega, by omega, (hk114.below (by omega) hB107), hk115, (OwnK.mono (d := (Kd.int .i64)) (own_keep (d := (Kd.int .i64)) hO110 hk112 (by decide) hk114) (by omega)), (OwnK.mono (d := kOp) (own_keep (d := kOp) hO106 hk112 (by decide) hk114) (by omega)), rfl⟩
       ·
        have l117 : ¬ (j1 < (cntL (l.getD i1 0))) := of_decide_eq_false cJ
        refine w_exit rfl ?_
        refine w_seq ?_
        obtain rfl : j1 = (cntL (l.getD i1 0)) := by omega
        obtain ⟨i2, hi2_⟩ : ∃ x, x = carI2 l := ⟨_, rfl⟩
        rw [show i1 + 1 + 5 * cntL (l.getD i1 0) = i2 by rw [hi2_, hi1_]; rfl]
        have hi2b_ : i2 ≤ 700 := by rw [hi2_]; unfold carI2; rw [← hi1_]; have q_ := cntL_le (l.getD i1 0); omega
        have hcb2_ := cntL_le (l.getD i2 0)
        refine w_region ?_
        refine rv (.slice A23 l.length c24) ?_
        refine rv (.int .i64 ((i2 : Nat) : Int)) ?_
        refine rcl (at_calls w94 A23 c24 l i2 (Kd.C_below hCl_ (chain hB_L83 hb95)) hcl_ (by omega)) ?_
        rintro e_ w118 ⟨rfl, hb119⟩
        refine ⟨_, rfl, ?_⟩
        have hs_w118 := hb119.size
        refine rv (.int .i64 (l.getD i2 0)) ?_
        refine rw_end ?_
        refine wsr ?_
        refine rv (.int .i64 ((i2 : Nat) : Int)) ?_
        refine rw1 (.int .i64 ((i2 + 1 : Nat) : Int)) ?_
        refine rv (.int .i64 ((i2 + 1 : Nat) : Int)) ?_
        refine rw_end ?_
        refine w_seq ?_
        refine wsr ?_
        refine rv (.int .i64 0) ?_
        refine rw_end ?_
        refine w_block ?_
        refine w_loop (fun m_ G W_ => ∃ (j2 : Nat) (es : List EL) (je : Nat) (Ao : Option Addr) (co : Nat), j2 + m_ = (cntL (l.getD i2 0)) ∧ (cntL (l.getD i2 0)) ≤ 100 ∧ je ≤ i2 + 1 + 142 * j2 ∧ Below w.heap.size w W_ ∧ (Blk W_ g36 26 #[.int .i64 (l.getD 0 0), .int .i64 (l.getD 1 0), .int .i64 (l.getD 2 0), .slice Aq ((carNums l 4 (cntL (l.getD 3 0))).length) cq, .slice Ap ((carOps l (i1 + 1) (cntL (l.getD i1 0))).length) cp, .slice Ao es.length co]) ∧ (OwnK (Kd.int .i64) 3 W_ w.heap.size w.heap.size Aq ((carNums l 4 (cntL (l.getD 3 0))).length) cq (carNums l 4 (cntL (l.getD 3 0)))) ∧ (OwnK kOp 73 W_ w.heap.size w.heap.size Ap ((carOps l (i1 + 1) (cntL (l.getD i1 0))).length) cp (carOps l (i1 + 1) (cntL (l.getD i1 0)))) ∧ (OwnK kEntry 83 W_ w.heap.size w.heap.size Ao es.length co es) ∧ (carEnts l (carI2 l + 1) j2 = some (es, je)) ∧ G = [(0, .slice A0 b.length c0), (2, .pointer (some ⟨g1, 0, none⟩)), (3, .int .i64 0), (6, .slice A23 l.length c24), (8, .int .i64 4), (9, .pointer (some ⟨g36, 0, none⟩)), (10, .int .i64 ((je : Nat) : Int)), (14, .int .i64 (l.getD i2 0)), (15, .int .i64 ((j2 : Nat) : Int))]) (cntL (l.getD i2 0)) [(0, .slice A0 b.length c0), (2, .pointer (some ⟨g1, 0, none⟩)), (3, .int .i64 0), (6, .slice A23 l.length c24), (8, .int .i64 4), (9, .pointer (some ⟨g36, 0, none⟩)), (10, .int .i64 ((i2 + 1 : Nat) : Int)), (14, .int .i64 (l.getD i2 0)), (15, .int .i64 0)] ⟨0, ([] : List EL), (i2 + 1), none, 0, by omega, by omega, by omega, (chain (chain hB_L83 hb95) hb119), ((hf86.on hb95).on hb119), (OwnK.mono (d := (Kd.int .i64)) (OwnK.on (d := (Kd.int .i64)) (OwnK.on (d := (Kd.int .i64)) hf87 hb95) hb119) (by omega)), (OwnK.mono (d := kOp) (OwnK.on (d := kOp) (OwnK.on (d := kOp) hf88 hb95) hb119) (by omega)), (OwnK.nil _ _ _ _ _), (by rw [← hi2_]; rfl), rfl⟩ ⟨rfl, rfl, rfl, rfl, rfl, rfl, rfl, rfl, rfl, trivial⟩ ?_
        rintro m2_ G w_L120 ⟨j2, es, je, Ao, co, hp121, hp122, hp123, hB_L120, hf124, hf125, hf126, hf127, hf128, rfl⟩
        have hs_w_L120 := hB_L120.size
        have hlt_g36_w_L120 := hf124.lt
        have hX2_0 := hf128
        have hln2_ := carEnts_len l _ _ _ _ hX2_0
        refine w_seq ?_
        refine w_seq ?_
        refine w_join (fun G W_ => Below w_L120.heap.size w_L120 W_ ∧ G = [(0, .slice A0 b.length c0), (2, .pointer (some ⟨g1, 0, none⟩)), (3, .int .i64 0), (6, .slice A23 l.length c24), (8, .int .i64 4), (9, .pointer (some ⟨g36, 0, none⟩)), (10, .int .i64 ((je : Nat) : Int)), (14, .int .i64 (l.getD i2 0)), (15, .int .i64 ((j2 : Nat) : Int)), (126, .bool (decide (j2 < (cntL (l.getD i2 0)))))]) ?_ ?_
        ·
         refine w_region ?_
         refine rv (.int .i64 ((j2 : Nat) : Int)) ?_
         refine rv (.int .i64 (l.getD i2 0)) ?_
         refine rs (.bool (decide (((j2 : Nat) : Int) < (l.getD i2 0)))) ?_
         refine rv (.bool (decide (((j2 : Nat) : Int) < (l.getD i2 0)))) ?_
         rcases bcase (decide (((j2 : Nat) : Int) < (l.getD i2 0))) with c129 | c129
         ·
          have l130 : ¬ (((j2 : Nat) : Int) < (l.getD i2 0)) := of_decide_eq_false c129
          refine rok c129 ?_
          refine rok c129 ?_
          refine rp c129 (.bool false) ?_
          refine rw_end ?_
          have hj131 : false = decide (j2 < (cntL (l.getD i2 0))) := (decide_eq_false (fun h_ => by have q_ := cnt_lt h_; omega)).symm
          exact w_joined [(0, .slice A0 b.length c0), (2, .pointer (some ⟨g1, 0, none⟩)), (3, .int .i64 0), (6, .slice A23 l.length c24), (8, .int .i64 4), (9, .pointer (some ⟨g36, 0, none⟩)), (10, .int .i64 ((je : Nat) : Int)), (14, .int .i64 (l.getD i2 0)), (15, .int .i64 ((j2 : Nat) : Int)), (126, .bool (decide (j2 < (cntL (l.getD i2 0)))))] ⟨rfl, rfl, rfl, rfl, rfl, rfl, rfl, rfl, rfl, (by rw [← hj131]; rfl), trivial⟩ ⟨(Below.refl _ _), rfl⟩
         ·
          have l132 : (((j2 : Nat) : Int) < (l.getD i2 0)) := of_decide_eq_true c129
          refine rnk c129 ?_
          refine rv (.int .i64 ((j2 : Nat) : Int)) ?_
          refine rnk c129 ?_
          refine rs (.bool (decide (((j2 : Nat) : Int) < 100))) ?_
          refine rp c129 (.bool (decide (((j2 : Nat) : Int) < 100))) ?_
          refine rw_end ?_
          have hj133 : (decide (((j2 : Nat) : Int) < 100)) = decide (j2 < (cntL (l.getD i2 0))) := decide_eq_decide.2 ⟨fun h_ => cnt_iff.1 ⟨by omega, by omega⟩, fun h_ => by have q_ := cnt_lt h_; omega⟩
          exact w_joined [(0, .slice A0 b.length c0), (2, .pointer (some ⟨g1, 0, none⟩)), (3, .int .i64 0), (6, .slice A23 l.length c24), (8, .int .i64 4), (9, .pointer (some ⟨g36, 0, none⟩)), (10, .int .i64 ((je : Nat) : Int)), (14, .int .i64 (l.getD i2 0)), (15, .int .i64 ((j2 : Nat) : Int)), (126, .bool (decide (j2 < (cntL (l.getD i2 0)))))] ⟨rfl, rfl, rfl, rfl, rfl, rfl, rfl, rfl, rfl, (by rw [← hj133]; rfl), trivial⟩ ⟨(Below.refl _ _), rfl⟩
        ·
         rintro _ w134 ⟨hb135, rfl⟩
         have hs_w134 := hb135.size
         refine w_cond rfl rfl (fun cJ => ?_) (fun cJ => ?_)
         ·
          have l136 : (j2 < (cntL (l.getD i2 0))) := of_decide_eq_true cJ
          refine w_skip ?_
          refine w_seq ?_
          refine w_block ?_
          refine wsr ?_
          refine rk (.agg (earr (⟨0, 0, CL.unit⟩ : EL))) ?_
          refine rw_new (cs := earr EL.zero) (t := 83) (fun g => .pointer (some ⟨g, 0, none⟩)) rfl rfl rfl rfl (by kernel_rfl) ?_
          intro g137 w138 hg142 hz141 hb139 hk140
          have hs_w138 := hb139.size
          refine rw_seg (g := g137) (off := 0) (ty := 83) (p := .tmp 16) (x := .tmp 129) (v := .agg (earr (⟨0, 0, CL.unit⟩ : EL))) (cs' := earr (⟨0, 0, CL.unit⟩ : EL)) rfl rfl rfl rfl rfl rfl hk140 (by show (sizeOf 83).run _ _ = .ok (earr _).size _; rw [earr_size]; kernel_rfl) (Nat.le_of_eq (by rw [Nat.zero_add]; exact (earr_size _).trans (earr_size _).symm)) (encE_one _) (seg_eall EL.zero (⟨0, 0, CL.unit⟩ : EL)) ?_
          intro w143 hk144 hb145
          have hs_w143 := hk144.size
          refine rw_end ?_
          refine wsr ?_
          refine rv (.slice A23 l.length c24) ?_
          refine rv (.int .i64 ((je : Nat) : Int)) ?_
          refine rcl (at_calls w143 A23 c24 l je (Kd.C_below hCl_ (hk144.below (by omega) (chain (chain hB_L120 hb135) hb139))) hcl_ (by omega)) ?_
          rintro e_ w146 ⟨rfl, hb147⟩
          refine ⟨_, rfl, ?_⟩
          have hs_w146 := hb147.size
          refine ru (.pointer (some ⟨g137, 0, none⟩)) ?_
          refine ru (.pointer (some ⟨g137, 0, none⟩)) ?_
          refine rw_seg (g := g137) (off := 0) (ty := 3) (p := .tmp 134) (x := .tmp 132) (v := .int .i64 (l.getD je 0)) (cs' := earr (⟨(l.getD je 0), 0, CL.unit⟩ : EL)) rfl rfl rfl rfl rfl rfl (hb145.on hb147) (by kernel_rfl) (by rw [earr_size]; show 0 + 1 ≤ 76; decide) (by intro q hq; simp only [List.mem_cons, List.not_mem_nil, or_false, Value.cells] at hq; subst hq; rfl) rfl ?_
          intro w148 hk149 hb150
          have hs_w148 := hk149.size
          refine rw_end ?_
          refine wsr ?_
          refine rv (.slice A23 l.length c24) ?_
          refine rv (.int .i64 ((je : Nat) : Int)) ?_
          refine rw1 (.int .i64 ((je + 1 : Nat) : Int)) ?_
          refine rcl (at_calls w148 A23 c24 l (je + 1) (Kd.C_below hCl_ (hk149.below (by omega) (chain (hk144.below (by omega) (chain (chain hB_L120 hb135) hb139)) hb147))) hcl_ (by omega)) ?_
          rintro e_ w151 ⟨rfl, hb152⟩
          refine ⟨_, rfl, ?_⟩
          have hs_w151 := hb152.size
          refine ru (.pointer (some ⟨g137, 0, none⟩)) ?_
          refine ru (.pointer (some ⟨g137, 1, none⟩)) ?_
          refine rw_seg (g := g137) (off := 1) (ty := 3) (p := .tmp 140) (x := .tmp 138) (v := .int .i64 (l.getD (je + 1) 0)) (cs' := earr (⟨(l.getD je 0), (l.getD (je + 1) 0), CL.unit⟩ : EL)) rfl rfl rfl rfl rfl rfl (hb150.on hb152) (by kernel_rfl) (by rw [earr_size]; show 1 + 1 ≤ 76; decide) (by intro q hq; simp only [List.mem_cons, List.not_mem_nil, or_false, Value.cells] at hq; subst hq; rfl) (seg_ekey (⟨(l.getD je 0), 0, CL.unit⟩ : EL) (l.getD (je + 1) 0)) ?_
          intro w153 hk154 hb155
          have hs_w153 := hk154.size
          refine rw_end ?_
          refine w_seq ?_
          refine wsr ?_
          refine rv (.int .i64 ((je : Nat) : Int)) ?_
          refine rw1 (.int .i64 ((je + 2 : Nat) : Int)) ?_
          refine rv (.slice A23 l.length c24) ?_
          refine rs (.int .i64 ((l.length : Nat) : Int)) ?_
          refine rs (.bool (decide (((l.length : Nat) : Int) < ((je + 2 : Nat) : Int)))) ?_
          refine rw_end ?_
          refine w_cond rfl rfl (fun cX => ?_) (fun cX => ?_)
          ·
           have l156 : (((l.length : Nat) : Int) < ((je + 2 : Nat) : Int)) := of_decide_eq_true cX
           refine wsr ?_
           refine rk (.agg #[.int .i64 0, .int .i64 0, .int .i64 0, .slice none 0 0, .slice none 0 0, .slice none 0 0]) ?_
           refine rv (.int .i64 4) ?_
           have hb160 := ((((((((hk2_.on hB_L120).on hb135).on hb139).keep hk144 (by omega)).on hb147).keep hk149 (by omega)).on hb152).keep hk154 (by omega))
           refine rsa hb160 [.int .i64 0, .int .i64 0, .int .i64 0, .slice none 0 0, .slice none 0 0, .slice none 0 0] ?_
           intro w157 hk158 hk159
           have hs_w157 := hk158.size
           refine rv (.int .i64 4) ?_
           refine rw_end ?_
           refine w_ret (post_retct (v := .agg #[.int .i64 0, .int .i64 0, .int .i64 0, .slice none 0 0, .slice none 0 0, .slice none 0 0]) rfl rfl rfl (by have eb_ := hk159; have e0_ := eb_.cellv (i := 0) (v := (.int .i64 0 : Value)) rfl; have e1_ := eb_.cellv (i := 1) (v := (.int .i64 0 : Value)) rfl; have e2_ := eb_.cellv (i := 2) (v := (.int .i64 0 : Value)) rfl; have e3_ := eb_.cellv (i := 3) (v := (.slice none 0 0 : Value)) rfl; have e4_ := eb_.cellv (i := 4) (v := (.slice none 0 0 : Value)) rfl; have e5_ := eb_.cellv (i := 5) (v := (.slice none 0 0 : Value)) rfl; simp [go_sem, e0_, e1_, e2_, e3_, e4_, e5_, Try.underlying26]) ?_)
           rw [rdec_4b (by omega) hno_ (by rw [← hl9_]; exact carN_none (k := j2 + 1) (carEnts_short hX2_0 (by omega)) (by rw [← hi2_]; omega))]
           exact ⟨_, _, _, _, _, _, rfl, OwnK.nil _ _ _ _ _, OwnK.nil _ _ _ _ _, OwnK.nil _ _ _ _ _, (hk158.below (by omega) (chain hbO_ (hk154.below (by omega) (chain (hk149.below (by omega) (chain (hk144.below (by omega) (chain (chain hB_L120 hb135) hb139)) hb147)) hb152))))⟩
          ·
           have l161 : ¬ (((l.length : Nat) : Int) < ((je + 2 : Nat) : Int)) := of_decide_eq_false cX
           refine w_skip ?_
           refine wsr ?_
           refine rv (.slice A23 l.length c24) ?_
           refine rv (.int .i64 ((je : Nat) : Int)) ?_
           refine rw1 (.int .i64 ((je + 2 : Nat) : Int)) ?_
           have hP162 : (Kd.int .i64).C w153 (adrS 1 A23 c24 (je + 2)) (l.drop (je + 2)).length (l.drop (je + 2)) := Kd.C_drop (Kd.C_below hCl_ (hk154.below (by omega) (chain (hk149.below (by omega) (chain (hk144.below (by omega) (chain (chain hB_L120 hb135) hb139)) hb147)) hb152))) (by omega) (by have q_ := hcl_; omega)
           have hP162_ : (l.drop (je + 2)).length = l.length - (je + 2) := List.length_drop
           refine rz (.slice (adrS 1 A23 c24 (je + 2)) ((l.drop (je + 2)).length) (c24 - (je + 2))) (by rw [hP162_]; exact run_as (sl_from (sz := 1) (e := 3) (by kernel_rfl) (fun _ => by kernel_rfl) (je + 2) _ (by first | rfl | (simp; done) | omega) (by omega) (by have q_ := hcl_; omega) _)) ?_
           rcases hT_ : takeC (l.drop (je + 2)) with _ | ⟨cc_, rr_⟩
           ·
            refine rcl (rf_take0 w153 (adrS 1 A23 c24 (je + 2)) (c24 - (je + 2)) (l.drop (je + 2)) (Kd.C_below hP162 (Below.refl _ _)) (by rw [hP162_]; have q_ := hcl_; omega) (by rw [List.length_drop]; omega) (fun _ => getD_I (fun y hy => hli_ y (List.mem_of_mem_drop hy)) 2) hT_) ?_
            rintro e_ w163 ⟨rfl, hb164⟩
            refine ⟨_, rfl, ?_⟩
            have hs_w163 := hb164.size
            refine rv (.tuple #[.agg (carr CL.unit), .int .i64 0]) ?_
            refine rs (.agg (carr CL.unit)) ?_
            refine rs (.int .i64 0) ?_
            refine rw_new (cs := carr CL.unit) (t := 81) (fun g => .pointer (some ⟨g, 0, none⟩)) rfl rfl rfl rfl (by kernel_rfl) ?_
            intro g165 w166 hg170 hz169 hb167 hk168
            have hs_w166 := hb167.size
            refine rw_seg (g := g165) (off := 0) (ty := 81) (p := .tmp 17) (x := .tmp 154) (v := .agg (carr CL.unit)) (cs' := carr CL.unit) rfl rfl rfl rfl rfl rfl hk168 (by show (sizeOf 81).run _ _ = .ok (carr _).size _; rw [carr_size]; kernel_rfl) (Nat.le_of_eq (by rw [Nat.zero_add]; exact (carr_size _).trans (carr_size _).symm)) (encC_one _) (seg_all CL.unit CL.unit) ?_
            intro w171 hk172 hb173
            have hs_w171 := hk172.size
            refine rv (.int .i64 0) ?_
            refine rw_end ?_
            refine w_seq ?_
            refine wsr ?_
            refine rv (.int .i64 0) ?_
            refine rs (.bool true) ?_
            refine rw_end ?_
            refine w_cond_t rfl rfl rfl ?_
            refine wsr ?_
            refine rk (.agg #[.int .i64 0, .int .i64 0, .int .i64 0, .slice none 0 0, .slice none 0 0, .slice none 0 0]) ?_
            refine rv (.int .i64 4) ?_
            have hb177 := (((((((((((hk2_.on hB_L120).on hb135).on hb139).keep hk144 (by omega)).on hb147).keep hk149 (by omega)).on hb152).keep hk154 (by omega)).on hb164).on hb167).keep hk172 (by omega))
            refine rsa hb177 [.int .i64 0, .int .i64 0, .int .i64 0, .slice none 0 0, .slice none 0 0, .slice none 0 0] ?_
            intro w174 hk175 hk176
            have hs_w174 := hk175.size
            refine rv (.int .i64 4) ?_
            refine rw_end ?_
            refine w_ret (post_retct (v := .agg #[.int .i64 0, .int .i64 0, .int .i64 0, .slice none 0 0, .slice none 0 0, .slice none 0 0]) rfl rfl rfl (by have eb_ := hk176; have e0_ := eb_.cellv (i := 0) (v := (.int .i64 0 : Value)) rfl; have e1_ := eb_.cellv (i := 1) (v := (.int .i64 0 : Value)) rfl; have e2_ := eb_.cellv (i := 2) (v := (.int .i64 0 : Value)) rfl; have e3_ := eb_.cellv (i := 3) (v := (.slice none 0 0 : Value)) rfl; have e4_ := eb_.cellv (i := 4) (v := (.slice none 0 0 : Value)) rfl; have e5_ := eb_.cellv (i := 5) (v := (.slice none 0 0 : Value)) rfl; simp [go_sem, e0_, e1_, e2_, e3_, e4_, e5_, Try.underlying26]) ?_)
            rw [rdec_4b (by omega) hno_ (by rw [← hl9_]; exact carN_none (k := j2 + 1) (carEnts_bad hX2_0 (by omega) hT_) (by rw [← hi2_]; omega))]
            exact ⟨_, _, _, _, _, _, rfl, OwnK.nil _ _ _ _ _, OwnK.nil _ _ _ _ _, OwnK.nil _ _ _ _ _, (hk175.below (by omega) (chain hbO_ (hk172.below (by omega) (chain (chain (hk154.below (by omega) (chain (hk149.below (by omega) (chain (hk144.below (by omega) (chain (chain hB_L120 hb135) hb139)) hb147)) hb152)) hb164) hb167))))⟩
           ·
            obtain ⟨hq1_, hq2_, hq3_, hq4_⟩ := takeC_nums hT_ (getD_I (fun y hy => hli_ y (List.mem_of_mem_drop hy)) 2)
            obtain ⟨s1_, s2_, s3_, s4_⟩ := shape_spec hq4_
            refine rcl (rf_take1 w153 (adrS 1 A23 c24 (je + 2)) (c24 - (je + 2)) (l.drop (je + 2)) (Kd.C_below hP162 (Below.refl _ _)) (by rw [hP162_]; have q_ := hcl_; omega) (by rw [List.length_drop]; omega) (fun _ => getD_I (fun y hy => hli_ y (List.mem_of_mem_drop hy)) 2) hT_) ?_
            rintro e_ w178 ⟨rfl, hb179⟩
            refine ⟨_, rfl, ?_⟩
            have hs_w178 := hb179.size
            refine rv (.tuple #[.agg (carr cc_), .int .i64 ((10 + 2 * nC (l.drop (je + 2)) : Nat) : Int)]) ?_
            refine rs (.agg (carr cc_)) ?_
            refine rs (.int .i64 ((10 + 2 * nC (l.drop (je + 2)) : Nat) : Int)) ?_
            refine rw_new (cs := carr CL.unit) (t := 81) (fun g => .pointer (some ⟨g, 0, none⟩)) rfl rfl rfl rfl (by kernel_rfl) ?_
            intro g180 w181 hg185 hz184 hb182 hk183
            have hs_w181 := hb182.size
            refine rw_seg (g := g180) (off := 0) (ty := 81) (p := .tmp 17) (x := .tmp 154) (v := .agg (carr cc_)) (cs' := carr cc_) rfl rfl rfl rfl rfl rfl hk183 (by show (sizeOf 81).run _ _ = .ok (carr _).size _; rw [carr_size]; kernel_rfl) (Nat.le_of_eq (by rw [Nat.zero_add]; exact (carr_size _).trans (carr_size _).symm)) (encC_one _) (seg_all CL.unit cc_) ?_
            intro w186 hk187 hb188
            have hs_w186 := hk187.size
            refine rv (.int .i64 ((10 + 2 * nC (l.drop (je + 2)) : Nat) : Int)) ?_
            refine rw_end ?_
            refine w_seq ?_
            refine wsr ?_
            refine rv (.int .i64 ((10 + 2 * nC (l.drop (je + 2)) : Nat) : Int)) ?_
            refine rs (.bool (((10 + 2 * nC (l.drop (je + 2)) : Nat) : Int) == 0)) ?_
            refine rw_end ?_
            have hq189 : (((10 + 2 * nC (l.drop (je + 2)) : Nat) : Int) == 0) = false := by exact beq_eq_false_iff_ne.2 (by omega)
            refine w_cond_f rfl rfl hq189 ?_
            refine w_skip ?_
            refine wsr ?_
            refine rz (.agg (carr cc_)) (run_as (load_cell (c := cc_) hb188)) ?_
            refine ru (.pointer (some ⟨g137, 2, none⟩)) ?_
            refine rw_seg (g := g137) (off := 2) (ty := 81) (p := .tmp 161) (x := .tmp 160) (v := .agg (carr cc_)) (cs' := earr (⟨(l.getD je 0), (l.getD (je + 1) 0), cc_⟩ : EL)) rfl rfl rfl rfl rfl rfl (((hb155.on hb179).on hb182).keep hk187 (by omega)) (by show (sizeOf 81).run _ _ = .ok (carr _).size _; rw [carr_size]; kernel_rfl) (by show 2 + (carr _).size ≤ _; rw [earr_size, carr_size]; decide) (encC_one _) (seg_ecell (⟨(l.getD je 0), (l.getD (je + 1) 0), CL.unit⟩ : EL) cc_) ?_
            intro w190 hk191 hb192
            have hs_w190 := hk191.size
            refine rw_end ?_
            refine wsr ?_
            refine ru (.pointer (some ⟨g36, 5, none⟩)) ?_
            refine rl (((((((((((hf124.on hb135).on hb139).keep hk144 (by omega)).on hb147).keep hk149 (by omega)).on hb152).keep hk154 (by omega)).on hb179).on hb182).keep hk187 (by omega)).keep hk191 (by omega)) 5 (.slice Ao es.length co) ?_
            refine rz (.agg (earr (⟨(l.getD je 0), (l.getD (je + 1) 0), cc_⟩ : EL))) (run_as (load_entry (x := (⟨(l.getD je 0), (l.getD (je + 1) 0), cc_⟩ : EL)) hb192)) ?_
            refine rw_new (cs := (encE (⟨(l.getD je 0), (l.getD (je + 1) 0), cc_⟩ : EL) : List Value).toArray) (t := 83) (fun g => .slice (some ⟨g, 0, none⟩) 1 1) rfl rfl rfl rfl (by kernel_rfl) ?_
            intro g193 w194 hg198 hz197 hb195 hk196
            have hs_w194 := hb195.size
            have hk196r : OwnK kEntry 83 w194 w.heap.size g193 (some ⟨g193, 0, none⟩) 1 1 ([(⟨(l.getD je 0), (l.getD (je + 1) 0), cc_⟩ : EL)] : List EL) := flat_own (enc := encE) (hl1 := encE_len) (h1 := encE_one) (xs := ([(⟨(l.getD je 0), (l.getD (je + 1) 0), cc_⟩ : EL)] : List EL)) (cap := 1) w.heap.size hk196 (by omega) (by simp) rfl (by simp) (by simp)
            have oA205 : OwnK kEntry 83 w194 w.heap.size w.heap.size Ao es.length co es := (OwnK.on (d := kEntry) hf127 (chain (hk191.below (by omega) (hk187.below (by omega) (chain (chain (hk154.below (by omega) (chain (hk149.below (by omega) (chain (hk144.below (by omega) (chain hb135 hb139)) hb147)) hb152)) hb179) hb182))) hb195))
            refine rw_append_kd (d := kEntry) w.heap.size rfl rfl rfl (.tmp 163) (.tmp 165) rfl rfl 24 83 (.agg (earr EL.zero)) 608 rfl (by kernel_rfl) (by kernel_rfl) rfl (show 0 < 76 by decide) (by decide) (fun _ _ h => h) (b := w.heap.size) rfl rfl (by omega) oA205 (OwnK.Cn (d := kEntry) hk196r) (chain (hk191.below (by omega) (hk187.below (by omega) (chain (chain (hk154.below (by omega) (chain (hk149.below (by omega) (chain (hk144.below (by omega) (chain (chain hB_L120 hb135) hb139)) hb147)) hb152)) hb179) hb182))) hb195) (by omega) (by first | omega | (simp only [List.length_append, List.length_nil, List.length_cons]; omega)) ?_
            intro A199 c200 w201 hO202 hB203 hG204
            have hs_w201 := hB203.size
            have hgs_w201 := hG204.size
            have hO206 := OwnK.grown (d := (Kd.int .i64)) (OwnK.on (d := (Kd.int .i64)) (own_keep (d := (Kd.int .i64)) (own_keep (d := (Kd.int .i64)) (OwnK.on (d := (Kd.int .i64)) (OwnK.on (d := (Kd.int .i64)) (own_keep (d := (Kd.int .i64)) (OwnK.on (d := (Kd.int .i64)) (own_keep (d := (Kd.int .i64)) (OwnK.on (d := (Kd.int .i64)) (own_keep (d := (Kd.int .i64)) (OwnK.on (d := (Kd.int .i64)) (OwnK.on (d := (Kd.int .i64)) hf125 hb135) hb139) hk140 (by decide) hk144) hb147) (hb145.on hb147) (by decide) hk149) hb152) (hb150.on hb152) (by decide) hk154) hb179) hb182) hk183 (by decide) hk187) (((hb155.on hb179).on hb182).keep hk187 (by omega)) (by decide) hk191) hb195) oA205 (by decide) hG204
            have hO207 := OwnK.grown (d := kOp) (OwnK.on (d := kOp) (own_keep (d := kOp) (own_keep (d := kOp) (OwnK.on (d := kOp) (OwnK.on (d := kOp) (own_keep (d := kOp) (OwnK.on (d := kOp) (own_keep (d := kOp) (OwnK.on (d := kOp) (own_keep (d := kOp) (OwnK.on (d := kOp) (OwnK.on (d := kOp) hf126 hb135) hb139) hk140 (by decide) hk144) hb147) (hb145.on hb147) (by decide) hk149) hb152) (hb150.on hb152) (by decide) hk154) hb179) hb182) hk183 (by decide) hk187) (((hb155.on hb179).on hb182).keep hk187 (by omega)) (by decide) hk191) hb195) oA205 (by decide) hG204
            have hk209 := OwnK.blk_grown ((((((((((((hf124.on hb135).on hb139).keep hk144 (by omega)).on hb147).keep hk149 (by omega)).on hb152).keep hk154 (by omega)).on hb179).on hb182).keep hk187 (by omega)).keep hk191 (by omega)).on hb195) oA205 (.inr (by decide)) hG204
            have hk210 := OwnK.blk_grown ((hb188.keep hk191 (by omega)).on hb195) oA205 (.inr (by decide)) hG204
            refine ru (.pointer (some ⟨g36, 5, none⟩)) ?_
            have hb214 := hk209
            refine rst hb214 5 [.slice A199 ((es ++ ([(⟨(l.getD je 0), (l.getD (je + 1) 0), cc_⟩ : EL)] : List EL)).length) c200] #[.int .i64 (l.getD 0 0), .int .i64 (l.getD 1 0), .int .i64 (l.getD 2 0), .slice Aq ((carNums l 4 (cntL (l.getD 3 0))).length) cq, .slice Ap ((carOps l (i1 + 1) (cntL (l.getD i1 0))).length) cp, .slice A199 ((es ++ ([(⟨(l.getD je 0), (l.getD (je + 1) 0), cc_⟩ : EL)] : List EL)).length) c200] ?_
            intro w211 hk212 hk213
            have hs_w211 := hk212.size
            refine rw_end ?_
            refine w_region ?_
            refine rv (.int .i64 ((je : Nat) : Int)) ?_
            refine rw1 (.int .i64 ((je + 2 : Nat) : Int)) ?_
            refine rv (.int .i64 ((10 + 2 * nC (l.drop (je + 2)) : Nat) : Int)) ?_
            refine rw1 (.int .i64 ((je + 2 + (10 + 2 * nC (l.drop (je + 2))) : Nat) : Int)) ?_
            refine rv (.int .i64 ((je + 2 + (10 + 2 * nC (l.drop (je + 2))) : Nat) : Int)) ?_
            refine rw_end ?_
            refine w_blk ?_
            refine w_region ?_
            refine rv (.int .i64 ((j2 : Nat) : Int)) ?_
            refine rw1 (.int .i64 ((j2 + 1 : Nat) : Int)) ?_
            refine rv (.int .i64 ((j2 + 1 : Nat) : Int)) ?_
            refine rw_end ?_
            exact w_back (m2_ - 1) [(0, .slice A0 b.length c0), (2, .pointer (some ⟨g1, 0, none⟩)), (3, .int .i64 0), (6, .slice A23 l.length c24), (8, .int .i64 4), (9, .pointer (some ⟨g36, 0, none⟩)), (10, .int .i64 ((je + 2 + (10 + 2 * nC (l.drop (je + 2))) : Nat) : Int)), (14, .int .i64 (l.getD i2 0)), (15, .int .i64 ((j2 + 1 : Nat) : Int))] (by omega) ⟨rfl, rfl, rfl, rfl, rfl, rfl, rfl, rfl, rfl, trivial⟩ ⟨(j2 + 1), (es ++ ([(⟨(l.getD je 0), (l.getD (je + 1) 0), cc_⟩ : EL)] : List EL)), (je + 2 + (10 + 2 * nC (l.drop (je + 2)))), A199, c200, by omega, by omega, by omega, (hk212.below (by omega) hB203), hk213, (OwnK.mono (d := (Kd.int .i64)) (own_keep (d := (Kd.int .i64)) hO206 hk209 (by decide) hk212) (by omega)), (OwnK.mono (d := kOp) (own_keep (d := kOp) hO207 hk209 (by decide) hk212) (by omega)), (OwnK.mono (d := kEntry) (own_keep (d := kEntry) hO202 hk209 (by decide) hk212) (by omega)), (carEnts_more hX2_0 (by omega) hT_), rfl⟩
         ·
          have l215 : ¬ (j2 < (cntL (l.getD i2 0))) := of_decide_eq_false cJ
          refine w_exit rfl ?_
          refine w_seq ?_
          obtain rfl : j2 = (cntL (l.getD i2 0)) := by omega
          have hcl9_ : carN l = some (⟨l.getD 0 0, l.getD 1 0, l.getD 2 0, carNums l 4 (cntL (l.getD 3 0)), carOps l (i1 + 1) (cntL (l.getD i1 0)), es⟩ : NT) := by subst hi1_; subst hi2_; exact carN_some hX2_0
          obtain ⟨hI9_, hlo9_, hz3_, hz4_, hz5_⟩ := carN_I hli_ hcl9_
          have hcn_ : carN (RNL (UN b)) = some (⟨l.getD 0 0, l.getD 1 0, l.getD 2 0, carNums l 4 (cntL (l.getD 3 0)), carOps l (i1 + 1) (cntL (l.getD i1 0)), es⟩ : NT) := by rw [← hl9_]; exact hcl9_
          refine w_region ?_
          refine rz (.agg #[.int .i64 (l.getD 0 0), .int .i64 (l.getD 1 0), .int .i64 (l.getD 2 0), .slice Aq ((carNums l 4 (cntL (l.getD 3 0))).length) cq, .slice Ap ((carOps l (i1 + 1) (cntL (l.getD i1 0))).length) cp, .slice Ao es.length co]) (by have eb_ := (hf124.on hb135); have e0_ := eb_.cellv (i := 0) (v := (.int .i64 (l.getD 0 0) : Value)) rfl; have e1_ := eb_.cellv (i := 1) (v := (.int .i64 (l.getD 1 0) : Value)) rfl; have e2_ := eb_.cellv (i := 2) (v := (.int .i64 (l.getD 2 0) : Value)) rfl; have e3_ := eb_.cellv (i := 3) (v := (.slice Aq ((carNums l 4 (cntL (l.getD 3 0))).length) cq : Value)) rfl; have e4_ := eb_.cellv (i := 4) (v := (.slice Ap ((carOps l (i1 + 1) (cntL (l.getD i1 0))).length) cp : Value)) rfl; have e5_ := eb_.cellv (i := 5) (v := (.slice Ao es.length co : Value)) rfl; simp [go_sem, sEv, sLook, nbeq, i64_w, -List.getD_eq_getElem?_getD, e0_, e1_, e2_, e3_, e4_, e5_, Try.underlying26]) ?_
          refine rw_call rfl rfl rfl rfl (f := 13) (args := #[.agg #[.int .i64 (l.getD 0 0), .int .i64 (l.getD 1 0), .int .i64 (l.getD 2 0), .slice Aq ((carNums l 4 (cntL (l.getD 3 0))).length) cq, .slice Ap ((carOps l (i1 + 1) (cntL (l.getD i1 0))).length) cp, .slice Ao es.length co]]) (by simp [go_sem, sEv, sLook, nbeq, i64_w, -List.getD_eq_getElem?_getD]) (renc_calls w134 (⟨l.getD 0 0, l.getD 1 0, l.getD 2 0, carNums l 4 (cntL (l.getD 3 0)), carOps l (i1 + 1) (cntL (l.getD i1 0)), es⟩ : NT) Aq cq Ap cp Ao co (OwnK.C (d := (Kd.int .i64)) (OwnK.on (d := (Kd.int .i64)) hf125 hb135)) (OwnK.cap (d := (Kd.int .i64)) hf125) (OwnK.C (d := kOp) (OwnK.on (d := kOp) hf126 hb135)) (OwnK.cap (d := kOp) hf126) (OwnK.C (d := kEntry) (OwnK.on (d := kEntry) hf127 hb135)) (OwnK.cap (d := kEntry) hf127) (by omega) (by omega) (by omega) hI9_) ?_
          rintro e_ w216 ⟨A218, c219, rfl, hO2200, hb217⟩
          refine ⟨_, rfl, ?_⟩
          have hs_w216 := hb217.size
          have hO220 := OwnK.lower (base' := w.heap.size) (d := (Kd.int .u8)) hO2200 (by omega)
          refine rv (.tuple #[.slice A218 ((EB (⟨l.getD 0 0, l.getD 1 0, l.getD 2 0, carNums l 4 (cntL (l.getD 3 0)), carOps l (i1 + 1) (cntL (l.getD i1 0)), es⟩ : NT)).length) c219, .int .i64 (EN (⟨l.getD 0 0, l.getD 1 0, l.getD 2 0, carNums l 4 (cntL (l.getD 3 0)), carOps l (i1 + 1) (cntL (l.getD i1 0)), es⟩ : NT))]) ?_
          refine rs (.slice A218 ((EB (⟨l.getD 0 0, l.getD 1 0, l.getD 2 0, carNums l 4 (cntL (l.getD 3 0)), carOps l (i1 + 1) (cntL (l.getD i1 0)), es⟩ : NT)).length) c219) ?_
          refine rs (.int .i64 (EN (⟨l.getD 0 0, l.getD 1 0, l.getD 2 0, carNums l 4 (cntL (l.getD 3 0)), carOps l (i1 + 1) (cntL (l.getD i1 0)), es⟩ : NT))) ?_
          refine rv (.slice A218 ((EB (⟨l.getD 0 0, l.getD 1 0, l.getD 2 0, carNums l 4 (cntL (l.getD 3 0)), carOps l (i1 + 1) (cntL (l.getD i1 0)), es⟩ : NT)).length) c219) ?_
          refine rv (.int .i64 (EN (⟨l.getD 0 0, l.getD 1 0, l.getD 2 0, carNums l 4 (cntL (l.getD 3 0)), carOps l (i1 + 1) (cntL (l.getD i1 0)), es⟩ : NT))) ?_
          refine rw_end ?_
          refine w_seq ?_
          refine wsr ?_
          refine rv (.int .i64 (EN (⟨l.getD 0 0, l.getD 1 0, l.getD 2 0, carNums l 4 (cntL (l.getD 3 0)), carOps l (i1 + 1) (cntL (l.getD i1 0)), es⟩ : NT))) ?_
          refine rs (.bool ((EN (⟨l.getD 0 0, l.getD 1 0, l.getD 2 0, carNums l 4 (cntL (l.getD 3 0)), carOps l (i1 + 1) (cntL (l.getD i1 0)), es⟩ : NT)) != 0)) ?_
          refine rv (.bool ((EN (⟨l.getD 0 0, l.getD 1 0, l.getD 2 0, carNums l 4 (cntL (l.getD 3 0)), carOps l (i1 + 1) (cntL (l.getD i1 0)), es⟩ : NT)) != 0)) ?_
          rcases bcase ((EN (⟨l.getD 0 0, l.getD 1 0, l.getD 2 0, carNums l 4 (cntL (l.getD 3 0)), carOps l (i1 + 1) (cntL (l.getD i1 0)), es⟩ : NT)) != 0) with cE | cE
          ·
           have l221 : (EN (⟨l.getD 0 0, l.getD 1 0, l.getD 2 0, carNums l 4 (cntL (l.getD 3 0)), carOps l (i1 + 1) (cntL (l.getD i1 0)), es⟩ : NT)) = 0 := by simpa using cE
           refine rnk cE ?_
           refine rv (.slice A218 ((EB (⟨l.getD 0 0, l.getD 1 0, l.getD 2 0, carNums l 4 (cntL (l.getD 3 0)), carOps l (i1 + 1) (cntL (l.getD i1 0)), es⟩ : NT)).length) c219) ?_
           refine rnk cE ?_
           refine rz (.string (strOfNums (EB (⟨l.getD 0 0, l.getD 1 0, l.getD 2 0, carNums l 4 (cntL (l.getD 3 0)), carOps l (i1 + 1) (cntL (l.getD i1 0)), es⟩ : NT)))) (run_as (run_str_of (P := Try.prog) (e := 5) (by kernel_rfl) (by kernel_rfl) (by kernel_rfl) (OwnK.C (d := (Kd.int .u8)) hO220))) ?_
           refine rnk cE ?_
           refine rv (.slice A0 b.length c0) ?_
           refine rnk cE ?_
           refine rz (.string (strOfNums b)) (run_as (run_str_of (P := Try.prog) (e := 5) (by kernel_rfl) (by kernel_rfl) (by kernel_rfl) (Kd.C_below hCb_ (chain (chain hB_L120 hb135) hb217)))) ?_
           refine rnk cE ?_
           refine rz (.bool (!decide (strOfNums (EB (⟨l.getD 0 0, l.getD 1 0, l.getD 2 0, carNums l 4 (cntL (l.getD 3 0)), carOps l (i1 + 1) (cntL (l.getD i1 0)), es⟩ : NT)) = strOfNums b))) (run_as (run_str_neq 9 _ _ _)) ?_
           refine rp cE (.bool (!decide (strOfNums (EB (⟨l.getD 0 0, l.getD 1 0, l.getD 2 0, carNums l 4 (cntL (l.getD 3 0)), carOps l (i1 + 1) (cntL (l.getD i1 0)), es⟩ : NT)) = strOfNums b))) ?_
           refine rw_end ?_
           refine w_cond rfl rfl (fun cS => ?_) (fun cS => ?_)
           ·
            refine wsr ?_
            refine rk (.agg #[.int .i64 0, .int .i64 0, .int .i64 0, .slice none 0 0, .slice none 0 0, .slice none 0 0]) ?_
            refine rv (.int .i64 4) ?_
            have hb225 := (((hk2_.on hB_L120).on hb135).on hb217)
            refine rsa hb225 [.int .i64 0, .int .i64 0, .int .i64 0, .slice none 0 0, .slice none 0 0, .slice none 0 0] ?_
            intro w222 hk223 hk224
            have hs_w222 := hk223.size
            refine rv (.int .i64 4) ?_
            refine rw_end ?_
            refine w_ret (post_retct (v := .agg #[.int .i64 0, .int .i64 0, .int .i64 0, .slice none 0 0, .slice none 0 0, .slice none 0 0]) rfl rfl rfl (by have eb_ := hk224; have e0_ := eb_.cellv (i := 0) (v := (.int .i64 0 : Value)) rfl; have e1_ := eb_.cellv (i := 1) (v := (.int .i64 0 : Value)) rfl; have e2_ := eb_.cellv (i := 2) (v := (.int .i64 0 : Value)) rfl; have e3_ := eb_.cellv (i := 3) (v := (.slice none 0 0 : Value)) rfl; have e4_ := eb_.cellv (i := 4) (v := (.slice none 0 0 : Value)) rfl; have e5_ := eb_.cellv (i := 5) (v := (.slice none 0 0 : Value)) rfl; simp [go_sem, e0_, e1_, e2_, e3_, e4_, e5_, Try.underlying26]) ?_)
            rw [rdec_4c (by omega) hno_ hcn_ (by first | (exact .inl (by simpa using cE)) | (exact .inr (fun e_ => by rw [e_] at cS; simp at cS)))]
            exact ⟨_, _, _, _, _, _, rfl, OwnK.nil _ _ _ _ _, OwnK.nil _ _ _ _ _, OwnK.nil _ _ _ _ _, (hk223.below (by omega) (chain hbO_ (chain (chain hB_L120 hb135) hb217)))⟩
           ·
            refine w_skip ?_
            refine wsr ?_
            refine rz (.agg #[.int .i64 (l.getD 0 0), .int .i64 (l.getD 1 0), .int .i64 (l.getD 2 0), .slice Aq ((carNums l 4 (cntL (l.getD 3 0))).length) cq, .slice Ap ((carOps l (i1 + 1) (cntL (l.getD i1 0))).length) cp, .slice Ao es.length co]) (by have eb_ := ((hf124.on hb135).on hb217); have e0_ := eb_.cellv (i := 0) (v := (.int .i64 (l.getD 0 0) : Value)) rfl; have e1_ := eb_.cellv (i := 1) (v := (.int .i64 (l.getD 1 0) : Value)) rfl; have e2_ := eb_.cellv (i := 2) (v := (.int .i64 (l.getD 2 0) : Value)) rfl; have e3_ := eb_.cellv (i := 3) (v := (.slice Aq ((carNums l 4 (cntL (l.getD 3 0))).length) cq : Value)) rfl; have e4_ := eb_.cellv (i := 4) (v := (.slice Ap ((carOps l (i1 + 1) (cntL (l.getD i1 0))).length) cp : Value)) rfl; have e5_ := eb_.cellv (i := 5) (v := (.slice Ao es.length co : Value)) rfl; simp [go_sem, sEv, sLook, nbeq, i64_w, -List.getD_eq_getElem?_getD, e0_, e1_, e2_, e3_, e4_, e5_, Try.underlying26]) ?_
            have hb229 := (((hk2_.on hB_L120).on hb135).on hb217)
            refine rsa hb229 [.int .i64 (l.getD 0 0), .int .i64 (l.getD 1 0), .int .i64 (l.getD 2 0), .slice Aq ((carNums l 4 (cntL (l.getD 3 0))).length) cq, .slice Ap ((carOps l (i1 + 1) (cntL (l.getD i1 0))).length) cp, .slice Ao es.length co] ?_
            intro w226 hk227 hk228
            have hs_w226 := hk227.size
            refine rv (.int .i64 0) ?_
            refine rw_end ?_
            refine w_ret (post_retct (v := .agg #[.int .i64 (l.getD 0 0), .int .i64 (l.getD 1 0), .int .i64 (l.getD 2 0), .slice Aq ((carNums l 4 (cntL (l.getD 3 0))).length) cq, .slice Ap ((carOps l (i1 + 1) (cntL (l.getD i1 0))).length) cp, .slice Ao es.length co]) rfl rfl rfl (by have eb_ := hk228; have e0_ := eb_.cellv (i := 0) (v := (.int .i64 (l.getD 0 0) : Value)) rfl; have e1_ := eb_.cellv (i := 1) (v := (.int .i64 (l.getD 1 0) : Value)) rfl; have e2_ := eb_.cellv (i := 2) (v := (.int .i64 (l.getD 2 0) : Value)) rfl; have e3_ := eb_.cellv (i := 3) (v := (.slice Aq ((carNums l 4 (cntL (l.getD 3 0))).length) cq : Value)) rfl; have e4_ := eb_.cellv (i := 4) (v := (.slice Ap ((carOps l (i1 + 1) (cntL (l.getD i1 0))).length) cp : Value)) rfl; have e5_ := eb_.cellv (i := 5) (v := (.slice Ao es.length co : Value)) rfl; simp [go_sem, e0_, e1_, e2_, e3_, e4_, e5_, Try.underlying26]) ?_)
            rw [rdec_0 (by omega) hno_ hcn_ (by rintro (h_ | h_); exact h_ (by simpa using cE); exact h_ ((str_iff (EB_bytes hI9_) hb).1 (congrArg ByteArray.toList (show strOfNums (EB (⟨l.getD 0 0, l.getD 1 0, l.getD 2 0, carNums l 4 (cntL (l.getD 3 0)), carOps l (i1 + 1) (cntL (l.getD i1 0)), es⟩ : NT)) = strOfNums b by simpa using cS))))]
            exact ⟨_, _, _, _, _, _, rfl, (OwnK.mono (d := (Kd.int .i64)) (OwnK.lower (base' := wO.heap.size) (own_keep (d := (Kd.int .i64)) (OwnK.on (d := (Kd.int .i64)) (OwnK.on (d := (Kd.int .i64)) hf125 hb135) hb217) (((hk2_.on hB_L120).on hb135).on hb217) (by decide) hk227) (by omega)) (by omega)), (OwnK.mono (d := kOp) (OwnK.lower (base' := wO.heap.size) (own_keep (d := kOp) (OwnK.on (d := kOp) (OwnK.on (d := kOp) hf126 hb135) hb217) (((hk2_.on hB_L120).on hb135).on hb217) (by decide) hk227) (by omega)) (by omega)), (OwnK.mono (d := kEntry) (OwnK.lower (base' := wO.heap.size) (own_keep (d := kEntry) (OwnK.on (d := kEntry) (OwnK.on (d := kEntry) hf127 hb135) hb217) (((hk2_.on hB_L120).on hb135).on hb217) (by decide) hk227) (by omega)) (by omega)), (hk227.below (by omega) (chain hbO_ (chain (chain hB_L120 hb135) hb217)))⟩
          ·
           have l230 : ¬ (EN (⟨l.getD 0 0, l.getD 1 0, l.getD 2 0, carNums l 4 (cntL (l.getD 3 0)), carOps l (i1 + 1) (cntL (l.getD i1 0)), es⟩ : NT)) = 0 := by simpa using cE
           refine rok cE ?_
           refine rok cE ?_
           refine rok cE ?_
           refine rok cE ?_
           refine rok cE ?_
           refine rp cE (.bool true) ?_
           refine rw_end ?_
           refine w_cond_t rfl rfl rfl ?_
           refine wsr ?_
           refine rk (.agg #[.int .i64 0, .int .i64 0, .int .i64 0, .slice none 0 0, .slice none 0 0, .slice none 0 0]) ?_
           refine rv (.int .i64 4) ?_
           have hb234 := (((hk2_.on hB_L120).on hb135).on hb217)
           refine rsa hb234 [.int .i64 0, .int .i64 0, .int .i64 0, .slice none 0 0, .slice none 0 0, .slice none 0 0] ?_
           intro w231 hk232 hk233
           have hs_w231 := hk232.size
           refine rv (.int .i64 4) ?_
           refine rw_end ?_
           refine w_ret (post_retct (v := .agg #[.int .i64 0, .int .i64 0, .int .i64 0, .slice none 0 0, .slice none 0 0, .slice none 0 0]) rfl rfl rfl (by have eb_ := hk233; have e0_ := eb_.cellv (i := 0) (v := (.int .i64 0 : Value)) rfl; have e1_ := eb_.cellv (i := 1) (v := (.int .i64 0 : Value)) rfl; have e2_ := eb_.cellv (i := 2) (v := (.int .i64 0 : Value)) rfl; have e3_ := eb_.cellv (i := 3) (v := (.slice none 0 0 : Value)) rfl; have e4_ := eb_.cellv (i := 4) (v := (.slice none 0 0 : Value)) rfl; have e5_ := eb_.cellv (i := 5) (v := (.slice none 0 0 : Value)) rfl; simp [go_sem, e0_, e1_, e2_, e3_, e4_, e5_, Try.underlying26]) ?_)
           rw [rdec_4c (by omega) hno_ hcn_ (by first | (exact .inl (by simpa using cE)) | (exact .inr (fun e_ => by rw [e_] at cS; simp at cS)))]
           exact ⟨_, _, _, _, _, _, rfl, OwnK.nil _ _ _ _ _, OwnK.nil _ _ _ _ _, OwnK.nil _ _ _ _ _, (hk232.below (by omega) (chain hbO_ (chain (chain hB_L120 hb135) hb217)))⟩
 ·
  have l235 : ((wholeP b : Nat) : Int) = 0 := by simpa using c12
  refine rok c12 ?_
  refine rok c12 ?_
  refine rok c12 ?_
  refine rok c12 ?_
  refine rp c12 (.bool true) ?_
  refine rw_end ?_
  refine w_cond_t rfl rfl rfl ?_
  refine wsr ?_
  refine rk (.agg #[.int .i64 0, .int .i64 0, .int .i64 0, .slice none 0 0, .slice none 0 0, .slice none 0 0]) ?_
  have hb239 := (hk4.on hb8)
  refine rsa hb239 [.int .i64 0, .int .i64 0, .int .i64 0, .slice none 0 0, .slice none 0 0, .slice none 0 0] ?_
  intro w236 hk237 hk238
  have hs_w236 := hk237.size
  refine rv (.int .i64 3) ?_
  refine rw_end ?_
  refine w_ret (post_retct (v := .agg #[.int .i64 0, .int .i64 0, .int .i64 0, .slice none 0 0, .slice none 0 0, .slice none 0 0]) rfl rfl rfl (by have eb_ := hk238; have e0_ := eb_.cellv (i := 0) (v := (.int .i64 0 : Value)) rfl; have e1_ := eb_.cellv (i := 1) (v := (.int .i64 0 : Value)) rfl; have e2_ := eb_.cellv (i := 2) (v := (.int .i64 0 : Value)) rfl; have e3_ := eb_.cellv (i := 3) (v := (.slice none 0 0 : Value)) rfl; have e4_ := eb_.cellv (i := 4) (v := (.slice none 0 0 : Value)) rfl; have e5_ := eb_.cellv (i := 5) (v := (.slice none 0 0 : Value)) rfl; simp [go_sem, e0_, e1_, e2_, e3_, e4_, e5_, Try.underlying26]) ?_)
  rw [rdec_3 (by omega)]
  exact ⟨_, _, _, _, _, _, rfl, OwnK.nil _ _ _ _ _, OwnK.nil _ _ _ _ _, OwnK.nil _ _ _ _ _, (hk237.below (by omega) (chain hb3 hb8))⟩
end Go.Proofs.Ytbbhdohjhipalaa.Ce
end
