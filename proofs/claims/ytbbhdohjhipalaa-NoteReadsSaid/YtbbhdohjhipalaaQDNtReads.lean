/- A law's own walk: NtReads. -/
import Derived.Test.YtbbhdohjhipalaaQD6
section
namespace Go.Proofs.Ytbbhdohjhipalaa.Ce
open Go.RowKit Go.Proofs.YtbbhdohjhipalaaW.PrintWords Go.Proofs.YtbbhdohjhipalaaW.PrintLast Go.Proofs.YtbbhdohjhipalaaW.PrintMore
open Go.Proofs.Ytbbhdohjhipalaa.Flow
open Go.Proofs.Ytbbhdohjhipalaa.PNoteReads
set_option linter.unusedVariables false
set_option linter.unusedSimpArgs false
theorem dec_x (w : World) (A0 : Option Addr) (c0 : Nat) (b : List Int) (n : NT) {o : Option Int} (hC : (Kd.int .u8).C w A0 b.length b) (hc : b.length ≤ c0) (hb : Bytes b) (hl : b.length ≤ 1000000) (hD : decN b = (n, o)) : Calls Try.prog 19 #[.slice A0 b.length c0] w fun e w' => ∃ A3 c3 A4 c4 A5 c5, e = .returned (.tuple #[.agg #[.int .i64 n.kind, .int .i64 n.fr, .int .i64 n.tw, .slice A3 n.nums.length c3, .slice A4 n.ops.length c4, .slice A5 n.ents.length c5], errT o]) ∧ OwnK (Kd.int .i64) 3 w' w.heap.size w.heap.size A3 n.nums.length c3 n.nums ∧ OwnK kOp 73 w' w.heap.size w.heap.size A4 n.ops.length c4 n.ops ∧ OwnK kEntry 83 w' w.heap.size w.heap.size A5 n.ents.length c5 n.ents ∧ Below w.heap.size w w' := by
  have h := dec_calls w A0 c0 b hC hc hb hl
  rw [hD] at h
  exact h
theorem rdec_x (w : World) (A0 : Option Addr) (c0 : Nat) (b : List Int) (n : NT) {o : Option Int} {z : Int} (hC : (Kd.int .u8).C w A0 b.length b) (hc : b.length ≤ c0) (hb : Bytes b) (hl : b.length ≤ 90000) (hD : decN b = (n, o)) (hz : errI o = z) : Calls Try.prog 20 #[.slice A0 b.length c0] w fun e w' => ∃ A3 c3 A4 c4 A5 c5, e = .returned (.tuple #[.agg #[.int .i64 n.kind, .int .i64 n.fr, .int .i64 n.tw, .slice A3 n.nums.length c3, .slice A4 n.ops.length c4, .slice A5 n.ents.length c5], .int .i64 z]) ∧ OwnK (Kd.int .i64) 3 w' w.heap.size w.heap.size A3 n.nums.length c3 n.nums ∧ OwnK kOp 73 w' w.heap.size w.heap.size A4 n.ops.length c4 n.ops ∧ OwnK kEntry 83 w' w.heap.size w.heap.size A5 n.ents.length c5 n.ents ∧ Below w.heap.size w w' := by
  have h := rdec_calls w A0 c0 b hC hc hb hl
  rw [rdec_eq hb, hD] at h
  subst hz
  exact h
theorem num_y (w : World) (o : Option Int) (z : Int) (h : (o = none ∧ z = 0) ∨ (o = some 3 ∧ z = 3) ∨ (o = some 4 ∧ z = 4)) : Calls Try.prog 14 #[errT o] w fun e w' => e = .returned (.int .i64 z) ∧ Below w.heap.size w w' := by
  rw [← err_same o]
  refine (estuarynum_Num.calls o z w ?_).mono ?_
  · rcases h with ⟨rfl, rfl⟩ | ⟨rfl, rfl⟩ | ⟨rfl, rfl⟩ <;> rfl
  · rintro e w' ⟨rfl, h⟩
    exact ⟨rfl, h.below⟩
set_option maxHeartbeats 4000000 in
theorem reads_calls (w : World) (A0 : Option Addr) (c0 : Nat) (b : List Int) (hC : (Kd.int .u8).C w A0 b.length b) (hc : b.length ≤ c0) (hlb : b.length ≤ 140737488355328) (hbb : Bytes b) :
  Calls Try.prog 4 #[.slice A0 b.length c0] w fun e w' => e = .returned (.bool true) ∧ Below w.heap.size w w' := by
 refine calls_flow Try.func4 rfl 39 rfl (Nat.le_of_ble_eq_true rfl) [(0, .slice A0 b.length c0)] ?_ ?_
 ·
  intro t v h; exact args_look rfl t v h
 refine wsr ?_
 refine rv (.bool false) ?_
 refine rw_end ?_
 refine w_seq ?_
 refine wsr ?_
 refine rcl (alive_calls w) ?_
 rintro e_ w1 ⟨rfl, hb2⟩
 refine ⟨_, rfl, ?_⟩
 have hs_w1 := hb2.size
 refine rs (.bool false) ?_
 refine rw_end ?_
 refine w_cond_f rfl rfl rfl ?_
 refine w_skip ?_
 refine w_seq ?_
 refine wsr ?_
 refine rv (.slice A0 b.length c0) ?_
 refine rs (.int .i64 ((b.length : Nat) : Int)) ?_
 refine rs (.bool (decide (32768 < ((b.length : Nat) : Int)))) ?_
 refine rw_end ?_
 refine w_cond rfl rfl (fun cB => ?_) (fun cB => ?_)
 ·
  have l3 : (32768 < ((b.length : Nat) : Int)) := of_decide_eq_true cB
  refine wsr ?_
  refine rv (.bool true) ?_
  refine rw_end ?_
  refine w_ret (post_ret1 rfl rfl ?_)
  exact ⟨by first | rfl | (simp_all; done), hb2⟩
 ·
  have l4 : ¬ (32768 < ((b.length : Nat) : Int)) := of_decide_eq_false cB
  refine w_skip ?_
  refine wsr ?_
  refine rv (.slice A0 b.length c0) ?_
  refine rcl (copy_calls w1 A0 c0 b (Kd.C_below hC hb2) hc (by omega)) ?_
  rintro e_ w5 ⟨A7, c8, rfl, hO90, hb6⟩
  refine ⟨_, rfl, ?_⟩
  have hs_w5 := hb6.size
  have hO9 := OwnK.lower (base' := w.heap.size) (d := (Kd.int .u8)) hO90 (by omega)
  have hfl_hO9 : (b ++ [165, 90]).length = b.length + 2 := by simp
  refine rv (.slice A7 b.length c8) ?_
  refine rw_end ?_
  refine wsr ?_
  refine rv (.slice A7 b.length c8) ?_
  rcases dec_cases b with hD_ | hD_ | ⟨n8, hD_⟩
  ·
   have hz3_ : NT.zero.nums.length ≤ 39 := Nat.zero_le _
   have hz4_ : NT.zero.ops.length ≤ 16 := Nat.zero_le _
   have hz5_ : NT.zero.ents.length ≤ 16 := Nat.zero_le _
   refine rcl (dec_x w5 A7 c8 b NT.zero (Kd.C_below (OwnK.front (d := (Kd.int .u8)) hO9) (Below.refl _ _)) (show b.length ≤ c8 by have q_ := OwnK.cap (d := (Kd.int .u8)) hO9; omega) hbb (by omega) hD_) ?_
   rintro e_ w10 ⟨A15, c16, A17, c18, A19, c20, rfl, hO120, hO130, hO140, hb11⟩
   refine ⟨_, rfl, ?_⟩
   have hs_w10 := hb11.size
   have hO12 := OwnK.lower (base' := w.heap.size) (d := (Kd.int .i64)) hO120 (by omega)
   have hO13 := OwnK.lower (base' := w.heap.size) (d := kOp) hO130 (by omega)
   have hO14 := OwnK.lower (base' := w.heap.size) (d := kEntry) hO140 (by omega)
   refine rv (.tuple #[.agg #[.int .i64 NT.zero.kind, .int .i64 NT.zero.fr, .int .i64 NT.zero.tw, .slice A15 NT.zero.nums.length c16, .slice A17 NT.zero.ops.length c18, .slice A19 NT.zero.ents.length c20], errT (some 3)]) ?_
   refine rs (.agg #[.int .i64 NT.zero.kind, .int .i64 NT.zero.fr, .int .i64 NT.zero.tw, .slice A15 NT.zero.nums.length c16, .slice A17 NT.zero.ops.length c18, .slice A19 NT.zero.ents.length c20]) ?_
   refine rs (errT (some 3)) ?_
   refine rw_new (cs := #[.int .i64 0, .int .i64 0, .int .i64 0, .slice none 0 0, .slice none 0 0, .slice none 0 0]) (t := 26) (fun g => .pointer (some ⟨g, 0, none⟩)) rfl rfl rfl rfl (by kernel_rfl) ?_
   intro g21 w22 hg26 hz25 hb23 hk24
   have hs_w22 := hb23.size
   have hb30 := hk24
   refine rsa hb30 [.int .i64 NT.zero.kind, .int .i64 NT.zero.fr, .int .i64 NT.zero.tw, .slice A15 NT.zero.nums.length c16, .slice A17 NT.zero.ops.length c18, .slice A19 NT.zero.ents.length c20] ?_
   intro w27 hk28 hk29
   have hs_w27 := hk28.size
   refine rv (errT (some 3)) ?_
   refine rw_end ?_
   refine wsr ?_
   refine rv (.slice A0 b.length c0) ?_
   ·
    refine rcl (rdec_x w27 A0 c0 b NT.zero (Kd.C_below hC (hk28.below (by omega) (chain (chain (chain hb2 hb6) hb11) hb23))) hc hbb (by omega) hD_ rfl) ?_
    rintro e_ w31 ⟨A36, c37, A38, c39, A40, c41, rfl, hO330, hO340, hO350, hb32⟩
    refine ⟨_, rfl, ?_⟩
    have hs_w31 := hb32.size
    have hO33 := OwnK.lower (base' := w.heap.size) (d := (Kd.int .i64)) hO330 (by omega)
    have hO34 := OwnK.lower (base' := w.heap.size) (d := kOp) hO340 (by omega)
    have hO35 := OwnK.lower (base' := w.heap.size) (d := kEntry) hO350 (by omega)
    refine rv (.tuple #[.agg #[.int .i64 NT.zero.kind, .int .i64 NT.zero.fr, .int .i64 NT.zero.tw, .slice A36 NT.zero.nums.length c37, .slice A38 NT.zero.ops.length c39, .slice A40 NT.zero.ents.length c41], .int .i64 3]) ?_
    refine rs (.agg #[.int .i64 NT.zero.kind, .int .i64 NT.zero.fr, .int .i64 NT.zero.tw, .slice A36 NT.zero.nums.length c37, .slice A38 NT.zero.ops.length c39, .slice A40 NT.zero.ents.length c41]) ?_
    refine rs (.int .i64 3) ?_
    refine rw_new (cs := #[.int .i64 0, .int .i64 0, .int .i64 0, .slice none 0 0, .slice none 0 0, .slice none 0 0]) (t := 26) (fun g => .pointer (some ⟨g, 0, none⟩)) rfl rfl rfl rfl (by kernel_rfl) ?_
    intro g42 w43 hg47 hz46 hb44 hk45
    have hs_w43 := hb44.size
    have hb51 := hk45
    refine rsa hb51 [.int .i64 NT.zero.kind, .int .i64 NT.zero.fr, .int .i64 NT.zero.tw, .slice A36 NT.zero.nums.length c37, .slice A38 NT.zero.ops.length c39, .slice A40 NT.zero.ents.length c41] ?_
    intro w48 hk49 hk50
    have hs_w48 := hk49.size
    refine rv (.int .i64 3) ?_
    refine rw_end ?_
    refine wsr ?_
    refine rz (.agg #[.int .i64 NT.zero.kind, .int .i64 NT.zero.fr, .int .i64 NT.zero.tw, .slice A15 NT.zero.nums.length c16, .slice A17 NT.zero.ops.length c18, .slice A19 NT.zero.ents.length c20]) (by have eb_ := (((hk29.on hb32).on hb44).keep hk49 (by omega)); have e0_ := eb_.cellv (i := 0) (v := (.int .i64 NT.zero.kind : Value)) rfl; have e1_ := eb_.cellv (i := 1) (v := (.int .i64 NT.zero.fr : Value)) rfl; have e2_ := eb_.cellv (i := 2) (v := (.int .i64 NT.zero.tw : Value)) rfl; have e3_ := eb_.cellv (i := 3) (v := (.slice A15 NT.zero.nums.length c16 : Value)) rfl; have e4_ := eb_.cellv (i := 4) (v := (.slice A17 NT.zero.ops.length c18 : Value)) rfl; have e5_ := eb_.cellv (i := 5) (v := (.slice A19 NT.zero.ents.length c20 : Value)) rfl; simp [go_sem, sEv, sLook, nbeq, i64_w, -List.getD_eq_getElem?_getD, e0_, e1_, e2_, e3_, e4_, e5_, Try.underlying26]) ?_
    refine rz (.agg #[.int .i64 NT.zero.kind, .int .i64 NT.zero.fr, .int .i64 NT.zero.tw, .slice A36 NT.zero.nums.length c37, .slice A38 NT.zero.ops.length c39, .slice A40 NT.zero.ents.length c41]) (by have eb_ := hk50; have e0_ := eb_.cellv (i := 0) (v := (.int .i64 NT.zero.kind : Value)) rfl; have e1_ := eb_.cellv (i := 1) (v := (.int .i64 NT.zero.fr : Value)) rfl; have e2_ := eb_.cellv (i := 2) (v := (.int .i64 NT.zero.tw : Value)) rfl; have e3_ := eb_.cellv (i := 3) (v := (.slice A36 NT.zero.nums.length c37 : Value)) rfl; have e4_ := eb_.cellv (i := 4) (v := (.slice A38 NT.zero.ops.length c39 : Value)) rfl; have e5_ := eb_.cellv (i := 5) (v := (.slice A40 NT.zero.ents.length c41 : Value)) rfl; simp [go_sem, sEv, sLook, nbeq, i64_w, -List.getD_eq_getElem?_getD, e0_, e1_, e2_, e3_, e4_, e5_, Try.underlying26]) ?_
    refine rcl (rsame_self w48 NT.zero A15 c16 A17 c18 A19 c20 (OwnK.C (d := (Kd.int .i64)) (own_keep (d := (Kd.int .i64)) (OwnK.on (d := (Kd.int .i64)) (OwnK.on (d := (Kd.int .i64)) (own_keep (d := (Kd.int .i64)) (OwnK.on (d := (Kd.int .i64)) hO12 hb23) hk24 (by decide) hk28) hb32) hb44) hk45 (by decide) hk49)) (OwnK.cap (d := (Kd.int .i64)) hO12) (by omega) (OwnK.C (d := kOp) (own_keep (d := kOp) (OwnK.on (d := kOp) (OwnK.on (d := kOp) (own_keep (d := kOp) (OwnK.on (d := kOp) hO13 hb23) hk24 (by decide) hk28) hb32) hb44) hk45 (by decide) hk49)) (OwnK.cap (d := kOp) hO13) (by omega) (OwnK.C (d := kEntry) (own_keep (d := kEntry) (OwnK.on (d := kEntry) (OwnK.on (d := kEntry) (own_keep (d := kEntry) (OwnK.on (d := kEntry) hO14 hb23) hk24 (by decide) hk28) hb32) hb44) hk45 (by decide) hk49)) (OwnK.cap (d := kEntry) hO14) (by omega) A36 c37 A38 c39 A40 c41 (OwnK.C (d := (Kd.int .i64)) (own_keep (d := (Kd.int .i64)) (OwnK.on (d := (Kd.int .i64)) hO33 hb44) hk45 (by decide) hk49)) (OwnK.cap (d := (Kd.int .i64)) hO33) (by omega) (OwnK.C (d := kOp) (own_keep (d := kOp) (OwnK.on (d := kOp) hO34 hb44) hk45 (by decide) hk49)) (OwnK.cap (d := kOp) hO34) (by omega) (OwnK.C (d := kEntry) (own_keep (d := kEntry) (OwnK.on (d := kEntry) hO35 hb44) hk45 (by decide) hk49)) (OwnK.cap (d := kEntry) hO35) (by omega)) ?_
    rintro e_ w52 ⟨rfl, hb53⟩
    refine ⟨_, rfl, ?_⟩
    have hs_w52 := hb53.size
    refine rv (.bool true) ?_
    refine rn true ?_
    refine rv (errT (some 3)) ?_
    refine rn true ?_
    refine rw_call rfl rfl rfl rfl (f := 14) (args := #[errT (some 3)]) (by simp [go_sem, sEv, sLook, nbeq, i64_w, -List.getD_eq_getElem?_getD]) (num_y w52 (some 3) 3 (.inr (.inl ⟨rfl, rfl⟩))) ?_
    rintro e_ w54 ⟨rfl, hb55⟩
    refine ⟨_, rfl, ?_⟩
    have hs_w54 := hb55.size
    refine rn true ?_
    refine rv (.int .i64 3) ?_
    refine rn true ?_
    refine rs (.bool true) ?_
    refine rs (.bool true) ?_
    refine rv (.bool true) ?_
    refine rn true ?_
    refine rv (.slice A7 b.length c8) ?_
    refine rn true ?_
    refine rv (.slice A0 b.length c0) ?_
    refine rn true ?_
    refine rcl (kept_calls w54 A7 A0 c8 c0 b (by have q_ := OwnK.C (d := (Kd.int .u8)) (OwnK.on (d := (Kd.int .u8)) (OwnK.on (d := (Kd.int .u8)) (own_keep (d := (Kd.int .u8)) (OwnK.on (d := (Kd.int .u8)) (OwnK.on (d := (Kd.int .u8)) (own_keep (d := (Kd.int .u8)) (OwnK.on (d := (Kd.int .u8)) (OwnK.on (d := (Kd.int .u8)) hO9 hb11) hb23) hk24 (by decide) hk28) hb32) hb44) hk45 (by decide) hk49) hb53) hb55); first | exact q_ | (rw [hfl_hO9] at q_; exact q_)) (OwnK.front (d := (Kd.int .u8)) (OwnK.on (d := (Kd.int .u8)) (OwnK.on (d := (Kd.int .u8)) (own_keep (d := (Kd.int .u8)) (OwnK.on (d := (Kd.int .u8)) (OwnK.on (d := (Kd.int .u8)) (own_keep (d := (Kd.int .u8)) (OwnK.on (d := (Kd.int .u8)) (OwnK.on (d := (Kd.int .u8)) hO9 hb11) hb23) hk24 (by decide) hk28) hb32) hb44) hk45 (by decide) hk49) hb53) hb55)) (by have q_ := OwnK.cap (d := (Kd.int .u8)) (OwnK.on (d := (Kd.int .u8)) (OwnK.on (d := (Kd.int .u8)) (own_keep (d := (Kd.int .u8)) (OwnK.on (d := (Kd.int .u8)) (OwnK.on (d := (Kd.int .u8)) (own_keep (d := (Kd.int .u8)) (OwnK.on (d := (Kd.int .u8)) (OwnK.on (d := (Kd.int .u8)) hO9 hb11) hb23) hk24 (by decide) hk28) hb32) hb44) hk45 (by decide) hk49) hb53) hb55); omega) (by have q_ := OwnK.cap (d := (Kd.int .u8)) (OwnK.on (d := (Kd.int .u8)) (OwnK.on (d := (Kd.int .u8)) (own_keep (d := (Kd.int .u8)) (OwnK.on (d := (Kd.int .u8)) (OwnK.on (d := (Kd.int .u8)) (own_keep (d := (Kd.int .u8)) (OwnK.on (d := (Kd.int .u8)) (OwnK.on (d := (Kd.int .u8)) hO9 hb11) hb23) hk24 (by decide) hk28) hb32) hb44) hk45 (by decide) hk49) hb53) hb55); omega) (Kd.C_below hC (chain (chain (hk49.below (by omega) (chain (chain (hk28.below (by omega) (chain (chain (chain hb2 hb6) hb11) hb23)) hb32) hb44)) hb53) hb55)) hc (by omega)) ?_
    rintro e_ w56 ⟨rfl, hb57⟩
    refine ⟨_, rfl, ?_⟩
    have hs_w56 := hb57.size
    refine rs (.bool true) ?_
    refine rv (.bool true) ?_
    refine rw_end ?_
    refine w_ret (post_ret1 rfl rfl ?_)
    exact ⟨by first | rfl | (simp_all; done), (chain (chain (chain (hk49.below (by omega) (chain (chain (hk28.below (by omega) (chain (chain (chain hb2 hb6) hb11) hb23)) hb32) hb44)) hb53) hb55) hb57)⟩
  ·
   have hz3_ : NT.zero.nums.length ≤ 39 := Nat.zero_le _
   have hz4_ : NT.zero.ops.length ≤ 16 := Nat.zero_le _
   have hz5_ : NT.zero.ents.length ≤ 16 := Nat.zero_le _
   refine rcl (dec_x w5 A7 c8 b NT.zero (Kd.C_below (OwnK.front (d := (Kd.int .u8)) hO9) (Below.refl _ _)) (show b.length ≤ c8 by have q_ := OwnK.cap (d := (Kd.int .u8)) hO9; omega) hbb (by omega) hD_) ?_
   rintro e_ w58 ⟨A63, c64, A65, c66, A67, c68, rfl, hO600, hO610, hO620, hb59⟩
   refine ⟨_, rfl, ?_⟩
   have hs_w58 := hb59.size
   have hO60 := OwnK.lower (base' := w.heap.size) (d := (Kd.int .i64)) hO600 (by omega)
   have hO61 := OwnK.lower (base' := w.heap.size) (d := kOp) hO610 (by omega)
   have hO62 := OwnK.lower (base' := w.heap.size) (d := kEntry) hO620 (by omega)
   refine rv (.tuple #[.agg #[.int .i64 NT.zero.kind, .int .i64 NT.zero.fr, .int .i64 NT.zero.tw, .slice A63 NT.zero.nums.length c64, .slice A65 NT.zero.ops.length c66, .slice A67 NT.zero.ents.length c68], errT (some 4)]) ?_
   refine rs (.agg #[.int .i64 NT.zero.kind, .int .i64 NT.zero.fr, .int .i64 NT.zero.tw, .slice A63 NT.zero.nums.length c64, .slice A65 NT.zero.ops.length c66, .slice A67 NT.zero.ents.length c68]) ?_
   refine rs (errT (some 4)) ?_
   refine rw_new (cs := #[.int .i64 0, .int .i64 0, .int .i64 0, .slice none 0 0, .slice none 0 0, .slice none 0 0]) (t := 26) (fun g => .pointer (some ⟨g, 0, none⟩)) rfl rfl rfl rfl (by kernel_rfl) ?_
   intro g69 w70 hg74 hz73 hb71 hk72
   have hs_w70 := hb71.size
   have hb78 := hk72
   refine rsa hb78 [.int .i64 NT.zero.kind, .int .i64 NT.zero.fr, .int .i64 NT.zero.tw, .slice A63 NT.zero.nums.length c64, .slice A65 NT.zero.ops.length c66, .slice A67 NT.zero.ents.length c68] ?_
   intro w75 hk76 hk77
   have hs_w75 := hk76.size
   refine rv (errT (some 4)) ?_
   refine rw_end ?_
   refine wsr ?_
   refine rv (.slice A0 b.length c0) ?_
   ·
    refine rcl (rdec_x w75 A0 c0 b NT.zero (Kd.C_below hC (hk76.below (by omega) (chain (chain (chain hb2 hb6) hb59) hb71))) hc hbb (by omega) hD_ rfl) ?_
    rintro e_ w79 ⟨A84, c85, A86, c87, A88, c89, rfl, hO810, hO820, hO830, hb80⟩
    refine ⟨_, rfl, ?_⟩
    have hs_w79 := hb80.size
    have hO81 := OwnK.lower (base' := w.heap.size) (d := (Kd.int .i64)) hO810 (by omega)
    have hO82 := OwnK.lower (base' := w.heap.size) (d := kOp) hO820 (by omega)
    have hO83 := OwnK.lower (base' := w.heap.size) (d := kEntry) hO830 (by omega)
    refine rv (.tuple #[.agg #[.int .i64 NT.zero.kind, .int .i64 NT.zero.fr, .int .i64 NT.zero.tw, .slice A84 NT.zero.nums.length c85, .slice A86 NT.zero.ops.length c87, .slice A88 NT.zero.ents.length c89], .int .i64 4]) ?_
    refine rs (.agg #[.int .i64 NT.zero.kind, .int .i64 NT.zero.fr, .int .i64 NT.zero.tw, .slice A84 NT.zero.nums.length c85, .slice A86 NT.zero.ops.length c87, .slice A88 NT.zero.ents.length c89]) ?_
    refine rs (.int .i64 4) ?_
    refine rw_new (cs := #[.int .i64 0, .int .i64 0, .int .i64 0, .slice none 0 0, .slice none 0 0, .slice none 0 0]) (t := 26) (fun g => .pointer (some ⟨g, 0, none⟩)) rfl rfl rfl rfl (by kernel_rfl) ?_
    intro g90 w91 hg95 hz94 hb92 hk93
    have hs_w91 := hb92.size
    have hb99 := hk93
    refine rsa hb99 [.int .i64 NT.zero.kind, .int .i64 NT.zero.fr, .int .i64 NT.zero.tw, .slice A84 NT.zero.nums.length c85, .slice A86 NT.zero.ops.length c87, .slice A88 NT.zero.ents.length c89] ?_
    intro w96 hk97 hk98
    have hs_w96 := hk97.size
    refine rv (.int .i64 4) ?_
    refine rw_end ?_
    refine wsr ?_
    refine rz (.agg #[.int .i64 NT.zero.kind, .int .i64 NT.zero.fr, .int .i64 NT.zero.tw, .slice A63 NT.zero.nums.length c64, .slice A65 NT.zero.ops.length c66, .slice A67 NT.zero.ents.length c68]) (by have eb_ := (((hk77.on hb80).on hb92).keep hk97 (by omega)); have e0_ := eb_.cellv (i := 0) (v := (.int .i64 NT.zero.kind : Value)) rfl; have e1_ := eb_.cellv (i := 1) (v := (.int .i64 NT.zero.fr : Value)) rfl; have e2_ := eb_.cellv (i := 2) (v := (.int .i64 NT.zero.tw : Value)) rfl; have e3_ := eb_.cellv (i := 3) (v := (.slice A63 NT.zero.nums.length c64 : Value)) rfl; have e4_ := eb_.cellv (i := 4) (v := (.slice A65 NT.zero.ops.length c66 : Value)) rfl; have e5_ := eb_.cellv (i := 5) (v := (.slice A67 NT.zero.ents.length c68 : Value)) rfl; simp [go_sem, sEv, sLook, nbeq, i64_w, -List.getD_eq_getElem?_getD, e0_, e1_, e2_, e3_, e4_, e5_, Try.underlying26]) ?_
    refine rz (.agg #[.int .i64 NT.zero.kind, .int .i64 NT.zero.fr, .int .i64 NT.zero.tw, .slice A84 NT.zero.nums.length c85, .slice A86 NT.zero.ops.length c87, .slice A88 NT.zero.ents.length c89]) (by have eb_ := hk98; have e0_ := eb_.cellv (i := 0) (v := (.int .i64 NT.zero.kind : Value)) rfl; have e1_ := eb_.cellv (i := 1) (v := (.int .i64 NT.zero.fr : Value)) rfl; have e2_ := eb_.cellv (i := 2) (v := (.int .i64 NT.zero.tw : Value)) rfl; have e3_ := eb_.cellv (i := 3) (v := (.slice A84 NT.zero.nums.length c85 : Value)) rfl; have e4_ := eb_.cellv (i := 4) (v := (.slice A86 NT.zero.ops.length c87 : Value)) rfl; have e5_ := eb_.cellv (i := 5) (v := (.slice A88 NT.zero.ents.length c89 : Value)) rfl; simp [go_sem, sEv, sLook, nbeq, i64_w, -List.getD_eq_getElem?_getD, e0_, e1_, e2_, e3_, e4_, e5_, Try.underlying26]) ?_
    refine rcl (rsame_self w96 NT.zero A63 c64 A65 c66 A67 c68 (OwnK.C (d := (Kd.int .i64)) (own_keep (d := (Kd.int .i64)) (OwnK.on (d := (Kd.int .i64)) (OwnK.on (d := (Kd.int .i64)) (own_keep (d := (Kd.int .i64)) (OwnK.on (d := (Kd.int .i64)) hO60 hb71) hk72 (by decide) hk76) hb80) hb92) hk93 (by decide) hk97)) (OwnK.cap (d := (Kd.int .i64)) hO60) (by omega) (OwnK.C (d := kOp) (own_keep (d := kOp) (OwnK.on (d := kOp) (OwnK.on (d := kOp) (own_keep (d := kOp) (OwnK.on (d := kOp) hO61 hb71) hk72 (by decide) hk76) hb80) hb92) hk93 (by decide) hk97)) (OwnK.cap (d := kOp) hO61) (by omega) (OwnK.C (d := kEntry) (own_keep (d := kEntry) (OwnK.on (d := kEntry) (OwnK.on (d := kEntry) (own_keep (d := kEntry) (OwnK.on (d := kEntry) hO62 hb71) hk72 (by decide) hk76) hb80) hb92) hk93 (by decide) hk97)) (OwnK.cap (d := kEntry) hO62) (by omega) A84 c85 A86 c87 A88 c89 (OwnK.C (d := (Kd.int .i64)) (own_keep (d := (Kd.int .i64)) (OwnK.on (d := (Kd.int .i64)) hO81 hb92) hk93 (by decide) hk97)) (OwnK.cap (d := (Kd.int .i64)) hO81) (by omega) (OwnK.C (d := kOp) (own_keep (d := kOp) (OwnK.on (d := kOp) hO82 hb92) hk93 (by decide) hk97)) (OwnK.cap (d := kOp) hO82) (by omega) (OwnK.C (d := kEntry) (own_keep (d := kEntry) (OwnK.on (d := kEntry) hO83 hb92) hk93 (by decide) hk97)) (OwnK.cap (d := kEntry) hO83) (by omega)) ?_
    rintro e_ w100 ⟨rfl, hb101⟩
    refine ⟨_, rfl, ?_⟩
    have hs_w100 := hb101.size
    refine rv (.bool true) ?_
    refine rn true ?_
    refine rv (errT (some 4)) ?_
    refine rn true ?_
    refine rw_call rfl rfl rfl rfl (f := 14) (args := #[errT (some 4)]) (by simp [go_sem, sEv, sLook, nbeq, i64_w, -List.getD_eq_getElem?_getD]) (num_y w100 (some 4) 4 (.inr (.inr ⟨rfl, rfl⟩))) ?_
    rintro e_ w102 ⟨rfl, hb103⟩
    refine ⟨_, rfl, ?_⟩
    have hs_w102 := hb103.size
    refine rn true ?_
    refine rv (.int .i64 4) ?_
    refine rn true ?_
    refine rs (.bool true) ?_
    refine rs (.bool true) ?_
    refine rv (.bool true) ?_
    refine rn true ?_
    refine rv (.slice A7 b.length c8) ?_
    refine rn true ?_
    refine rv (.slice A0 b.length c0) ?_
    refine rn true ?_
    refine rcl (kept_calls w102 A7 A0 c8 c0 b (by have q_ := OwnK.C (d := (Kd.int .u8)) (OwnK.on (d := (Kd.int .u8)) (OwnK.on (d := (Kd.int .u8)) (own_keep (d := (Kd.int .u8)) (OwnK.on (d := (Kd.int .u8)) (OwnK.on (d := (Kd.int .u8)) (own_keep (d := (Kd.int .u8)) (OwnK.on (d := (Kd.int .u8)) (OwnK.on (d := (Kd.int .u8)) hO9 hb59) hb71) hk72 (by decide) hk76) hb80) hb92) hk93 (by decide) hk97) hb101) hb103); first | exact q_ | (rw [hfl_hO9] at q_; exact q_)) (OwnK.front (d := (Kd.int .u8)) (OwnK.on (d := (Kd.int .u8)) (OwnK.on (d := (Kd.int .u8)) (own_keep (d := (Kd.int .u8)) (OwnK.on (d := (Kd.int .u8)) (OwnK.on (d := (Kd.int .u8)) (own_keep (d := (Kd.int .u8)) (OwnK.on (d := (Kd.int .u8)) (OwnK.on (d := (Kd.int .u8)) hO9 hb59) hb71) hk72 (by decide) hk76) hb80) hb92) hk93 (by decide) hk97) hb101) hb103)) (by have q_ := OwnK.cap (d := (Kd.int .u8)) (OwnK.on (d := (Kd.int .u8)) (OwnK.on (d := (Kd.int .u8)) (own_keep (d := (Kd.int .u8)) (OwnK.on (d := (Kd.int .u8)) (OwnK.on (d := (Kd.int .u8)) (own_keep (d := (Kd.int .u8)) (OwnK.on (d := (Kd.int .u8)) (OwnK.on (d := (Kd.int .u8)) hO9 hb59) hb71) hk72 (by decide) hk76) hb80) hb92) hk93 (by decide) hk97) hb101) hb103); omega) (by have q_ := OwnK.cap (d := (Kd.int .u8)) (OwnK.on (d := (Kd.int .u8)) (OwnK.on (d := (Kd.int .u8)) (own_keep (d := (Kd.int .u8)) (OwnK.on (d := (Kd.int .u8)) (OwnK.on (d := (Kd.int .u8)) (own_keep (d := (Kd.int .u8)) (OwnK.on (d := (Kd.int .u8)) (OwnK.on (d := (Kd.int .u8)) hO9 hb59) hb71) hk72 (by decide) hk76) hb80) hb92) hk93 (by decide) hk97) hb101) hb103); omega) (Kd.C_below hC (chain (chain (hk97.below (by omega) (chain (chain (hk76.below (by omega) (chain (chain (chain hb2 hb6) hb59) hb71)) hb80) hb92)) hb101) hb103)) hc (by omega)) ?_
    rintro e_ w104 ⟨rfl, hb105⟩
    refine ⟨_, rfl, ?_⟩
    have hs_w104 := hb105.size
    refine rs (.bool true) ?_
    refine rv (.bool true) ?_
    refine rw_end ?_
    refine w_ret (post_ret1 rfl rfl ?_)
    exact ⟨by first | rfl | (simp_all; done), (chain (chain (chain (hk97.below (by omega) (chain (chain (hk76.below (by omega) (chain (chain (chain hb2 hb6) hb59) hb71)) hb80) hb92)) hb101) hb103) hb105)⟩
  ·
   obtain ⟨hz3_, hz4_, hz5_⟩ := good_sz (enc_dec hbb hD_).1
   refine rcl (dec_x w5 A7 c8 b n8 (Kd.C_below (OwnK.front (d := (Kd.int .u8)) hO9) (Below.refl _ _)) (show b.length ≤ c8 by have q_ := OwnK.cap (d := (Kd.int .u8)) hO9; omega) hbb (by omega) hD_) ?_
   rintro e_ w106 ⟨A111, c112, A113, c114, A115, c116, rfl, hO1080, hO1090, hO1100, hb107⟩
   refine ⟨_, rfl, ?_⟩
   have hs_w106 := hb107.size
   have hO108 := OwnK.lower (base' := w.heap.size) (d := (Kd.int .i64)) hO1080 (by omega)
   have hO109 := OwnK.lower (base' := w.heap.size) (d := kOp) hO1090 (by omega)
   have hO110 := OwnK.lower (base' := w.heap.size) (d := kEntry) hO1100 (by omega)
   refine rv (.tuple #[.agg #[.int .i64 n8.kind, .int .i64 n8.fr, .int .i64 n8.tw, .slice A111 n8.nums.length c112, .slice A113 n8.ops.length c114, .slice A115 n8.ents.length c116], .nilIface]) ?_
   refine rs (.agg #[.int .i64 n8.kind, .int .i64 n8.fr, .int .i64 n8.tw, .slice A111 n8.nums.length c112, .slice A113 n8.ops.length c114, .slice A115 n8.ents.length c116]) ?_
   refine rs .nilIface ?_
   refine rw_new (cs := #[.int .i64 0, .int .i64 0, .int .i64 0, .slice none 0 0, .slice none 0 0, .slice none 0 0]) (t := 26) (fun g => .pointer (some ⟨g, 0, none⟩)) rfl rfl rfl rfl (by kernel_rfl) ?_
   intro g117 w118 hg122 hz121 hb119 hk120
   have hs_w118 := hb119.size
   have hb126 := hk120
   refine rsa hb126 [.int .i64 n8.kind, .int .i64 n8.fr, .int .i64 n8.tw, .slice A111 n8.nums.length c112, .slice A113 n8.ops.length c114, .slice A115 n8.ents.length c116] ?_
   intro w123 hk124 hk125
   have hs_w123 := hk124.size
   refine rv .nilIface ?_
   refine rw_end ?_
   refine wsr ?_
   refine rv (.slice A0 b.length c0) ?_
   ·
    refine rcl (rdec_x w123 A0 c0 b n8 (Kd.C_below hC (hk124.below (by omega) (chain (chain (chain hb2 hb6) hb107) hb119))) hc hbb (by omega) hD_ rfl) ?_
    rintro e_ w127 ⟨A132, c133, A134, c135, A136, c137, rfl, hO1290, hO1300, hO1310, hb128⟩
    refine ⟨_, rfl, ?_⟩
    have hs_w127 := hb128.size
    have hO129 := OwnK.lower (base' := w.heap.size) (d := (Kd.int .i64)) hO1290 (by omega)
    have hO130 := OwnK.lower (base' := w.heap.size) (d := kOp) hO1300 (by omega)
    have hO131 := OwnK.lower (base' := w.heap.size) (d := kEntry) hO1310 (by omega)
    refine rv (.tuple #[.agg #[.int .i64 n8.kind, .int .i64 n8.fr, .int .i64 n8.tw, .slice A132 n8.nums.length c133, .slice A134 n8.ops.length c135, .slice A136 n8.ents.length c137], .int .i64 0]) ?_
    refine rs (.agg #[.int .i64 n8.kind, .int .i64 n8.fr, .int .i64 n8.tw, .slice A132 n8.nums.length c133, .slice A134 n8.ops.length c135, .slice A136 n8.ents.length c137]) ?_
    refine rs (.int .i64 0) ?_
    refine rw_new (cs := #[.int .i64 0, .int .i64 0, .int .i64 0, .slice none 0 0, .slice none 0 0, .slice none 0 0]) (t := 26) (fun g => .pointer (some ⟨g, 0, none⟩)) rfl rfl rfl rfl (by kernel_rfl) ?_
    intro g138 w139 hg143 hz142 hb140 hk141
    have hs_w139 := hb140.size
    have hb147 := hk141
    refine rsa hb147 [.int .i64 n8.kind, .int .i64 n8.fr, .int .i64 n8.tw, .slice A132 n8.nums.length c133, .slice A134 n8.ops.length c135, .slice A136 n8.ents.length c137] ?_
    intro w144 hk145 hk146
    have hs_w144 := hk145.size
    refine rv (.int .i64 0) ?_
    refine rw_end ?_
    refine wsr ?_
    refine rz (.agg #[.int .i64 n8.kind, .int .i64 n8.fr, .int .i64 n8.tw, .slice A111 n8.nums.length c112, .slice A113 n8.ops.length c114, .slice A115 n8.ents.length c116]) (by have eb_ := (((hk125.on hb128).on hb140).keep hk145 (by omega)); have e0_ := eb_.cellv (i := 0) (v := (.int .i64 n8.kind : Value)) rfl; have e1_ := eb_.cellv (i := 1) (v := (.int .i64 n8.fr : Value)) rfl; have e2_ := eb_.cellv (i := 2) (v := (.int .i64 n8.tw : Value)) rfl; have e3_ := eb_.cellv (i := 3) (v := (.slice A111 n8.nums.length c112 : Value)) rfl; have e4_ := eb_.cellv (i := 4) (v := (.slice A113 n8.ops.length c114 : Value)) rfl; have e5_ := eb_.cellv (i := 5) (v := (.slice A115 n8.ents.length c116 : Value)) rfl; simp [go_sem, sEv, sLook, nbeq, i64_w, -List.getD_eq_getElem?_getD, e0_, e1_, e2_, e3_, e4_, e5_, Try.underlying26]) ?_
    refine rz (.agg #[.int .i64 n8.kind, .int .i64 n8.fr, .int .i64 n8.tw, .slice A132 n8.nums.length c133, .slice A134 n8.ops.length c135, .slice A136 n8.ents.length c137]) (by have eb_ := hk146; have e0_ := eb_.cellv (i := 0) (v := (.int .i64 n8.kind : Value)) rfl; have e1_ := eb_.cellv (i := 1) (v := (.int .i64 n8.fr : Value)) rfl; have e2_ := eb_.cellv (i := 2) (v := (.int .i64 n8.tw : Value)) rfl; have e3_ := eb_.cellv (i := 3) (v := (.slice A132 n8.nums.length c133 : Value)) rfl; have e4_ := eb_.cellv (i := 4) (v := (.slice A134 n8.ops.length c135 : Value)) rfl; have e5_ := eb_.cellv (i := 5) (v := (.slice A136 n8.ents.length c137 : Value)) rfl; simp [go_sem, sEv, sLook, nbeq, i64_w, -List.getD_eq_getElem?_getD, e0_, e1_, e2_, e3_, e4_, e5_, Try.underlying26]) ?_
    refine rcl (rsame_self w144 n8 A111 c112 A113 c114 A115 c116 (OwnK.C (d := (Kd.int .i64)) (own_keep (d := (Kd.int .i64)) (OwnK.on (d := (Kd.int .i64)) (OwnK.on (d := (Kd.int .i64)) (own_keep (d := (Kd.int .i64)) (OwnK.on (d := (Kd.int .i64)) hO108 hb119) hk120 (by decide) hk124) hb128) hb140) hk141 (by decide) hk145)) (OwnK.cap (d := (Kd.int .i64)) hO108) (by omega) (OwnK.C (d := kOp) (own_keep (d := kOp) (OwnK.on (d := kOp) (OwnK.on (d := kOp) (own_keep (d := kOp) (OwnK.on (d := kOp) hO109 hb119) hk120 (by decide) hk124) hb128) hb140) hk141 (by decide) hk145)) (OwnK.cap (d := kOp) hO109) (by omega) (OwnK.C (d := kEntry) (own_keep (d := kEntry) (OwnK.on (d := kEntry) (OwnK.on (d := kEntry) (own_keep (d := kEntry) (OwnK.on (d := kEntry) hO110 hb119) hk120 (by decide) hk124) hb128) hb140) hk141 (by decide) hk145)) (OwnK.cap (d := kEntry) hO110) (by omega) A132 c133 A134 c135 A136 c137 (OwnK.C (d := (Kd.int .i64)) (own_keep (d := (Kd.int .i64)) (OwnK.on (d := (Kd.int .i64)) hO129 hb140) hk141 (by decide) hk145)) (OwnK.cap (d := (Kd.int .i64)) hO129) (by omega) (OwnK.C (d := kOp) (own_keep (d := kOp) (OwnK.on (d := kOp) hO130 hb140) hk141 (by decide) hk145)) (OwnK.cap (d := kOp) hO130) (by omega) (OwnK.C (d := kEntry) (own_keep (d := kEntry) (OwnK.on (d := kEntry) hO131 hb140) hk141 (by decide) hk145)) (OwnK.cap (d := kEntry) hO131) (by omega)) ?_
    rintro e_ w148 ⟨rfl, hb149⟩
    refine ⟨_, rfl, ?_⟩
    have hs_w148 := hb149.size
    refine rv (.bool true) ?_
    refine rn true ?_
    refine rv .nilIface ?_
    refine rn true ?_
    refine rw_call rfl rfl rfl rfl (f := 14) (args := #[.nilIface]) (by simp [go_sem, sEv, sLook, nbeq, i64_w, -List.getD_eq_getElem?_getD]) (num_y w148 none 0 (.inl ⟨rfl, rfl⟩)) ?_
    rintro e_ w150 ⟨rfl, hb151⟩
    refine ⟨_, rfl, ?_⟩
    have hs_w150 := hb151.size
    refine rn true ?_
    refine rv (.int .i64 0) ?_
    refine rn true ?_
    refine rs (.bool true) ?_
    refine rs (.bool true) ?_
    refine rv (.bool true) ?_
    refine rn true ?_
    refine rv (.slice A7 b.length c8) ?_
    refine rn true ?_
    refine rv (.slice A0 b.length c0) ?_
    refine rn true ?_
    refine rcl (kept_calls w150 A7 A0 c8 c0 b (by have q_ := OwnK.C (d := (Kd.int .u8)) (OwnK.on (d := (Kd.int .u8)) (OwnK.on (d := (Kd.int .u8)) (own_keep (d := (Kd.int .u8)) (OwnK.on (d := (Kd.int .u8)) (OwnK.on (d := (Kd.int .u8)) (own_keep (d := (Kd.int .u8)) (OwnK.on (d := (Kd.int .u8)) (OwnK.on (d := (Kd.int .u8)) hO9 hb107) hb119) hk120 (by decide) hk124) hb128) hb140) hk141 (by decide) hk145) hb149) hb151); first | exact q_ | (rw [hfl_hO9] at q_; exact q_)) (OwnK.front (d := (Kd.int .u8)) (OwnK.on (d := (Kd.int .u8)) (OwnK.on (d := (Kd.int .u8)) (own_keep (d := (Kd.int .u8)) (OwnK.on (d := (Kd.int .u8)) (OwnK.on (d := (Kd.int .u8)) (own_keep (d := (Kd.int .u8)) (OwnK.on (d := (Kd.int .u8)) (OwnK.on (d := (Kd.int .u8)) hO9 hb107) hb119) hk120 (by decide) hk124) hb128) hb140) hk141 (by decide) hk145) hb149) hb151)) (by have q_ := OwnK.cap (d := (Kd.int .u8)) (OwnK.on (d := (Kd.int .u8)) (OwnK.on (d := (Kd.int .u8)) (own_keep (d := (Kd.int .u8)) (OwnK.on (d := (Kd.int .u8)) (OwnK.on (d := (Kd.int .u8)) (own_keep (d := (Kd.int .u8)) (OwnK.on (d := (Kd.int .u8)) (OwnK.on (d := (Kd.int .u8)) hO9 hb107) hb119) hk120 (by decide) hk124) hb128) hb140) hk141 (by decide) hk145) hb149) hb151); omega) (by have q_ := OwnK.cap (d := (Kd.int .u8)) (OwnK.on (d := (Kd.int .u8)) (OwnK.on (d := (Kd.int .u8)) (own_keep (d := (Kd.int .u8)) (OwnK.on (d := (Kd.int .u8)) (OwnK.on (d := (Kd.int .u8)) (own_keep (d := (Kd.int .u8)) (OwnK.on (d := (Kd.int .u8)) (OwnK.on (d := (Kd.int .u8)) hO9 hb107) hb119) hk120 (by decide) hk124) hb128) hb140) hk141 (by decide) hk145) hb149) hb151); omega) (Kd.C_below hC (chain (chain (hk145.below (by omega) (chain (chain (hk124.below (by omega) (chain (chain (chain hb2 hb6) hb107) hb119)) hb128) hb140)) hb149) hb151)) hc (by omega)) ?_
    rintro e_ w152 ⟨rfl, hb153⟩
    refine ⟨_, rfl, ?_⟩
    have hs_w152 := hb153.size
    refine rs (.bool true) ?_
    refine rv (.bool true) ?_
    refine rw_end ?_
    refine w_ret (post_ret1 rfl rfl ?_)
    exact ⟨by first | rfl | (simp_all; done), (chain (chain (chain (hk145.below (by omega) (chain (chain (hk124.below (by omega) (chain (chain (chain hb2 hb6) hb107) hb119)) hb128) hb140)) hb149) hb151) hb153)⟩
end Go.Proofs.Ytbbhdohjhipalaa.Ce
end
