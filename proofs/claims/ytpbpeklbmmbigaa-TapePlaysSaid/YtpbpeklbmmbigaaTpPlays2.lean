/- One call by both. -/
import Derived.Test.YtpbpeklbmmbigaaTpPlay
import Derived.Test.YtpbpeklbmmbigaaTpPlays1
namespace Go.Proofs.Ytpbpeklbmmbigaa.Tp
open Go.RowKit Go.Proofs.YtpbpeklbmmbigaaW.PrintWords Go.Proofs.YtpbpeklbmmbigaaW.PrintLast Go.Proofs.YtpbpeklbmmbigaaW.PrintMore
open Go.Proofs.Ytpbpeklbmmbigaa.Flow
set_option linter.unusedVariables false
set_option linter.unusedSimpArgs false

set_option maxHeartbeats 4000000 in
theorem play_calls (w0 w : World) (g m u : Nat) (s : TS) (r : RS) (hT : TapeAt w0 w g m (fun q => q = u) s) (hok : s.Ok) (h9 : s.steps ≤ 999999990) (hrel : Rel s r) (hbu : Blk w u 51 (rcells r)) (hug : u ≠ g) (hu0 : w0.heap.size ≤ u) (hst : 0 ≤ r.st ∧ r.st ≤ 999999999) (hl : 0 ≤ r.l ∧ r.l ≤ 9223372036854775807) (hu_ : 0 ≤ r.u ∧ r.u ≤ 9223372036854775807) (hn : r.S.length + r.R.length ≤ 1048576) (hz : w0.heap.size ≤ g ∧ g < m ∧ m ≤ w.heap.size) (hs_w : w0.heap.size ≤ w.heap.size) (hlu : u < w.heap.size) (kd : Int) (A1 : Option Addr) (c1 : Nat) (bs : List Int) (nn : Int) (hbs : (Kd.int .u8).C w0 A1 bs.length bs) (hcb : bs.length ≤ c1) (hbl : bs.length ≤ 16384) (hnn : nn ≤ 9223372036854775807) :
    Calls Try.prog 26 #[.pointer (some ⟨g, 0, none⟩), .pointer (some ⟨u, 0, none⟩), .agg #[.int .i64 kd, .slice A1 bs.length c1, .int .i64 nn]] w fun e w' => e = .returned (.bool true) ∧ Kept w w' (fun q => q = u ∨ SX g m (fun q => q = u) q) ∧ (∃ m', TapeAt w0 w' g m' (fun q => q = u) (s.play kd bs nn)) ∧ Blk w' u 51 (rcells (r.play kd bs nn)) := by
  refine calls_flow Try.func26 rfl 127 rfl (Nat.le_of_ble_eq_true rfl) [(0, .pointer (some ⟨g, 0, none⟩)), (1, .pointer (some ⟨u, 0, none⟩)), (2, .agg #[.int .i64 kd, .slice A1 bs.length c1, .int .i64 nn])] ?_ ?_
  · intro t v h; exact args_look rfl t v h
  refine w_seq ?_
  refine w_region ?_
  refine rw_new (cs := #[.int .i64 kd, .slice A1 bs.length c1, .int .i64 nn]) (t := 53) (fun g => .pointer (some ⟨g, 0, none⟩)) rfl rfl rfl rfl (by simp [go_sem, sEv, sLook, nbeq, i64_w, -List.getD_eq_getElem?_getD]) ?_
  intro g1 w2 hg6 hz5 hb3 hk4
  have hs_w2 := hb3.size
  refine rw_val (v := .bool false) (w' := w2) rfl rfl rfl rfl rfl ?_
  refine rw_end ?_
  refine w_seq ?_
  refine w_region ?_
  refine rw_val (v := .pointer (some ⟨g1, 1, none⟩)) (w' := w2) rfl rfl rfl rfl (by simp [go_sem, sEv, sLook, nbeq, i64_w, -List.getD_eq_getElem?_getD, Try.underlying53]) ?_
  refine rw_val (v := .slice A1 bs.length c1) (w' := w2) rfl rfl rfl rfl (by have eb_ := hk4; have e0_ := eb_.cellv (i := 1) (v := (.slice A1 bs.length c1 : Value)) rfl; simp [go_sem, sEv, sLook, nbeq, i64_w, -List.getD_eq_getElem?_getD, e0_, Try.underlying27]) ?_
  refine rw_call rfl rfl rfl rfl (f := 31) (args := #[.slice A1 bs.length c1]) (by simp [go_sem, sEv, sLook, nbeq, i64_w, -List.getD_eq_getElem?_getD]) (copyB w2 A1 c1 bs (Kd.C_below hbs (chain hT.1 hb3)) hcb (by omega)) ?_
  rintro e_ w10 ⟨gc7, cs8, c9, rfl, hge11, hb12, hN13, hc14, hcs15, hB16⟩
  refine ⟨_, rfl, ?_⟩
  have hs_w10 := hB16.size
  have hlt_gc7 := hb12.lt
  refine rw_val (v := .slice (some ⟨gc7, 0, none⟩) bs.length c9) (w' := w10) rfl rfl rfl rfl rfl ?_
  refine rw_end ?_
  refine w_weaken (G' := [(0, .pointer (some ⟨g, 0, none⟩)), (1, .pointer (some ⟨u, 0, none⟩)), (5, .pointer (some ⟨g1, 0, none⟩)), (6, .bool false), (7, .slice (some ⟨gc7, 0, none⟩) bs.length c9)]) ⟨rfl, rfl, rfl, rfl, rfl, trivial⟩ ?_
  refine w_seq ?_
  refine w_region ?_
  refine rw_val (v := .bool true) (w' := w10) rfl rfl rfl rfl rfl ?_
  refine rw_end ?_
  refine w_seq ?_
  refine w_seq ?_
  refine w_region ?_
  refine rw_val (v := .pointer (some ⟨g1, 0, none⟩)) (w' := w10) rfl rfl rfl rfl (by simp [go_sem, sEv, sLook, nbeq, i64_w, -List.getD_eq_getElem?_getD, Try.underlying53]) ?_
  refine rw_val (v := .int .i64 kd) (w' := w10) rfl rfl rfl rfl (by have eb_ := (hk4.on hB16); have e0_ := eb_.cellv (i := 0) (v := (.int .i64 kd : Value)) rfl; simp [go_sem, sEv, sLook, nbeq, i64_w, -List.getD_eq_getElem?_getD, e0_]) ?_
  refine rw_end ?_
  refine w_block ?_
  refine w_seq ?_
  refine w_region ?_
  refine rw_val (v := .bool (kd == 0)) (w' := w10) rfl rfl rfl rfl (by simp [go_sem, sEv, sLook, nbeq, i64_w, -List.getD_eq_getElem?_getD]) ?_
  refine rw_val (v := .bool (kd == 0)) (w' := w10) rfl rfl rfl rfl rfl ?_
  refine rw_end ?_
  refine w_cond rfl rfl (fun cK0 => ?_) (fun cK0 => ?_)
  · have l17 : kd = 0 := by simpa using cK0
    refine w_seq ?_
    refine w_region ?_
    refine rw_val (v := .pointer (some ⟨g1, 2, none⟩)) (w' := w10) rfl rfl rfl rfl (by simp [go_sem, sEv, sLook, nbeq, i64_w, -List.getD_eq_getElem?_getD, Try.underlying53]) ?_
    refine rw_val (v := .int .i64 nn) (w' := w10) rfl rfl rfl rfl (by have eb_ := (hk4.on hB16); have e0_ := eb_.cellv (i := 2) (v := (.int .i64 nn : Value)) rfl; simp [go_sem, sEv, sLook, nbeq, i64_w, -List.getD_eq_getElem?_getD, e0_]) ?_
    refine rw_val (v := .int .i64 (max nn 0)) (w' := w10) rfl rfl rfl rfl (by simp [go_sem, sEv, sLook, nbeq, i64_w, -List.getD_eq_getElem?_getD, max2_int, min2_int, max_two, min_two]; (try (split <;> omega))) ?_
    refine rw_val (v := .slice (some ⟨gc7, 0, none⟩) bs.length c9) (w' := w10) rfl rfl rfl rfl rfl ?_
    refine rw_val (v := .int .i64 ((bs.length : Nat) : Int)) (w' := w10) rfl rfl rfl rfl (by simp [go_sem, sEv, sLook, nbeq, i64_w, -List.getD_eq_getElem?_getD]) ?_
    obtain ⟨k0, hk0_, hk1_⟩ : ∃ k0 : Nat, min (max nn 0) ((bs.length : Nat) : Int) = (k0 : Int) ∧ k0 ≤ bs.length := ⟨(min (max nn 0) ((bs.length : Nat) : Int)).toNat, by omega, by omega⟩
    refine rw_val (v := .int .i64 ((k0 : Nat) : Int)) (w' := w10) rfl rfl rfl rfl (by rw [← hk0_]; simp [go_sem, sEv, sLook, nbeq, i64_w, -List.getD_eq_getElem?_getD, max2_int, min2_int, max_two, min_two]; (try (split <;> omega))) ?_
    refine rw_val (v := .int .i64 ((k0 : Nat) : Int)) (w' := w10) rfl rfl rfl rfl rfl ?_
    refine rw_end ?_
    refine w_weaken (G' := [(0, .pointer (some ⟨g, 0, none⟩)), (1, .pointer (some ⟨u, 0, none⟩)), (5, .pointer (some ⟨g1, 0, none⟩)), (6, .bool false), (7, .slice (some ⟨gc7, 0, none⟩) bs.length c9), (8, .bool true), (9, .int .i64 ((k0 : Nat) : Int))]) ⟨rfl, rfl, rfl, rfl, rfl, rfl, rfl, trivial⟩ ?_
    have hP18 : (Kd.int .u8).C w10 (some ⟨gc7, 0, none⟩) (bs.take k0).length (bs.take k0) := Kd.C_take (nums_C hN13 hb12 (by omega)) (by omega)
    have hP18_ : (bs.take k0).length = k0 := by rw [List.length_take]; omega
    have hP19 : (Kd.int .u8).C w10 (adrS 1 (some ⟨gc7, 0, none⟩) c9 k0) (bs.drop k0).length (bs.drop k0) := Kd.C_drop (nums_C hN13 hb12 (by omega)) (by omega) (by have q_ := (Nat.le_of_add_right_le hc14); omega)
    have hP19_ : (bs.drop k0).length = bs.length - k0 := List.length_drop
    refine w_drawm (M := [0, 0, 0, 6, 0, 0, 48, 126, 255, 511, 0, 0, 2048, 6144, 16383, 32767, 65535]) (ss := [Is (.pointer (some ⟨g, 0, none⟩)), Is (.slice (some ⟨gc7, 0, none⟩) bs.length c9), Is (.int .i64 ((k0 : Nat) : Int)), Is (.slice (some ⟨gc7, 0, none⟩) ((bs.take k0).length) c9), Is (.slice (some ⟨gc7, 0, none⟩) bs.length c9), Is (.int .i64 ((k0 : Nat) : Int)), Is (.slice (adrS 1 (some ⟨gc7, 0, none⟩) c9 k0) ((bs.drop k0).length) (c9 - k0)), SlcSpec w10.heap.size 27 #[.slice (some ⟨gc7, 0, none⟩) ((bs.take k0).length) c9, .slice (adrS 1 (some ⟨gc7, 0, none⟩) c9 k0) ((bs.drop k0).length) (c9 - k0)] 2, Is (errT (s.appE bs)), Is (.int .i64 (numT (s.appE bs))), Is (.pointer (some ⟨u, 0, none⟩)), Is (.pointer (some ⟨g1, 1, none⟩)), Is (.slice A1 bs.length c1), Is (.string (strOfNums bs))]) (SX g m (HX gc7 (fun q => q = u))) 8 (fun W_ => TapeAt w0 W_ g m (HX gc7 (fun q => q = u)) s) (fun W_ => ∃ m_, TapeAt w0 W_ g m_ (HX gc7 (fun q => q = u)) (s.app bs)) 14 rfl (by decide +kernel) (stab_cons stab_is (stab_cons stab_is (stab_cons stab_is (stab_cons stab_is (stab_cons stab_is (stab_cons stab_is (stab_cons stab_is (stab_cons (stab_slc (sx_young (by omega) (by omega))) (stab_cons stab_is (stab_cons stab_is (stab_cons stab_is (stab_cons stab_is (stab_cons stab_is (stab_cons stab_is stab_nil)))))))))))))) (fun _ _ hb_ h_ => TapeAt.on h_ hb_) (fun _ _ hb_ h_ => Exists.elim h_ (fun m_ h_ => ⟨m_, TapeAt.on h_ hb_⟩)) (TapeAt.on (TapeAt.on (TapeAt.on (TapeAt.holeX hT (by omega)) hb3) hB16) (below_drew _)) ?_
    refine u_is rfl (.pointer (some ⟨g, 0, none⟩)) rfl rfl rfl rfl (fun W_ hW_ h1_ F_ => rfl) ?_
    refine u_is rfl (.slice (some ⟨gc7, 0, none⟩) bs.length c9) rfl rfl rfl rfl (fun W_ hW_ h1_ F_ => rfl) ?_
    refine u_is rfl (.int .i64 ((k0 : Nat) : Int)) rfl rfl rfl rfl (fun W_ hW_ h1_ F_ => rfl) ?_
    refine u_is rfl (.slice (some ⟨gc7, 0, none⟩) ((bs.take k0).length) c9) rfl rfl rfl rfl (fun W_ hW_ h1_ F_ => (by rw [hP18_]; exact run_as (sl_to (sz := 1) (e := 5) (by kernel_rfl) (fun _ => by kernel_rfl) k0 _ (by first | rfl | (simp; done) | omega) (by have q_ := (Nat.le_of_add_right_le hc14); omega) _))) ?_
    refine u_is rfl (.slice (some ⟨gc7, 0, none⟩) bs.length c9) rfl rfl rfl rfl (fun W_ hW_ h1_ F_ => rfl) ?_
    refine u_is rfl (.int .i64 ((k0 : Nat) : Int)) rfl rfl rfl rfl (fun W_ hW_ h1_ F_ => rfl) ?_
    refine u_is rfl (.slice (adrS 1 (some ⟨gc7, 0, none⟩) c9 k0) ((bs.drop k0).length) (c9 - k0)) rfl rfl rfl rfl (fun W_ hW_ h1_ F_ => (by rw [hP19_]; exact run_as (sl_from (sz := 1) (e := 5) (by kernel_rfl) (fun _ => by kernel_rfl) k0 _ (by first | rfl | (simp; done) | omega) (by omega) (by have q_ := (Nat.le_of_add_right_le hc14); omega) _))) ?_
    refine u_val rfl (SlcSpec w10.heap.size 27 #[.slice (some ⟨gc7, 0, none⟩) ((bs.take k0).length) c9, .slice (adrS 1 (some ⟨gc7, 0, none⟩) c9 k0) ((bs.drop k0).length) (c9 - k0)] 2) rfl rfl rfl rfl (fun W_ hW_ h1_ F_ => slc_gives _ _ _ _ (drew_kept hW_).1 (by kernel_rfl)) ?_
    rintro _ ⟨g20, rfl⟩
    refine u_mut (Is (errT (s.appE bs))) (f := 12) (args := #[.pointer (some ⟨g, 0, none⟩), .slice (some ⟨g20, 0, none⟩) 2 2]) rfl rfl rfl rfl rfl (fun W_ => by simp [go_sem, sEv, sLook, nbeq, i64_w, -List.getD_eq_getElem?_getD]) (fun W_ hW_ h0_ F_ => ?_) ?_
    · have hz_ := hW_.1
      have hs0_ : w10.heap.size ≤ W_.heap.size := hW_.1
      have hbc_ := (Blk.kept hb12 (drew_kept hW_) (sx_hole (by omega) (.inl rfl)))
      have hbl_ := (slc_fact (F_ 7 _ _ rfl rfl)).2
      have hge_ := (slc_fact (F_ 7 _ _ rfl rfl)).1
      have ht_ := append2_K w0 W_ g m (HX gc7 (fun q => q = u)) (fun q h_ => Or.elim h_ (fun e_ => ⟨by omega, by omega⟩) (fun e_ => ⟨by have e2_ : q = u := e_; omega, by have e2_ : q = u := e_; omega⟩)) s h0_ hok (some ⟨g20, 0, none⟩) (bs.take k0) (bs.drop k0) bs 2 (rowsK2 (S := SX g m (HX gc7 (fun q => q = u))) hbl_ (sx_young (n := w.heap.size) (by omega) (by omega) _ (by omega)) (by rw [List.length_take]; omega) (fun W2_ hk2_ => Kd.C_take (nums_C hN13 (Blk.kept hbc_ hk2_ (sx_hole (by omega) (.inl rfl))) (by omega)) (by omega)) (by rw [List.length_drop]; omega) (fun W2_ hk2_ => Kd.C_drop (nums_C hN13 (Blk.kept hbc_ hk2_ (sx_hole (by omega) (.inl rfl))) (by omega)) (by omega) (by omega))) (List.take_append_drop _ _) (by omega)
      exact ht_.mono (fun e_ w_ h_ => ⟨_, h_.1, rfl, h_.2.1, _, h_.2.2⟩)
    rintro _ rfl
    refine u_call rfl (f := 22) (args := #[errT (s.appE bs)]) (Is (.int .i64 (numT (s.appE bs)))) rfl rfl rfl rfl (fun W_ => by simp [go_sem, sEv, sLook, nbeq, i64_w, -List.getD_eq_getElem?_getD]) (fun W_ hW_ h1_ F_ => ?_) ?_
    · exact (num_T (s.appE bs) (appE_ne _ _) W_).mono (fun e_ w_ h_ => ⟨_, h_.1, rfl, h_.2⟩)
    rintro _ rfl
    refine u_is rfl (.pointer (some ⟨u, 0, none⟩)) rfl rfl rfl rfl (fun W_ hW_ h1_ F_ => rfl) ?_
    refine u_is rfl (.pointer (some ⟨g1, 1, none⟩)) rfl rfl rfl rfl (fun W_ hW_ h1_ F_ => by simp [go_sem, sEv, sLook, nbeq, i64_w, -List.getD_eq_getElem?_getD, Try.underlying53]) ?_
    refine u_is rfl (.slice A1 bs.length c1) rfl rfl rfl rfl (fun W_ hW_ h1_ F_ => by have eb_ := (Blk.kept (hk4.on hB16) (drew_kept hW_) (sx_young (n := w.heap.size) (by omega) (by omega) _ (by omega))); have e0_ := eb_.cellv (i := 1) (v := (.slice A1 bs.length c1 : Value)) rfl; simp [go_sem, sEv, sLook, nbeq, i64_w, -List.getD_eq_getElem?_getD, e0_, Try.underlying27]) ?_
    refine u_is rfl (.string (strOfNums bs)) rfl rfl rfl rfl (fun W_ hW_ h1_ F_ => (run_as (run_str_of (P := Try.prog) (e := 5) (by kernel_rfl) (by kernel_rfl) (by kernel_rfl) (Kd.C_kept_came (Kd.heap_int _) hbs (chain (chain hT.1 hb3) hB16) (sx_old (by omega)) W_ (drew_kept hW_))))) ?_
    refine u_tail ?_
    intro w23 hK24_ h26 F25
    have hK24 := drew_kept hK24_
    have hs_w23 := hK24.1
    obtain ⟨m27, hT28⟩ := h26
    have hz_w23 := hT28.size
    refine rw_call rfl rfl rfl rfl (f := 32) (args := #[.pointer (some ⟨u, 0, none⟩), .string (strOfNums bs)]) (by simp [go_sem, sEv, sLook, nbeq, i64_w, -List.getD_eq_getElem?_getD]) (rappend w23 u r hst hl hu_ hn bs (by omega) (Blk.kept ((hbu.on hb3).on hB16) hK24 (sx_hole (by omega) (.inr rfl)))) ?_
    rintro e_ w29 ⟨rfl, hG30, hb31⟩
    refine ⟨_, rfl, ?_⟩
    have hs_w29 := hG30.size
    refine rw_val (v := .bool ((numT (s.appE bs)) == (r.appE bs))) (w' := w29) rfl rfl rfl rfl (by simp [go_sem, sEv, sLook, nbeq, i64_w, -List.getD_eq_getElem?_getD]) ?_
    refine rw_val (v := .bool ((numT (s.appE bs)) == (r.appE bs))) (w' := w29) rfl rfl rfl rfl rfl ?_
    refine rw_end ?_
    refine w_weaken (G' := [(5, .pointer (some ⟨g1, 0, none⟩)), (6, .bool false), (7, .slice (some ⟨gc7, 0, none⟩) bs.length c9), (8, .bool ((numT (s.appE bs)) == (r.appE bs)))]) ⟨rfl, rfl, rfl, rfl, trivial⟩ ?_
    refine w_blk ?_
    refine w_seq ?_
    refine w_region ?_
    refine rw_val (v := .bool ((numT (s.appE bs)) == (r.appE bs))) (w' := w29) rfl rfl rfl rfl rfl ?_
    refine rw_val (v := .bool ((numT (s.appE bs)) == (r.appE bs))) (w' := w29) rfl rfl rfl rfl rfl ?_
    have hq32 : ((numT (s.appE bs)) == (r.appE bs)) = true := by rw [(hrel.app hok bs).2]; simp
    refine rw_on (c := ((numT (s.appE bs)) == (r.appE bs))) rfl rfl rfl (by first | (rw [hq32]; rfl) | simp [hq32]) ?_
    refine rw_val (v := .slice (some ⟨gc7, 0, none⟩) bs.length c9) (w' := w29) rfl rfl rfl rfl rfl ?_
    refine rw_on (c := ((numT (s.appE bs)) == (r.appE bs))) rfl rfl rfl (by first | (rw [hq32]; rfl) | simp [hq32]) ?_
    refine rw_val (v := .pointer (some ⟨g1, 1, none⟩)) (w' := w29) rfl rfl rfl rfl (by simp [go_sem, sEv, sLook, nbeq, i64_w, -List.getD_eq_getElem?_getD, Try.underlying53]) ?_
    refine rw_on (c := ((numT (s.appE bs)) == (r.appE bs))) rfl rfl rfl (by first | (rw [hq32]; rfl) | simp [hq32]) ?_
    refine rw_val (v := .slice A1 bs.length c1) (w' := w29) rfl rfl rfl rfl (by have eb_ := (Blk.grow (Blk.kept (hk4.on hB16) hK24 (sx_young (n := w.heap.size) (by omega) (by omega) _ (by omega))) hG30 (by omega)); have e0_ := eb_.cellv (i := 1) (v := (.slice A1 bs.length c1 : Value)) rfl; simp [go_sem, sEv, sLook, nbeq, i64_w, -List.getD_eq_getElem?_getD, e0_, Try.underlying27]) ?_
    refine rw_on (c := ((numT (s.appE bs)) == (r.appE bs))) rfl rfl rfl (by first | (rw [hq32]; rfl) | simp [hq32]) ?_
    refine rw_call rfl rfl rfl rfl (f := 37) (args := #[.slice (some ⟨gc7, 0, none⟩) bs.length c9, .slice A1 bs.length c1]) (by simp [go_sem, sEv, sLook, nbeq, i64_w, -List.getD_eq_getElem?_getD]) (keptB w29 gc7 cs8 c9 c1 A1 bs (Blk.grow (Blk.kept hb12 hK24 (sx_hole (by omega) (.inl rfl))) hG30 (by omega)) hN13 hc14 (Kd.C_below hbs (hG30.below (by omega) hT28.1)) hcb (by omega)) ?_
    rintro e_ w33 ⟨rfl, hb34⟩
    refine ⟨_, rfl, ?_⟩
    have hs_w33 := hb34.size
    refine rw_val (v := .bool true) (w' := w33) rfl rfl rfl rfl (by first | (simp [go_sem, sEv, sLook, nbeq, i64_w, -List.getD_eq_getElem?_getD, hq32]; done) | (rw [hq32]; simp [go_sem, sEv, sLook, nbeq, i64_w, -List.getD_eq_getElem?_getD]; done) | (simp [go_sem, sEv, sLook, nbeq, i64_w, -List.getD_eq_getElem?_getD] <;> omega) | (simp [go_sem, sEv, sLook, nbeq, i64_w, -List.getD_eq_getElem?_getD]; intro h_; exact absurd (by omega) h_)) ?_
    refine rw_val (v := .bool true) (w' := w33) rfl rfl rfl rfl rfl ?_
    refine rw_end ?_
    refine w_weaken (G' := [(6, .bool false), (7, .slice (some ⟨gc7, 0, none⟩) bs.length c9), (8, .bool true)]) ⟨rfl, rfl, rfl, trivial⟩ ?_
    refine w_seq ?_
    refine w_region ?_
    refine rw_val (v := .slice (some ⟨gc7, 0, none⟩) bs.length c9) (w' := w33) rfl rfl rfl rfl rfl ?_
    refine rw_call rfl rfl rfl rfl (f := 27) (args := #[.slice (some ⟨gc7, 0, none⟩) bs.length c9]) (by simp [go_sem, sEv, sLook, nbeq, i64_w, -List.getD_eq_getElem?_getD]) (overB w33 gc7 c9 cs8 bs ((Blk.grow (Blk.kept hb12 hK24 (sx_hole (by omega) (.inl rfl))) hG30 (by omega)).on hb34) (nums_left hN13) (by omega) (by omega)) ?_
    rintro e_ w35 ⟨rfl, hG36⟩
    refine ⟨.tuple #[], rfl, ?_⟩
    have hs_w35 := hG36.size
    refine rw_end ?_
    refine w_seq ?_
    refine w_region ?_
    refine rw_val (v := .bool true) (w' := w35) rfl rfl rfl rfl rfl ?_
    refine rw_val (v := .bool true) (w' := w35) rfl rfl rfl rfl rfl ?_
    refine rw_end ?_
    refine w_ret (post_ret1 rfl rfl ?_)
    have e1_ : s.play kd bs nn = s.app bs := by rw [TS.play, if_pos (by rw [cK0])]
    have e2_ : r.play kd bs nn = (r.app bs) := by rw [RS.play, if_pos (by rw [cK0])]
    rw [e1_, e2_]
    exact ⟨rfl, (Grow.keptS (kept_trans (Grow.keptS (kept_trans (kept_trans (kept_trans (kept_refl _ _) (below_kept hb3)) (below_kept hB16)) (Kept.mono' hK24 (fun k_ _ hk_ => .inr (SX.hole (fun q_ h_ => .inr h_) hk_)))) hG30 (.inl (.inl rfl))) (below_kept hb34)) hG36 (.inr (by omega))), ⟨_, TapeAt.hole (TapeAt.grow (TapeAt.on (TapeAt.grow hT28 hG30 (.inr rfl) (by omega) (by omega)) hb34) hG36 (.inl rfl) (by omega) (by omega)) _ (fun q_ h1_ h2_ h3_ h4_ => h3_ (.inr h4_))⟩, (Blk.grow (hb31.on hb34) hG36 (by omega))⟩
  · have l37 : ¬ kd = 0 := by simpa using cK0
    refine w_seq ?_
    refine w_region ?_
    refine rw_val (v := .bool (kd == 1)) (w' := w10) rfl rfl rfl rfl (by simp [go_sem, sEv, sLook, nbeq, i64_w, -List.getD_eq_getElem?_getD]) ?_
    refine rw_val (v := .bool (kd == 1)) (w' := w10) rfl rfl rfl rfl rfl ?_
    refine rw_end ?_
    refine w_cond rfl rfl (fun cK1 => ?_) (fun cK1 => ?_)
    · have l38 : kd = 1 := by simpa using cK1
      refine w_region ?_
      refine rw_val (v := .pointer (some ⟨g, 0, none⟩)) (w' := w10) rfl rfl rfl rfl rfl ?_
      refine rw_call rfl rfl rfl rfl (f := 13) (args := #[.pointer (some ⟨g, 0, none⟩)]) (by simp [go_sem, sEv, sLook, nbeq, i64_w, -List.getD_eq_getElem?_getD]) (wrapK (fun q h_ => Or.elim h_ (fun e_ => ⟨by omega, by omega⟩) (fun e_ => ⟨by have e2_ : q = u := e_; omega, by have e2_ : q = u := e_; omega⟩)) (sync_T w0 w10 g m (XX g m (HX gc7 (fun q => q = u)) w10.heap.size) (fun q h => h.1) s ((TapeAt.on (TapeAt.on (TapeAt.holeX hT (by omega)) hb3) hB16).toX _) hok)) ?_
      rintro e_ w39 ⟨rfl, hK40, hT41⟩
      refine ⟨_, rfl, ?_⟩
      have hs_w39 := hK40.1
      have hz_w39 := hT41.size
      refine rw_call rfl rfl rfl rfl (f := 22) (args := #[errT s.err]) (by simp [go_sem, sEv, sLook, nbeq, i64_w, -List.getD_eq_getElem?_getD]) (num_T s.err (err_ne _) w39) ?_
      rintro e_ w42 ⟨rfl, hb43⟩
      refine ⟨_, rfl, ?_⟩
      have hs_w42 := hb43.size
      refine rw_val (v := .pointer (some ⟨u, 0, none⟩)) (w' := w42) rfl rfl rfl rfl rfl ?_
      refine rw_call rfl rfl rfl rfl (f := 33) (args := #[.pointer (some ⟨u, 0, none⟩)]) (by simp [go_sem, sEv, sLook, nbeq, i64_w, -List.getD_eq_getElem?_getD]) (rsync w42 u r hst hl hu_ hn ((Blk.kept ((hbu.on hb3).on hB16) hK40 (sx_hole (by omega) (.inr rfl))).on hb43)) ?_
      rintro e_ w44 ⟨rfl, hG45, hb46⟩
      refine ⟨_, rfl, ?_⟩
      have hs_w44 := hG45.size
      refine rw_val (v := .bool ((numT s.err) == r.err)) (w' := w44) rfl rfl rfl rfl (by simp [go_sem, sEv, sLook, nbeq, i64_w, -List.getD_eq_getElem?_getD]) ?_
      refine rw_val (v := .bool ((numT s.err) == r.err)) (w' := w44) rfl rfl rfl rfl rfl ?_
      refine rw_end ?_
      refine w_weaken (G' := [(5, .pointer (some ⟨g1, 0, none⟩)), (6, .bool false), (7, .slice (some ⟨gc7, 0, none⟩) bs.length c9), (8, .bool ((numT s.err) == r.err))]) ⟨rfl, rfl, rfl, rfl, trivial⟩ ?_
      refine w_blk ?_
      refine w_seq ?_
      refine w_region ?_
      refine rw_val (v := .bool ((numT s.err) == r.err)) (w' := w44) rfl rfl rfl rfl rfl ?_
      refine rw_val (v := .bool ((numT s.err) == r.err)) (w' := w44) rfl rfl rfl rfl rfl ?_
      have hq47 : ((numT s.err) == r.err) = true := by rw [hrel.err]; simp
      refine rw_on (c := ((numT s.err) == r.err)) rfl rfl rfl (by first | (rw [hq47]; rfl) | simp [hq47]) ?_
      refine rw_val (v := .slice (some ⟨gc7, 0, none⟩) bs.length c9) (w' := w44) rfl rfl rfl rfl rfl ?_
      refine rw_on (c := ((numT s.err) == r.err)) rfl rfl rfl (by first | (rw [hq47]; rfl) | simp [hq47]) ?_
      refine rw_val (v := .pointer (some ⟨g1, 1, none⟩)) (w' := w44) rfl rfl rfl rfl (by simp [go_sem, sEv, sLook, nbeq, i64_w, -List.getD_eq_getElem?_getD, Try.underlying53]) ?_
      refine rw_on (c := ((numT s.err) == r.err)) rfl rfl rfl (by first | (rw [hq47]; rfl) | simp [hq47]) ?_
      refine rw_val (v := .slice A1 bs.length c1) (w' := w44) rfl rfl rfl rfl (by have eb_ := (Blk.grow ((Blk.kept (hk4.on hB16) hK40 (sx_young (n := w.heap.size) (by omega) (by omega) _ (by omega))).on hb43) hG45 (by omega)); have e0_ := eb_.cellv (i := 1) (v := (.slice A1 bs.length c1 : Value)) rfl; simp [go_sem, sEv, sLook, nbeq, i64_w, -List.getD_eq_getElem?_getD, e0_, Try.underlying27]) ?_
      refine rw_on (c := ((numT s.err) == r.err)) rfl rfl rfl (by first | (rw [hq47]; rfl) | simp [hq47]) ?_
      refine rw_call rfl rfl rfl rfl (f := 37) (args := #[.slice (some ⟨gc7, 0, none⟩) bs.length c9, .slice A1 bs.length c1]) (by simp [go_sem, sEv, sLook, nbeq, i64_w, -List.getD_eq_getElem?_getD]) (keptB w44 gc7 cs8 c9 c1 A1 bs (Blk.grow ((Blk.kept hb12 hK40 (sx_hole (by omega) (.inl rfl))).on hb43) hG45 (by omega)) hN13 hc14 (Kd.C_below hbs (hG45.below (by omega) (chain hT41.1 hb43))) hcb (by omega)) ?_
      rintro e_ w48 ⟨rfl, hb49⟩
      refine ⟨_, rfl, ?_⟩
      have hs_w48 := hb49.size
      refine rw_val (v := .bool true) (w' := w48) rfl rfl rfl rfl (by first | (simp [go_sem, sEv, sLook, nbeq, i64_w, -List.getD_eq_getElem?_getD, hq47]; done) | (rw [hq47]; simp [go_sem, sEv, sLook, nbeq, i64_w, -List.getD_eq_getElem?_getD]; done) | (simp [go_sem, sEv, sLook, nbeq, i64_w, -List.getD_eq_getElem?_getD] <;> omega) | (simp [go_sem, sEv, sLook, nbeq, i64_w, -List.getD_eq_getElem?_getD]; intro h_; exact absurd (by omega) h_)) ?_
      refine rw_val (v := .bool true) (w' := w48) rfl rfl rfl rfl rfl ?_
      refine rw_end ?_
      refine w_weaken (G' := [(6, .bool false), (7, .slice (some ⟨gc7, 0, none⟩) bs.length c9), (8, .bool true)]) ⟨rfl, rfl, rfl, trivial⟩ ?_
      refine w_seq ?_
      refine w_region ?_
      refine rw_val (v := .slice (some ⟨gc7, 0, none⟩) bs.length c9) (w' := w48) rfl rfl rfl rfl rfl ?_
      refine rw_call rfl rfl rfl rfl (f := 27) (args := #[.slice (some ⟨gc7, 0, none⟩) bs.length c9]) (by simp [go_sem, sEv, sLook, nbeq, i64_w, -List.getD_eq_getElem?_getD]) (overB w48 gc7 c9 cs8 bs ((Blk.grow ((Blk.kept hb12 hK40 (sx_hole (by omega) (.inl rfl))).on hb43) hG45 (by omega)).on hb49) (nums_left hN13) (by omega) (by omega)) ?_
      rintro e_ w50 ⟨rfl, hG51⟩
      refine ⟨.tuple #[], rfl, ?_⟩
      have hs_w50 := hG51.size
      refine rw_end ?_
      refine w_seq ?_
      refine w_region ?_
      refine rw_val (v := .bool true) (w' := w50) rfl rfl rfl rfl rfl ?_
      refine rw_val (v := .bool true) (w' := w50) rfl rfl rfl rfl rfl ?_
      refine rw_end ?_
      refine w_ret (post_ret1 rfl rfl ?_)
      have e1_ : s.play kd bs nn = s.sync := by rw [TS.play, if_neg (by rw [cK0]; decide), if_pos (by rw [cK1])]
      have e2_ : r.play kd bs nn = r.sync := by rw [RS.play, if_neg (by rw [cK0]; decide), if_pos (by rw [cK1])]
      rw [e1_, e2_]
      exact ⟨rfl, (Grow.keptS (kept_trans (Grow.keptS (kept_trans (kept_trans (kept_trans (kept_trans (kept_refl _ _) (below_kept hb3)) (below_kept hB16)) (Kept.mono' hK40 (fun k_ _ hk_ => .inr (SX.hole (fun q_ h_ => .inr h_) hk_)))) (below_kept hb43)) hG45 (.inl (.inl rfl))) (below_kept hb49)) hG51 (.inr (by omega))), ⟨_, TapeAt.hole (TapeAt.grow (TapeAt.on (TapeAt.grow (TapeAt.on hT41 hb43) hG45 (.inr rfl) (by omega) (by omega)) hb49) hG51 (.inl rfl) (by omega) (by omega)) _ (fun q_ h1_ h2_ h3_ h4_ => h3_ (.inr h4_))⟩, (Blk.grow (hb46.on hb49) hG51 (by omega))⟩
    · have l52 : ¬ kd = 1 := by simpa using cK1
      refine w_seq ?_
      refine w_region ?_
      refine rw_val (v := .bool (kd == 2)) (w' := w10) rfl rfl rfl rfl (by simp [go_sem, sEv, sLook, nbeq, i64_w, -List.getD_eq_getElem?_getD]) ?_
      refine rw_val (v := .bool (kd == 2)) (w' := w10) rfl rfl rfl rfl rfl ?_
      refine rw_end ?_
      refine w_cond rfl rfl (fun cK2 => ?_) (fun cK2 => ?_)
      · have l53 : kd = 2 := by simpa using cK2
        refine w_drawm (M := [0, 0, 3, 7, 0, 0, 32, 96, 255, 511, 1023]) (ss := [Is (.pointer (some ⟨g, 0, none⟩)), Is (.slice (some ⟨gc7, 0, none⟩) bs.length c9), Is (errT (s.repE bs)), Is (.int .i64 (numT (s.repE bs))), Is (.pointer (some ⟨u, 0, none⟩)), Is (.pointer (some ⟨g1, 1, none⟩)), Is (.slice A1 bs.length c1), Is (.string (strOfNums bs))]) (SX g m (HX gc7 (fun q => q = u))) 2 (fun W_ => TapeAt w0 W_ g m (HX gc7 (fun q => q = u)) s) (fun W_ => ∃ m_, TapeAt w0 W_ g m_ (HX gc7 (fun q => q = u)) (s.rep bs)) 8 rfl (by decide +kernel) (stab_cons stab_is (stab_cons stab_is (stab_cons stab_is (stab_cons stab_is (stab_cons stab_is (stab_cons stab_is (stab_cons stab_is (stab_cons stab_is stab_nil)))))))) (fun _ _ hb_ h_ => TapeAt.on h_ hb_) (fun _ _ hb_ h_ => Exists.elim h_ (fun m_ h_ => ⟨m_, TapeAt.on h_ hb_⟩)) (TapeAt.on (TapeAt.on (TapeAt.on (TapeAt.holeX hT (by omega)) hb3) hB16) (below_drew _)) ?_
        refine u_is rfl (.pointer (some ⟨g, 0, none⟩)) rfl rfl rfl rfl (fun W_ hW_ h1_ F_ => rfl) ?_
        refine u_is rfl (.slice (some ⟨gc7, 0, none⟩) bs.length c9) rfl rfl rfl rfl (fun W_ hW_ h1_ F_ => rfl) ?_
        refine u_mut (Is (errT (s.repE bs))) (f := 18) (args := #[.pointer (some ⟨g, 0, none⟩), .slice (some ⟨gc7, 0, none⟩) bs.length c9]) rfl rfl rfl rfl rfl (fun W_ => by simp [go_sem, sEv, sLook, nbeq, i64_w, -List.getD_eq_getElem?_getD]) (fun W_ hW_ h0_ F_ => ?_) ?_
        · have hz_ := hW_.1
          have hs0_ : w10.heap.size ≤ W_.heap.size := hW_.1
          have hbc_ := (Blk.kept hb12 (drew_kept hW_) (sx_hole (by omega) (.inl rfl)))
          have ht_ := replace_K w0 W_ g m (HX gc7 (fun q => q = u)) (fun q h_ => Or.elim h_ (fun e_ => ⟨by omega, by omega⟩) (fun e_ => ⟨by have e2_ : q = u := e_; omega, by have e2_ : q = u := e_; omega⟩)) s h0_ hok (some ⟨gc7, 0, none⟩) bs c9 (fun W2_ hk2_ => nums_C hN13 (Blk.kept hbc_ hk2_ (fun e_ => by omega)) (by omega))
          exact ht_.mono (fun e_ w_ h_ => ⟨_, h_.1, rfl, h_.2.1, _, h_.2.2⟩)
        rintro _ rfl
        refine u_call rfl (f := 22) (args := #[errT (s.repE bs)]) (Is (.int .i64 (numT (s.repE bs)))) rfl rfl rfl rfl (fun W_ => by simp [go_sem, sEv, sLook, nbeq, i64_w, -List.getD_eq_getElem?_getD]) (fun W_ hW_ h1_ F_ => ?_) ?_
        · exact (num_T (s.repE bs) (repE_ne _ _) W_).mono (fun e_ w_ h_ => ⟨_, h_.1, rfl, h_.2⟩)
        rintro _ rfl
        refine u_is rfl (.pointer (some ⟨u, 0, none⟩)) rfl rfl rfl rfl (fun W_ hW_ h1_ F_ => rfl) ?_
        refine u_is rfl (.pointer (some ⟨g1, 1, none⟩)) rfl rfl rfl rfl (fun W_ hW_ h1_ F_ => by simp [go_sem, sEv, sLook, nbeq, i64_w, -List.getD_eq_getElem?_getD, Try.underlying53]) ?_
        refine u_is rfl (.slice A1 bs.length c1) rfl rfl rfl rfl (fun W_ hW_ h1_ F_ => by have eb_ := (Blk.kept (hk4.on hB16) (drew_kept hW_) (sx_young (n := w.heap.size) (by omega) (by omega) _ (by omega))); have e0_ := eb_.cellv (i := 1) (v := (.slice A1 bs.length c1 : Value)) rfl; simp [go_sem, sEv, sLook, nbeq, i64_w, -List.getD_eq_getElem?_getD, e0_, Try.underlying27]) ?_
        refine u_is rfl (.string (strOfNums bs)) rfl rfl rfl rfl (fun W_ hW_ h1_ F_ => (run_as (run_str_of (P := Try.prog) (e := 5) (by kernel_rfl) (by kernel_rfl) (by kernel_rfl) (Kd.C_kept_came (Kd.heap_int _) hbs (chain (chain hT.1 hb3) hB16) (sx_old (by omega)) W_ (drew_kept hW_))))) ?_
        refine u_tail ?_
        intro w54 hK55_ h57 F56
        have hK55 := drew_kept hK55_
        have hs_w54 := hK55.1
        obtain ⟨m58, hT59⟩ := h57
        have hz_w54 := hT59.size
        refine rw_call rfl rfl rfl rfl (f := 34) (args := #[.pointer (some ⟨u, 0, none⟩), .string (strOfNums bs)]) (by simp [go_sem, sEv, sLook, nbeq, i64_w, -List.getD_eq_getElem?_getD]) (rreplace w54 u r hst hl hu_ hn bs (by omega) (Blk.kept ((hbu.on hb3).on hB16) hK55 (sx_hole (by omega) (.inr rfl)))) ?_
        rintro e_ w60 ⟨rfl, hG61, hb62⟩
        refine ⟨_, rfl, ?_⟩
        have hs_w60 := hG61.size
        refine rw_val (v := .bool ((numT (s.repE bs)) == (r.repE bs))) (w' := w60) rfl rfl rfl rfl (by simp [go_sem, sEv, sLook, nbeq, i64_w, -List.getD_eq_getElem?_getD]) ?_
        refine rw_val (v := .bool ((numT (s.repE bs)) == (r.repE bs))) (w' := w60) rfl rfl rfl rfl rfl ?_
        refine rw_end ?_
        refine w_weaken (G' := [(5, .pointer (some ⟨g1, 0, none⟩)), (6, .bool false), (7, .slice (some ⟨gc7, 0, none⟩) bs.length c9), (8, .bool ((numT (s.repE bs)) == (r.repE bs)))]) ⟨rfl, rfl, rfl, rfl, trivial⟩ ?_
        refine w_blk ?_
        refine w_seq ?_
        refine w_region ?_
        refine rw_val (v := .bool ((numT (s.repE bs)) == (r.repE bs))) (w' := w60) rfl rfl rfl rfl rfl ?_
        refine rw_val (v := .bool ((numT (s.repE bs)) == (r.repE bs))) (w' := w60) rfl rfl rfl rfl rfl ?_
        have hq63 : ((numT (s.repE bs)) == (r.repE bs)) = true := by rw [(hrel.rep hok bs).2]; simp
        refine rw_on (c := ((numT (s.repE bs)) == (r.repE bs))) rfl rfl rfl (by first | (rw [hq63]; rfl) | simp [hq63]) ?_
        refine rw_val (v := .slice (some ⟨gc7, 0, none⟩) bs.length c9) (w' := w60) rfl rfl rfl rfl rfl ?_
        refine rw_on (c := ((numT (s.repE bs)) == (r.repE bs))) rfl rfl rfl (by first | (rw [hq63]; rfl) | simp [hq63]) ?_
        refine rw_val (v := .pointer (some ⟨g1, 1, none⟩)) (w' := w60) rfl rfl rfl rfl (by simp [go_sem, sEv, sLook, nbeq, i64_w, -List.getD_eq_getElem?_getD, Try.underlying53]) ?_
        refine rw_on (c := ((numT (s.repE bs)) == (r.repE bs))) rfl rfl rfl (by first | (rw [hq63]; rfl) | simp [hq63]) ?_
        refine rw_val (v := .slice A1 bs.length c1) (w' := w60) rfl rfl rfl rfl (by have eb_ := (Blk.grow (Blk.kept (hk4.on hB16) hK55 (sx_young (n := w.heap.size) (by omega) (by omega) _ (by omega))) hG61 (by omega)); have e0_ := eb_.cellv (i := 1) (v := (.slice A1 bs.length c1 : Value)) rfl; simp [go_sem, sEv, sLook, nbeq, i64_w, -List.getD_eq_getElem?_getD, e0_, Try.underlying27]) ?_
        refine rw_on (c := ((numT (s.repE bs)) == (r.repE bs))) rfl rfl rfl (by first | (rw [hq63]; rfl) | simp [hq63]) ?_
        refine rw_call rfl rfl rfl rfl (f := 37) (args := #[.slice (some ⟨gc7, 0, none⟩) bs.length c9, .slice A1 bs.length c1]) (by simp [go_sem, sEv, sLook, nbeq, i64_w, -List.getD_eq_getElem?_getD]) (keptB w60 gc7 cs8 c9 c1 A1 bs (Blk.grow (Blk.kept hb12 hK55 (sx_hole (by omega) (.inl rfl))) hG61 (by omega)) hN13 hc14 (Kd.C_below hbs (hG61.below (by omega) hT59.1)) hcb (by omega)) ?_
        rintro e_ w64 ⟨rfl, hb65⟩
        refine ⟨_, rfl, ?_⟩
        have hs_w64 := hb65.size
        refine rw_val (v := .bool true) (w' := w64) rfl rfl rfl rfl (by first | (simp [go_sem, sEv, sLook, nbeq, i64_w, -List.getD_eq_getElem?_getD, hq63]; done) | (rw [hq63]; simp [go_sem, sEv, sLook, nbeq, i64_w, -List.getD_eq_getElem?_getD]; done) | (simp [go_sem, sEv, sLook, nbeq, i64_w, -List.getD_eq_getElem?_getD] <;> omega) | (simp [go_sem, sEv, sLook, nbeq, i64_w, -List.getD_eq_getElem?_getD]; intro h_; exact absurd (by omega) h_)) ?_
        refine rw_val (v := .bool true) (w' := w64) rfl rfl rfl rfl rfl ?_
        refine rw_end ?_
        refine w_weaken (G' := [(6, .bool false), (7, .slice (some ⟨gc7, 0, none⟩) bs.length c9), (8, .bool true)]) ⟨rfl, rfl, rfl, trivial⟩ ?_
        refine w_seq ?_
        refine w_region ?_
        refine rw_val (v := .slice (some ⟨gc7, 0, none⟩) bs.length c9) (w' := w64) rfl rfl rfl rfl rfl ?_
        refine rw_call rfl rfl rfl rfl (f := 27) (args := #[.slice (some ⟨gc7, 0, none⟩) bs.length c9]) (by simp [go_sem, sEv, sLook, nbeq, i64_w, -List.getD_eq_getElem?_getD]) (overB w64 gc7 c9 cs8 bs ((Blk.grow (Blk.kept hb12 hK55 (sx_hole (by omega) (.inl rfl))) hG61 (by omega)).on hb65) (nums_left hN13) (by omega) (by omega)) ?_
        rintro e_ w66 ⟨rfl, hG67⟩
        refine ⟨.tuple #[], rfl, ?_⟩
        have hs_w66 := hG67.size
        refine rw_end ?_
        refine w_seq ?_
        refine w_region ?_
        refine rw_val (v := .bool true) (w' := w66) rfl rfl rfl rfl rfl ?_
        refine rw_val (v := .bool true) (w' := w66) rfl rfl rfl rfl rfl ?_
        refine rw_end ?_
        refine w_ret (post_ret1 rfl rfl ?_)
        have e1_ : s.play kd bs nn = s.rep bs := by rw [TS.play, if_neg (by rw [cK0]; decide), if_neg (by rw [cK1]; decide), if_pos (by rw [cK2])]
        have e2_ : r.play kd bs nn = (r.rep bs) := by rw [RS.play, if_neg (by rw [cK0]; decide), if_neg (by rw [cK1]; decide), if_pos (by rw [cK2])]
        rw [e1_, e2_]
        exact ⟨rfl, (Grow.keptS (kept_trans (Grow.keptS (kept_trans (kept_trans (kept_trans (kept_refl _ _) (below_kept hb3)) (below_kept hB16)) (Kept.mono' hK55 (fun k_ _ hk_ => .inr (SX.hole (fun q_ h_ => .inr h_) hk_)))) hG61 (.inl (.inl rfl))) (below_kept hb65)) hG67 (.inr (by omega))), ⟨_, TapeAt.hole (TapeAt.grow (TapeAt.on (TapeAt.grow hT59 hG61 (.inr rfl) (by omega) (by omega)) hb65) hG67 (.inl rfl) (by omega) (by omega)) _ (fun q_ h1_ h2_ h3_ h4_ => h3_ (.inr h4_))⟩, (Blk.grow (hb62.on hb65) hG67 (by omega))⟩
      · have l68 : ¬ kd = 2 := by simpa using cK2
        refine w_seq ?_
        refine w_region ?_
        refine rw_val (v := .bool (kd == 3)) (w' := w10) rfl rfl rfl rfl (by simp [go_sem, sEv, sLook, nbeq, i64_w, -List.getD_eq_getElem?_getD]) ?_
        refine rw_val (v := .bool (kd == 3)) (w' := w10) rfl rfl rfl rfl rfl ?_
        refine rw_end ?_
        refine w_cond rfl rfl (fun cK3 => ?_) (fun cK3 => ?_)
        · have l69 : kd = 3 := by simpa using cK3
          refine w_seq ?_
          refine w_region ?_
          refine rw_val (v := .pointer (some ⟨g, 0, none⟩)) (w' := w10) rfl rfl rfl rfl rfl ?_
          refine rw_call rfl rfl rfl rfl (f := 17) (args := #[.pointer (some ⟨g, 0, none⟩)]) (by simp [go_sem, sEv, sLook, nbeq, i64_w, -List.getD_eq_getElem?_getD]) (wrapK (fun q h_ => Or.elim h_ (fun e_ => ⟨by omega, by omega⟩) (fun e_ => ⟨by have e2_ : q = u := e_; omega, by have e2_ : q = u := e_; omega⟩)) (cut_T w0 w10 g m (XX g m (HX gc7 (fun q => q = u)) w10.heap.size) (fun q h => h.1) s ((TapeAt.on (TapeAt.on (TapeAt.holeX hT (by omega)) hb3) hB16).toX _) hok)) ?_
          rintro e_ w70 ⟨rfl, hK71, hT72⟩
          refine ⟨.tuple #[], rfl, ?_⟩
          have hs_w70 := hK71.1
          have hz_w70 := hT72.size
          refine rw_end ?_
          refine w_region ?_
          refine rw_val (v := .pointer (some ⟨u, 0, none⟩)) (w' := w70) rfl rfl rfl rfl rfl ?_
          refine rw_call rfl rfl rfl rfl (f := 35) (args := #[.pointer (some ⟨u, 0, none⟩)]) (by simp [go_sem, sEv, sLook, nbeq, i64_w, -List.getD_eq_getElem?_getD]) (rcut w70 u r hst hl hu_ hn (Blk.kept ((hbu.on hb3).on hB16) hK71 (sx_hole (by omega) (.inr rfl)))) ?_
          rintro e_ w73 ⟨rfl, hG74, hb75⟩
          refine ⟨.tuple #[], rfl, ?_⟩
          have hs_w73 := hG74.size
          refine rw_end ?_
          refine w_blk ?_
          refine w_seq ?_
          refine w_region ?_
          refine rw_val (v := .bool true) (w' := w73) rfl rfl rfl rfl rfl ?_
          refine rw_val (v := .bool true) (w' := w73) rfl rfl rfl rfl rfl ?_
          refine rw_on (c := true) rfl rfl rfl rfl ?_
          refine rw_val (v := .slice (some ⟨gc7, 0, none⟩) bs.length c9) (w' := w73) rfl rfl rfl rfl rfl ?_
          refine rw_on (c := true) rfl rfl rfl rfl ?_
          refine rw_val (v := .pointer (some ⟨g1, 1, none⟩)) (w' := w73) rfl rfl rfl rfl (by simp [go_sem, sEv, sLook, nbeq, i64_w, -List.getD_eq_getElem?_getD, Try.underlying53]) ?_
          refine rw_on (c := true) rfl rfl rfl rfl ?_
          refine rw_val (v := .slice A1 bs.length c1) (w' := w73) rfl rfl rfl rfl (by have eb_ := (Blk.grow (Blk.kept (hk4.on hB16) hK71 (sx_young (n := w.heap.size) (by omega) (by omega) _ (by omega))) hG74 (by omega)); have e0_ := eb_.cellv (i := 1) (v := (.slice A1 bs.length c1 : Value)) rfl; simp [go_sem, sEv, sLook, nbeq, i64_w, -List.getD_eq_getElem?_getD, e0_, Try.underlying27]) ?_
          refine rw_on (c := true) rfl rfl rfl rfl ?_
          refine rw_call rfl rfl rfl rfl (f := 37) (args := #[.slice (some ⟨gc7, 0, none⟩) bs.length c9, .slice A1 bs.length c1]) (by simp [go_sem, sEv, sLook, nbeq, i64_w, -List.getD_eq_getElem?_getD]) (keptB w73 gc7 cs8 c9 c1 A1 bs (Blk.grow (Blk.kept hb12 hK71 (sx_hole (by omega) (.inl rfl))) hG74 (by omega)) hN13 hc14 (Kd.C_below hbs (hG74.below (by omega) hT72.1)) hcb (by omega)) ?_
          rintro e_ w76 ⟨rfl, hb77⟩
          refine ⟨_, rfl, ?_⟩
          have hs_w76 := hb77.size
          refine rw_val (v := .bool true) (w' := w76) rfl rfl rfl rfl (by simp [go_sem, sEv, sLook, nbeq, i64_w, -List.getD_eq_getElem?_getD]) ?_
          refine rw_val (v := .bool true) (w' := w76) rfl rfl rfl rfl rfl ?_
          refine rw_end ?_
          refine w_weaken (G' := [(6, .bool false), (7, .slice (some ⟨gc7, 0, none⟩) bs.length c9), (8, .bool true)]) ⟨rfl, rfl, rfl, trivial⟩ ?_
          refine w_seq ?_
          refine w_region ?_
          refine rw_val (v := .slice (some ⟨gc7, 0, none⟩) bs.length c9) (w' := w76) rfl rfl rfl rfl rfl ?_
          refine rw_call rfl rfl rfl rfl (f := 27) (args := #[.slice (some ⟨gc7, 0, none⟩) bs.length c9]) (by simp [go_sem, sEv, sLook, nbeq, i64_w, -List.getD_eq_getElem?_getD]) (overB w76 gc7 c9 cs8 bs ((Blk.grow (Blk.kept hb12 hK71 (sx_hole (by omega) (.inl rfl))) hG74 (by omega)).on hb77) (nums_left hN13) (by omega) (by omega)) ?_
          rintro e_ w78 ⟨rfl, hG79⟩
          refine ⟨.tuple #[], rfl, ?_⟩
          have hs_w78 := hG79.size
          refine rw_end ?_
          refine w_seq ?_
          refine w_region ?_
          refine rw_val (v := .bool true) (w' := w78) rfl rfl rfl rfl rfl ?_
          refine rw_val (v := .bool true) (w' := w78) rfl rfl rfl rfl rfl ?_
          refine rw_end ?_
          refine w_ret (post_ret1 rfl rfl ?_)
          have e1_ : s.play kd bs nn = s.cut := by rw [TS.play, if_neg (by rw [cK0]; decide), if_neg (by rw [cK1]; decide), if_neg (by rw [cK2]; decide), if_pos (by rw [cK3])]
          have e2_ : r.play kd bs nn = r.cut := by rw [RS.play, if_neg (by rw [cK0]; decide), if_neg (by rw [cK1]; decide), if_neg (by rw [cK2]; decide), if_pos (by rw [cK3])]
          rw [e1_, e2_]
          exact ⟨rfl, (Grow.keptS (kept_trans (Grow.keptS (kept_trans (kept_trans (kept_trans (kept_refl _ _) (below_kept hb3)) (below_kept hB16)) (Kept.mono' hK71 (fun k_ _ hk_ => .inr (SX.hole (fun q_ h_ => .inr h_) hk_)))) hG74 (.inl (.inl rfl))) (below_kept hb77)) hG79 (.inr (by omega))), ⟨_, TapeAt.hole (TapeAt.grow (TapeAt.on (TapeAt.grow hT72 hG74 (.inr rfl) (by omega) (by omega)) hb77) hG79 (.inl rfl) (by omega) (by omega)) _ (fun q_ h1_ h2_ h3_ h4_ => h3_ (.inr h4_))⟩, (Blk.grow (hb75.on hb77) hG79 (by omega))⟩
        · have l80 : ¬ kd = 3 := by simpa using cK3
          refine w_seq ?_
          refine w_seq ?_
          refine w_region ?_
          refine rw_val (v := .bool (kd == 4)) (w' := w10) rfl rfl rfl rfl (by simp [go_sem, sEv, sLook, nbeq, i64_w, -List.getD_eq_getElem?_getD]) ?_
          refine rw_val (v := .bool (kd == 4)) (w' := w10) rfl rfl rfl rfl rfl ?_
          refine rw_end ?_
          refine w_cond rfl rfl (fun cK4 => ?_) (fun cK4 => ?_)
          · have l81 : kd = 4 := by simpa using cK4
            refine w_skip ?_
            refine w_cond_t rfl rfl cK4 ?_
            refine w_seq ?_
            refine w_region ?_
            refine rw_val (v := .int .i64 0) (w' := w10) rfl rfl rfl rfl rfl ?_
            refine rw_end ?_
            refine w_seq ?_
            refine w_seq ?_
            refine w_region ?_
            refine rw_val (v := .pointer (some ⟨g1, 2, none⟩)) (w' := w10) rfl rfl rfl rfl (by simp [go_sem, sEv, sLook, nbeq, i64_w, -List.getD_eq_getElem?_getD, Try.underlying53]) ?_
            refine rw_val (v := .int .i64 nn) (w' := w10) rfl rfl rfl rfl (by have eb_ := (hk4.on hB16); have e0_ := eb_.cellv (i := 2) (v := (.int .i64 nn : Value)) rfl; simp [go_sem, sEv, sLook, nbeq, i64_w, -List.getD_eq_getElem?_getD, e0_]) ?_
            refine rw_val (v := .bool (decide (nn < 0))) (w' := w10) rfl rfl rfl rfl (by simp [go_sem, sEv, sLook, nbeq, i64_w, -List.getD_eq_getElem?_getD]) ?_
            refine rw_end ?_
            refine w_cond rfl rfl (fun cN => ?_) (fun cN => ?_)
            · have l82 : (nn < 0) := of_decide_eq_true cN
              refine w_region ?_
              refine rw_val (v := .int .i64 1) (w' := w10) rfl rfl rfl rfl rfl ?_
              refine rw_end ?_
              refine w_seq ?_
              refine w_region ?_
              refine rw_val (v := .pointer (some ⟨g1, 0, none⟩)) (w' := w10) rfl rfl rfl rfl (by simp [go_sem, sEv, sLook, nbeq, i64_w, -List.getD_eq_getElem?_getD, Try.underlying53]) ?_
              refine rw_val (v := .int .i64 kd) (w' := w10) rfl rfl rfl rfl (by have eb_ := (hk4.on hB16); have e0_ := eb_.cellv (i := 0) (v := (.int .i64 kd : Value)) rfl; simp [go_sem, sEv, sLook, nbeq, i64_w, -List.getD_eq_getElem?_getD, e0_]) ?_
              refine rw_val (v := .bool (kd == 4)) (w' := w10) rfl rfl rfl rfl (by simp [go_sem, sEv, sLook, nbeq, i64_w, -List.getD_eq_getElem?_getD]) ?_
              refine rw_end ?_
              refine w_cond_t rfl rfl cK4 ?_
              refine w_seq ?_
              refine w_region ?_
              refine rw_val (v := .pointer (some ⟨g, 0, none⟩)) (w' := w10) rfl rfl rfl rfl rfl ?_
              refine rw_val (v := .pointer (some ⟨g1, 2, none⟩)) (w' := w10) rfl rfl rfl rfl (by simp [go_sem, sEv, sLook, nbeq, i64_w, -List.getD_eq_getElem?_getD, Try.underlying53]) ?_
              refine rw_val (v := .int .i64 nn) (w' := w10) rfl rfl rfl rfl (by have eb_ := (hk4.on hB16); have e0_ := eb_.cellv (i := 2) (v := (.int .i64 nn : Value)) rfl; simp [go_sem, sEv, sLook, nbeq, i64_w, -List.getD_eq_getElem?_getD, e0_]) ?_
              refine rw_call rfl rfl rfl rfl (f := 20) (args := #[.pointer (some ⟨g, 0, none⟩), .int .i64 nn]) (by simp [go_sem, sEv, sLook, nbeq, i64_w, -List.getD_eq_getElem?_getD]) (arm_neg w10 g nn cN) ?_
              rintro e_ w83 ⟨rfl, hb84⟩
              refine ⟨_, rfl, ?_⟩
              have hs_w83 := hb84.size
              refine rw_call rfl rfl rfl rfl (f := 22) (args := #[errT (some 1)]) (by simp [go_sem, sEv, sLook, nbeq, i64_w, -List.getD_eq_getElem?_getD]) (num_T (some 1) (by decide) w83) ?_
              rintro e_ w85 ⟨rfl, hb86⟩
              refine ⟨.int .i64 (1), rfl, ?_⟩
              have hs_w85 := hb86.size
              refine rw_val (v := .int .i64 1) (w' := w85) rfl rfl rfl rfl rfl ?_
              refine rw_val (v := .bool true) (w' := w85) rfl rfl rfl rfl (by simp [go_sem, sEv, sLook, nbeq, i64_w, -List.getD_eq_getElem?_getD]) ?_
              refine rw_val (v := .bool true) (w' := w85) rfl rfl rfl rfl rfl ?_
              refine rw_end ?_
              refine w_weaken (G' := [(1, .pointer (some ⟨u, 0, none⟩)), (5, .pointer (some ⟨g1, 0, none⟩)), (6, .bool false), (7, .slice (some ⟨gc7, 0, none⟩) bs.length c9), (8, .bool true), (10, .int .i64 1)]) ⟨rfl, rfl, rfl, rfl, rfl, rfl, trivial⟩ ?_
              refine w_seq ?_
              refine w_region ?_
              refine rw_val (v := .int .i64 1) (w' := w85) rfl rfl rfl rfl rfl ?_
              refine rw_val (v := .bool false) (w' := w85) rfl rfl rfl rfl (by simp [go_sem, sEv, sLook, nbeq, i64_w, -List.getD_eq_getElem?_getD]) ?_
              refine rw_end ?_
              refine w_cond_f rfl rfl rfl ?_
              refine w_skip ?_
              refine w_blk ?_
              refine w_seq ?_
              refine w_region ?_
              refine rw_val (v := .bool true) (w' := w85) rfl rfl rfl rfl rfl ?_
              refine rw_val (v := .bool true) (w' := w85) rfl rfl rfl rfl rfl ?_
              refine rw_on (c := true) rfl rfl rfl rfl ?_
              refine rw_val (v := .slice (some ⟨gc7, 0, none⟩) bs.length c9) (w' := w85) rfl rfl rfl rfl rfl ?_
              refine rw_on (c := true) rfl rfl rfl rfl ?_
              refine rw_val (v := .pointer (some ⟨g1, 1, none⟩)) (w' := w85) rfl rfl rfl rfl (by simp [go_sem, sEv, sLook, nbeq, i64_w, -List.getD_eq_getElem?_getD, Try.underlying53]) ?_
              refine rw_on (c := true) rfl rfl rfl rfl ?_
              refine rw_val (v := .slice A1 bs.length c1) (w' := w85) rfl rfl rfl rfl (by have eb_ := (((hk4.on hB16).on hb84).on hb86); have e0_ := eb_.cellv (i := 1) (v := (.slice A1 bs.length c1 : Value)) rfl; simp [go_sem, sEv, sLook, nbeq, i64_w, -List.getD_eq_getElem?_getD, e0_, Try.underlying27]) ?_
              refine rw_on (c := true) rfl rfl rfl rfl ?_
              refine rw_call rfl rfl rfl rfl (f := 37) (args := #[.slice (some ⟨gc7, 0, none⟩) bs.length c9, .slice A1 bs.length c1]) (by simp [go_sem, sEv, sLook, nbeq, i64_w, -List.getD_eq_getElem?_getD]) (keptB w85 gc7 cs8 c9 c1 A1 bs ((hb12.on hb84).on hb86) hN13 hc14 (Kd.C_below hbs (chain (chain (chain (chain hT.1 hb3) hB16) hb84) hb86)) hcb (by omega)) ?_
              rintro e_ w87 ⟨rfl, hb88⟩
              refine ⟨_, rfl, ?_⟩
              have hs_w87 := hb88.size
              refine rw_val (v := .bool true) (w' := w87) rfl rfl rfl rfl (by simp [go_sem, sEv, sLook, nbeq, i64_w, -List.getD_eq_getElem?_getD]) ?_
              refine rw_val (v := .bool true) (w' := w87) rfl rfl rfl rfl rfl ?_
              refine rw_end ?_
              refine w_weaken (G' := [(6, .bool false), (7, .slice (some ⟨gc7, 0, none⟩) bs.length c9), (8, .bool true)]) ⟨rfl, rfl, rfl, trivial⟩ ?_
              refine w_seq ?_
              refine w_region ?_
              refine rw_val (v := .slice (some ⟨gc7, 0, none⟩) bs.length c9) (w' := w87) rfl rfl rfl rfl rfl ?_
              refine rw_call rfl rfl rfl rfl (f := 27) (args := #[.slice (some ⟨gc7, 0, none⟩) bs.length c9]) (by simp [go_sem, sEv, sLook, nbeq, i64_w, -List.getD_eq_getElem?_getD]) (overB w87 gc7 c9 cs8 bs (((hb12.on hb84).on hb86).on hb88) (nums_left hN13) (by omega) (by omega)) ?_
              rintro e_ w89 ⟨rfl, hG90⟩
              refine ⟨.tuple #[], rfl, ?_⟩
              have hs_w89 := hG90.size
              refine rw_end ?_
              refine w_seq ?_
              refine w_region ?_
              refine rw_val (v := .bool true) (w' := w89) rfl rfl rfl rfl rfl ?_
              refine rw_val (v := .bool true) (w' := w89) rfl rfl rfl rfl rfl ?_
              refine rw_end ?_
              refine w_ret (post_ret1 rfl rfl ?_)
              have e1_ : s.play kd bs nn = s := by rw [TS.play, if_neg (by rw [cK0]; decide), if_neg (by rw [cK1]; decide), if_neg (by rw [cK2]; decide), if_neg (by rw [cK3]; decide), if_pos (by rw [cK4]), if_pos (of_decide_eq_true cN)]
              have e2_ : r.play kd bs nn = r := by rw [RS.play, if_neg (by rw [cK0]; decide), if_neg (by rw [cK1]; decide), if_neg (by rw [cK2]; decide), if_neg (by rw [cK3]; decide), if_pos (by rw [cK4]), if_pos (of_decide_eq_true cN)]
              rw [e1_, e2_]
              exact ⟨rfl, (Grow.keptS (kept_trans (kept_trans (kept_trans (kept_trans (kept_trans (kept_refl _ _) (below_kept hb3)) (below_kept hB16)) (below_kept hb84)) (below_kept hb86)) (below_kept hb88)) hG90 (.inr (by omega))), ⟨_, TapeAt.hole (TapeAt.grow (TapeAt.on (TapeAt.on (TapeAt.on (TapeAt.on (TapeAt.on (TapeAt.holeX hT (by omega)) hb3) hB16) hb84) hb86) hb88) hG90 (.inl rfl) (by omega) (by omega)) _ (fun q_ h1_ h2_ h3_ h4_ => h3_ (.inr h4_))⟩, (Blk.grow (((((hbu.on hb3).on hB16).on hb84).on hb86).on hb88) hG90 (by omega))⟩
            · have l91 : ¬ (nn < 0) := of_decide_eq_false cN
              refine w_skip ?_
              refine w_seq ?_
              refine w_region ?_
              refine rw_val (v := .pointer (some ⟨g1, 0, none⟩)) (w' := w10) rfl rfl rfl rfl (by simp [go_sem, sEv, sLook, nbeq, i64_w, -List.getD_eq_getElem?_getD, Try.underlying53]) ?_
              refine rw_val (v := .int .i64 kd) (w' := w10) rfl rfl rfl rfl (by have eb_ := (hk4.on hB16); have e0_ := eb_.cellv (i := 0) (v := (.int .i64 kd : Value)) rfl; simp [go_sem, sEv, sLook, nbeq, i64_w, -List.getD_eq_getElem?_getD, e0_]) ?_
              refine rw_val (v := .bool (kd == 4)) (w' := w10) rfl rfl rfl rfl (by simp [go_sem, sEv, sLook, nbeq, i64_w, -List.getD_eq_getElem?_getD]) ?_
              refine rw_end ?_
              refine w_cond_t rfl rfl cK4 ?_
              refine w_seq ?_
              refine w_region ?_
              refine rw_val (v := .pointer (some ⟨g, 0, none⟩)) (w' := w10) rfl rfl rfl rfl rfl ?_
              refine rw_val (v := .pointer (some ⟨g1, 2, none⟩)) (w' := w10) rfl rfl rfl rfl (by simp [go_sem, sEv, sLook, nbeq, i64_w, -List.getD_eq_getElem?_getD, Try.underlying53]) ?_
              refine rw_val (v := .int .i64 nn) (w' := w10) rfl rfl rfl rfl (by have eb_ := (hk4.on hB16); have e0_ := eb_.cellv (i := 2) (v := (.int .i64 nn : Value)) rfl; simp [go_sem, sEv, sLook, nbeq, i64_w, -List.getD_eq_getElem?_getD, e0_]) ?_
              refine rw_call rfl rfl rfl rfl (f := 20) (args := #[.pointer (some ⟨g, 0, none⟩), .int .i64 nn]) (by simp [go_sem, sEv, sLook, nbeq, i64_w, -List.getD_eq_getElem?_getD]) (wrapK (fun q h_ => Or.elim h_ (fun e_ => ⟨by omega, by omega⟩) (fun e_ => ⟨by have e2_ : q = u := e_; omega, by have e2_ : q = u := e_; omega⟩)) (arm_T w0 w10 g m (XX g m (HX gc7 (fun q => q = u)) w10.heap.size) (fun q h => h.1) s ((TapeAt.on (TapeAt.on (TapeAt.holeX hT (by omega)) hb3) hB16).toX _) hok nn cN)) ?_
              rintro e_ w92 ⟨rfl, hK93, hT94⟩
              refine ⟨errT none, rfl, ?_⟩
              have hs_w92 := hK93.1
              have hz_w92 := hT94.size
              refine rw_call rfl rfl rfl rfl (f := 22) (args := #[errT none]) (by simp [go_sem, sEv, sLook, nbeq, i64_w, -List.getD_eq_getElem?_getD]) (num_T none (by decide) w92) ?_
              rintro e_ w95 ⟨rfl, hb96⟩
              refine ⟨.int .i64 (0), rfl, ?_⟩
              have hs_w95 := hb96.size
              refine rw_val (v := .int .i64 0) (w' := w95) rfl rfl rfl rfl rfl ?_
              refine rw_val (v := .bool true) (w' := w95) rfl rfl rfl rfl (by simp [go_sem, sEv, sLook, nbeq, i64_w, -List.getD_eq_getElem?_getD]) ?_
              refine rw_val (v := .bool true) (w' := w95) rfl rfl rfl rfl rfl ?_
              refine rw_end ?_
              refine w_weaken (G' := [(1, .pointer (some ⟨u, 0, none⟩)), (5, .pointer (some ⟨g1, 0, none⟩)), (6, .bool false), (7, .slice (some ⟨gc7, 0, none⟩) bs.length c9), (8, .bool true), (10, .int .i64 0)]) ⟨rfl, rfl, rfl, rfl, rfl, rfl, trivial⟩ ?_
              refine w_seq ?_
              refine w_region ?_
              refine rw_val (v := .int .i64 0) (w' := w95) rfl rfl rfl rfl rfl ?_
              refine rw_val (v := .bool true) (w' := w95) rfl rfl rfl rfl (by simp [go_sem, sEv, sLook, nbeq, i64_w, -List.getD_eq_getElem?_getD]) ?_
              refine rw_end ?_
              refine w_cond_t rfl rfl rfl ?_
              refine w_drawm (M := [0, 0, 0, 4, 1, 17, 49, 127, 255, 511]) (ss := [Is (.pointer (some ⟨u, 0, none⟩)), Is (.pointer (some ⟨u, 0, none⟩)), Is (.pointer (some ⟨g1, 2, none⟩)), Is (.int .i64 nn), Is (.pointer (some ⟨u, 0, none⟩)), Is (.pointer (some ⟨u, 3, none⟩)), Is undef]) (fun q => q = u) 6 (fun W_ => Grow u w95 W_ ∧ Blk W_ u 51 #[.string (strOfNums r.S), .string (strOfNums r.R), .int .i64 r.st, .bool r.a, .bool r.b, .int .i64 r.l, .int .i64 r.u, .bool r.d]) (fun W_ => Grow u w95 W_ ∧ Blk W_ u 51 #[.string (strOfNums r.S), .string (strOfNums r.R), .int .i64 r.st, .bool true, .bool r.b, .int .i64 r.l, .int .i64 r.u, .bool r.d]) 7 rfl (by decide +kernel) (stab_cons stab_is (stab_cons stab_is (stab_cons stab_is (stab_cons stab_is (stab_cons stab_is (stab_cons stab_is (stab_cons stab_is stab_nil))))))) (fun _ _ hb_ h_ => ⟨h_.1.trans (Grow.ofB hb_), h_.2.on hb_⟩) (fun _ _ hb_ h_ => ⟨h_.1.trans (Grow.ofB hb_), h_.2.on hb_⟩) ⟨(Grow.ofB (below_drew _)), (((Blk.kept ((hbu.on hb3).on hB16) hK93 (sx_hole (by omega) (.inr rfl))).on hb96).on (below_drew _))⟩ ?_
              refine u_is rfl (.pointer (some ⟨u, 0, none⟩)) rfl rfl rfl rfl (fun W_ hW_ h1_ F_ => rfl) ?_
              refine u_is rfl (.pointer (some ⟨u, 0, none⟩)) rfl rfl rfl rfl (fun W_ hW_ h1_ F_ => rfl) ?_
              refine u_is rfl (.pointer (some ⟨g1, 2, none⟩)) rfl rfl rfl rfl (fun W_ hW_ h1_ F_ => by simp [go_sem, sEv, sLook, nbeq, i64_w, -List.getD_eq_getElem?_getD, Try.underlying53]) ?_
              refine u_is rfl (.int .i64 nn) rfl rfl rfl rfl (fun W_ hW_ h1_ F_ => by have eb_ := (Blk.kept ((Blk.kept (hk4.on hB16) hK93 (sx_young (n := w.heap.size) (by omega) (by omega) _ (by omega))).on hb96) (drew_kept hW_) (fun e_ => by omega)); have e0_ := eb_.cellv (i := 2) (v := (.int .i64 nn : Value)) rfl; simp [go_sem, sEv, sLook, nbeq, i64_w, -List.getD_eq_getElem?_getD, e0_]) ?_
              refine u_is rfl (.pointer (some ⟨u, 0, none⟩)) rfl rfl rfl rfl (fun W_ hW_ h1_ F_ => by simp [go_sem, sEv, sLook, nbeq, i64_w, -List.getD_eq_getElem?_getD]) ?_
              refine u_is rfl (.pointer (some ⟨u, 3, none⟩)) rfl rfl rfl rfl (fun W_ hW_ h1_ F_ => by simp [go_sem, sEv, sLook, nbeq, i64_w, -List.getD_eq_getElem?_getD, Try.underlying51]) ?_
              refine u_store rfl rfl rfl rfl (fun W_ hW_ h0_ F_ => ?_) ?_
              · obtain ⟨hg0_, hb0_⟩ := h0_
                have e0_ := hb0_.cellv (i := 3) (v := (.bool r.a : Value)) rfl
                have f0_ := hb0_.frozen 3
                exact ⟨putCells W_ u 3 [.bool true], (by simp [go_sem, sEv, sLook, nbeq, i64_w, -List.getD_eq_getElem?_getD, putCells, e0_, f0_]), (putCells_keep _ _ _).kept, hg0_.trans (Grow.ofK (putCells_keep _ _ _)), putCells_blk _ _ hb0_⟩
              refine u_tail ?_
              intro w97 hK98_ h100 F99
              have hK98 := drew_kept hK98_
              have hs_w97 := hK98.1
              obtain ⟨hG101, hb102⟩ := h100
              refine rw_val (v := .pointer (some ⟨u, 0, none⟩)) (w' := w97) rfl rfl rfl rfl (by simp [go_sem, sEv, sLook, nbeq, i64_w, -List.getD_eq_getElem?_getD]) ?_
              refine rw_val (v := .pointer (some ⟨u, 5, none⟩)) (w' := w97) rfl rfl rfl rfl (by simp [go_sem, sEv, sLook, nbeq, i64_w, -List.getD_eq_getElem?_getD, Try.underlying51]) ?_
              have hb106 := hb102
              refine rw_store (g := u) (i := 5) (l := [.int .i64 nn]) (cs' := #[.string (strOfNums r.S), .string (strOfNums r.R), .int .i64 r.st, .bool true, .bool r.b, .int .i64 nn, .int .i64 r.u, .bool r.d]) rfl rfl rfl hb106 rfl (by have e0_ := hb106.cellv (i := 5) (v := (.int .i64 r.l : Value)) rfl; have f0_ := hb106.frozen 5; simp [go_sem, sEv, sLook, nbeq, i64_w, -List.getD_eq_getElem?_getD, putCells, e0_, f0_]) ?_
              intro w103 hk104 hk105
              have hs_w103 := hk104.size
              refine rw_end ?_
              refine w_weaken (G' := [(5, .pointer (some ⟨g1, 0, none⟩)), (6, .bool false), (7, .slice (some ⟨gc7, 0, none⟩) bs.length c9), (8, .bool true)]) ⟨rfl, rfl, rfl, rfl, trivial⟩ ?_
              refine w_blk ?_
              refine w_seq ?_
              refine w_region ?_
              refine rw_val (v := .bool true) (w' := w103) rfl rfl rfl rfl rfl ?_
              refine rw_val (v := .bool true) (w' := w103) rfl rfl rfl rfl rfl ?_
              refine rw_on (c := true) rfl rfl rfl rfl ?_
              refine rw_val (v := .slice (some ⟨gc7, 0, none⟩) bs.length c9) (w' := w103) rfl rfl rfl rfl rfl ?_
              refine rw_on (c := true) rfl rfl rfl rfl ?_
              refine rw_val (v := .pointer (some ⟨g1, 1, none⟩)) (w' := w103) rfl rfl rfl rfl (by simp [go_sem, sEv, sLook, nbeq, i64_w, -List.getD_eq_getElem?_getD, Try.underlying53]) ?_
              refine rw_on (c := true) rfl rfl rfl rfl ?_
              refine rw_val (v := .slice A1 bs.length c1) (w' := w103) rfl rfl rfl rfl (by have eb_ := ((Blk.grow ((Blk.kept (hk4.on hB16) hK93 (sx_young (n := w.heap.size) (by omega) (by omega) _ (by omega))).on hb96) hG101 (by omega)).keep hk104 (by omega)); have e0_ := eb_.cellv (i := 1) (v := (.slice A1 bs.length c1 : Value)) rfl; simp [go_sem, sEv, sLook, nbeq, i64_w, -List.getD_eq_getElem?_getD, e0_, Try.underlying27]) ?_
              refine rw_on (c := true) rfl rfl rfl rfl ?_
              refine rw_call rfl rfl rfl rfl (f := 37) (args := #[.slice (some ⟨gc7, 0, none⟩) bs.length c9, .slice A1 bs.length c1]) (by simp [go_sem, sEv, sLook, nbeq, i64_w, -List.getD_eq_getElem?_getD]) (keptB w103 gc7 cs8 c9 c1 A1 bs ((Blk.grow ((Blk.kept hb12 hK93 (sx_hole (by omega) (.inl rfl))).on hb96) hG101 (by omega)).keep hk104 (by omega)) hN13 hc14 (Kd.C_below hbs (hk104.below (by omega) (hG101.below (by omega) (chain hT94.1 hb96)))) hcb (by omega)) ?_
              rintro e_ w107 ⟨rfl, hb108⟩
              refine ⟨_, rfl, ?_⟩
              have hs_w107 := hb108.size
              refine rw_val (v := .bool true) (w' := w107) rfl rfl rfl rfl (by simp [go_sem, sEv, sLook, nbeq, i64_w, -List.getD_eq_getElem?_getD]) ?_
              refine rw_val (v := .bool true) (w' := w107) rfl rfl rfl rfl rfl ?_
              refine rw_end ?_
              refine w_weaken (G' := [(6, .bool false), (7, .slice (some ⟨gc7, 0, none⟩) bs.length c9), (8, .bool true)]) ⟨rfl, rfl, rfl, trivial⟩ ?_
              refine w_seq ?_
              refine w_region ?_
              refine rw_val (v := .slice (some ⟨gc7, 0, none⟩) bs.length c9) (w' := w107) rfl rfl rfl rfl rfl ?_
              refine rw_call rfl rfl rfl rfl (f := 27) (args := #[.slice (some ⟨gc7, 0, none⟩) bs.length c9]) (by simp [go_sem, sEv, sLook, nbeq, i64_w, -List.getD_eq_getElem?_getD]) (overB w107 gc7 c9 cs8 bs (((Blk.grow ((Blk.kept hb12 hK93 (sx_hole (by omega) (.inl rfl))).on hb96) hG101 (by omega)).keep hk104 (by omega)).on hb108) (nums_left hN13) (by omega) (by omega)) ?_
              rintro e_ w109 ⟨rfl, hG110⟩
              refine ⟨.tuple #[], rfl, ?_⟩
              have hs_w109 := hG110.size
              refine rw_end ?_
              refine w_seq ?_
              refine w_region ?_
              refine rw_val (v := .bool true) (w' := w109) rfl rfl rfl rfl rfl ?_
              refine rw_val (v := .bool true) (w' := w109) rfl rfl rfl rfl rfl ?_
              refine rw_end ?_
              refine w_ret (post_ret1 rfl rfl ?_)
              have e1_ : s.play kd bs nn = ({ s with ps := true, pl := nn } : TS) := by rw [TS.play, if_neg (by rw [cK0]; decide), if_neg (by rw [cK1]; decide), if_neg (by rw [cK2]; decide), if_neg (by rw [cK3]; decide), if_pos (by rw [cK4]), if_neg (of_decide_eq_false cN)]
              have e2_ : r.play kd bs nn = ({ r with a := true, l := nn } : RS) := by rw [RS.play, if_neg (by rw [cK0]; decide), if_neg (by rw [cK1]; decide), if_neg (by rw [cK2]; decide), if_neg (by rw [cK3]; decide), if_pos (by rw [cK4]), if_neg (of_decide_eq_false cN)]
              rw [e1_, e2_]
              exact ⟨rfl, (Grow.keptS (kept_trans (Grow.keptS (Grow.keptS (kept_trans (kept_trans (kept_trans (kept_trans (kept_refl _ _) (below_kept hb3)) (below_kept hB16)) (Kept.mono' hK93 (fun k_ _ hk_ => .inr (SX.hole (fun q_ h_ => .inr h_) hk_)))) (below_kept hb96)) hG101 (.inl (.inl rfl))) (Grow.ofK hk104) (.inl (.inl rfl))) (below_kept hb108)) hG110 (.inr (by omega))), ⟨_, TapeAt.hole (TapeAt.grow (TapeAt.on (TapeAt.grow (TapeAt.grow (TapeAt.on hT94 hb96) hG101 (.inr rfl) (by omega) (by omega)) (Grow.ofK hk104) (.inr rfl) (by omega) (by omega)) hb108) hG110 (.inl rfl) (by omega) (by omega)) _ (fun q_ h1_ h2_ h3_ h4_ => h3_ (.inr h4_))⟩, (Blk.grow (hk105.on hb108) hG110 (by omega))⟩
          · have l111 : ¬ kd = 4 := by simpa using cK4
            refine w_region ?_
            refine rw_val (v := .bool (kd == 5)) (w' := w10) rfl rfl rfl rfl (by simp [go_sem, sEv, sLook, nbeq, i64_w, -List.getD_eq_getElem?_getD]) ?_
            refine rw_val (v := .bool (kd == 5)) (w' := w10) rfl rfl rfl rfl rfl ?_
            refine rw_end ?_
            refine w_cond rfl rfl (fun cK5 => ?_) (fun cK5 => ?_)
            · have l112 : kd = 5 := by simpa using cK5
              refine w_seq ?_
              refine w_region ?_
              refine rw_val (v := .int .i64 0) (w' := w10) rfl rfl rfl rfl rfl ?_
              refine rw_end ?_
              refine w_seq ?_
              refine w_seq ?_
              refine w_region ?_
              refine rw_val (v := .pointer (some ⟨g1, 2, none⟩)) (w' := w10) rfl rfl rfl rfl (by simp [go_sem, sEv, sLook, nbeq, i64_w, -List.getD_eq_getElem?_getD, Try.underlying53]) ?_
              refine rw_val (v := .int .i64 nn) (w' := w10) rfl rfl rfl rfl (by have eb_ := (hk4.on hB16); have e0_ := eb_.cellv (i := 2) (v := (.int .i64 nn : Value)) rfl; simp [go_sem, sEv, sLook, nbeq, i64_w, -List.getD_eq_getElem?_getD, e0_]) ?_
              refine rw_val (v := .bool (decide (nn < 0))) (w' := w10) rfl rfl rfl rfl (by simp [go_sem, sEv, sLook, nbeq, i64_w, -List.getD_eq_getElem?_getD]) ?_
              refine rw_end ?_
              refine w_cond rfl rfl (fun cN => ?_) (fun cN => ?_)
              · have l113 : (nn < 0) := of_decide_eq_true cN
                refine w_region ?_
                refine rw_val (v := .int .i64 1) (w' := w10) rfl rfl rfl rfl rfl ?_
                refine rw_end ?_
                refine w_seq ?_
                refine w_region ?_
                refine rw_val (v := .pointer (some ⟨g1, 0, none⟩)) (w' := w10) rfl rfl rfl rfl (by simp [go_sem, sEv, sLook, nbeq, i64_w, -List.getD_eq_getElem?_getD, Try.underlying53]) ?_
                refine rw_val (v := .int .i64 kd) (w' := w10) rfl rfl rfl rfl (by have eb_ := (hk4.on hB16); have e0_ := eb_.cellv (i := 0) (v := (.int .i64 kd : Value)) rfl; simp [go_sem, sEv, sLook, nbeq, i64_w, -List.getD_eq_getElem?_getD, e0_]) ?_
                refine rw_val (v := .bool (kd == 4)) (w' := w10) rfl rfl rfl rfl (by simp [go_sem, sEv, sLook, nbeq, i64_w, -List.getD_eq_getElem?_getD]) ?_
                refine rw_end ?_
                refine w_cond_f rfl rfl cK4 ?_
                refine w_seq ?_
                refine w_region ?_
                refine rw_val (v := .pointer (some ⟨g, 0, none⟩)) (w' := w10) rfl rfl rfl rfl rfl ?_
                refine rw_val (v := .pointer (some ⟨g1, 2, none⟩)) (w' := w10) rfl rfl rfl rfl (by simp [go_sem, sEv, sLook, nbeq, i64_w, -List.getD_eq_getElem?_getD, Try.underlying53]) ?_
                refine rw_val (v := .int .i64 nn) (w' := w10) rfl rfl rfl rfl (by have eb_ := (hk4.on hB16); have e0_ := eb_.cellv (i := 2) (v := (.int .i64 nn : Value)) rfl; simp [go_sem, sEv, sLook, nbeq, i64_w, -List.getD_eq_getElem?_getD, e0_]) ?_
                refine rw_call rfl rfl rfl rfl (f := 21) (args := #[.pointer (some ⟨g, 0, none⟩), .int .i64 nn]) (by simp [go_sem, sEv, sLook, nbeq, i64_w, -List.getD_eq_getElem?_getD]) (fail_neg w10 g nn cN) ?_
                rintro e_ w114 ⟨rfl, hb115⟩
                refine ⟨_, rfl, ?_⟩
                have hs_w114 := hb115.size
                refine rw_call rfl rfl rfl rfl (f := 22) (args := #[errT (some 1)]) (by simp [go_sem, sEv, sLook, nbeq, i64_w, -List.getD_eq_getElem?_getD]) (num_T (some 1) (by decide) w114) ?_
                rintro e_ w116 ⟨rfl, hb117⟩
                refine ⟨.int .i64 (1), rfl, ?_⟩
                have hs_w116 := hb117.size
                refine rw_val (v := .int .i64 1) (w' := w116) rfl rfl rfl rfl rfl ?_
                refine rw_val (v := .bool true) (w' := w116) rfl rfl rfl rfl (by simp [go_sem, sEv, sLook, nbeq, i64_w, -List.getD_eq_getElem?_getD]) ?_
                refine rw_val (v := .bool true) (w' := w116) rfl rfl rfl rfl rfl ?_
                refine rw_end ?_
                refine w_weaken (G' := [(1, .pointer (some ⟨u, 0, none⟩)), (5, .pointer (some ⟨g1, 0, none⟩)), (6, .bool false), (7, .slice (some ⟨gc7, 0, none⟩) bs.length c9), (8, .bool true), (10, .int .i64 1)]) ⟨rfl, rfl, rfl, rfl, rfl, rfl, trivial⟩ ?_
                refine w_seq ?_
                refine w_region ?_
                refine rw_val (v := .int .i64 1) (w' := w116) rfl rfl rfl rfl rfl ?_
                refine rw_val (v := .bool false) (w' := w116) rfl rfl rfl rfl (by simp [go_sem, sEv, sLook, nbeq, i64_w, -List.getD_eq_getElem?_getD]) ?_
                refine rw_end ?_
                refine w_cond_f rfl rfl rfl ?_
                refine w_skip ?_
                refine w_blk ?_
                refine w_seq ?_
                refine w_region ?_
                refine rw_val (v := .bool true) (w' := w116) rfl rfl rfl rfl rfl ?_
                refine rw_val (v := .bool true) (w' := w116) rfl rfl rfl rfl rfl ?_
                refine rw_on (c := true) rfl rfl rfl rfl ?_
                refine rw_val (v := .slice (some ⟨gc7, 0, none⟩) bs.length c9) (w' := w116) rfl rfl rfl rfl rfl ?_
                refine rw_on (c := true) rfl rfl rfl rfl ?_
                refine rw_val (v := .pointer (some ⟨g1, 1, none⟩)) (w' := w116) rfl rfl rfl rfl (by simp [go_sem, sEv, sLook, nbeq, i64_w, -List.getD_eq_getElem?_getD, Try.underlying53]) ?_
                refine rw_on (c := true) rfl rfl rfl rfl ?_
                refine rw_val (v := .slice A1 bs.length c1) (w' := w116) rfl rfl rfl rfl (by have eb_ := (((hk4.on hB16).on hb115).on hb117); have e0_ := eb_.cellv (i := 1) (v := (.slice A1 bs.length c1 : Value)) rfl; simp [go_sem, sEv, sLook, nbeq, i64_w, -List.getD_eq_getElem?_getD, e0_, Try.underlying27]) ?_
                refine rw_on (c := true) rfl rfl rfl rfl ?_
                refine rw_call rfl rfl rfl rfl (f := 37) (args := #[.slice (some ⟨gc7, 0, none⟩) bs.length c9, .slice A1 bs.length c1]) (by simp [go_sem, sEv, sLook, nbeq, i64_w, -List.getD_eq_getElem?_getD]) (keptB w116 gc7 cs8 c9 c1 A1 bs ((hb12.on hb115).on hb117) hN13 hc14 (Kd.C_below hbs (chain (chain (chain (chain hT.1 hb3) hB16) hb115) hb117)) hcb (by omega)) ?_
                rintro e_ w118 ⟨rfl, hb119⟩
                refine ⟨_, rfl, ?_⟩
                have hs_w118 := hb119.size
                refine rw_val (v := .bool true) (w' := w118) rfl rfl rfl rfl (by simp [go_sem, sEv, sLook, nbeq, i64_w, -List.getD_eq_getElem?_getD]) ?_
                refine rw_val (v := .bool true) (w' := w118) rfl rfl rfl rfl rfl ?_
                refine rw_end ?_
                refine w_weaken (G' := [(6, .bool false), (7, .slice (some ⟨gc7, 0, none⟩) bs.length c9), (8, .bool true)]) ⟨rfl, rfl, rfl, trivial⟩ ?_
                refine w_seq ?_
                refine w_region ?_
                refine rw_val (v := .slice (some ⟨gc7, 0, none⟩) bs.length c9) (w' := w118) rfl rfl rfl rfl rfl ?_
                refine rw_call rfl rfl rfl rfl (f := 27) (args := #[.slice (some ⟨gc7, 0, none⟩) bs.length c9]) (by simp [go_sem, sEv, sLook, nbeq, i64_w, -List.getD_eq_getElem?_getD]) (overB w118 gc7 c9 cs8 bs (((hb12.on hb115).on hb117).on hb119) (nums_left hN13) (by omega) (by omega)) ?_
                rintro e_ w120 ⟨rfl, hG121⟩
                refine ⟨.tuple #[], rfl, ?_⟩
                have hs_w120 := hG121.size
                refine rw_end ?_
                refine w_seq ?_
                refine w_region ?_
                refine rw_val (v := .bool true) (w' := w120) rfl rfl rfl rfl rfl ?_
                refine rw_val (v := .bool true) (w' := w120) rfl rfl rfl rfl rfl ?_
                refine rw_end ?_
                refine w_ret (post_ret1 rfl rfl ?_)
                have e1_ : s.play kd bs nn = s := by rw [TS.play, if_neg (by rw [cK0]; decide), if_neg (by rw [cK1]; decide), if_neg (by rw [cK2]; decide), if_neg (by rw [cK3]; decide), if_neg (by rw [cK4]; decide), if_pos (by rw [cK5]), if_pos (of_decide_eq_true cN)]
                have e2_ : r.play kd bs nn = r := by rw [RS.play, if_neg (by rw [cK0]; decide), if_neg (by rw [cK1]; decide), if_neg (by rw [cK2]; decide), if_neg (by rw [cK3]; decide), if_neg (by rw [cK4]; decide), if_pos (by rw [cK5]), if_pos (of_decide_eq_true cN)]
                rw [e1_, e2_]
                exact ⟨rfl, (Grow.keptS (kept_trans (kept_trans (kept_trans (kept_trans (kept_trans (kept_refl _ _) (below_kept hb3)) (below_kept hB16)) (below_kept hb115)) (below_kept hb117)) (below_kept hb119)) hG121 (.inr (by omega))), ⟨_, TapeAt.hole (TapeAt.grow (TapeAt.on (TapeAt.on (TapeAt.on (TapeAt.on (TapeAt.on (TapeAt.holeX hT (by omega)) hb3) hB16) hb115) hb117) hb119) hG121 (.inl rfl) (by omega) (by omega)) _ (fun q_ h1_ h2_ h3_ h4_ => h3_ (.inr h4_))⟩, (Blk.grow (((((hbu.on hb3).on hB16).on hb115).on hb117).on hb119) hG121 (by omega))⟩
              · have l122 : ¬ (nn < 0) := of_decide_eq_false cN
                refine w_skip ?_
                refine w_seq ?_
                refine w_region ?_
                refine rw_val (v := .pointer (some ⟨g1, 0, none⟩)) (w' := w10) rfl rfl rfl rfl (by simp [go_sem, sEv, sLook, nbeq, i64_w, -List.getD_eq_getElem?_getD, Try.underlying53]) ?_
                refine rw_val (v := .int .i64 kd) (w' := w10) rfl rfl rfl rfl (by have eb_ := (hk4.on hB16); have e0_ := eb_.cellv (i := 0) (v := (.int .i64 kd : Value)) rfl; simp [go_sem, sEv, sLook, nbeq, i64_w, -List.getD_eq_getElem?_getD, e0_]) ?_
                refine rw_val (v := .bool (kd == 4)) (w' := w10) rfl rfl rfl rfl (by simp [go_sem, sEv, sLook, nbeq, i64_w, -List.getD_eq_getElem?_getD]) ?_
                refine rw_end ?_
                refine w_cond_f rfl rfl cK4 ?_
                refine w_seq ?_
                refine w_region ?_
                refine rw_val (v := .pointer (some ⟨g, 0, none⟩)) (w' := w10) rfl rfl rfl rfl rfl ?_
                refine rw_val (v := .pointer (some ⟨g1, 2, none⟩)) (w' := w10) rfl rfl rfl rfl (by simp [go_sem, sEv, sLook, nbeq, i64_w, -List.getD_eq_getElem?_getD, Try.underlying53]) ?_
                refine rw_val (v := .int .i64 nn) (w' := w10) rfl rfl rfl rfl (by have eb_ := (hk4.on hB16); have e0_ := eb_.cellv (i := 2) (v := (.int .i64 nn : Value)) rfl; simp [go_sem, sEv, sLook, nbeq, i64_w, -List.getD_eq_getElem?_getD, e0_]) ?_
                refine rw_call rfl rfl rfl rfl (f := 21) (args := #[.pointer (some ⟨g, 0, none⟩), .int .i64 nn]) (by simp [go_sem, sEv, sLook, nbeq, i64_w, -List.getD_eq_getElem?_getD]) (wrapK (fun q h_ => Or.elim h_ (fun e_ => ⟨by omega, by omega⟩) (fun e_ => ⟨by have e2_ : q = u := e_; omega, by have e2_ : q = u := e_; omega⟩)) (fail_T w0 w10 g m (XX g m (HX gc7 (fun q => q = u)) w10.heap.size) (fun q h => h.1) s ((TapeAt.on (TapeAt.on (TapeAt.holeX hT (by omega)) hb3) hB16).toX _) hok nn cN)) ?_
                rintro e_ w123 ⟨rfl, hK124, hT125⟩
                refine ⟨errT none, rfl, ?_⟩
                have hs_w123 := hK124.1
                have hz_w123 := hT125.size
                refine rw_call rfl rfl rfl rfl (f := 22) (args := #[errT none]) (by simp [go_sem, sEv, sLook, nbeq, i64_w, -List.getD_eq_getElem?_getD]) (num_T none (by decide) w123) ?_
                rintro e_ w126 ⟨rfl, hb127⟩
                refine ⟨.int .i64 (0), rfl, ?_⟩
                have hs_w126 := hb127.size
                refine rw_val (v := .int .i64 0) (w' := w126) rfl rfl rfl rfl rfl ?_
                refine rw_val (v := .bool true) (w' := w126) rfl rfl rfl rfl (by simp [go_sem, sEv, sLook, nbeq, i64_w, -List.getD_eq_getElem?_getD]) ?_
                refine rw_val (v := .bool true) (w' := w126) rfl rfl rfl rfl rfl ?_
                refine rw_end ?_
                refine w_weaken (G' := [(1, .pointer (some ⟨u, 0, none⟩)), (5, .pointer (some ⟨g1, 0, none⟩)), (6, .bool false), (7, .slice (some ⟨gc7, 0, none⟩) bs.length c9), (8, .bool true), (10, .int .i64 0)]) ⟨rfl, rfl, rfl, rfl, rfl, rfl, trivial⟩ ?_
                refine w_seq ?_
                refine w_region ?_
                refine rw_val (v := .int .i64 0) (w' := w126) rfl rfl rfl rfl rfl ?_
                refine rw_val (v := .bool true) (w' := w126) rfl rfl rfl rfl (by simp [go_sem, sEv, sLook, nbeq, i64_w, -List.getD_eq_getElem?_getD]) ?_
                refine rw_end ?_
                refine w_cond_t rfl rfl rfl ?_
                refine w_drawm (M := [0, 0, 0, 4, 1, 17, 49, 127, 255, 511]) (ss := [Is (.pointer (some ⟨u, 0, none⟩)), Is (.pointer (some ⟨u, 0, none⟩)), Is (.pointer (some ⟨g1, 2, none⟩)), Is (.int .i64 nn), Is (.pointer (some ⟨u, 0, none⟩)), Is (.pointer (some ⟨u, 4, none⟩)), Is undef]) (fun q => q = u) 6 (fun W_ => Grow u w126 W_ ∧ Blk W_ u 51 #[.string (strOfNums r.S), .string (strOfNums r.R), .int .i64 r.st, .bool r.a, .bool r.b, .int .i64 r.l, .int .i64 r.u, .bool r.d]) (fun W_ => Grow u w126 W_ ∧ Blk W_ u 51 #[.string (strOfNums r.S), .string (strOfNums r.R), .int .i64 r.st, .bool r.a, .bool true, .int .i64 r.l, .int .i64 r.u, .bool r.d]) 7 rfl (by decide +kernel) (stab_cons stab_is (stab_cons stab_is (stab_cons stab_is (stab_cons stab_is (stab_cons stab_is (stab_cons stab_is (stab_cons stab_is stab_nil))))))) (fun _ _ hb_ h_ => ⟨h_.1.trans (Grow.ofB hb_), h_.2.on hb_⟩) (fun _ _ hb_ h_ => ⟨h_.1.trans (Grow.ofB hb_), h_.2.on hb_⟩) ⟨(Grow.ofB (below_drew _)), (((Blk.kept ((hbu.on hb3).on hB16) hK124 (sx_hole (by omega) (.inr rfl))).on hb127).on (below_drew _))⟩ ?_
                refine u_is rfl (.pointer (some ⟨u, 0, none⟩)) rfl rfl rfl rfl (fun W_ hW_ h1_ F_ => rfl) ?_
                refine u_is rfl (.pointer (some ⟨u, 0, none⟩)) rfl rfl rfl rfl (fun W_ hW_ h1_ F_ => rfl) ?_
                refine u_is rfl (.pointer (some ⟨g1, 2, none⟩)) rfl rfl rfl rfl (fun W_ hW_ h1_ F_ => by simp [go_sem, sEv, sLook, nbeq, i64_w, -List.getD_eq_getElem?_getD, Try.underlying53]) ?_
                refine u_is rfl (.int .i64 nn) rfl rfl rfl rfl (fun W_ hW_ h1_ F_ => by have eb_ := (Blk.kept ((Blk.kept (hk4.on hB16) hK124 (sx_young (n := w.heap.size) (by omega) (by omega) _ (by omega))).on hb127) (drew_kept hW_) (fun e_ => by omega)); have e0_ := eb_.cellv (i := 2) (v := (.int .i64 nn : Value)) rfl; simp [go_sem, sEv, sLook, nbeq, i64_w, -List.getD_eq_getElem?_getD, e0_]) ?_
                refine u_is rfl (.pointer (some ⟨u, 0, none⟩)) rfl rfl rfl rfl (fun W_ hW_ h1_ F_ => by simp [go_sem, sEv, sLook, nbeq, i64_w, -List.getD_eq_getElem?_getD]) ?_
                refine u_is rfl (.pointer (some ⟨u, 4, none⟩)) rfl rfl rfl rfl (fun W_ hW_ h1_ F_ => by simp [go_sem, sEv, sLook, nbeq, i64_w, -List.getD_eq_getElem?_getD, Try.underlying51]) ?_
                refine u_store rfl rfl rfl rfl (fun W_ hW_ h0_ F_ => ?_) ?_
                · obtain ⟨hg0_, hb0_⟩ := h0_
                  have e0_ := hb0_.cellv (i := 4) (v := (.bool r.b : Value)) rfl
                  have f0_ := hb0_.frozen 4
                  exact ⟨putCells W_ u 4 [.bool true], (by simp [go_sem, sEv, sLook, nbeq, i64_w, -List.getD_eq_getElem?_getD, putCells, e0_, f0_]), (putCells_keep _ _ _).kept, hg0_.trans (Grow.ofK (putCells_keep _ _ _)), putCells_blk _ _ hb0_⟩
                refine u_tail ?_
                intro w128 hK129_ h131 F130
                have hK129 := drew_kept hK129_
                have hs_w128 := hK129.1
                obtain ⟨hG132, hb133⟩ := h131
                refine rw_val (v := .pointer (some ⟨u, 0, none⟩)) (w' := w128) rfl rfl rfl rfl (by simp [go_sem, sEv, sLook, nbeq, i64_w, -List.getD_eq_getElem?_getD]) ?_
                refine rw_val (v := .pointer (some ⟨u, 6, none⟩)) (w' := w128) rfl rfl rfl rfl (by simp [go_sem, sEv, sLook, nbeq, i64_w, -List.getD_eq_getElem?_getD, Try.underlying51]) ?_
                have hb137 := hb133
                refine rw_store (g := u) (i := 6) (l := [.int .i64 nn]) (cs' := #[.string (strOfNums r.S), .string (strOfNums r.R), .int .i64 r.st, .bool r.a, .bool true, .int .i64 r.l, .int .i64 nn, .bool r.d]) rfl rfl rfl hb137 rfl (by have e0_ := hb137.cellv (i := 6) (v := (.int .i64 r.u : Value)) rfl; have f0_ := hb137.frozen 6; simp [go_sem, sEv, sLook, nbeq, i64_w, -List.getD_eq_getElem?_getD, putCells, e0_, f0_]) ?_
                intro w134 hk135 hk136
                have hs_w134 := hk135.size
                refine rw_end ?_
                refine w_weaken (G' := [(5, .pointer (some ⟨g1, 0, none⟩)), (6, .bool false), (7, .slice (some ⟨gc7, 0, none⟩) bs.length c9), (8, .bool true)]) ⟨rfl, rfl, rfl, rfl, trivial⟩ ?_
                refine w_blk ?_
                refine w_seq ?_
                refine w_region ?_
                refine rw_val (v := .bool true) (w' := w134) rfl rfl rfl rfl rfl ?_
                refine rw_val (v := .bool true) (w' := w134) rfl rfl rfl rfl rfl ?_
                refine rw_on (c := true) rfl rfl rfl rfl ?_
                refine rw_val (v := .slice (some ⟨gc7, 0, none⟩) bs.length c9) (w' := w134) rfl rfl rfl rfl rfl ?_
                refine rw_on (c := true) rfl rfl rfl rfl ?_
                refine rw_val (v := .pointer (some ⟨g1, 1, none⟩)) (w' := w134) rfl rfl rfl rfl (by simp [go_sem, sEv, sLook, nbeq, i64_w, -List.getD_eq_getElem?_getD, Try.underlying53]) ?_
                refine rw_on (c := true) rfl rfl rfl rfl ?_
                refine rw_val (v := .slice A1 bs.length c1) (w' := w134) rfl rfl rfl rfl (by have eb_ := ((Blk.grow ((Blk.kept (hk4.on hB16) hK124 (sx_young (n := w.heap.size) (by omega) (by omega) _ (by omega))).on hb127) hG132 (by omega)).keep hk135 (by omega)); have e0_ := eb_.cellv (i := 1) (v := (.slice A1 bs.length c1 : Value)) rfl; simp [go_sem, sEv, sLook, nbeq, i64_w, -List.getD_eq_getElem?_getD, e0_, Try.underlying27]) ?_
                refine rw_on (c := true) rfl rfl rfl rfl ?_
                refine rw_call rfl rfl rfl rfl (f := 37) (args := #[.slice (some ⟨gc7, 0, none⟩) bs.length c9, .slice A1 bs.length c1]) (by simp [go_sem, sEv, sLook, nbeq, i64_w, -List.getD_eq_getElem?_getD]) (keptB w134 gc7 cs8 c9 c1 A1 bs ((Blk.grow ((Blk.kept hb12 hK124 (sx_hole (by omega) (.inl rfl))).on hb127) hG132 (by omega)).keep hk135 (by omega)) hN13 hc14 (Kd.C_below hbs (hk135.below (by omega) (hG132.below (by omega) (chain hT125.1 hb127)))) hcb (by omega)) ?_
                rintro e_ w138 ⟨rfl, hb139⟩
                refine ⟨_, rfl, ?_⟩
                have hs_w138 := hb139.size
                refine rw_val (v := .bool true) (w' := w138) rfl rfl rfl rfl (by simp [go_sem, sEv, sLook, nbeq, i64_w, -List.getD_eq_getElem?_getD]) ?_
                refine rw_val (v := .bool true) (w' := w138) rfl rfl rfl rfl rfl ?_
                refine rw_end ?_
                refine w_weaken (G' := [(6, .bool false), (7, .slice (some ⟨gc7, 0, none⟩) bs.length c9), (8, .bool true)]) ⟨rfl, rfl, rfl, trivial⟩ ?_
                refine w_seq ?_
                refine w_region ?_
                refine rw_val (v := .slice (some ⟨gc7, 0, none⟩) bs.length c9) (w' := w138) rfl rfl rfl rfl rfl ?_
                refine rw_call rfl rfl rfl rfl (f := 27) (args := #[.slice (some ⟨gc7, 0, none⟩) bs.length c9]) (by simp [go_sem, sEv, sLook, nbeq, i64_w, -List.getD_eq_getElem?_getD]) (overB w138 gc7 c9 cs8 bs (((Blk.grow ((Blk.kept hb12 hK124 (sx_hole (by omega) (.inl rfl))).on hb127) hG132 (by omega)).keep hk135 (by omega)).on hb139) (nums_left hN13) (by omega) (by omega)) ?_
                rintro e_ w140 ⟨rfl, hG141⟩
                refine ⟨.tuple #[], rfl, ?_⟩
                have hs_w140 := hG141.size
                refine rw_end ?_
                refine w_seq ?_
                refine w_region ?_
                refine rw_val (v := .bool true) (w' := w140) rfl rfl rfl rfl rfl ?_
                refine rw_val (v := .bool true) (w' := w140) rfl rfl rfl rfl rfl ?_
                refine rw_end ?_
                refine w_ret (post_ret1 rfl rfl ?_)
                have e1_ : s.play kd bs nn = ({ s with fs := true, fl := nn } : TS) := by rw [TS.play, if_neg (by rw [cK0]; decide), if_neg (by rw [cK1]; decide), if_neg (by rw [cK2]; decide), if_neg (by rw [cK3]; decide), if_neg (by rw [cK4]; decide), if_pos (by rw [cK5]), if_neg (of_decide_eq_false cN)]
                have e2_ : r.play kd bs nn = ({ r with b := true, u := nn } : RS) := by rw [RS.play, if_neg (by rw [cK0]; decide), if_neg (by rw [cK1]; decide), if_neg (by rw [cK2]; decide), if_neg (by rw [cK3]; decide), if_neg (by rw [cK4]; decide), if_pos (by rw [cK5]), if_neg (of_decide_eq_false cN)]
                rw [e1_, e2_]
                exact ⟨rfl, (Grow.keptS (kept_trans (Grow.keptS (Grow.keptS (kept_trans (kept_trans (kept_trans (kept_trans (kept_refl _ _) (below_kept hb3)) (below_kept hB16)) (Kept.mono' hK124 (fun k_ _ hk_ => .inr (SX.hole (fun q_ h_ => .inr h_) hk_)))) (below_kept hb127)) hG132 (.inl (.inl rfl))) (Grow.ofK hk135) (.inl (.inl rfl))) (below_kept hb139)) hG141 (.inr (by omega))), ⟨_, TapeAt.hole (TapeAt.grow (TapeAt.on (TapeAt.grow (TapeAt.grow (TapeAt.on hT125 hb127) hG132 (.inr rfl) (by omega) (by omega)) (Grow.ofK hk135) (.inr rfl) (by omega) (by omega)) hb139) hG141 (.inl rfl) (by omega) (by omega)) _ (fun q_ h1_ h2_ h3_ h4_ => h3_ (.inr h4_))⟩, (Blk.grow (hk136.on hb139) hG141 (by omega))⟩
            · have l142 : ¬ kd = 5 := by simpa using cK5
              refine w_seq ?_
              refine w_region ?_
              refine rw_val (v := .pointer (some ⟨g, 0, none⟩)) (w' := w10) rfl rfl rfl rfl rfl ?_
              refine rw_val (v := .pointer (some ⟨g1, 2, none⟩)) (w' := w10) rfl rfl rfl rfl (by simp [go_sem, sEv, sLook, nbeq, i64_w, -List.getD_eq_getElem?_getD, Try.underlying53]) ?_
              refine rw_val (v := .int .i64 nn) (w' := w10) rfl rfl rfl rfl (by have eb_ := (hk4.on hB16); have e0_ := eb_.cellv (i := 2) (v := (.int .i64 nn : Value)) rfl; simp [go_sem, sEv, sLook, nbeq, i64_w, -List.getD_eq_getElem?_getD, e0_]) ?_
              refine rw_call rfl rfl rfl rfl (f := 14) (args := #[.pointer (some ⟨g, 0, none⟩), .int .i64 nn]) (by simp [go_sem, sEv, sLook, nbeq, i64_w, -List.getD_eq_getElem?_getD]) (wrapK (fun q h_ => Or.elim h_ (fun e_ => ⟨by omega, by omega⟩) (fun e_ => ⟨by have e2_ : q = u := e_; omega, by have e2_ : q = u := e_; omega⟩)) (crash_T w0 w10 g m (XX g m (HX gc7 (fun q => q = u)) w10.heap.size) (fun q h => h.1) s ((TapeAt.on (TapeAt.on (TapeAt.holeX hT (by omega)) hb3) hB16).toX _) hok nn)) ?_
              rintro e_ w143 ⟨rfl, hK144, hT145⟩
              refine ⟨.tuple #[], rfl, ?_⟩
              have hs_w143 := hK144.1
              have hz_w143 := hT145.size
              refine rw_end ?_
              refine w_weaken (G' := [(1, .pointer (some ⟨u, 0, none⟩)), (5, .pointer (some ⟨g1, 0, none⟩)), (6, .bool false), (7, .slice (some ⟨gc7, 0, none⟩) bs.length c9), (8, .bool true)]) ⟨rfl, rfl, rfl, rfl, rfl, trivial⟩ ?_
              refine w_region ?_
              refine rw_val (v := .pointer (some ⟨u, 0, none⟩)) (w' := w143) rfl rfl rfl rfl rfl ?_
              refine rw_val (v := .pointer (some ⟨g1, 2, none⟩)) (w' := w143) rfl rfl rfl rfl (by simp [go_sem, sEv, sLook, nbeq, i64_w, -List.getD_eq_getElem?_getD, Try.underlying53]) ?_
              refine rw_val (v := .int .i64 nn) (w' := w143) rfl rfl rfl rfl (by have eb_ := (Blk.kept (hk4.on hB16) hK144 (sx_young (n := w.heap.size) (by omega) (by omega) _ (by omega))); have e0_ := eb_.cellv (i := 2) (v := (.int .i64 nn : Value)) rfl; simp [go_sem, sEv, sLook, nbeq, i64_w, -List.getD_eq_getElem?_getD, e0_]) ?_
              refine rw_call rfl rfl rfl rfl (f := 36) (args := #[.pointer (some ⟨u, 0, none⟩), .int .i64 nn]) (by simp [go_sem, sEv, sLook, nbeq, i64_w, -List.getD_eq_getElem?_getD]) (rcrash w143 u r hst hl hu_ hn nn (Blk.kept ((hbu.on hb3).on hB16) hK144 (sx_hole (by omega) (.inr rfl)))) ?_
              rintro e_ w146 ⟨rfl, hG147, hb148⟩
              refine ⟨.tuple #[], rfl, ?_⟩
              have hs_w146 := hG147.size
              refine rw_end ?_
              refine w_weaken (G' := [(5, .pointer (some ⟨g1, 0, none⟩)), (6, .bool false), (7, .slice (some ⟨gc7, 0, none⟩) bs.length c9), (8, .bool true)]) ⟨rfl, rfl, rfl, rfl, trivial⟩ ?_
              refine w_blk ?_
              refine w_seq ?_
              refine w_region ?_
              refine rw_val (v := .bool true) (w' := w146) rfl rfl rfl rfl rfl ?_
              refine rw_val (v := .bool true) (w' := w146) rfl rfl rfl rfl rfl ?_
              refine rw_on (c := true) rfl rfl rfl rfl ?_
              refine rw_val (v := .slice (some ⟨gc7, 0, none⟩) bs.length c9) (w' := w146) rfl rfl rfl rfl rfl ?_
              refine rw_on (c := true) rfl rfl rfl rfl ?_
              refine rw_val (v := .pointer (some ⟨g1, 1, none⟩)) (w' := w146) rfl rfl rfl rfl (by simp [go_sem, sEv, sLook, nbeq, i64_w, -List.getD_eq_getElem?_getD, Try.underlying53]) ?_
              refine rw_on (c := true) rfl rfl rfl rfl ?_
              refine rw_val (v := .slice A1 bs.length c1) (w' := w146) rfl rfl rfl rfl (by have eb_ := (Blk.grow (Blk.kept (hk4.on hB16) hK144 (sx_young (n := w.heap.size) (by omega) (by omega) _ (by omega))) hG147 (by omega)); have e0_ := eb_.cellv (i := 1) (v := (.slice A1 bs.length c1 : Value)) rfl; simp [go_sem, sEv, sLook, nbeq, i64_w, -List.getD_eq_getElem?_getD, e0_, Try.underlying27]) ?_
              refine rw_on (c := true) rfl rfl rfl rfl ?_
              refine rw_call rfl rfl rfl rfl (f := 37) (args := #[.slice (some ⟨gc7, 0, none⟩) bs.length c9, .slice A1 bs.length c1]) (by simp [go_sem, sEv, sLook, nbeq, i64_w, -List.getD_eq_getElem?_getD]) (keptB w146 gc7 cs8 c9 c1 A1 bs (Blk.grow (Blk.kept hb12 hK144 (sx_hole (by omega) (.inl rfl))) hG147 (by omega)) hN13 hc14 (Kd.C_below hbs (hG147.below (by omega) hT145.1)) hcb (by omega)) ?_
              rintro e_ w149 ⟨rfl, hb150⟩
              refine ⟨_, rfl, ?_⟩
              have hs_w149 := hb150.size
              refine rw_val (v := .bool true) (w' := w149) rfl rfl rfl rfl (by simp [go_sem, sEv, sLook, nbeq, i64_w, -List.getD_eq_getElem?_getD]) ?_
              refine rw_val (v := .bool true) (w' := w149) rfl rfl rfl rfl rfl ?_
              refine rw_end ?_
              refine w_weaken (G' := [(6, .bool false), (7, .slice (some ⟨gc7, 0, none⟩) bs.length c9), (8, .bool true)]) ⟨rfl, rfl, rfl, trivial⟩ ?_
              refine w_seq ?_
              refine w_region ?_
              refine rw_val (v := .slice (some ⟨gc7, 0, none⟩) bs.length c9) (w' := w149) rfl rfl rfl rfl rfl ?_
              refine rw_call rfl rfl rfl rfl (f := 27) (args := #[.slice (some ⟨gc7, 0, none⟩) bs.length c9]) (by simp [go_sem, sEv, sLook, nbeq, i64_w, -List.getD_eq_getElem?_getD]) (overB w149 gc7 c9 cs8 bs ((Blk.grow (Blk.kept hb12 hK144 (sx_hole (by omega) (.inl rfl))) hG147 (by omega)).on hb150) (nums_left hN13) (by omega) (by omega)) ?_
              rintro e_ w151 ⟨rfl, hG152⟩
              refine ⟨.tuple #[], rfl, ?_⟩
              have hs_w151 := hG152.size
              refine rw_end ?_
              refine w_seq ?_
              refine w_region ?_
              refine rw_val (v := .bool true) (w' := w151) rfl rfl rfl rfl rfl ?_
              refine rw_val (v := .bool true) (w' := w151) rfl rfl rfl rfl rfl ?_
              refine rw_end ?_
              refine w_ret (post_ret1 rfl rfl ?_)
              have e1_ : s.play kd bs nn = (s.crash nn) := by rw [TS.play, if_neg (by rw [cK0]; decide), if_neg (by rw [cK1]; decide), if_neg (by rw [cK2]; decide), if_neg (by rw [cK3]; decide), if_neg (by rw [cK4]; decide), if_neg (by rw [cK5]; decide)]
              have e2_ : r.play kd bs nn = (r.crash nn) := by rw [RS.play, if_neg (by rw [cK0]; decide), if_neg (by rw [cK1]; decide), if_neg (by rw [cK2]; decide), if_neg (by rw [cK3]; decide), if_neg (by rw [cK4]; decide), if_neg (by rw [cK5]; decide)]
              rw [e1_, e2_]
              exact ⟨rfl, (Grow.keptS (kept_trans (Grow.keptS (kept_trans (kept_trans (kept_trans (kept_refl _ _) (below_kept hb3)) (below_kept hB16)) (Kept.mono' hK144 (fun k_ _ hk_ => .inr (SX.hole (fun q_ h_ => .inr h_) hk_)))) hG147 (.inl (.inl rfl))) (below_kept hb150)) hG152 (.inr (by omega))), ⟨_, TapeAt.hole (TapeAt.grow (TapeAt.on (TapeAt.grow hT145 hG147 (.inr rfl) (by omega) (by omega)) hb150) hG152 (.inl rfl) (by omega) (by omega)) _ (fun q_ h1_ h2_ h3_ h4_ => h3_ (.inr h4_))⟩, (Blk.grow (hb148.on hb150) hG152 (by omega))⟩
end Go.Proofs.Ytpbpeklbmmbigaa.Tp
