/- A law's own walk: NtSames. -/
import Derived.Test.YtbbhdohjhipalaaQB6
section
namespace Go.Proofs.Ytbbhdohjhipalaa.Ce
open Go.RowKit Go.Proofs.YtbbhdohjhipalaaW.PrintWords Go.Proofs.YtbbhdohjhipalaaW.PrintLast Go.Proofs.YtbbhdohjhipalaaW.PrintMore
open Go.Proofs.Ytbbhdohjhipalaa.Flow
open Go.Proofs.Ytbbhdohjhipalaa.PNoteReads
set_option linter.unusedVariables false
set_option linter.unusedSimpArgs false
set_option maxHeartbeats 4000000 in
theorem sames_calls (w : World) (m n : NT) (A3 : Option Addr) (c3 : Nat) (hn3 : (Kd.int .i64).C w A3 m.nums.length m.nums) (hc3 : m.nums.length ≤ c3) (A4 : Option Addr) (c4 : Nat) (hn4 : kOp.C w A4 m.ops.length m.ops) (hc4 : m.ops.length ≤ c4) (A5 : Option Addr) (c5 : Nat) (hn5 : kEntry.C w A5 m.ents.length m.ents) (hc5 : m.ents.length ≤ c5) (A6 : Option Addr) (c6 : Nat) (hn6 : (Kd.int .i64).C w A6 n.nums.length n.nums) (hc6 : n.nums.length ≤ c6) (A7 : Option Addr) (c7 : Nat) (hn7 : kOp.C w A7 n.ops.length n.ops) (hc7 : n.ops.length ≤ c7) (A8 : Option Addr) (c8 : Nat) (hn8 : kEntry.C w A8 n.ents.length n.ents) (hc8 : n.ents.length ≤ c8) (hq3_ : m.nums.length * 8 ≤ 140737488351232) (hq4_ : m.ops.length * 40 ≤ 140737488351232) (hq5_ : m.ents.length * 608 ≤ 140737488351232) (hq6_ : n.nums.length * 8 ≤ 140737488351232) (hq7_ : n.ops.length * 40 ≤ 140737488351232) (hq8_ : n.ents.length * 608 ≤ 140737488351232) :
    Calls Try.prog 7 #[.agg #[.int .i64 m.kind, .int .i64 m.fr, .int .i64 m.tw, .slice A3 m.nums.length c3, .slice A4 m.ops.length c4, .slice A5 m.ents.length c5], .agg #[.int .i64 n.kind, .int .i64 n.fr, .int .i64 n.tw, .slice A6 n.nums.length c6, .slice A7 n.ops.length c7, .slice A8 n.ents.length c8]] w fun e w' => e = .returned (.bool true) ∧ Below w.heap.size w w' := by
  refine calls_flow Try.func7 rfl 21 rfl (Nat.le_of_ble_eq_true rfl) [(0, .agg #[.int .i64 m.kind, .int .i64 m.fr, .int .i64 m.tw, .slice A3 m.nums.length c3, .slice A4 m.ops.length c4, .slice A5 m.ents.length c5]), (1, .agg #[.int .i64 n.kind, .int .i64 n.fr, .int .i64 n.tw, .slice A6 n.nums.length c6, .slice A7 n.ops.length c7, .slice A8 n.ents.length c8])] ?_ ?_
  · intro t v h; exact args_look rfl t v h
  refine w_seq ?_
  refine w_region ?_
  refine rw_new (cs := #[.int .i64 m.kind, .int .i64 m.fr, .int .i64 m.tw, .slice A3 m.nums.length c3, .slice A4 m.ops.length c4, .slice A5 m.ents.length c5]) (t := 26) (fun g => .pointer (some ⟨g, 0, none⟩)) rfl rfl rfl rfl (by simp [go_sem, sEv, sLook, nbeq, i64_w, -List.getD_eq_getElem?_getD]) ?_
  intro g1 w2 hg6 hz5 hb3 hk4
  have hs_w2 := hb3.size
  refine rw_new (cs := #[.int .i64 n.kind, .int .i64 n.fr, .int .i64 n.tw, .slice A6 n.nums.length c6, .slice A7 n.ops.length c7, .slice A8 n.ents.length c8]) (t := 26) (fun g => .pointer (some ⟨g, 0, none⟩)) rfl rfl rfl rfl (by simp [go_sem, sEv, sLook, nbeq, i64_w, -List.getD_eq_getElem?_getD]) ?_
  intro g7 w8 hg12 hz11 hb9 hk10
  have hs_w8 := hb9.size
  refine rw_val (v := .bool false) (w' := w8) rfl rfl rfl rfl rfl ?_
  refine rw_end ?_
  refine w_seq ?_
  refine w_drawk (M := [0, 1, 3, 3, 15, 3, 3, 127, 255, 511, 1023, 2047, 2047, 6143, 16383, 32767, 65535]) (ss := [(Is (.bool true)), Is (.bool true), Is (.agg #[.int .i64 m.kind, .int .i64 m.fr, .int .i64 m.tw, .slice A3 m.nums.length c3, .slice A4 m.ops.length c4, .slice A5 m.ents.length c5]), Is (.agg #[.int .i64 n.kind, .int .i64 n.fr, .int .i64 n.tw, .slice A6 n.nums.length c6, .slice A7 n.ops.length c7, .slice A8 n.ents.length c8]), (BIff (m = n)), Is (.agg #[.int .i64 m.kind, .int .i64 m.fr, .int .i64 m.tw, .slice A3 m.nums.length c3, .slice A4 m.ops.length c4, .slice A5 m.ents.length c5]), Is (.agg #[.int .i64 n.kind, .int .i64 n.fr, .int .i64 n.tw, .slice A6 n.nums.length c6, .slice A7 n.ops.length c7, .slice A8 n.ents.length c8]), (BIff (m = n)), Is (.bool true), Is (.bool true), Is (.bool true), Is (.agg #[.int .i64 m.kind, .int .i64 m.fr, .int .i64 m.tw, .slice A3 m.nums.length c3, .slice A4 m.ops.length c4, .slice A5 m.ents.length c5]), Is (.agg #[.int .i64 m.kind, .int .i64 m.fr, .int .i64 m.tw, .slice A3 m.nums.length c3, .slice A4 m.ops.length c4, .slice A5 m.ents.length c5]), (CopSpec m w.heap.size w8.heap.size)]) 14 rfl (by decide +kernel) ?_
  refine t_call (f := 9) (args := #[]) (Is (.bool true)) rfl rfl rfl rfl (fun W_ => by simp [go_sem, sEv, sLook, nbeq, i64_w, -List.getD_eq_getElem?_getD]) (fun W_ hW_ F_ => ?_) ?_
  · refine (alive_calls W_).mono ?_
    rintro e_ w_ ⟨rfl, hb_⟩
    exact ⟨_, rfl, rfl, hb_⟩
  rintro _ rfl
  refine t_is (.bool true) rfl rfl rfl rfl (fun W_ hW_ F_ => rfl) ?_
  refine t_gis (c := true) (.agg #[.int .i64 m.kind, .int .i64 m.fr, .int .i64 m.tw, .slice A3 m.nums.length c3, .slice A4 m.ops.length c4, .slice A5 m.ents.length c5]) rfl rfl rfl rfl rfl rfl rfl (fun W_ hW_ F_ => by have eb_ := ((hk4.on hb9).on (below_of_drew hW_)); have e0_ := eb_.cellv (i := 0) (v := (.int .i64 m.kind : Value)) rfl; have e1_ := eb_.cellv (i := 1) (v := (.int .i64 m.fr : Value)) rfl; have e2_ := eb_.cellv (i := 2) (v := (.int .i64 m.tw : Value)) rfl; have e3_ := eb_.cellv (i := 3) (v := (.slice A3 m.nums.length c3 : Value)) rfl; have e4_ := eb_.cellv (i := 4) (v := (.slice A4 m.ops.length c4 : Value)) rfl; have e5_ := eb_.cellv (i := 5) (v := (.slice A5 m.ents.length c5 : Value)) rfl; simp [go_sem, sEv, sLook, nbeq, i64_w, -List.getD_eq_getElem?_getD, e0_, e1_, e2_, e3_, e4_, e5_, Try.underlying26]) ?_
  refine t_gis (c := true) (.agg #[.int .i64 n.kind, .int .i64 n.fr, .int .i64 n.tw, .slice A6 n.nums.length c6, .slice A7 n.ops.length c7, .slice A8 n.ents.length c8]) rfl rfl rfl rfl rfl rfl rfl (fun W_ hW_ F_ => by have eb_ := (hk10.on (below_of_drew hW_)); have e0_ := eb_.cellv (i := 0) (v := (.int .i64 n.kind : Value)) rfl; have e1_ := eb_.cellv (i := 1) (v := (.int .i64 n.fr : Value)) rfl; have e2_ := eb_.cellv (i := 2) (v := (.int .i64 n.tw : Value)) rfl; have e3_ := eb_.cellv (i := 3) (v := (.slice A6 n.nums.length c6 : Value)) rfl; have e4_ := eb_.cellv (i := 4) (v := (.slice A7 n.ops.length c7 : Value)) rfl; have e5_ := eb_.cellv (i := 5) (v := (.slice A8 n.ents.length c8 : Value)) rfl; simp [go_sem, sEv, sLook, nbeq, i64_w, -List.getD_eq_getElem?_getD, e0_, e1_, e2_, e3_, e4_, e5_, Try.underlying26]) ?_
  refine t_gcall (c := true) (f := 22) (args := #[.agg #[.int .i64 m.kind, .int .i64 m.fr, .int .i64 m.tw, .slice A3 m.nums.length c3, .slice A4 m.ops.length c4, .slice A5 m.ents.length c5], .agg #[.int .i64 n.kind, .int .i64 n.fr, .int .i64 n.tw, .slice A6 n.nums.length c6, .slice A7 n.ops.length c7, .slice A8 n.ents.length c8]]) (BIff (m = n)) rfl rfl rfl rfl rfl rfl rfl (fun W_ => by simp [go_sem, sEv, sLook, nbeq, i64_w, -List.getD_eq_getElem?_getD]) (fun W_ hW_ F_ => ?_) ?_
  · refine (same_calls W_ m n A3 c3 A4 c4 A5 c5 (Kd.C_below hn3 (chain (chain hb3 hb9) (below_of_drew hW_))) hc3 (by omega) (Kd.C_below hn4 (chain (chain hb3 hb9) (below_of_drew hW_))) hc4 (by omega) (Kd.C_below hn5 (chain (chain hb3 hb9) (below_of_drew hW_))) hc5 (by omega) A6 c6 A7 c7 A8 c8 (Kd.C_below hn6 (chain (chain hb3 hb9) (below_of_drew hW_))) hc6 (by omega) (Kd.C_below hn7 (chain (chain hb3 hb9) (below_of_drew hW_))) hc7 (by omega) (Kd.C_below hn8 (chain (chain hb3 hb9) (below_of_drew hW_))) hc8 (by omega)).mono ?_
    rintro e_ w_ ⟨bb_, rfl, hi_, hb_⟩
    exact ⟨_, rfl, ⟨bb_, rfl, hi_⟩, hb_⟩
  rintro _ ⟨b13, rfl, hi14⟩
  refine t_gis (c := true) (.agg #[.int .i64 m.kind, .int .i64 m.fr, .int .i64 m.tw, .slice A3 m.nums.length c3, .slice A4 m.ops.length c4, .slice A5 m.ents.length c5]) rfl rfl rfl rfl rfl rfl rfl (fun W_ hW_ F_ => by have eb_ := ((hk4.on hb9).on (below_of_drew hW_)); have e0_ := eb_.cellv (i := 0) (v := (.int .i64 m.kind : Value)) rfl; have e1_ := eb_.cellv (i := 1) (v := (.int .i64 m.fr : Value)) rfl; have e2_ := eb_.cellv (i := 2) (v := (.int .i64 m.tw : Value)) rfl; have e3_ := eb_.cellv (i := 3) (v := (.slice A3 m.nums.length c3 : Value)) rfl; have e4_ := eb_.cellv (i := 4) (v := (.slice A4 m.ops.length c4 : Value)) rfl; have e5_ := eb_.cellv (i := 5) (v := (.slice A5 m.ents.length c5 : Value)) rfl; simp [go_sem, sEv, sLook, nbeq, i64_w, -List.getD_eq_getElem?_getD, e0_, e1_, e2_, e3_, e4_, e5_, Try.underlying26]) ?_
  refine t_gis (c := true) (.agg #[.int .i64 n.kind, .int .i64 n.fr, .int .i64 n.tw, .slice A6 n.nums.length c6, .slice A7 n.ops.length c7, .slice A8 n.ents.length c8]) rfl rfl rfl rfl rfl rfl rfl (fun W_ hW_ F_ => by have eb_ := (hk10.on (below_of_drew hW_)); have e0_ := eb_.cellv (i := 0) (v := (.int .i64 n.kind : Value)) rfl; have e1_ := eb_.cellv (i := 1) (v := (.int .i64 n.fr : Value)) rfl; have e2_ := eb_.cellv (i := 2) (v := (.int .i64 n.tw : Value)) rfl; have e3_ := eb_.cellv (i := 3) (v := (.slice A6 n.nums.length c6 : Value)) rfl; have e4_ := eb_.cellv (i := 4) (v := (.slice A7 n.ops.length c7 : Value)) rfl; have e5_ := eb_.cellv (i := 5) (v := (.slice A8 n.ents.length c8 : Value)) rfl; simp [go_sem, sEv, sLook, nbeq, i64_w, -List.getD_eq_getElem?_getD, e0_, e1_, e2_, e3_, e4_, e5_, Try.underlying26]) ?_
  refine t_gcall (c := true) (f := 17) (args := #[.agg #[.int .i64 m.kind, .int .i64 m.fr, .int .i64 m.tw, .slice A3 m.nums.length c3, .slice A4 m.ops.length c4, .slice A5 m.ents.length c5], .agg #[.int .i64 n.kind, .int .i64 n.fr, .int .i64 n.tw, .slice A6 n.nums.length c6, .slice A7 n.ops.length c7, .slice A8 n.ents.length c8]]) (BIff (m = n)) rfl rfl rfl rfl rfl rfl rfl (fun W_ => by simp [go_sem, sEv, sLook, nbeq, i64_w, -List.getD_eq_getElem?_getD]) (fun W_ hW_ F_ => ?_) ?_
  · refine (rsame_calls W_ m n A3 c3 A4 c4 A5 c5 (Kd.C_below hn3 (chain (chain hb3 hb9) (below_of_drew hW_))) hc3 (by omega) (Kd.C_below hn4 (chain (chain hb3 hb9) (below_of_drew hW_))) hc4 (by omega) (Kd.C_below hn5 (chain (chain hb3 hb9) (below_of_drew hW_))) hc5 (by omega) A6 c6 A7 c7 A8 c8 (Kd.C_below hn6 (chain (chain hb3 hb9) (below_of_drew hW_))) hc6 (by omega) (Kd.C_below hn7 (chain (chain hb3 hb9) (below_of_drew hW_))) hc7 (by omega) (Kd.C_below hn8 (chain (chain hb3 hb9) (below_of_drew hW_))) hc8 (by omega)).mono ?_
    rintro e_ w_ ⟨bb_, rfl, hi_, hb_⟩
    exact ⟨_, rfl, ⟨bb_, rfl, hi_⟩, hb_⟩
  rintro _ ⟨b15, rfl, hi16⟩
  refine t_gis (c := true) (.bool true) rfl rfl rfl rfl rfl rfl rfl (fun W_ hW_ F_ => (by rw [show b13 = b15 from Bool.eq_iff_iff.2 (hi14.trans hi16.symm)]; simp [go_sem, sEv, sLook, nbeq, i64_w, -List.getD_eq_getElem?_getD])) ?_
  refine t_is (.bool true) rfl rfl rfl rfl (fun W_ hW_ F_ => by simp [go_sem, sEv, sLook, nbeq, i64_w, -List.getD_eq_getElem?_getD]) ?_
  refine t_is (.bool true) rfl rfl rfl rfl (fun W_ hW_ F_ => rfl) ?_
  refine t_gis (c := true) (.agg #[.int .i64 m.kind, .int .i64 m.fr, .int .i64 m.tw, .slice A3 m.nums.length c3, .slice A4 m.ops.length c4, .slice A5 m.ents.length c5]) rfl rfl rfl rfl rfl rfl rfl (fun W_ hW_ F_ => by have eb_ := ((hk4.on hb9).on (below_of_drew hW_)); have e0_ := eb_.cellv (i := 0) (v := (.int .i64 m.kind : Value)) rfl; have e1_ := eb_.cellv (i := 1) (v := (.int .i64 m.fr : Value)) rfl; have e2_ := eb_.cellv (i := 2) (v := (.int .i64 m.tw : Value)) rfl; have e3_ := eb_.cellv (i := 3) (v := (.slice A3 m.nums.length c3 : Value)) rfl; have e4_ := eb_.cellv (i := 4) (v := (.slice A4 m.ops.length c4 : Value)) rfl; have e5_ := eb_.cellv (i := 5) (v := (.slice A5 m.ents.length c5 : Value)) rfl; simp [go_sem, sEv, sLook, nbeq, i64_w, -List.getD_eq_getElem?_getD, e0_, e1_, e2_, e3_, e4_, e5_, Try.underlying26]) ?_
  refine t_gis (c := true) (.agg #[.int .i64 m.kind, .int .i64 m.fr, .int .i64 m.tw, .slice A3 m.nums.length c3, .slice A4 m.ops.length c4, .slice A5 m.ents.length c5]) rfl rfl rfl rfl rfl rfl rfl (fun W_ hW_ F_ => by have eb_ := ((hk4.on hb9).on (below_of_drew hW_)); have e0_ := eb_.cellv (i := 0) (v := (.int .i64 m.kind : Value)) rfl; have e1_ := eb_.cellv (i := 1) (v := (.int .i64 m.fr : Value)) rfl; have e2_ := eb_.cellv (i := 2) (v := (.int .i64 m.tw : Value)) rfl; have e3_ := eb_.cellv (i := 3) (v := (.slice A3 m.nums.length c3 : Value)) rfl; have e4_ := eb_.cellv (i := 4) (v := (.slice A4 m.ops.length c4 : Value)) rfl; have e5_ := eb_.cellv (i := 5) (v := (.slice A5 m.ents.length c5 : Value)) rfl; simp [go_sem, sEv, sLook, nbeq, i64_w, -List.getD_eq_getElem?_getD, e0_, e1_, e2_, e3_, e4_, e5_, Try.underlying26]) ?_
  refine t_gcall (c := true) (f := 11) (args := #[.agg #[.int .i64 m.kind, .int .i64 m.fr, .int .i64 m.tw, .slice A3 m.nums.length c3, .slice A4 m.ops.length c4, .slice A5 m.ents.length c5]]) (CopSpec m w.heap.size w8.heap.size) rfl rfl rfl rfl rfl rfl rfl (fun W_ => by simp [go_sem, sEv, sLook, nbeq, i64_w, -List.getD_eq_getElem?_getD]) (fun W_ hW_ F_ => ?_) ?_
  · have hs_ := (below_of_drew hW_).size
    refine (copied_calls W_ m A3 c3 A4 c4 A5 c5 (Kd.C_below hn3 (chain (chain hb3 hb9) (below_of_drew hW_))) hc3 (Kd.C_below hn4 (chain (chain hb3 hb9) (below_of_drew hW_))) hc4 (Kd.C_below hn5 (chain (chain hb3 hb9) (below_of_drew hW_))) hc5 hq3_ hq4_ hq5_).mono ?_
    rintro e_ w_ ⟨A3_, c3_, A4_, c4_, A5_, c5_, rfl, h3_, h4_, h5_, hb_⟩
    exact ⟨_, rfl, ⟨_, _, _, _, _, _, rfl, OwnK.mono (d := (Kd.int .i64)) (OwnK.lower h3_ (by omega)) (by omega), OwnK.mono (d := kOp) (OwnK.lower h4_ (by omega)) (by omega), OwnK.mono (d := kEntry) (OwnK.lower h5_ (by omega)) (by omega)⟩, hb_⟩
  rintro _ ⟨A20, c21, A22, c23, A24, c25, rfl⟩
  refine t_tail ?_
  intro w26 hb27_ F28
  have hb27 := below_of_drew hb27_
  have hs_w26 := hb27.size
  have hfl_hO17 : (m.nums ++ [(-77)]).length = m.nums.length + 1 := by simp
  obtain ⟨hO17, hO18, hO19⟩ := cop_fact (F28 13 (CopSpec m w.heap.size w8.heap.size) (.agg #[.int .i64 m.kind, .int .i64 m.fr, .int .i64 m.tw, .slice A20 m.nums.length c21, .slice A22 m.ops.length c23, .slice A24 m.ents.length c25]) (by kernel_rfl))
  clear F28
  refine rw_on (c := true) rfl rfl rfl rfl ?_
  refine rw_call rfl rfl rfl rfl (f := 22) (args := #[.agg #[.int .i64 m.kind, .int .i64 m.fr, .int .i64 m.tw, .slice A3 m.nums.length c3, .slice A4 m.ops.length c4, .slice A5 m.ents.length c5], .agg #[.int .i64 m.kind, .int .i64 m.fr, .int .i64 m.tw, .slice A20 m.nums.length c21, .slice A22 m.ops.length c23, .slice A24 m.ents.length c25]]) (by simp [go_sem, sEv, sLook, nbeq, i64_w, -List.getD_eq_getElem?_getD]) (same_calls w26 m m A3 c3 A4 c4 A5 c5 (Kd.C_below hn3 (chain (chain hb3 hb9) hb27)) hc3 (by omega) (Kd.C_below hn4 (chain (chain hb3 hb9) hb27)) hc4 (by omega) (Kd.C_below hn5 (chain (chain hb3 hb9) hb27)) hc5 (by omega) A20 c21 A22 c23 A24 c25 (Kd.C_below (OwnK.front (d := (Kd.int .i64)) hO17) (Below.refl _ _)) (show m.nums.length ≤ c21 by have q_ := OwnK.cap (d := (Kd.int .i64)) hO17; omega) (by omega) (OwnK.C (d := kOp) hO18) (OwnK.cap (d := kOp) hO18) (by omega) (OwnK.C (d := kEntry) hO19) (OwnK.cap (d := kEntry) hO19) (by omega)) ?_
  rintro e_ w31 ⟨b29, rfl, hi30, hb32⟩
  refine ⟨_, rfl, ?_⟩
  have hs_w31 := hb32.size
  refine rw_val (v := .bool b29) (w' := w31) rfl rfl rfl rfl (by simp [go_sem, sEv, sLook, nbeq, i64_w, -List.getD_eq_getElem?_getD]) ?_
  refine rw_val (v := .bool b29) (w' := w31) rfl rfl rfl rfl rfl ?_
  refine rw_end ?_
  refine w_weaken (G' := [(4, .bool b29)]) ⟨rfl, trivial⟩ ?_
  have hq33 : b29 = true := by exact hi30.2 rfl
  refine w_ret (post_ret1 rfl rfl ?_)
  exact ⟨by first | rfl | (simp [hq33]; done) | (simp_all; done), (chain (chain (chain hb3 hb9) hb27) hb32)⟩
end Go.Proofs.Ytbbhdohjhipalaa.Ce
end
