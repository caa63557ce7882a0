/- Wide numbers are a group: the walk. -/
import Derived.Test.YthhepaikogcddaaFlOps
namespace Go.Proofs.Ythhepaikogcddaa.PFloorGroup
open Go.RowKit Go.Proofs.YthhepaikogcddaaW.PrintWords Go.Proofs.YthhepaikogcddaaW.PrintLast Go.Proofs.YthhepaikogcddaaW.PrintMore
open Go.Proofs.Ythhepaikogcddaa.Flow
set_option linter.unusedVariables false
set_option linter.unusedSimpArgs false


def wh (ah al bh bl : Int) : Int := wrap64 (ah + bh + (al + bl) / 18446744073709551616)
def wl (al bl : Int) : Int := (al + bl) % 18446744073709551616
def nh (ah al : Int) : Int := wrap64 ((-1 - ah) + 0 + ((18446744073709551615 - al) + 1) / 18446744073709551616)
def nl (al : Int) : Int := ((18446744073709551615 - al) + 1) % 18446744073709551616
theorem wl_range (al bl : Int) : 0 ≤ wl al bl ∧ wl al bl < 18446744073709551616 := by unfold wl; omega
theorem nl_range (al : Int) : 0 ≤ nl al ∧ nl al < 18446744073709551616 := by unfold nl; omega
theorem wh_range (ah al bh bl : Int) : -9223372036854775808 ≤ wh ah al bh bl ∧ wh ah al bh bl ≤ 9223372036854775807 := by unfold wh wrap64; omega
theorem nh_range (ah al : Int) : -9223372036854775808 ≤ nh ah al ∧ nh ah al ≤ 9223372036854775807 := by unfold nh wrap64; omega
theorem wadd_calls (ah al bh bl : Int) (hal : 0 ≤ al ∧ al < 18446744073709551616) (hbl : 0 ≤ bl ∧ bl < 18446744073709551616) (w : World) :
    Calls Try.prog 15 #[.agg #[.int .i64 ah, .int .u64 al], .agg #[.int .i64 bh, .int .u64 bl]] w fun e w' => e = .returned (.agg #[.int .i64 (wh ah al bh bl), .int .u64 (wl al bl)]) ∧ Below w.heap.size w w' := add_calls ah al bh bl hal hbl w
theorem wneg_calls (ah al : Int) (hah : -9223372036854775808 ≤ ah ∧ ah ≤ 9223372036854775807) (hal : 0 ≤ al ∧ al < 18446744073709551616) (w : World) :
    Calls Try.prog 16 #[.agg #[.int .i64 ah, .int .u64 al]] w fun e w' => e = .returned (.agg #[.int .i64 (nh ah al), .int .u64 (nl al)]) ∧ Below w.heap.size w w' := neg_raw ah al hah hal w
theorem of_nil (w : World) : Calls Try.prog 14 #[.int .i64 0] w fun e w' => e = .returned (.agg #[.int .i64 0, .int .u64 0]) ∧ Below w.heap.size w w' := by
  have h := of_calls 0 w
  rw [show (0 : Int) / 9223372036854775808 = 0 by decide, show IntKind.u64.wrap 0 = 0 by decide +kernel] at h
  exact h
theorem eqA24 (d : Nat) (w : World) (x0 y0 : Int) (x1 y1 : Int) :
    (Op.equalIn (d + 2) 24 (.agg #[.int .i64 x0, .int .u64 x1]) (.agg #[.int .i64 y0, .int .u64 y1])).run Try.prog w = .ok (x0 == y0 && (x1 == y1)) w := by
  refine eqA_of Try.underlying24 (by kernel_rfl) ?_
  refine eqf_cons (by rfl) (by go_simp; rfl) (by go_simp; rfl) (by go_simp) ?_
  exact eqf_last (by rfl) (by go_simp; rfl) (by go_simp; rfl) (by go_simp)
set_option maxHeartbeats 4000000 in
theorem walkGroup (ah al bh bl ch cl : Int) (hah : -9223372036854775808 ≤ ah ∧ ah ≤ 9223372036854775807) (hal : 0 ≤ al ∧ al < 18446744073709551616) (hbh : -9223372036854775808 ≤ bh ∧ bh ≤ 9223372036854775807) (hbl : 0 ≤ bl ∧ bl < 18446744073709551616) (hch : -9223372036854775808 ≤ ch ∧ ch ≤ 9223372036854775807) (hcl : 0 ≤ cl ∧ cl < 18446744073709551616) (w : World) :
    Calls Try.prog 3 #[.agg #[.int .i64 ah, .int .u64 al], .agg #[.int .i64 bh, .int .u64 bl], .agg #[.int .i64 ch, .int .u64 cl]] w fun e w' => e = .returned (.bool true) ∧ Below w.heap.size w w' := by
  refine calls_flow Try.func3 rfl 53 rfl (Nat.le_of_ble_eq_true rfl) [(0, .agg #[.int .i64 ah, .int .u64 al]), (1, .agg #[.int .i64 bh, .int .u64 bl]), (2, .agg #[.int .i64 ch, .int .u64 cl])] ?_ ?_
  · intro t v h; exact args_look rfl t v h
  refine w_seq ?_
  refine w_region ?_
  refine rw_new (cs := #[.int .i64 ah, .int .u64 al]) (t := 24) (fun g => .pointer (some ⟨g, 0, none⟩)) rfl rfl rfl rfl (by simp [go_sem, sEv, sLook, nbeq, i64_w]) ?_
  intro g1 w2 hg6 hz5 hb3 hk4
  have hs_w2 := hb3.size
  refine rw_new (cs := #[.int .i64 bh, .int .u64 bl]) (t := 24) (fun g => .pointer (some ⟨g, 0, none⟩)) rfl rfl rfl rfl (by simp [go_sem, sEv, sLook, nbeq, i64_w]) ?_
  intro g7 w8 hg12 hz11 hb9 hk10
  have hs_w8 := hb9.size
  refine rw_new (cs := #[.int .i64 ch, .int .u64 cl]) (t := 24) (fun g => .pointer (some ⟨g, 0, none⟩)) rfl rfl rfl rfl (by simp [go_sem, sEv, sLook, nbeq, i64_w]) ?_
  intro g13 w14 hg18 hz17 hb15 hk16
  have hs_w14 := hb15.size
  refine rw_val (v := .bool false) (w' := w14) rfl rfl rfl rfl rfl ?_
  refine rw_end ?_
  refine w_weaken (G' := [(3, .pointer (some ⟨g1, 0, none⟩)), (4, .pointer (some ⟨g7, 0, none⟩)), (5, .pointer (some ⟨g13, 0, none⟩)), (6, .bool false)]) ⟨rfl, rfl, rfl, rfl, trivial⟩ ?_
  refine w_seq ?_
  refine w_seq ?_
  refine w_region ?_
  refine rw_call rfl rfl rfl rfl (f := 13) (args := #[]) (by simp [go_sem, sEv, sLook, nbeq, i64_w]) (alive_calls w14) ?_
  rintro e_ w19 ⟨rfl, hb20⟩
  refine ⟨_, rfl, ?_⟩
  have hs_w19 := hb20.size
  refine rw_val (v := .bool false) (w' := w19) rfl rfl rfl rfl (by simp [go_sem, sEv, sLook, nbeq, i64_w]) ?_
  refine rw_end ?_
  refine w_cond_f rfl rfl rfl ?_
  refine w_skip ?_
  refine w_seq ?_
  refine w_region ?_
  refine rw_call rfl rfl rfl rfl (f := 14) (args := #[.int .i64 0]) (by simp [go_sem, sEv, sLook, nbeq, i64_w]) (of_nil w19) ?_
  rintro e_ w21 ⟨rfl, hb22⟩
  refine ⟨_, rfl, ?_⟩
  have hs_w21 := hb22.size
  refine rw_new (cs := #[.int .i64 0, .int .u64 0]) (t := 24) (fun g => .pointer (some ⟨g, 0, none⟩)) rfl rfl rfl rfl (by kernel_rfl) ?_
  intro g23 w24 hg28 hz27 hb25 hk26
  have hs_w24 := hb25.size
  have hb32 := hk26
  refine rw_store (g := g23) (i := 0) (l := [.int .i64 0, .int .u64 0]) (cs' := #[.int .i64 0, .int .u64 0]) rfl rfl rfl hb32 rfl (by have e0_ := hb32.cellv (i := 0) (v := (.int .i64 0 : Value)) rfl; have f0_ := hb32.frozen 0; have e1_ := hb32.cellv (i := 1) (v := (.int .u64 0 : Value)) rfl; have f1_ := hb32.frozen 1; simp [go_sem, sEv, sLook, nbeq, i64_w, putCells, e0_, f0_, e1_, f1_, Try.underlying24]) ?_
  intro w29 hk30 hk31
  have hs_w29 := hk30.size
  refine rw_end ?_
  refine w_seq ?_
  refine w_draw (M := [0, 0, 3, 0, 15, 0, 0, 0, 223, 511, 1023, 2047, 4095, 4095, 16383, 4095, 4095, 131071, 262143, 524287, 1048575, 2097151, 2097151, 8388607, 2097151, 33554431, 67108863, 134217727, 268435455, 268435455, 805306367, 2147483647, 268435455, 8589934591, 17179869183, 34359738367, 68719476735, 137438953471, 274877906943, 68719476735, 1099511627775, 2199023255551, 4398046511103]) (ss := [Is (.agg #[.int .i64 ah, .int .u64 al]), Is (.agg #[.int .i64 bh, .int .u64 bl]), (Is (.agg #[.int .i64 (wh ah al bh bl), .int .u64 (wl al bl)])), Is (.agg #[.int .i64 ch, .int .u64 cl]), (Is (.agg #[.int .i64 (wh (wh ah al bh bl) (wl al bl) ch cl), .int .u64 (wl (wl al bl) cl)])), Is (.agg #[.int .i64 ah, .int .u64 al]), Is (.agg #[.int .i64 bh, .int .u64 bl]), Is (.agg #[.int .i64 ch, .int .u64 cl]), (Is (.agg #[.int .i64 (wh bh bl ch cl), .int .u64 (wl bl cl)])), (Is (.agg #[.int .i64 (wh ah al (wh bh bl ch cl) (wl bl cl)), .int .u64 (wl al (wl bl cl))])), Is (.bool ((wh (wh ah al bh bl) (wl al bl) ch cl) == (wh ah al (wh bh bl ch cl) (wl bl cl)) && ((wl (wl al bl) cl) == (wl al (wl bl cl))))), Is (.bool ((wh (wh ah al bh bl) (wl al bl) ch cl) == (wh ah al (wh bh bl ch cl) (wl bl cl)) && ((wl (wl al bl) cl) == (wl al (wl bl cl))))), Is (.agg #[.int .i64 ah, .int .u64 al]), Is (.agg #[.int .i64 bh, .int .u64 bl]), (Is (.agg #[.int .i64 (wh ah al bh bl), .int .u64 (wl al bl)])), Is (.agg #[.int .i64 bh, .int .u64 bl]), Is (.agg #[.int .i64 ah, .int .u64 al]), (Is (.agg #[.int .i64 (wh bh bl ah al), .int .u64 (wl bl al)])), Is (.bool ((wh ah al bh bl) == (wh bh bl ah al) && ((wl al bl) == (wl bl al)))), Is (.bool ((wh ah al bh bl) == (wh bh bl ah al) && ((wl al bl) == (wl bl al)))), Is (.bool ((wh ah al bh bl) == (wh bh bl ah al) && ((wl al bl) == (wl bl al)))), Is (.agg #[.int .i64 ah, .int .u64 al]), Is (.agg #[.int .i64 0, .int .u64 0]), (Is (.agg #[.int .i64 (wh ah al 0 0), .int .u64 (wl al 0)])), Is (.agg #[.int .i64 ah, .int .u64 al]), Is (.bool ((wh ah al 0 0) == ah && ((wl al 0) == al))), Is (.bool ((wh ah al 0 0) == ah && ((wl al 0) == al))), Is (.bool ((wh ah al 0 0) == ah && ((wl al 0) == al))), Is (.agg #[.int .i64 ah, .int .u64 al]), Is (.agg #[.int .i64 ah, .int .u64 al]), (Is (.agg #[.int .i64 (nh ah al), .int .u64 (nl al)])), (Is (.agg #[.int .i64 (wh ah al (nh ah al) (nl al)), .int .u64 (wl al (nl al))])), Is (.agg #[.int .i64 0, .int .u64 0]), Is (.bool ((wh ah al (nh ah al) (nl al)) == 0 && ((wl al (nl al)) == 0))), Is (.bool ((wh ah al (nh ah al) (nl al)) == 0 && ((wl al (nl al)) == 0))), Is (.bool ((wh ah al (nh ah al) (nl al)) == 0 && ((wl al (nl al)) == 0))), Is (.agg #[.int .i64 ah, .int .u64 al]), (Is (.agg #[.int .i64 (nh ah al), .int .u64 (nl al)])), (Is (.agg #[.int .i64 (nh (nh ah al) (nl al)), .int .u64 (nl (nl al))])), Is (.agg #[.int .i64 ah, .int .u64 al]), Is (.bool ((nh (nh ah al) (nl al)) == ah && ((nl (nl al)) == al))), Is (.bool ((nh (nh ah al) (nl al)) == ah && ((nl (nl al)) == al))), Is (.bool ((nh (nh ah al) (nl al)) == ah && ((nl (nl al)) == al)))]) rfl (by decide +kernel) ?_
  refine t_is (.agg #[.int .i64 ah, .int .u64 al]) rfl rfl rfl rfl (fun W_ hW_ F_ => by have eb_ := (((((((hk4.on hb9).on hb15).on hb20).on hb22).on hb25).keep hk30 (by omega)).on (below_of_drew hW_)); have e0_ := eb_.cellv (i := 0) (v := (.int .i64 ah : Value)) rfl; have e1_ := eb_.cellv (i := 1) (v := (.int .u64 al : Value)) rfl; simp [go_sem, sEv, sLook, nbeq, i64_w, e0_, e1_, Try.underlying24]) ?_
  refine t_is (.agg #[.int .i64 bh, .int .u64 bl]) rfl rfl rfl rfl (fun W_ hW_ F_ => by have eb_ := ((((((hk10.on hb15).on hb20).on hb22).on hb25).keep hk30 (by omega)).on (below_of_drew hW_)); have e0_ := eb_.cellv (i := 0) (v := (.int .i64 bh : Value)) rfl; have e1_ := eb_.cellv (i := 1) (v := (.int .u64 bl : Value)) rfl; simp [go_sem, sEv, sLook, nbeq, i64_w, e0_, e1_, Try.underlying24]) ?_
  refine t_call (f := 15) (args := #[.agg #[.int .i64 ah, .int .u64 al], .agg #[.int .i64 bh, .int .u64 bl]]) (Is (.agg #[.int .i64 (wh ah al bh bl), .int .u64 (wl al bl)])) rfl rfl rfl rfl (fun W_ => by simp [go_sem, sEv, sLook, nbeq, i64_w]) (fun W_ hW_ F_ => ?_) ?_
  · refine (wadd_calls ah al bh bl (by first | assumption | exact wl_range _ _ | exact nl_range _ | exact wh_range _ _ _ _ | exact nh_range _ _ | omega) (by first | assumption | exact wl_range _ _ | exact nl_range _ | exact wh_range _ _ _ _ | exact nh_range _ _ | omega) W_).mono ?_
    rintro e_ w_ ⟨rfl, hd_⟩
    exact ⟨_, rfl, rfl, hd_⟩
  rintro _ rfl
  refine t_is (.agg #[.int .i64 ch, .int .u64 cl]) rfl rfl rfl rfl (fun W_ hW_ F_ => by have eb_ := (((((hk16.on hb20).on hb22).on hb25).keep hk30 (by omega)).on (below_of_drew hW_)); have e0_ := eb_.cellv (i := 0) (v := (.int .i64 ch : Value)) rfl; have e1_ := eb_.cellv (i := 1) (v := (.int .u64 cl : Value)) rfl; simp [go_sem, sEv, sLook, nbeq, i64_w, e0_, e1_, Try.underlying24]) ?_
  refine t_call (f := 15) (args := #[.agg #[.int .i64 (wh ah al bh bl), .int .u64 (wl al bl)], .agg #[.int .i64 ch, .int .u64 cl]]) (Is (.agg #[.int .i64 (wh (wh ah al bh bl) (wl al bl) ch cl), .int .u64 (wl (wl al bl) cl)])) rfl rfl rfl rfl (fun W_ => by simp [go_sem, sEv, sLook, nbeq, i64_w]) (fun W_ hW_ F_ => ?_) ?_
  · refine (wadd_calls (wh ah al bh bl) (wl al bl) ch cl (by first | assumption | exact wl_range _ _ | exact nl_range _ | exact wh_range _ _ _ _ | exact nh_range _ _ | omega) (by first | assumption | exact wl_range _ _ | exact nl_range _ | exact wh_range _ _ _ _ | exact nh_range _ _ | omega) W_).mono ?_
    rintro e_ w_ ⟨rfl, hd_⟩
    exact ⟨_, rfl, rfl, hd_⟩
  rintro _ rfl
  refine t_is (.agg #[.int .i64 ah, .int .u64 al]) rfl rfl rfl rfl (fun W_ hW_ F_ => by have eb_ := (((((((hk4.on hb9).on hb15).on hb20).on hb22).on hb25).keep hk30 (by omega)).on (below_of_drew hW_)); have e0_ := eb_.cellv (i := 0) (v := (.int .i64 ah : Value)) rfl; have e1_ := eb_.cellv (i := 1) (v := (.int .u64 al : Value)) rfl; simp [go_sem, sEv, sLook, nbeq, i64_w, e0_, e1_, Try.underlying24]) ?_
  refine t_is (.agg #[.int .i64 bh, .int .u64 bl]) rfl rfl rfl rfl (fun W_ hW_ F_ => by have eb_ := ((((((hk10.on hb15).on hb20).on hb22).on hb25).keep hk30 (by omega)).on (below_of_drew hW_)); have e0_ := eb_.cellv (i := 0) (v := (.int .i64 bh : Value)) rfl; have e1_ := eb_.cellv (i := 1) (v := (.int .u64 bl : Value)) rfl; simp [go_sem, sEv, sLook, nbeq, i64_w, e0_, e1_, Try.underlying24]) ?_
  refine t_is (.agg #[.int .i64 ch, .int .u64 cl]) rfl rfl rfl rfl (fun W_ hW_ F_ => by have eb_ := (((((hk16.on hb20).on hb22).on hb25).keep hk30 (by omega)).on (below_of_drew hW_)); have e0_ := eb_.cellv (i := 0) (v := (.int .i64 ch : Value)) rfl; have e1_ := eb_.cellv (i := 1) (v := (.int .u64 cl : Value)) rfl; simp [go_sem, sEv, sLook, nbeq, i64_w, e0_, e1_, Try.underlying24]) ?_
  refine t_call (f := 15) (args := #[.agg #[.int .i64 bh, .int .u64 bl], .agg #[.int .i64 ch, .int .u64 cl]]) (Is (.agg #[.int .i64 (wh bh bl ch cl), .int .u64 (wl bl cl)])) rfl rfl rfl rfl (fun W_ => by simp [go_sem, sEv, sLook, nbeq, i64_w]) (fun W_ hW_ F_ => ?_) ?_
  · refine (wadd_calls bh bl ch cl (by first | assumption | exact wl_range _ _ | exact nl_range _ | exact wh_range _ _ _ _ | exact nh_range _ _ | omega) (by first | assumption | exact wl_range _ _ | exact nl_range _ | exact wh_range _ _ _ _ | exact nh_range _ _ | omega) W_).mono ?_
    rintro e_ w_ ⟨rfl, hd_⟩
    exact ⟨_, rfl, rfl, hd_⟩
  rintro _ rfl
  refine t_call (f := 15) (args := #[.agg #[.int .i64 ah, .int .u64 al], .agg #[.int .i64 (wh bh bl ch cl), .int .u64 (wl bl cl)]]) (Is (.agg #[.int .i64 (wh ah al (wh bh bl ch cl) (wl bl cl)), .int .u64 (wl al (wl bl cl))])) rfl rfl rfl rfl (fun W_ => by simp [go_sem, sEv, sLook, nbeq, i64_w]) (fun W_ hW_ F_ => ?_) ?_
  · refine (wadd_calls ah al (wh bh bl ch cl) (wl bl cl) (by first | assumption | exact wl_range _ _ | exact nl_range _ | exact wh_range _ _ _ _ | exact nh_range _ _ | omega) (by first | assumption | exact wl_range _ _ | exact nl_range _ | exact wh_range _ _ _ _ | exact nh_range _ _ | omega) W_).mono ?_
    rintro e_ w_ ⟨rfl, hd_⟩
    exact ⟨_, rfl, rfl, hd_⟩
  rintro _ rfl
  refine t_is (.bool ((wh (wh ah al bh bl) (wl al bl) ch cl) == (wh ah al (wh bh bl ch cl) (wl bl cl)) && ((wl (wl al bl) cl) == (wl al (wl bl cl))))) rfl rfl rfl rfl (fun W_ hW_ F_ => by simp [go_sem, sEv, sLook, nbeq, i64_w, eqA24]) ?_
  refine t_is (.bool ((wh (wh ah al bh bl) (wl al bl) ch cl) == (wh ah al (wh bh bl ch cl) (wl bl cl)) && ((wl (wl al bl) cl) == (wl al (wl bl cl))))) rfl rfl rfl rfl (fun W_ hW_ F_ => rfl) ?_
  have hq33 : ((wh (wh ah al bh bl) (wl al bl) ch cl) == (wh ah al (wh bh bl ch cl) (wl bl cl)) && ((wl (wl al bl) cl) == (wl al (wl bl cl)))) = true := by simp only [wh, wl, nh, nl, Bool.and_eq_true, beq_iff_eq]; unfold wrap64; constructor <;> omega
  refine t_gis (c := ((wh (wh ah al bh bl) (wl al bl) ch cl) == (wh ah al (wh bh bl ch cl) (wl bl cl)) && ((wl (wl al bl) cl) == (wl al (wl bl cl))))) (.agg #[.int .i64 ah, .int .u64 al]) rfl rfl rfl (by simp [hq33]) rfl rfl rfl (fun W_ hW_ F_ => by have eb_ := (((((((hk4.on hb9).on hb15).on hb20).on hb22).on hb25).keep hk30 (by omega)).on (below_of_drew hW_)); have e0_ := eb_.cellv (i := 0) (v := (.int .i64 ah : Value)) rfl; have e1_ := eb_.cellv (i := 1) (v := (.int .u64 al : Value)) rfl; simp [go_sem, sEv, sLook, nbeq, i64_w, e0_, e1_, Try.underlying24]) ?_
  refine t_gis (c := ((wh (wh ah al bh bl) (wl al bl) ch cl) == (wh ah al (wh bh bl ch cl) (wl bl cl)) && ((wl (wl al bl) cl) == (wl al (wl bl cl))))) (.agg #[.int .i64 bh, .int .u64 bl]) rfl rfl rfl (by simp [hq33]) rfl rfl rfl (fun W_ hW_ F_ => by have eb_ := ((((((hk10.on hb15).on hb20).on hb22).on hb25).keep hk30 (by omega)).on (below_of_drew hW_)); have e0_ := eb_.cellv (i := 0) (v := (.int .i64 bh : Value)) rfl; have e1_ := eb_.cellv (i := 1) (v := (.int .u64 bl : Value)) rfl; simp [go_sem, sEv, sLook, nbeq, i64_w, e0_, e1_, Try.underlying24]) ?_
  refine t_gcall (c := ((wh (wh ah al bh bl) (wl al bl) ch cl) == (wh ah al (wh bh bl ch cl) (wl bl cl)) && ((wl (wl al bl) cl) == (wl al (wl bl cl))))) (f := 15) (args := #[.agg #[.int .i64 ah, .int .u64 al], .agg #[.int .i64 bh, .int .u64 bl]]) (Is (.agg #[.int .i64 (wh ah al bh bl), .int .u64 (wl al bl)])) rfl rfl rfl (by simp [hq33]) rfl rfl rfl (fun W_ => by simp [go_sem, sEv, sLook, nbeq, i64_w]) (fun W_ hW_ F_ => ?_) ?_
  · refine (wadd_calls ah al bh bl (by first | assumption | exact wl_range _ _ | exact nl_range _ | exact wh_range _ _ _ _ | exact nh_range _ _ | omega) (by first | assumption | exact wl_range _ _ | exact nl_range _ | exact wh_range _ _ _ _ | exact nh_range _ _ | omega) W_).mono ?_
    rintro e_ w_ ⟨rfl, hd_⟩
    exact ⟨_, rfl, rfl, hd_⟩
  rintro _ rfl
  refine t_gis (c := ((wh (wh ah al bh bl) (wl al bl) ch cl) == (wh ah al (wh bh bl ch cl) (wl bl cl)) && ((wl (wl al bl) cl) == (wl al (wl bl cl))))) (.agg #[.int .i64 bh, .int .u64 bl]) rfl rfl rfl (by simp [hq33]) rfl rfl rfl (fun W_ hW_ F_ => by have eb_ := ((((((hk10.on hb15).on hb20).on hb22).on hb25).keep hk30 (by omega)).on (below_of_drew hW_)); have e0_ := eb_.cellv (i := 0) (v := (.int .i64 bh : Value)) rfl; have e1_ := eb_.cellv (i := 1) (v := (.int .u64 bl : Value)) rfl; simp [go_sem, sEv, sLook, nbeq, i64_w, e0_, e1_, Try.underlying24]) ?_
  refine t_gis (c := ((wh (wh ah al bh bl) (wl al bl) ch cl) == (wh ah al (wh bh bl ch cl) (wl bl cl)) && ((wl (wl al bl) cl) == (wl al (wl bl cl))))) (.agg #[.int .i64 ah, .int .u64 al]) rfl rfl rfl (by simp [hq33]) rfl rfl rfl (fun W_ hW_ F_ => by have eb_ := (((((((hk4.on hb9).on hb15).on hb20).on hb22).on hb25).keep hk30 (by omega)).on (below_of_drew hW_)); have e0_ := eb_.cellv (i := 0) (v := (.int .i64 ah : Value)) rfl; have e1_ := eb_.cellv (i := 1) (v := (.int .u64 al : Value)) rfl; simp [go_sem, sEv, sLook, nbeq, i64_w, e0_, e1_, Try.underlying24]) ?_
  refine t_gcall (c := ((wh (wh ah al bh bl) (wl al bl) ch cl) == (wh ah al (wh bh bl ch cl) (wl bl cl)) && ((wl (wl al bl) cl) == (wl al (wl bl cl))))) (f := 15) (args := #[.agg #[.int .i64 bh, .int .u64 bl], .agg #[.int .i64 ah, .int .u64 al]]) (Is (.agg #[.int .i64 (wh bh bl ah al), .int .u64 (wl bl al)])) rfl rfl rfl (by simp [hq33]) rfl rfl rfl (fun W_ => by simp [go_sem, sEv, sLook, nbeq, i64_w]) (fun W_ hW_ F_ => ?_) ?_
  · refine (wadd_calls bh bl ah al (by first | assumption | exact wl_range _ _ | exact nl_range _ | exact wh_range _ _ _ _ | exact nh_range _ _ | omega) (by first | assumption | exact wl_range _ _ | exact nl_range _ | exact wh_range _ _ _ _ | exact nh_range _ _ | omega) W_).mono ?_
    rintro e_ w_ ⟨rfl, hd_⟩
    exact ⟨_, rfl, rfl, hd_⟩
  rintro _ rfl
  refine t_gis (c := ((wh (wh ah al bh bl) (wl al bl) ch cl) == (wh ah al (wh bh bl ch cl) (wl bl cl)) && ((wl (wl al bl) cl) == (wl al (wl bl cl))))) (.bool ((wh ah al bh bl) == (wh bh bl ah al) && ((wl al bl) == (wl bl al)))) rfl rfl rfl (by simp [hq33]) rfl rfl rfl (fun W_ hW_ F_ => by simp [go_sem, sEv, sLook, nbeq, i64_w, eqA24]) ?_
  refine t_is (.bool ((wh ah al bh bl) == (wh bh bl ah al) && ((wl al bl) == (wl bl al)))) rfl rfl rfl rfl (fun W_ hW_ F_ => by simp [go_sem, sEv, sLook, nbeq, i64_w, hq33]) ?_
  refine t_is (.bool ((wh ah al bh bl) == (wh bh bl ah al) && ((wl al bl) == (wl bl al)))) rfl rfl rfl rfl (fun W_ hW_ F_ => rfl) ?_
  have hq34 : ((wh ah al bh bl) == (wh bh bl ah al) && ((wl al bl) == (wl bl al))) = true := by simp only [wh, wl, nh, nl, Bool.and_eq_true, beq_iff_eq]; unfold wrap64; constructor <;> omega
  refine t_gis (c := ((wh ah al bh bl) == (wh bh bl ah al) && ((wl al bl) == (wl bl al)))) (.agg #[.int .i64 ah, .int .u64 al]) rfl rfl rfl (by simp [hq34]) rfl rfl rfl (fun W_ hW_ F_ => by have eb_ := (((((((hk4.on hb9).on hb15).on hb20).on hb22).on hb25).keep hk30 (by omega)).on (below_of_drew hW_)); have e0_ := eb_.cellv (i := 0) (v := (.int .i64 ah : Value)) rfl; have e1_ := eb_.cellv (i := 1) (v := (.int .u64 al : Value)) rfl; simp [go_sem, sEv, sLook, nbeq, i64_w, e0_, e1_, Try.underlying24]) ?_
  refine t_gis (c := ((wh ah al bh bl) == (wh bh bl ah al) && ((wl al bl) == (wl bl al)))) (.agg #[.int .i64 0, .int .u64 0]) rfl rfl rfl (by simp [hq34]) rfl rfl rfl (fun W_ hW_ F_ => by have eb_ := (hk31.on (below_of_drew hW_)); have e0_ := eb_.cellv (i := 0) (v := (.int .i64 0 : Value)) rfl; have e1_ := eb_.cellv (i := 1) (v := (.int .u64 0 : Value)) rfl; simp [go_sem, sEv, sLook, nbeq, i64_w, e0_, e1_, Try.underlying24]) ?_
  refine t_gcall (c := ((wh ah al bh bl) == (wh bh bl ah al) && ((wl al bl) == (wl bl al)))) (f := 15) (args := #[.agg #[.int .i64 ah, .int .u64 al], .agg #[.int .i64 0, .int .u64 0]]) (Is (.agg #[.int .i64 (wh ah al 0 0), .int .u64 (wl al 0)])) rfl rfl rfl (by simp [hq34]) rfl rfl rfl (fun W_ => by simp [go_sem, sEv, sLook, nbeq, i64_w]) (fun W_ hW_ F_ => ?_) ?_
  · refine (wadd_calls ah al 0 0 (by first | assumption | exact wl_range _ _ | exact nl_range _ | exact wh_range _ _ _ _ | exact nh_range _ _ | omega) (by first | assumption | exact wl_range _ _ | exact nl_range _ | exact wh_range _ _ _ _ | exact nh_range _ _ | omega) W_).mono ?_
    rintro e_ w_ ⟨rfl, hd_⟩
    exact ⟨_, rfl, rfl, hd_⟩
  rintro _ rfl
  refine t_gis (c := ((wh ah al bh bl) == (wh bh bl ah al) && ((wl al bl) == (wl bl al)))) (.agg #[.int .i64 ah, .int .u64 al]) rfl rfl rfl (by simp [hq34]) rfl rfl rfl (fun W_ hW_ F_ => by have eb_ := (((((((hk4.on hb9).on hb15).on hb20).on hb22).on hb25).keep hk30 (by omega)).on (below_of_drew hW_)); have e0_ := eb_.cellv (i := 0) (v := (.int .i64 ah : Value)) rfl; have e1_ := eb_.cellv (i := 1) (v := (.int .u64 al : Value)) rfl; simp [go_sem, sEv, sLook, nbeq, i64_w, e0_, e1_, Try.underlying24]) ?_
  refine t_gis (c := ((wh ah al bh bl) == (wh bh bl ah al) && ((wl al bl) == (wl bl al)))) (.bool ((wh ah al 0 0) == ah && ((wl al 0) == al))) rfl rfl rfl (by simp [hq34]) rfl rfl rfl (fun W_ hW_ F_ => by simp [go_sem, sEv, sLook, nbeq, i64_w, eqA24]) ?_
  refine t_is (.bool ((wh ah al 0 0) == ah && ((wl al 0) == al))) rfl rfl rfl rfl (fun W_ hW_ F_ => by simp [go_sem, sEv, sLook, nbeq, i64_w, hq34]) ?_
  refine t_is (.bool ((wh ah al 0 0) == ah && ((wl al 0) == al))) rfl rfl rfl rfl (fun W_ hW_ F_ => rfl) ?_
  have hq35 : ((wh ah al 0 0) == ah && ((wl al 0) == al)) = true := by simp only [wh, wl, nh, nl, Bool.and_eq_true, beq_iff_eq]; unfold wrap64; constructor <;> omega
  refine t_gis (c := ((wh ah al 0 0) == ah && ((wl al 0) == al))) (.agg #[.int .i64 ah, .int .u64 al]) rfl rfl rfl (by simp [hq35]) rfl rfl rfl (fun W_ hW_ F_ => by have eb_ := (((((((hk4.on hb9).on hb15).on hb20).on hb22).on hb25).keep hk30 (by omega)).on (below_of_drew hW_)); have e0_ := eb_.cellv (i := 0) (v := (.int .i64 ah : Value)) rfl; have e1_ := eb_.cellv (i := 1) (v := (.int .u64 al : Value)) rfl; simp [go_sem, sEv, sLook, nbeq, i64_w, e0_, e1_, Try.underlying24]) ?_
  refine t_gis (c := ((wh ah al 0 0) == ah && ((wl al 0) == al))) (.agg #[.int .i64 ah, .int .u64 al]) rfl rfl rfl (by simp [hq35]) rfl rfl rfl (fun W_ hW_ F_ => by have eb_ := (((((((hk4.on hb9).on hb15).on hb20).on hb22).on hb25).keep hk30 (by omega)).on (below_of_drew hW_)); have e0_ := eb_.cellv (i := 0) (v := (.int .i64 ah : Value)) rfl; have e1_ := eb_.cellv (i := 1) (v := (.int .u64 al : Value)) rfl; simp [go_sem, sEv, sLook, nbeq, i64_w, e0_, e1_, Try.underlying24]) ?_
  refine t_gcall (c := ((wh ah al 0 0) == ah && ((wl al 0) == al))) (f := 16) (args := #[.agg #[.int .i64 ah, .int .u64 al]]) (Is (.agg #[.int .i64 (nh ah al), .int .u64 (nl al)])) rfl rfl rfl (by simp [hq35]) rfl rfl rfl (fun W_ => by simp [go_sem, sEv, sLook, nbeq, i64_w]) (fun W_ hW_ F_ => ?_) ?_
  · refine (wneg_calls ah al (by first | assumption | exact wl_range _ _ | exact nl_range _ | exact wh_range _ _ _ _ | exact nh_range _ _ | omega) (by first | assumption | exact wl_range _ _ | exact nl_range _ | exact wh_range _ _ _ _ | exact nh_range _ _ | omega) W_).mono ?_
    rintro e_ w_ ⟨rfl, hd_⟩
    exact ⟨_, rfl, rfl, hd_⟩
  rintro _ rfl
  refine t_gcall (c := ((wh ah al 0 0) == ah && ((wl al 0) == al))) (f := 15) (args := #[.agg #[.int .i64 ah, .int .u64 al], .agg #[.int .i64 (nh ah al), .int .u64 (nl al)]]) (Is (.agg #[.int .i64 (wh ah al (nh ah al) (nl al)), .int .u64 (wl al (nl al))])) rfl rfl rfl (by simp [hq35]) rfl rfl rfl (fun W_ => by simp [go_sem, sEv, sLook, nbeq, i64_w]) (fun W_ hW_ F_ => ?_) ?_
  · refine (wadd_calls ah al (nh ah al) (nl al) (by first | assumption | exact wl_range _ _ | exact nl_range _ | exact wh_range _ _ _ _ | exact nh_range _ _ | omega) (by first | assumption | exact wl_range _ _ | exact nl_range _ | exact wh_range _ _ _ _ | exact nh_range _ _ | omega) W_).mono ?_
    rintro e_ w_ ⟨rfl, hd_⟩
    exact ⟨_, rfl, rfl, hd_⟩
  rintro _ rfl
  refine t_gis (c := ((wh ah al 0 0) == ah && ((wl al 0) == al))) (.agg #[.int .i64 0, .int .u64 0]) rfl rfl rfl (by simp [hq35]) rfl rfl rfl (fun W_ hW_ F_ => by have eb_ := (hk31.on (below_of_drew hW_)); have e0_ := eb_.cellv (i := 0) (v := (.int .i64 0 : Value)) rfl; have e1_ := eb_.cellv (i := 1) (v := (.int .u64 0 : Value)) rfl; simp [go_sem, sEv, sLook, nbeq, i64_w, e0_, e1_, Try.underlying24]) ?_
  refine t_gis (c := ((wh ah al 0 0) == ah && ((wl al 0) == al))) (.bool ((wh ah al (nh ah al) (nl al)) == 0 && ((wl al (nl al)) == 0))) rfl rfl rfl (by simp [hq35]) rfl rfl rfl (fun W_ hW_ F_ => by simp [go_sem, sEv, sLook, nbeq, i64_w, eqA24]) ?_
  refine t_is (.bool ((wh ah al (nh ah al) (nl al)) == 0 && ((wl al (nl al)) == 0))) rfl rfl rfl rfl (fun W_ hW_ F_ => by simp [go_sem, sEv, sLook, nbeq, i64_w, hq35]) ?_
  refine t_is (.bool ((wh ah al (nh ah al) (nl al)) == 0 && ((wl al (nl al)) == 0))) rfl rfl rfl rfl (fun W_ hW_ F_ => rfl) ?_
  have hq36 : ((wh ah al (nh ah al) (nl al)) == 0 && ((wl al (nl al)) == 0)) = true := by simp only [wh, wl, nh, nl, Bool.and_eq_true, beq_iff_eq]; unfold wrap64; constructor <;> omega
  refine t_gis (c := ((wh ah al (nh ah al) (nl al)) == 0 && ((wl al (nl al)) == 0))) (.agg #[.int .i64 ah, .int .u64 al]) rfl rfl rfl (by simp [hq36]) rfl rfl rfl (fun W_ hW_ F_ => by have eb_ := (((((((hk4.on hb9).on hb15).on hb20).on hb22).on hb25).keep hk30 (by omega)).on (below_of_drew hW_)); have e0_ := eb_.cellv (i := 0) (v := (.int .i64 ah : Value)) rfl; have e1_ := eb_.cellv (i := 1) (v := (.int .u64 al : Value)) rfl; simp [go_sem, sEv, sLook, nbeq, i64_w, e0_, e1_, Try.underlying24]) ?_
  refine t_gcall (c := ((wh ah al (nh ah al) (nl al)) == 0 && ((wl al (nl al)) == 0))) (f := 16) (args := #[.agg #[.int .i64 ah, .int .u64 al]]) (Is (.agg #[.int .i64 (nh ah al), .int .u64 (nl al)])) rfl rfl rfl (by simp [hq36]) rfl rfl rfl (fun W_ => by simp [go_sem, sEv, sLook, nbeq, i64_w]) (fun W_ hW_ F_ => ?_) ?_
  · refine (wneg_calls ah al (by first | assumption | exact wl_range _ _ | exact nl_range _ | exact wh_range _ _ _ _ | exact nh_range _ _ | omega) (by first | assumption | exact wl_range _ _ | exact nl_range _ | exact wh_range _ _ _ _ | exact nh_range _ _ | omega) W_).mono ?_
    rintro e_ w_ ⟨rfl, hd_⟩
    exact ⟨_, rfl, rfl, hd_⟩
  rintro _ rfl
  refine t_gcall (c := ((wh ah al (nh ah al) (nl al)) == 0 && ((wl al (nl al)) == 0))) (f := 16) (args := #[.agg #[.int .i64 (nh ah al), .int .u64 (nl al)]]) (Is (.agg #[.int .i64 (nh (nh ah al) (nl al)), .int .u64 (nl (nl al))])) rfl rfl rfl (by simp [hq36]) rfl rfl rfl (fun W_ => by simp [go_sem, sEv, sLook, nbeq, i64_w]) (fun W_ hW_ F_ => ?_) ?_
  · refine (wneg_calls (nh ah al) (nl al) (by first | assumption | exact wl_range _ _ | exact nl_range _ | exact wh_range _ _ _ _ | exact nh_range _ _ | omega) (by first | assumption | exact wl_range _ _ | exact nl_range _ | exact wh_range _ _ _ _ | exact nh_range _ _ | omega) W_).mono ?_
    rintro e_ w_ ⟨rfl, hd_⟩
    exact ⟨_, rfl, rfl, hd_⟩
  rintro _ rfl
  refine t_gis (c := ((wh ah al (nh ah al) (nl al)) == 0 && ((wl al (nl al)) == 0))) (.agg #[.int .i64 ah, .int .u64 al]) rfl rfl rfl (by simp [hq36]) rfl rfl rfl (fun W_ hW_ F_ => by have eb_ := (((((((hk4.on hb9).on hb15).on hb20).on hb22).on hb25).keep hk30 (by omega)).on (below_of_drew hW_)); have e0_ := eb_.cellv (i := 0) (v := (.int .i64 ah : Value)) rfl; have e1_ := eb_.cellv (i := 1) (v := (.int .u64 al : Value)) rfl; simp [go_sem, sEv, sLook, nbeq, i64_w, e0_, e1_, Try.underlying24]) ?_
  refine t_gis (c := ((wh ah al (nh ah al) (nl al)) == 0 && ((wl al (nl al)) == 0))) (.bool ((nh (nh ah al) (nl al)) == ah && ((nl (nl al)) == al))) rfl rfl rfl (by simp [hq36]) rfl rfl rfl (fun W_ hW_ F_ => by simp [go_sem, sEv, sLook, nbeq, i64_w, eqA24]) ?_
  refine t_is (.bool ((nh (nh ah al) (nl al)) == ah && ((nl (nl al)) == al))) rfl rfl rfl rfl (fun W_ hW_ F_ => by simp [go_sem, sEv, sLook, nbeq, i64_w, hq36]) ?_
  refine t_is (.bool ((nh (nh ah al) (nl al)) == ah && ((nl (nl al)) == al))) rfl rfl rfl rfl (fun W_ hW_ F_ => rfl) ?_
  refine t_end ?_
  intro w37 hb38_ F39
  have hb38 := below_of_drew hb38_
  have hs_w37 := hb38.size
  refine w_weaken (G' := [(6, .bool ((nh (nh ah al) (nl al)) == ah && ((nl (nl al)) == al)))]) ⟨rfl, trivial⟩ ?_
  have hq40 : ((nh (nh ah al) (nl al)) == ah && ((nl (nl al)) == al)) = true := by simp only [wh, wl, nh, nl, Bool.and_eq_true, beq_iff_eq]; unfold wrap64; constructor <;> omega
  refine w_ret (post_ret1 rfl rfl ?_)
  exact ⟨by simp only [hq40], (chain (hk30.below (by omega) (chain (chain (chain (chain (chain hb3 hb9) hb15) hb20) hb22) hb25)) hb38)⟩
end Go.Proofs.Ythhepaikogcddaa.PFloorGroup
