/- What cells an operation has: the law's walk. -/
import Derived.Test.YtgedckgkddpkkaaPcCells
import Derived.Test.YtgedckgkddpkkaaFlowT
namespace Go.Proofs.Ytgedckgkddpkkaa.PPlaceCells
open Go.RowKit Go.Proofs.YtgedckgkddpkkaaW.PrintWords Go.Proofs.YtgedckgkddpkkaaW.PrintLast Go.Proofs.YtgedckgkddpkkaaW.PrintMore
open Go.Proofs.Ytgedckgkddpkkaa.Flow
set_option linter.unusedVariables false
set_option linter.unusedSimpArgs false

/-- The cells of a Op. -/
def encOp (x : (Int × Int × Int × Int × Int)) : List Value := [.int .i64 x.1, .int .i64 x.2.1, .int .i64 x.2.2.1, .int .i64 x.2.2.2.1, .int .i64 x.2.2.2.2]
theorem encOp_len (x : (Int × Int × Int × Int × Int)) : (encOp x).length = 5 := rfl
theorem encOp_one (x : (Int × Int × Int × Int × Int)) (u : Value) (hu : u ∈ encOp x) : u.oneCell' = true := by
  simp only [encOp, List.mem_cons, List.not_mem_nil, or_false] at hu
  rcases hu with rfl | rfl | rfl | rfl | rfl <;> rfl
abbrev kOp : Kd (Int × Int × Int × Int × Int) := flat 5 encOp encOp_len encOp_one
set_option maxHeartbeats 4000000 in
theorem walkCells (w : World) (p : Int × Int × Int × Int × Int) (sh : Int) (ht : -9223372036854775808 ≤ p.2.2.1 ∧ p.2.2.1 ≤ 9223372036854775807) (hk : -9223372036854775808 ≤ p.2.2.2.1 ∧ p.2.2.2.1 ≤ 9223372036854775807) (hsh : sh ≤ 9223372036854775807) (A1 A3 : Option Addr) (c1 c3 : Nat) (rs : List Int) (ps : List S29) (hR : (Kd.int .i64).C w A1 rs.length rs) (hcr : rs.length ≤ c1) (hP : k29.C w A3 ps.length ps) (hcp : ps.length ≤ c3) :
    Calls Try.prog 8 #[.agg #[.int .i64 p.1, .int .i64 p.2.1, .int .i64 p.2.2.1, .int .i64 p.2.2.2.1, .int .i64 p.2.2.2.2, .slice A1 rs.length c1, .int .i64 sh, .slice A3 ps.length c3]] w fun e w' => e = .returned (.bool true) ∧ Below w.heap.size w w' := by
  refine calls_flow Try.func8 rfl 12 rfl (Nat.le_of_ble_eq_true rfl) [(0, .agg #[.int .i64 p.1, .int .i64 p.2.1, .int .i64 p.2.2.1, .int .i64 p.2.2.2.1, .int .i64 p.2.2.2.2, .slice A1 rs.length c1, .int .i64 sh, .slice A3 ps.length c3])] ?_ ?_
  · intro t v h; exact args_look rfl t v h
  refine w_seq ?_
  refine w_region ?_
  refine rw_new (cs := #[.int .i64 p.1, .int .i64 p.2.1, .int .i64 p.2.2.1, .int .i64 p.2.2.2.1, .int .i64 p.2.2.2.2, .slice A1 rs.length c1, .int .i64 sh, .slice A3 ps.length c3]) (t := 47) (fun g => .pointer (some ⟨g, 0, none⟩)) rfl rfl rfl rfl (by simp [go_sem, sEv, sLook, nbeq, i64_w]) ?_
  intro g1 w2 hg6 hz5 hb3 hk4
  have hs_w2 := hb3.size
  refine rw_val (v := .bool false) (w' := w2) rfl rfl rfl rfl rfl ?_
  refine rw_end ?_
  refine w_seq ?_
  refine w_region ?_
  refine rw_val (v := .pointer (some ⟨g1, 0, none⟩)) (w' := w2) rfl rfl rfl rfl (by simp [go_sem, sEv, sLook, nbeq, i64_w, Try.underlying47]) ?_
  refine rw_val (v := .agg #[.int .i64 p.1, .int .i64 p.2.1, .int .i64 p.2.2.1, .int .i64 p.2.2.2.1, .int .i64 p.2.2.2.2]) (w' := w2) rfl rfl rfl rfl (by have eb_ := hk4; have e0_ := eb_.cellv (i := 0) (v := (.int .i64 p.1 : Value)) rfl; have e1_ := eb_.cellv (i := 1) (v := (.int .i64 p.2.1 : Value)) rfl; have e2_ := eb_.cellv (i := 2) (v := (.int .i64 p.2.2.1 : Value)) rfl; have e3_ := eb_.cellv (i := 3) (v := (.int .i64 p.2.2.2.1 : Value)) rfl; have e4_ := eb_.cellv (i := 4) (v := (.int .i64 p.2.2.2.2 : Value)) rfl; simp [go_sem, sEv, sLook, nbeq, i64_w, e0_, e1_, e2_, e3_, e4_, Try.underlying23]) ?_
  refine rw_val (v := .pointer (some ⟨g1, 5, none⟩)) (w' := w2) rfl rfl rfl rfl (by simp [go_sem, sEv, sLook, nbeq, i64_w, Try.underlying47]) ?_
  refine rw_val (v := .slice A1 rs.length c1) (w' := w2) rfl rfl rfl rfl (by have eb_ := hk4; have e0_ := eb_.cellv (i := 5) (v := (.slice A1 rs.length c1 : Value)) rfl; simp [go_sem, sEv, sLook, nbeq, i64_w, e0_, Try.underlying27]) ?_
  refine rw_val (v := .pointer (some ⟨g1, 6, none⟩)) (w' := w2) rfl rfl rfl rfl (by simp [go_sem, sEv, sLook, nbeq, i64_w, Try.underlying47]) ?_
  refine rw_val (v := .int .i64 sh) (w' := w2) rfl rfl rfl rfl (by have eb_ := hk4; have e0_ := eb_.cellv (i := 6) (v := (.int .i64 sh : Value)) rfl; simp [go_sem, sEv, sLook, nbeq, i64_w, e0_]) ?_
  refine rw_val (v := .pointer (some ⟨g1, 7, none⟩)) (w' := w2) rfl rfl rfl rfl (by simp [go_sem, sEv, sLook, nbeq, i64_w, Try.underlying47]) ?_
  refine rw_val (v := .slice A3 ps.length c3) (w' := w2) rfl rfl rfl rfl (by have eb_ := hk4; have e0_ := eb_.cellv (i := 7) (v := (.slice A3 ps.length c3 : Value)) rfl; simp [go_sem, sEv, sLook, nbeq, i64_w, e0_, Try.underlying45]) ?_
  refine rw_call rfl rfl rfl rfl (f := 25) (args := #[.agg #[.int .i64 p.1, .int .i64 p.2.1, .int .i64 p.2.2.1, .int .i64 p.2.2.2.1, .int .i64 p.2.2.2.2], .slice A1 rs.length c1, .int .i64 sh, .slice A3 ps.length c3]) (by simp [go_sem, sEv, sLook, nbeq, i64_w]) (cells_calls w2 p.1 p.2.1 p.2.2.1 p.2.2.2.1 p.2.2.2.2 sh ht hk hsh A1 A3 c1 c3 rs ps (Kd.C_below hR hb3) hcr (Kd.C_below hP hb3) hcp) ?_
  rintro e_ w7 ⟨rfl, hb8⟩
  refine ⟨_, rfl, ?_⟩
  have hs_w7 := hb8.size
  refine rw_val (v := .bool true) (w' := w7) rfl rfl rfl rfl rfl ?_
  refine rw_end ?_
  refine w_weaken (G' := [(2, .bool true)]) ⟨rfl, trivial⟩ ?_
  refine w_ret (post_ret1 rfl rfl ?_)
  exact ⟨rfl, (chain hb3 hb8)⟩
end Go.Proofs.Ytgedckgkddpkkaa.PPlaceCells
