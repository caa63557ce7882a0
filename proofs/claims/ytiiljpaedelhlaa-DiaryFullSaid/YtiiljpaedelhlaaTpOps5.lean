/- A tape's methods: the walks, fifth part. -/
import Derived.Test.YtiiljpaedelhlaaTpOps3
namespace Go.Proofs.Ytiiljpaedelhlaa.Tp
open Go.RowKit Go.Proofs.YtiiljpaedelhlaaW.PrintWords Go.Proofs.YtiiljpaedelhlaaW.PrintLast Go.Proofs.YtiiljpaedelhlaaW.PrintMore
open Go.Proofs.YtiiljpaedelhlaaW.PrintWords.Kd Go.Proofs.Ytiiljpaedelhlaa.Flow
set_option linter.unusedVariables false
set_option linter.unusedSimpArgs false


theorem TS.left_le (s : TS) (k : Int) (h : s.Ok) : 0 ≤ s.left k ∧ s.sure + s.left k ≤ s.xs.length := by
  have := h.sure
  unfold TS.left
  omega
theorem cut_run {P : Program} {t e : TypeId} (hu : P.underlying t = some (.slice e)) {sz : Nat} (hz : ∀ w, (sizeOf e).run P w = .ok sz w) {A : Option Addr} {n c : Nat} {x : Int} (h0 : 0 ≤ x) (h1 : x ≤ c) (w : World) : (Instr.sliceAt t (.slice A n c) none (some (.int .i64 x)) none).run P w = .ok (.slice A x.toNat c) w := by
  simp [go_sem, hu, h0, h1, hz]
/-- A drawn call's answer that is a row of the function's own. -/
def OwnSpec (base b : Nat) (xs : List Int) : Flow.Spec where
  s := fun v w => ∃ A n c, v = .slice A n c ∧ Own .u8 5 w base b A n c xs
  pl := fun v => ∃ A n c, v = .slice A n c
  stab := fun v w w' hb ⟨A, n, c, h1, h2⟩ => ⟨A, n, c, h1, h2.on hb⟩
  imp := fun v w ⟨A, n, c, h1, _⟩ => ⟨A, n, c, h1⟩
  inh := ⟨.slice none 0 0, none, 0, 0, rfl⟩
theorem ownspec_fact {base b : Nat} {xs : List Int} {A : Option Addr} {n c : Nat} {w : World} (h : (OwnSpec base b xs).s (.slice A n c) w) : Own .u8 5 w base b A n c xs := by
  obtain ⟨A', n', c', he, h2⟩ := h
  injection he with h3 h4 h5
  subst h3 h4 h5
  exact h2
set_option maxHeartbeats 4000000 in
theorem crash_raw (w0 w : World) (g m : Nat) (x : Nat → Prop) (hx : ∀ q, x q → q < w.heap.size) (s : TS) (A : Option Addr) (n c : Nat) (hB : Below w0.heap.size w0 w) (hg0 : w0.heap.size ≤ g) (hm : g < m ∧ m ≤ w.heap.size) (hb : Blk w g 76 (tcells A n c s)) (hR : BR .u8 5 w w0.heap.size (fun q => g < q ∧ q < m ∧ ¬ x q) A n c s.xs) (hok : s.Ok) (k : Int) :
    Calls Try.prog 22 #[.pointer (some ⟨g, 0, none⟩), .int .i64 k] w fun e w' => e = .returned (.tuple #[]) ∧ TapeAt w0 w' g w'.heap.size x (s.crash k) ∧ w.heap.size ≤ w'.heap.size ∧ (∀ q, x q → q ≠ g → w'.heap[q]? = w.heap[q]?) := by
  refine calls_flow Try.func22 rfl 51 rfl (Nat.le_of_ble_eq_true rfl) [(0, .pointer (some ⟨g, 0, none⟩)), (1, .int .i64 k)] ?_ ?_
  · intro t v h; exact args_look rfl t v h
  refine w_seq ?_
  refine w_seq ?_
  refine w_region ?_
  refine rw_val (v := .pointer (some ⟨g, 0, none⟩)) (w' := w) rfl rfl rfl rfl rfl ?_
  refine rw_val (v := .bool false) (w' := w) rfl rfl rfl rfl (run_as (run_ptr_eql (e := 76) (by kernel_rfl) _ _)) ?_
  refine rw_end ?_
  refine w_cond_f rfl rfl rfl ?_
  refine w_skip ?_
  refine w_seq ?_
  refine w_draw (M := [0, 1, 0, 4, 12, 28, 60, 0, 128, 384, 896, 2044, 4095, 8191]) (ss := [Is (.int .i64 k), Is (.int .i64 (max k 0)), Is (.pointer (some ⟨g, 0, none⟩)), Is (.pointer (some ⟨g, 0, none⟩)), Is (.pointer (some ⟨g, 0, none⟩)), Is (.slice A n c), Is (.int .i64 (s.xs.length : Int)), Is (.pointer (some ⟨g, 0, none⟩)), Is (.pointer (some ⟨g, 0, none⟩)), Is (.pointer (some ⟨g, 1, none⟩)), Is (.int .i64 s.sure), Is (.int .i64 ((s.xs.length : Int) - s.sure)), Is (.int .i64 (s.left k)), Is (.int .i64 (s.left k))]) rfl (by decide +kernel) ?_
  refine t_is (.int .i64 k) rfl rfl rfl rfl (fun W_ hW_ F_ => rfl) ?_
  refine t_is (.int .i64 (max k 0)) rfl rfl rfl rfl (fun W_ hW_ F_ => by simp [go_sem, sEv, sLook, nbeq, i64_w, max2_int, min2_int, max_two, min_two]; (split <;> omega)) ?_
  refine t_is (.pointer (some ⟨g, 0, none⟩)) rfl rfl rfl rfl (fun W_ hW_ F_ => rfl) ?_
  refine t_is (.pointer (some ⟨g, 0, none⟩)) rfl rfl rfl rfl (fun W_ hW_ F_ => by simp [go_sem, sEv, sLook, nbeq, i64_w]) ?_
  refine t_is (.pointer (some ⟨g, 0, none⟩)) rfl rfl rfl rfl (fun W_ hW_ F_ => by simp [go_sem, sEv, sLook, nbeq, i64_w, Try.underlying76]) ?_
  refine t_is (.slice A n c) rfl rfl rfl rfl (fun W_ hW_ F_ => by have eb_ := (hb.on (below_of_drew hW_)); have e0_ := eb_.cellv (i := 0) (v := (.slice A n c : Value)) rfl; simp [go_sem, sEv, sLook, nbeq, i64_w, e0_, Try.underlying32]) ?_
  refine t_is (.int .i64 (s.xs.length : Int)) rfl rfl rfl rfl (fun W_ hW_ F_ => by simp [go_sem, sEv, sLook, nbeq, i64_w]; rw [(BR.reads' hR).1]) ?_
  refine t_is (.pointer (some ⟨g, 0, none⟩)) rfl rfl rfl rfl (fun W_ hW_ F_ => rfl) ?_
  refine t_is (.pointer (some ⟨g, 0, none⟩)) rfl rfl rfl rfl (fun W_ hW_ F_ => by simp [go_sem, sEv, sLook, nbeq, i64_w]) ?_
  refine t_is (.pointer (some ⟨g, 1, none⟩)) rfl rfl rfl rfl (fun W_ hW_ F_ => by simp [go_sem, sEv, sLook, nbeq, i64_w, Try.underlying76]) ?_
  refine t_is (.int .i64 s.sure) rfl rfl rfl rfl (fun W_ hW_ F_ => by have eb_ := (hb.on (below_of_drew hW_)); have e0_ := eb_.cellv (i := 1) (v := (.int .i64 s.sure : Value)) rfl; simp [go_sem, sEv, sLook, nbeq, i64_w, e0_]) ?_
  refine t_is (.int .i64 ((s.xs.length : Int) - s.sure)) rfl rfl rfl rfl (fun W_ hW_ F_ => by simp [go_sem, sEv, sLook, nbeq, i64_w]; have h1_ := hok.sure; have h2_ := hok.len; exact wrap_id (by omega) (by omega)) ?_
  refine t_is (.int .i64 (s.left k)) rfl rfl rfl rfl (fun W_ hW_ F_ => by simp [go_sem, sEv, sLook, nbeq, i64_w, max2_int, min2_int, max_two, min_two]; unfold TS.left; (split <;> omega)) ?_
  refine t_is (.int .i64 (s.left k)) rfl rfl rfl rfl (fun W_ hW_ F_ => rfl) ?_
  refine t_end ?_
  intro w1 hb2_ F3
  have hb2 := below_of_drew hb2_
  have hs_w1 := hb2.size
  refine w_weaken (G' := [(0, .pointer (some ⟨g, 0, none⟩)), (4, .int .i64 (s.left k))]) ⟨rfl, rfl, trivial⟩ ?_
  refine w_seq ?_
  refine w_drawk (M := [0, 0, 2, 6, 14, 0, 32, 96, 224, 0, 992, 2046, 4094, 8191, 16383, 32767]) (ss := [Is (.pointer (some ⟨g, 0, none⟩)), Is (.pointer (some ⟨g, 0, none⟩)), Is (.pointer (some ⟨g, 0, none⟩)), Is (.pointer (some ⟨g, 0, none⟩)), Is (.slice A n c), Is (.pointer (some ⟨g, 0, none⟩)), Is (.pointer (some ⟨g, 0, none⟩)), Is (.pointer (some ⟨g, 1, none⟩)), Is (.int .i64 s.sure), Is (.int .i64 (s.left k)), Is (.int .i64 (s.sure + s.left k)), Is (.slice A ((s.sure + s.left k).toNat) c), OwnSpec w0.heap.size w1.heap.size (s.xs.take (s.sure + s.left k).toNat)]) 13 rfl (by decide +kernel) ?_
  refine t_is (.pointer (some ⟨g, 0, none⟩)) rfl rfl rfl rfl (fun W_ hW_ F_ => rfl) ?_
  refine t_is (.pointer (some ⟨g, 0, none⟩)) rfl rfl rfl rfl (fun W_ hW_ F_ => rfl) ?_
  refine t_is (.pointer (some ⟨g, 0, none⟩)) rfl rfl rfl rfl (fun W_ hW_ F_ => by simp [go_sem, sEv, sLook, nbeq, i64_w]) ?_
  refine t_is (.pointer (some ⟨g, 0, none⟩)) rfl rfl rfl rfl (fun W_ hW_ F_ => by simp [go_sem, sEv, sLook, nbeq, i64_w, Try.underlying76]) ?_
  refine t_is (.slice A n c) rfl rfl rfl rfl (fun W_ hW_ F_ => by have eb_ := ((hb.on hb2).on (below_of_drew hW_)); have e0_ := eb_.cellv (i := 0) (v := (.slice A n c : Value)) rfl; simp [go_sem, sEv, sLook, nbeq, i64_w, e0_, Try.underlying32]) ?_
  refine t_is (.pointer (some ⟨g, 0, none⟩)) rfl rfl rfl rfl (fun W_ hW_ F_ => rfl) ?_
  refine t_is (.pointer (some ⟨g, 0, none⟩)) rfl rfl rfl rfl (fun W_ hW_ F_ => by simp [go_sem, sEv, sLook, nbeq, i64_w]) ?_
  refine t_is (.pointer (some ⟨g, 1, none⟩)) rfl rfl rfl rfl (fun W_ hW_ F_ => by simp [go_sem, sEv, sLook, nbeq, i64_w, Try.underlying76]) ?_
  refine t_is (.int .i64 s.sure) rfl rfl rfl rfl (fun W_ hW_ F_ => by have eb_ := ((hb.on hb2).on (below_of_drew hW_)); have e0_ := eb_.cellv (i := 1) (v := (.int .i64 s.sure : Value)) rfl; simp [go_sem, sEv, sLook, nbeq, i64_w, e0_]) ?_
  refine t_is (.int .i64 (s.left k)) rfl rfl rfl rfl (fun W_ hW_ F_ => rfl) ?_
  refine t_is (.int .i64 (s.sure + s.left k)) rfl rfl rfl rfl (fun W_ hW_ F_ => by simp [go_sem, sEv, sLook, nbeq, i64_w]; have h1_ := hok.sure; have h2_ := hok.len; have h3_ := TS.left_le s k hok; exact wrap_id (by omega) (by omega)) ?_
  refine t_is (.slice A ((s.sure + s.left k).toNat) c) rfl rfl rfl rfl (fun W_ hW_ F_ => by have h1_ := hok.sure; have h2_ := hok.len; have h3_ := TS.left_le s k hok; have h4_ := (BR.reads' hR).1; have h5_ := (BR.reads' hR).2.1; exact run_as (cut_run (e := 5) (sz := 1) (x := s.sure + s.left k) (c := c) (n := n) (A := A) (by kernel_rfl) (fun _ => by kernel_rfl) (by omega) (by omega) W_)) ?_
  refine t_call (f := 42) (args := #[.slice A (s.sure + s.left k).toNat c]) (OwnSpec w0.heap.size w1.heap.size (s.xs.take (s.sure + s.left k).toNat)) rfl rfl rfl rfl (fun W_ => by simp [go_sem, sEv, sLook, nbeq, i64_w]) (fun W_ hW_ F_ => ?_) ?_
  · have h1_ := hok.sure
    have h2_ := hok.len
    have h3_ := TS.left_le s k hok
    have h6_ := BR.cut hR (s.sure + s.left k).toNat (by omega)
    have hl_ : (s.xs.take (s.sure + s.left k).toNat).length = (s.sure + s.left k).toNat := by simp; omega
    have hs_ := (below_of_drew hW_).size
    refine (clone_calls W_ A (s.sure + s.left k).toNat c (s.xs.take (s.sure + s.left k).toNat) (by have h7_ := (BR.reads' h6_).2.2; rw [hl_] at h7_; exact Kd.C_below h7_ (chain hb2 (below_of_drew hW_))) (by omega)).mono ?_
    rintro e_ w_ ⟨A_, n_, c_, rfl, hO_, hb_⟩
    exact ⟨_, rfl, ⟨A_, n_, c_, rfl, hO_.lower (by omega) |>.mono hs_⟩, hb_⟩
  rintro _ ⟨A4, n6, c5, rfl⟩
  refine t_tail ?_
  intro w8 hb9_ F10
  have hb9 := below_of_drew hb9_
  have hs_w8 := hb9.size
  have hO7 := ownspec_fact (F10 12 _ _ rfl)
  refine rw_val (v := .pointer (some ⟨g, 0, none⟩)) (w' := w8) rfl rfl rfl rfl (by simp [go_sem, sEv, sLook, nbeq, i64_w]) ?_
  refine rw_val (v := .pointer (some ⟨g, 0, none⟩)) (w' := w8) rfl rfl rfl rfl (by simp [go_sem, sEv, sLook, nbeq, i64_w, Try.underlying76]) ?_
  have hb14 := ((hb.on hb2).on hb9)
  refine rw_store (g := g) (i := 0) (l := [.slice A4 n6 c5]) (cs' := #[.slice A4 n6 c5, .int .i64 s.sure, .int .i64 s.steps, .bool s.ps, .int .i64 s.pl, .bool s.fs, .int .i64 s.fl, .bool s.dn]) rfl rfl rfl hb14 rfl (by have e0_ := hb14.cellv (i := 0) (v := (.slice A n c : Value)) rfl; have f0_ := hb14.frozen 0; simp [go_sem, sEv, sLook, nbeq, i64_w, putCells, e0_, f0_, Try.underlying32]) ?_
  intro w11 hk12 hk13
  have hs_w11 := hk12.size
  refine rw_end ?_
  refine w_weaken (G' := [(0, .pointer (some ⟨g, 0, none⟩))]) ⟨rfl, trivial⟩ ?_
  refine w_drawk (M := [0, 0, 2, 6, 14, 0, 32, 96, 224, 480, 0, 1024, 3072, 7168, 16382, 32767, 65535]) (ss := [Is (.pointer (some ⟨g, 0, none⟩)), Is (.pointer (some ⟨g, 0, none⟩)), Is (.pointer (some ⟨g, 0, none⟩)), Is (.pointer (some ⟨g, 0, none⟩)), Is (.slice A4 n6 c5), Is (.pointer (some ⟨g, 0, none⟩)), Is (.pointer (some ⟨g, 0, none⟩)), Is (.pointer (some ⟨g, 0, none⟩)), Is (.slice A4 n6 c5), Is (.int .i64 ((s.xs.take (s.sure + s.left k).toNat).length : Int)), Is (.pointer (some ⟨g, 0, none⟩)), Is (.pointer (some ⟨g, 0, none⟩)), Is (.pointer (some ⟨g, 2, none⟩)), Is (.int .i64 s.steps), Is (.agg #[.slice A4 n6 c5, .int .i64 ((s.xs.take (s.sure + s.left k).toNat).length : Int), .int .i64 s.steps, .bool false, .int .i64 0, .bool false, .int .i64 0, .bool false])]) 15 rfl (by decide +kernel) ?_
  refine t_is (.pointer (some ⟨g, 0, none⟩)) rfl rfl rfl rfl (fun W_ hW_ F_ => rfl) ?_
  refine t_is (.pointer (some ⟨g, 0, none⟩)) rfl rfl rfl rfl (fun W_ hW_ F_ => rfl) ?_
  refine t_is (.pointer (some ⟨g, 0, none⟩)) rfl rfl rfl rfl (fun W_ hW_ F_ => by simp [go_sem, sEv, sLook, nbeq, i64_w]) ?_
  refine t_is (.pointer (some ⟨g, 0, none⟩)) rfl rfl rfl rfl (fun W_ hW_ F_ => by simp [go_sem, sEv, sLook, nbeq, i64_w, Try.underlying76]) ?_
  refine t_is (.slice A4 n6 c5) rfl rfl rfl rfl (fun W_ hW_ F_ => by have eb_ := (hk13.on (below_of_drew hW_)); have e0_ := eb_.cellv (i := 0) (v := (.slice A4 n6 c5 : Value)) rfl; simp [go_sem, sEv, sLook, nbeq, i64_w, e0_, Try.underlying32]) ?_
  refine t_is (.pointer (some ⟨g, 0, none⟩)) rfl rfl rfl rfl (fun W_ hW_ F_ => rfl) ?_
  refine t_is (.pointer (some ⟨g, 0, none⟩)) rfl rfl rfl rfl (fun W_ hW_ F_ => by simp [go_sem, sEv, sLook, nbeq, i64_w]) ?_
  refine t_is (.pointer (some ⟨g, 0, none⟩)) rfl rfl rfl rfl (fun W_ hW_ F_ => by simp [go_sem, sEv, sLook, nbeq, i64_w, Try.underlying76]) ?_
  refine t_is (.slice A4 n6 c5) rfl rfl rfl rfl (fun W_ hW_ F_ => by have eb_ := (hk13.on (below_of_drew hW_)); have e0_ := eb_.cellv (i := 0) (v := (.slice A4 n6 c5 : Value)) rfl; simp [go_sem, sEv, sLook, nbeq, i64_w, e0_, Try.underlying32]) ?_
  refine t_is (.int .i64 ((s.xs.take (s.sure + s.left k).toNat).length : Int)) rfl rfl rfl rfl (fun W_ hW_ F_ => by simp [go_sem, sEv, sLook, nbeq, i64_w]; rw [(BR.reads' (BR.of_R hO7)).1]; simp) ?_
  refine t_is (.pointer (some ⟨g, 0, none⟩)) rfl rfl rfl rfl (fun W_ hW_ F_ => rfl) ?_
  refine t_is (.pointer (some ⟨g, 0, none⟩)) rfl rfl rfl rfl (fun W_ hW_ F_ => by simp [go_sem, sEv, sLook, nbeq, i64_w]) ?_
  refine t_is (.pointer (some ⟨g, 2, none⟩)) rfl rfl rfl rfl (fun W_ hW_ F_ => by simp [go_sem, sEv, sLook, nbeq, i64_w, Try.underlying76]) ?_
  refine t_is (.int .i64 s.steps) rfl rfl rfl rfl (fun W_ hW_ F_ => by have eb_ := (hk13.on (below_of_drew hW_)); have e0_ := eb_.cellv (i := 2) (v := (.int .i64 s.steps : Value)) rfl; simp [go_sem, sEv, sLook, nbeq, i64_w, e0_]) ?_
  refine t_is (.agg #[.slice A4 n6 c5, .int .i64 ((s.xs.take (s.sure + s.left k).toNat).length : Int), .int .i64 s.steps, .bool false, .int .i64 0, .bool false, .int .i64 0, .bool false]) rfl rfl rfl rfl (fun W_ hW_ F_ => by kernel_rfl) ?_
  refine t_tail ?_
  intro w15 hb16_ F17
  have hb16 := below_of_drew hb16_
  have hs_w15 := hb16.size
  refine rw_val (v := .pointer (some ⟨g, 0, none⟩)) (w' := w15) rfl rfl rfl rfl (by simp [go_sem, sEv, sLook, nbeq, i64_w]) ?_
  have hb21 := (hk13.on hb16)
  refine rw_store (g := g) (i := 0) (l := [.slice A4 n6 c5, .int .i64 ((s.xs.take (s.sure + s.left k).toNat).length : Int), .int .i64 s.steps, .bool false, .int .i64 0, .bool false, .int .i64 0, .bool false]) (cs' := #[.slice A4 n6 c5, .int .i64 ((s.xs.take (s.sure + s.left k).toNat).length : Int), .int .i64 s.steps, .bool false, .int .i64 0, .bool false, .int .i64 0, .bool false]) rfl rfl rfl hb21 rfl (by have e0_ := hb21.cellv (i := 0) (v := (.slice A4 n6 c5 : Value)) rfl; have f0_ := hb21.frozen 0; have e1_ := hb21.cellv (i := 1) (v := (.int .i64 s.sure : Value)) rfl; have f1_ := hb21.frozen 1; have e2_ := hb21.cellv (i := 2) (v := (.int .i64 s.steps : Value)) rfl; have f2_ := hb21.frozen 2; have e3_ := hb21.cellv (i := 3) (v := (.bool s.ps : Value)) rfl; have f3_ := hb21.frozen 3; have e4_ := hb21.cellv (i := 4) (v := (.int .i64 s.pl : Value)) rfl; have f4_ := hb21.frozen 4; have e5_ := hb21.cellv (i := 5) (v := (.bool s.fs : Value)) rfl; have f5_ := hb21.frozen 5; have e6_ := hb21.cellv (i := 6) (v := (.int .i64 s.fl : Value)) rfl; have f6_ := hb21.frozen 6; have e7_ := hb21.cellv (i := 7) (v := (.bool s.dn : Value)) rfl; have f7_ := hb21.frozen 7; simp [go_sem, sEv, sLook, nbeq, i64_w, putCells, e0_, f0_, e1_, f1_, e2_, f2_, e3_, f3_, e4_, f4_, e5_, f5_, e6_, f6_, e7_, f7_, Try.underlying76]) ?_
  intro w18 hk19 hk20
  have hs_w18 := hk19.size
  refine rw_end ?_
  refine w_weaken (G' := []) trivial ?_
  refine w_end (post_end0 rfl ?_)
  have e2_ : s.crash k = ⟨(s.xs.take (s.sure + s.left k).toNat), ((s.xs.take (s.sure + s.left k).toNat).length : Int), s.steps, false, 0, false, 0, false⟩ := rfl
  rw [e2_]
  have hgl_ := hb.lt
  refine ⟨?_, TapeAt.mk (s := ⟨(s.xs.take (s.sure + s.left k).toNat), ((s.xs.take (s.sure + s.left k).toNat).length : Int), s.steps, false, 0, false, 0, false⟩) (hk19.below (by omega) (chain (hk12.below (by omega) (chain (chain hB hb2) hb9)) hb16)) hg0 hk20 (BR.step (BR.below (BR.step (BR.of_R hO7) (fun q hq _ => hk12.block q (by have := hb.lt; omega))) hb16) (fun q hq _ => hk19.block q (by have := hb.lt; omega))) (fun q hq => ⟨by omega, fun h_ => by have := hx q h_; omega⟩), by omega, (fun q hxq hxg => ((hk19.block q hxg).trans ((hb16.block q (by have := hx q hxq; omega)).trans ((hk12.block q hxg).trans ((hb9.block q (by have := hx q hxq; omega)).trans (hb2.block q (by have := hx q hxq; omega)))))))⟩
  rfl
end Go.Proofs.Ytiiljpaedelhlaa.Tp
namespace Go.Proofs.Ytiiljpaedelhlaa.Tp
open Go.RowKit Go.Proofs.YtiiljpaedelhlaaW.PrintWords Go.Proofs.YtiiljpaedelhlaaW.PrintLast Go.Proofs.YtiiljpaedelhlaaW.PrintMore
open Go.Proofs.YtiiljpaedelhlaaW.PrintWords.Kd Go.Proofs.Ytiiljpaedelhlaa.Flow
set_option linter.unusedVariables false
set_option linter.unusedSimpArgs false


theorem cut3_run {P : Program} {t e : TypeId} (hu : P.underlying t = some (.slice e)) {sz : Nat} (hz : ∀ w, (sizeOf e).run P w = .ok sz w) {A : Option Addr} {n c : Nat} {x : Int} (h0 : 0 ≤ x) (h1 : x ≤ c) (w : World) : (Instr.sliceAt t (.slice A n c) none (some (.int .i64 x)) (some (.int .i64 x))).run P w = .ok (.slice A x.toNat x.toNat) w := by
  simp [go_sem, hu, h0, h1, hz]
def TS.cut (s : TS) : TS := if s.dn = true then s else { s with xs := s.xs.take s.sure.toNat }
set_option maxHeartbeats 4000000 in
theorem cut_raw (w0 w : World) (g m : Nat) (x : Nat → Prop) (hx : ∀ q, x q → q < w.heap.size) (s : TS) (A : Option Addr) (n c : Nat) (hB : Below w0.heap.size w0 w) (hg0 : w0.heap.size ≤ g) (hm : g < m ∧ m ≤ w.heap.size) (hb : Blk w g 76 (tcells A n c s)) (hR : BR .u8 5 w w0.heap.size (fun q => g < q ∧ q < m ∧ ¬ x q) A n c s.xs) (hok : s.Ok) :
    Calls Try.prog 41 #[.pointer (some ⟨g, 0, none⟩)] w fun e w' => e = .returned (.tuple #[]) ∧ TapeAt w0 w' g w'.heap.size x s.cut ∧ w.heap.size ≤ w'.heap.size ∧ (∀ q, x q → q ≠ g → w'.heap[q]? = w.heap[q]?) := by
  refine calls_flow Try.func41 rfl 21 rfl (Nat.le_of_ble_eq_true rfl) [(0, .pointer (some ⟨g, 0, none⟩))] ?_ ?_
  · intro t v h; exact args_look rfl t v h
  refine w_seq ?_
  refine w_region ?_
  refine rw_val (v := .pointer (some ⟨g, 0, none⟩)) (w' := w) rfl rfl rfl rfl rfl ?_
  refine rw_call rfl rfl rfl rfl (f := 35) (args := #[.pointer (some ⟨g, 0, none⟩)]) (by simp [go_sem, sEv, sLook, nbeq, i64_w]) (down_raw w0 w g m x (fun q h_ => by have := hx q h_; omega) s A n c hB hg0 hm hb hR hok) ?_
  rintro e_ w1 ⟨rfl, rfl⟩
  refine ⟨_, rfl, ?_⟩
  refine rw_val (v := .bool (!s.dn)) (w' := w) rfl rfl rfl rfl (by simp [go_sem, sEv, sLook, nbeq, i64_w]) ?_
  refine rw_end ?_
  refine w_cond rfl rfl (fun cDn => ?_) (fun cDn => ?_)
  · refine w_drawk (M := [0, 0, 2, 6, 14, 0, 32, 96, 224, 0, 512, 1536, 3584, 8190, 16383, 32767, 65535]) (ss := [Is (.pointer (some ⟨g, 0, none⟩)), Is (.pointer (some ⟨g, 0, none⟩)), Is (.pointer (some ⟨g, 0, none⟩)), Is (.pointer (some ⟨g, 0, none⟩)), Is (.slice A n c), Is (.pointer (some ⟨g, 0, none⟩)), Is (.pointer (some ⟨g, 0, none⟩)), Is (.pointer (some ⟨g, 1, none⟩)), Is (.int .i64 s.sure), Is (.pointer (some ⟨g, 0, none⟩)), Is (.pointer (some ⟨g, 0, none⟩)), Is (.pointer (some ⟨g, 1, none⟩)), Is (.int .i64 s.sure), Is (.slice A s.sure.toNat s.sure.toNat)]) 14 rfl (by decide +kernel) ?_
    refine t_is (.pointer (some ⟨g, 0, none⟩)) rfl rfl rfl rfl (fun W_ hW_ F_ => rfl) ?_
    refine t_is (.pointer (some ⟨g, 0, none⟩)) rfl rfl rfl rfl (fun W_ hW_ F_ => rfl) ?_
    refine t_is (.pointer (some ⟨g, 0, none⟩)) rfl rfl rfl rfl (fun W_ hW_ F_ => by simp [go_sem, sEv, sLook, nbeq, i64_w]) ?_
    refine t_is (.pointer (some ⟨g, 0, none⟩)) rfl rfl rfl rfl (fun W_ hW_ F_ => by simp [go_sem, sEv, sLook, nbeq, i64_w, Try.underlying76]) ?_
    refine t_is (.slice A n c) rfl rfl rfl rfl (fun W_ hW_ F_ => by have eb_ := (hb.on (below_of_drew hW_)); have e0_ := eb_.cellv (i := 0) (v := (.slice A n c : Value)) rfl; simp [go_sem, sEv, sLook, nbeq, i64_w, e0_, Try.underlying32]) ?_
    refine t_is (.pointer (some ⟨g, 0, none⟩)) rfl rfl rfl rfl (fun W_ hW_ F_ => rfl) ?_
    refine t_is (.pointer (some ⟨g, 0, none⟩)) rfl rfl rfl rfl (fun W_ hW_ F_ => by simp [go_sem, sEv, sLook, nbeq, i64_w]) ?_
    refine t_is (.pointer (some ⟨g, 1, none⟩)) rfl rfl rfl rfl (fun W_ hW_ F_ => by simp [go_sem, sEv, sLook, nbeq, i64_w, Try.underlying76]) ?_
    refine t_is (.int .i64 s.sure) rfl rfl rfl rfl (fun W_ hW_ F_ => by have eb_ := (hb.on (below_of_drew hW_)); have e0_ := eb_.cellv (i := 1) (v := (.int .i64 s.sure : Value)) rfl; simp [go_sem, sEv, sLook, nbeq, i64_w, e0_]) ?_
    refine t_is (.pointer (some ⟨g, 0, none⟩)) rfl rfl rfl rfl (fun W_ hW_ F_ => rfl) ?_
    refine t_is (.pointer (some ⟨g, 0, none⟩)) rfl rfl rfl rfl (fun W_ hW_ F_ => by simp [go_sem, sEv, sLook, nbeq, i64_w]) ?_
    refine t_is (.pointer (some ⟨g, 1, none⟩)) rfl rfl rfl rfl (fun W_ hW_ F_ => by simp [go_sem, sEv, sLook, nbeq, i64_w, Try.underlying76]) ?_
    refine t_is (.int .i64 s.sure) rfl rfl rfl rfl (fun W_ hW_ F_ => by have eb_ := (hb.on (below_of_drew hW_)); have e0_ := eb_.cellv (i := 1) (v := (.int .i64 s.sure : Value)) rfl; simp [go_sem, sEv, sLook, nbeq, i64_w, e0_]) ?_
    refine t_is (.slice A s.sure.toNat s.sure.toNat) rfl rfl rfl rfl (fun W_ hW_ F_ => by have h1_ := hok.sure; have h4_ := (BR.reads' hR).1; have h5_ := (BR.reads' hR).2.1; exact run_as (cut3_run (e := 5) (sz := 1) (x := s.sure) (c := c) (n := n) (A := A) (by kernel_rfl) (fun _ => by kernel_rfl) (by omega) (by omega) W_)) ?_
    refine t_tail ?_
    intro w2 hb3_ F4
    have hb3 := below_of_drew hb3_
    have hs_w2 := hb3.size
    refine rw_val (v := .pointer (some ⟨g, 0, none⟩)) (w' := w2) rfl rfl rfl rfl (by simp [go_sem, sEv, sLook, nbeq, i64_w]) ?_
    refine rw_val (v := .pointer (some ⟨g, 0, none⟩)) (w' := w2) rfl rfl rfl rfl (by simp [go_sem, sEv, sLook, nbeq, i64_w, Try.underlying76]) ?_
    have hb8 := (hb.on hb3)
    refine rw_store (g := g) (i := 0) (l := [.slice A s.sure.toNat s.sure.toNat]) (cs' := #[.slice A s.sure.toNat s.sure.toNat, .int .i64 s.sure, .int .i64 s.steps, .bool s.ps, .int .i64 s.pl, .bool s.fs, .int .i64 s.fl, .bool s.dn]) rfl rfl rfl hb8 rfl (by have e0_ := hb8.cellv (i := 0) (v := (.slice A n c : Value)) rfl; have f0_ := hb8.frozen 0; simp [go_sem, sEv, sLook, nbeq, i64_w, putCells, e0_, f0_, Try.underlying32]) ?_
    intro w5 hk6 hk7
    have hs_w5 := hk6.size
    refine rw_end ?_
    refine w_weaken (G' := []) trivial ?_
    refine w_end (post_end0 rfl ?_)
    have e2_ : s.cut = ⟨(s.xs.take s.sure.toNat), s.sure, s.steps, s.ps, s.pl, s.fs, s.fl, s.dn⟩ := by rw [TS.cut, if_neg (by simpa using cDn)]
    rw [e2_]
    refine ⟨rfl, TapeAt.mk (s := ⟨(s.xs.take s.sure.toNat), s.sure, s.steps, s.ps, s.pl, s.fs, s.fl, s.dn⟩) (hk6.below (by omega) (chain hB hb3)) hg0 hk7 (BR.step (BR.below (BR.cut hR s.sure.toNat (by have := hok.sure; omega)) hb3) (fun q hq _ => hk6.block q (by have := hq.1; omega))) (fun q hq => ⟨hq.1, hq.2.2⟩), by omega, (fun q hxq hxg => ((hk6.block q hxg).trans (hb3.block q (by have := hx q hxq; omega))))⟩
  · refine w_skip ?_
    refine w_end (post_end0 rfl ?_)
    have e2_ : s.cut = ⟨s.xs, s.sure, s.steps, s.ps, s.pl, s.fs, s.fl, s.dn⟩ := by rw [TS.cut, if_pos (by simpa using cDn)]
    rw [e2_]
    refine ⟨rfl, TapeAt.mk (s := ⟨s.xs, s.sure, s.steps, s.ps, s.pl, s.fs, s.fl, s.dn⟩) hB hg0 hb hR (fun q hq => ⟨hq.1, hq.2.2⟩), by omega, (fun q hxq hxg => rfl)⟩
theorem cut_T (w0 w : World) (g m : Nat) (x : Nat → Prop) (hx : ∀ q, x q → q < w.heap.size) (s : TS) (hT : TapeAt w0 w g m x s) (hok : s.Ok) : Calls Try.prog 41 #[.pointer (some ⟨g, 0, none⟩)] w fun e w' => e = .returned (.tuple #[]) ∧ TapeAt w0 w' g w'.heap.size x s.cut ∧ w.heap.size ≤ w'.heap.size ∧ (∀ q, x q → q ≠ g → w'.heap[q]? = w.heap[q]?) := by
  obtain ⟨hB, hg0, hm, A, n, c, hb, hR⟩ := hT
  exact cut_raw w0 w g m x hx s A n c hB hg0 hm hb hR hok
theorem TS.cut_ok {s : TS} (h : s.Ok) : s.cut.Ok := by
  have h1 := h.sure
  have h2 := h.len
  unfold TS.cut
  split
  · exact h
  · exact ⟨h.steps, h.pl, h.fl, by simp only [List.length_take]; omega, by simp only [List.length_take]; omega⟩
end Go.Proofs.Ytiiljpaedelhlaa.Tp
