/- Parts of the proofs of diaryPlays_holds: TpOps5, WTab, WRepsOne, PDiaryPlaysx0, FrPlain, FrPlain3, FlowJ, FlowL, FlowI, FrWrap, FlowM, FrSplit, FlowS, FlowT, DyBase, DyOps, FrRef3, FrPlain8, FlowP, FrOwn, FlowQ. -/
import Derived.Laws.StructEq
import Derived.Laws.Bits64b
import Derived.Deep.Slices
import Derived.Test.YtiiljpaedelhlaaQP1
section
namespace Go.Proofs.Ytiiljpaedelhlaa.Tp
open Go.RowKit Go.Proofs.YtiiljpaedelhlaaW.PrintWords Go.Proofs.YtiiljpaedelhlaaW.PrintLast Go.Proofs.YtiiljpaedelhlaaW.PrintMore
open Go.Proofs.YtiiljpaedelhlaaW.PrintWords.Kd Go.Proofs.Ytiiljpaedelhlaa.Flow
set_option linter.unusedVariables false
set_option linter.unusedSimpArgs false
theorem TS.left_le (s : TS) (k : Int) (h : s.Ok) : 0 ≤ s.left k ∧ s.sure + s.left k ≤ s.xs.length := by
  have := h.sure
  unfold TS.left
  omega
theorem cut_run {P : Program} {t e : TypeId} (hu : P.underlying t = some (.slice e)) {sz : Nat} (hz : ∀ w, (sizeOf e).run P w = .ok sz w) {A : Option Addr} {n c : Nat} {x : Int} (h0 : 0 ≤ x) (h1 : x ≤ c) (w : World) : (Instr.sliceAt t (.slice A n c) none (some (.int .i64 x)) none).run P w = .ok (.slice A x.toNat c) w := by
  simp [go_sem, hu, h0, h1, hz]
def OwnSpec (base b : Nat) (xs : List Int) : Flow.Spec where
  s := fun v w => ∃ A n c, v = .slice A n c ∧ Own .u8 5 w base b A n c xs
  pl := fun v => ∃ A n c, v = .slice A n c
  stab := fun v w w' hb ⟨A, n, c, h1, h2⟩ => ⟨A, n, c, h1, h2.on hb⟩
  imp := fun v w ⟨A, n, c, h1, _⟩ => ⟨A, n, c, h1⟩
  inh := ⟨.slice none 0 0, none, 0, 0, rfl⟩
theorem ownspec_fact {base b : Nat} {xs : List Int} {A : Option Addr} {n c : Nat} {w : World} (h : (OwnSpec base b xs).s (.slice A n c) w) : Own .u8 5 w base b A n c xs := by
  obtain ⟨A', n', c', he, h2⟩ := h
  injection he with h3 h4 h5
  subst h3 h4 h5
  exact h2
set_option maxHeartbeats 4000000 in
theorem crash_raw (w0 w : World) (g m : Nat) (x : Nat → Prop) (hx : ∀ q, x q → q < w.heap.size) (s : TS) (A : Option Addr) (n c : Nat) (hB : Below w0.heap.size w0 w) (hg0 : w0.heap.size ≤ g) (hm : g < m ∧ m ≤ w.heap.size) (hb : Blk w g 76 (tcells A n c s)) (hR : BR .u8 5 w w0.heap.size (fun q => g < q ∧ q < m ∧ ¬ x q) A n c s.xs) (hok : s.Ok) (k : Int) :
    Calls Try.prog 22 #[.pointer (some ⟨g, 0, none⟩), .int .i64 k] w fun e w' => e = .returned (.tuple #[]) ∧ TapeAt w0 w' g w'.heap.size x (s.crash k) ∧ w.heap.size ≤ w'.heap.size ∧ (∀ q, x q → q ≠ g → w'.heap[q]? = w.heap[q]?) := by
  refine calls_flow Try.func22 rfl 51 rfl (Nat.le_of_ble_eq_true rfl) [(0, .pointer (some ⟨g, 0, none⟩)), (1, .int .i64 k)] ?_ ?_
  · intro t v h; exact args_look rfl t v h
  refine w_seq ?_
  refine w_seq ?_
  refine w_region ?_
  refine rw_val (v := .pointer (some ⟨g, 0, none⟩)) (w' := w) rfl rfl rfl rfl rfl ?_
  refine rw_val (v := .bool false) (w' := w) rfl rfl rfl rfl (run_as (run_ptr_eql (e := 76) (by kernel_rfl) _ _)) ?_
  refine rw_end ?_
  refine w_cond_f rfl rfl rfl ?_
  refine w_skip ?_
  refine w_seq ?_
  refine w_draw (M := [0, 1, 0, 4, 12, 28, 60, 0, 128, 384, 896, 2044, 4095, 8191]) (ss := [Is (.int .i64 k), Is (.int .i64 (max k 0)), Is (.pointer (some ⟨g, 0, none⟩)), Is (.pointer (some ⟨g, 0, none⟩)), Is (.pointer (some ⟨g, 0, none⟩)), Is (.slice A n c), Is (.int .i64 (s.xs.length : Int)), Is (.pointer (some ⟨g, 0, none⟩)), Is (.pointer (some ⟨g, 0, none⟩)), Is (.pointer (some ⟨g, 1, none⟩)), Is (.int .i64 s.sure), Is (.int .i64 ((s.xs.length : Int) - s.sure)), Is (.int .i64 (s.left k)), Is (.int .i64 (s.left k))]) rfl (by decide +kernel) ?_
  refine t_is (.int .i64 k) rfl rfl rfl rfl (fun W_ hW_ F_ => rfl) ?_
  refine t_is (.int .i64 (max k 0)) rfl rfl rfl rfl (fun W_ hW_ F_ => by simp [go_sem, sEv, sLook, nbeq, i64_w, max2_int, min2_int, max_two, min_two]; (split <;> omega)) ?_
  refine t_is (.pointer (some ⟨g, 0, none⟩)) rfl rfl rfl rfl (fun W_ hW_ F_ => rfl) ?_
  refine t_is (.pointer (some ⟨g, 0, none⟩)) rfl rfl rfl rfl (fun W_ hW_ F_ => by simp [go_sem, sEv, sLook, nbeq, i64_w]) ?_
  refine t_is (.pointer (some ⟨g, 0, none⟩)) rfl rfl rfl rfl (fun W_ hW_ F_ => by simp [go_sem, sEv, sLook, nbeq, i64_w, Try.underlying76]) ?_
  refine t_is (.slice A n c) rfl rfl rfl rfl (fun W_ hW_ F_ => by have eb_ := (hb.on (below_of_drew hW_)); have e0_ := eb_.cellv (i := 0) (v := (.slice A n c : Value)) rfl; simp [go_sem, sEv, sLook, nbeq, i64_w, e0_, Try.underlying32]) ?_
  refine t_is (.int .i64 (s.xs.length : Int)) rfl rfl rfl rfl (fun W_ hW_ F_ => by simp [go_sem, sEv, sLook, nbeq, i64_w]; rw [(BR.reads' hR).1]) ?_
  refine t_is (.pointer (some ⟨g, 0, none⟩)) rfl rfl rfl rfl (fun W_ hW_ F_ => rfl) ?_
  refine t_is (.pointer (some ⟨g, 0, none⟩)) rfl rfl rfl rfl (fun W_ hW_ F_ => by simp [go_sem, sEv, sLook, nbeq, i64_w]) ?_
  refine t_is (.pointer (some ⟨g, 1, none⟩)) rfl rfl rfl rfl (fun W_ hW_ F_ => by simp [go_sem, sEv, sLook, nbeq, i64_w, Try.underlying76]) ?_
  refine t_is (.int .i64 s.sure) rfl rfl rfl rfl (fun W_ hW_ F_ => by have eb_ := (hb.on (below_of_drew hW_)); have e0_ := eb_.cellv (i := 1) (v := (.int .i64 s.sure : Value)) rfl; simp [go_sem, sEv, sLook, nbeq, i64_w, e0_]) ?_
  refine t_is (.int .i64 ((s.xs.length : Int) - s.sure)) rfl rfl rfl rfl (fun W_ hW_ F_ => by simp [go_sem, sEv, sLook, nbeq, i64_w]; have h1_ := hok.sure; have h2_ := hok.len; exact wrap_id (by omega) (by omega)) ?_
  refine t_is (.int .i64 (s.left k)) rfl rfl rfl rfl (fun W_ hW_ F_ => by simp [go_sem, sEv, sLook, nbeq, i64_w, max2_int, min2_int, max_two, min_two]; unfold TS.left; (split <;> omega)) ?_
  refine t_is (.int .i64 (s.left k)) rfl rfl rfl rfl (fun W_ hW_ F_ => rfl) ?_
  refine t_end ?_
  intro w1 hb2_ F3
  have hb2 := below_of_drew hb2_
  have hs_w1 := hb2.size
  refine w_weaken (G' := [(0, .pointer (some ⟨g, 0, none⟩)), (4, .int .i64 (s.left k))]) ⟨rfl, rfl, trivial⟩ ?_
  refine w_seq ?_
  refine w_drawk (M := [0, 0, 2, 6, 14, 0, 32, 96, 224, 0, 992, 2046, 4094, 8191, 16383, 32767]) (ss := [Is (.pointer (some ⟨g, 0, none⟩)), Is (.pointer (some ⟨g, 0, none⟩)), Is (.pointer (some ⟨g, 0, none⟩)), Is (.pointer (some ⟨g, 0, none⟩)), Is (.slice A n c), Is (.pointer (some ⟨g, 0, none⟩)), Is (.pointer (some ⟨g, 0, none⟩)), Is (.pointer (some ⟨g, 1, none⟩)), Is (.int .i64 s.sure), Is (.int .i64 (s.left k)), Is (.int .i64 (s.sure + s.left k)), Is (.slice A ((s.sure + s.left k).toNat) c), OwnSpec w0.heap.size w1.heap.size (s.xs.take (s.sure + s.left k).toNat)]) 13 rfl (by decide +kernel) ?_
  refine t_is (.pointer (some ⟨g, 0, none⟩)) rfl rfl rfl rfl (fun W_ hW_ F_ => rfl) ?_
  refine t_is (.pointer (some ⟨g, 0, none⟩)) rfl rfl rfl rfl (fun W_ hW_ F_ => rfl) ?_
  refine t_is (.pointer (some ⟨g, 0, none⟩)) rfl rfl rfl rfl (fun W_ hW_ F_ => by simp [go_sem, sEv, sLook, nbeq, i64_w]) ?_
  refine t_is (.pointer (some ⟨g, 0, none⟩)) rfl rfl rfl rfl (fun W_ hW_ F_ => by simp [go_sem, sEv, sLook, nbeq, i64_w, Try.underlying76]) ?_
  refine t_is (.slice A n c) rfl rfl rfl rfl (fun W_ hW_ F_ => by have eb_ := ((hb.on hb2).on (below_of_drew hW_)); have e0_ := eb_.cellv (i := 0) (v := (.slice A n c : Value)) rfl; simp [go_sem, sEv, sLook, nbeq, i64_w, e0_, Try.underlying32]) ?_
  refine t_is (.pointer (some ⟨g, 0, none⟩)) rfl rfl rfl rfl (fun W_ hW_ F_ => rfl) ?_
  refine t_is (.pointer (some ⟨g, 0, none⟩)) rfl rfl rfl rfl (fun W_ hW_ F_ => by simp [go_sem, sEv, sLook, nbeq, i64_w]) ?_
  refine t_is (.pointer (some ⟨g, 1, none⟩)) rfl rfl rfl rfl (fun W_ hW_ F_ => by simp [go_sem, sEv, sLook, nbeq, i64_w, Try.underlying76]) ?_
  refine t_is (.int .i64 s.sure) rfl rfl rfl rfl (fun W_ hW_ F_ => by have eb_ := ((hb.on hb2).on (below_of_drew hW_)); have e0_ := eb_.cellv (i := 1) (v := (.int .i64 s.sure : Value)) rfl; simp [go_sem, sEv, sLook, nbeq, i64_w, e0_]) ?_
  refine t_is (.int .i64 (s.left k)) rfl rfl rfl rfl (fun W_ hW_ F_ => rfl) ?_
  refine t_is (.int .i64 (s.sure + s.left k)) rfl rfl rfl rfl (fun W_ hW_ F_ => by simp [go_sem, sEv, sLook, nbeq, i64_w]; have h1_ := hok.sure; have h2_ := hok.len; have h3_ := TS.left_le s k hok; exact wrap_id (by omega) (by omega)) ?_
  refine t_is (.slice A ((s.sure + s.left k).toNat) c) rfl rfl rfl rfl (fun W_ hW_ F_ => by have h1_ := hok.sure; have h2_ := hok.len; have h3_ := TS.left_le s k hok; have h4_ := (BR.reads' hR).1; have h5_ := (BR.reads' hR).2.1; exact run_as (cut_run (e := 5) (sz := 1) (x := s.sure + s.left k) (c := c) (n := n) (A := A) (by kernel_rfl) (fun _ => by kernel_rfl) (by omega) (by omega) W_)) ?_
  refine t_call (f := 42) (args := #[.slice A (s.sure + s.left k).toNat c]) (OwnSpec w0.heap.size w1.heap.size (s.xs.take (s.sure + s.left k).toNat)) rfl rfl rfl rfl (fun W_ => by simp [go_sem, sEv, sLook, nbeq, i64_w]) (fun W_ hW_ F_ => ?_) ?_
  · have h1_ := hok.sure
    have h2_ := hok.len
    have h3_ := TS.left_le s k hok
    have h6_ := BR.cut hR (s.sure + s.left k).toNat (by omega)
    have hl_ : (s.xs.take (s.sure + s.left k).toNat).length = (s.sure + s.left k).toNat := by simp; omega
    have hs_ := (below_of_drew hW_).size
    refine (clone_calls W_ A (s.sure + s.left k).toNat c (s.xs.take (s.sure + s.left k).toNat) (by have h7_ := (BR.reads' h6_).2.2; rw [hl_] at h7_; exact Kd.C_below h7_ (chain hb2 (below_of_drew hW_))) (by omega)).mono ?_
    rintro e_ w_ ⟨A_, n_, c_, rfl, hO_, hb_⟩
    exact ⟨_, rfl, ⟨A_, n_, c_, rfl, hO_.lower (by omega) |>.mono hs_⟩, hb_⟩
  rintro _ ⟨A4, n6, c5, rfl⟩
  refine t_tail ?_
  intro w8 hb9_ F10
  have hb9 := below_of_drew hb9_
  have hs_w8 := hb9.size
  have hO7 := ownspec_fact (F10 12 _ _ rfl)
  refine rw_val (v := .pointer (some ⟨g, 0, none⟩)) (w' := w8) rfl rfl rfl rfl (by simp [go_sem, sEv, sLook, nbeq, i64_w]) ?_
  refine rw_val (v := .pointer (some ⟨g, 0, none⟩)) (w' := w8) rfl rfl rfl rfl (by simp [go_sem, sEv, sLook, nbeq, i64_w, Try.underlying76]) ?_
  have hb14 := ((hb.on hb2).on hb9)
  refine rw_store (g := g) (i := 0) (l := [.slice A4 n6 c5]) (cs' := #[.slice A4 n6 c5, .int .i64 s.sure, .int .i64 s.steps, .bool s.ps, .int .i64 s.pl, .bool s.fs, .int .i64 s.fl, .bool s.dn]) rfl rfl rfl hb14 rfl (by have e0_ := hb14.cellv (i := 0) (v := (.slice A n c : Value)) rfl; have f0_ := hb14.frozen 0; simp [go_sem, sEv, sLook, nbeq, i64_w, putCells, e0_, f0_, Try.underlying32]) ?_
  intro w11 hk12 hk13
  have hs_w11 := hk12.size
  refine rw_end ?_
  refine w_weaken (G' := [(0, .pointer (some ⟨g, 0, none⟩))]) ⟨rfl, trivial⟩ ?_
  refine w_drawk (M := [0, 0, 2, 6, 14, 0, 32, 96, 224, 480, 0, 1024, 3072, 7168, 16382, 32767, 65535]) (ss := [Is (.pointer (some ⟨g, 0, none⟩)), Is (.pointer (some ⟨g, 0, none⟩)), Is (.pointer (some ⟨g, 0, none⟩)), Is (.pointer (some ⟨g, 0, none⟩)), Is (.slice A4 n6 c5), Is (.pointer (some ⟨g, 0, none⟩)), Is (.pointer (some ⟨g, 0, none⟩)), Is (.pointer (some ⟨g, 0, none⟩)), Is (.slice A4 n6 c5), Is (.int .i64 ((s.xs.take (s.sure + s.left k).toNat).length : Int)), Is (.pointer (some ⟨g, 0, none⟩)), Is (.pointer (some ⟨g, 0, none⟩)), Is (.pointer (some ⟨g, 2, none⟩)), Is (.int .i64 s.steps), Is (.agg #[.slice A4 n6 c5, .int .i64 ((s.xs.take (s.sure + s.left k).toNat).length : Int), .int .i64 s.steps, .bool false, .int .i64 0, .bool false, .int .i64 0, .bool false])]) 15 rfl (by decide +kernel) ?_
  refine t_is (.pointer (some ⟨g, 0, none⟩)) rfl rfl rfl rfl (fun W_ hW_ F_ => rfl) ?_
  refine t_is (.pointer (some ⟨g, 0, none⟩)) rfl rfl rfl rfl (fun W_ hW_ F_ => rfl) ?_
  refine t_is (.pointer (some ⟨g, 0, none⟩)) rfl rfl rfl rfl (fun W_ hW_ F_ => by simp [go_sem, sEv, sLook, nbeq, i64_w]) ?_
  refine t_is (.pointer (some ⟨g, 0, none⟩)) rfl rfl rfl rfl (fun W_ hW_ F_ => by simp [go_sem, sEv, sLook, nbeq, i64_w, Try.underlying76]) ?_
  refine t_is (.slice A4 n6 c5) rfl rfl rfl rfl (fun W_ hW_ F_ => by have eb_ := (hk13.on (below_of_drew hW_)); have e0_ := eb_.cellv (i := 0) (v := (.slice A4 n6 c5 : Value)) rfl; simp [go_sem, sEv, sLook, nbeq, i64_w, e0_, Try.underlying32]) ?_
  refine t_is (.pointer (some ⟨g, 0, none⟩)) rfl rfl rfl rfl (fun W_ hW_ F_ => rfl) ?_
  refine t_is (.pointer (some ⟨g, 0, none⟩)) rfl rfl rfl rfl (fun W_ hW_ F_ => by simp [go_sem, sEv, sLook, nbeq, i64_w]) ?_
  refine t_is (.pointer (some ⟨g, 0, none⟩)) rfl rfl rfl rfl (fun W_ hW_ F_ => by simp [go_sem, sEv, sLook, nbeq, i64_w, Try.underlying76]) ?_
  refine t_is (.slice A4 n6 c5) rfl rfl rfl rfl (fun W_ hW_ F_ => by have eb_ := (hk13.on (below_of_drew hW_)); have e0_ := eb_.cellv (i := 0) (v := (.slice A4 n6 c5 : Value)) rfl; simp [go_sem, sEv, sLook, nbeq, i64_w, e0_, Try.underlying32]) ?_
  refine t_is (.int .i64 ((s.xs.take (s.sure + s.left k).toNat).length : Int)) rfl rfl rfl rfl (fun W_ hW_ F_ => by simp [go_sem, sEv, sLook, nbeq, i64_w]; rw [(BR.reads' (BR.of_R hO7)).1]; simp) ?_
  refine t_is (.pointer (some ⟨g, 0, none⟩)) rfl rfl rfl rfl (fun W_ hW_ F_ => rfl) ?_
  refine t_is (.pointer (some ⟨g, 0, none⟩)) rfl rfl rfl rfl (fun W_ hW_ F_ => by simp [go_sem, sEv, sLook, nbeq, i64_w]) ?_
  refine t_is (.pointer (some ⟨g, 2, none⟩)) rfl rfl rfl rfl (fun W_ hW_ F_ => by simp [go_sem, sEv, sLook, nbeq, i64_w, Try.underlying76]) ?_
  refine t_is (.int .i64 s.steps) rfl rfl rfl rfl (fun W_ hW_ F_ => by have eb_ := (hk13.on (below_of_drew hW_)); have e0_ := eb_.cellv (i := 2) (v := (.int .i64 s.steps : Value)) rfl; simp [go_sem, sEv, sLook, nbeq, i64_w, e0_]) ?_
  refine t_is (.agg #[.slice A4 n6 c5, .int .i64 ((s.xs.take (s.sure + s.left k).toNat).length : Int), .int .i64 s.steps, .bool false, .int .i64 0, .bool false, .int .i64 0, .bool false]) rfl rfl rfl rfl (fun W_ hW_ F_ => by kernel_rfl) ?_
  refine t_tail ?_
  intro w15 hb16_ F17
  have hb16 := below_of_drew hb16_
  have hs_w15 := hb16.size
  refine rw_val (v := .pointer (some ⟨g, 0, none⟩)) (w' := w15) rfl rfl rfl rfl (by simp [go_sem, sEv, sLook, nbeq, i64_w]) ?_
  have hb21 := (hk13.on hb16)
  refine rw_store (g := g) (i := 0) (l := [.slice A4 n6 c5, .int .i64 ((s.xs.take (s.sure + s.left k).toNat).length : Int), .int .i64 s.steps, .bool false, .int .i64 0, .bool false, .int .i64 0, .bool false]) (cs' := #[.slice A4 n6 c5, .int .i64 ((s.xs.take (s.sure + s.left k).toNat).length : Int), .int .i64 s.steps, .bool false, .int .i64 0, .bool false, .int .i64 0, .bool false]) rfl rfl rfl hb21 rfl (by have e0_ := hb21.cellv (i := 0) (v := (.slice A4 n6 c5 : Value)) rfl; have f0_ := hb21.frozen 0; have e1_ := hb21.cellv (i := 1) (v := (.int .i64 s.sure : Value)) rfl; have f1_ := hb21.frozen 1; have e2_ := hb21.cellv (i := 2) (v := (.int .i64 s.steps : Value)) rfl; have f2_ := hb21.frozen 2; have e3_ := hb21.cellv (i := 3) (v := (.bool s.ps : Value)) rfl; have f3_ := hb21.frozen 3; have e4_ := hb21.cellv (i := 4) (v := (.int .i64 s.pl : Value)) rfl; have f4_ := hb21.frozen 4; have e5_ := hb21.cellv (i := 5) (v := (.bool s.fs : Value)) rfl; have f5_ := hb21.frozen 5; have e6_ := hb21.cellv (i := 6) (v := (.int .i64 s.fl : Value)) rfl; have f6_ := hb21.frozen 6; have e7_ := hb21.cellv (i := 7) (v := (.bool s.dn : Value)) rfl; have f7_ := hb21.frozen 7; simp [go_sem, sEv, sLook, nbeq, i64_w, putCells, e0_, f0_, e1_, f1_, e2_, f2_, e3_, f3_, e4_, f4_, e5_, f5_, e6_, f6_, e7_, f7_, Try.underlying76]) ?_
  intro w18 hk19 hk20
  have hs_w18 := hk19.size
  refine rw_end ?_
  refine w_weaken (G' := []) trivial ?_
  refine w_end (post_end0 rfl ?_)
  have e2_ : s.crash k = ⟨(s.xs.take (s.sure + s.left k).toNat), ((s.xs.take (s.sure + s.left k).toNat).length : Int), s.steps, false, 0, false, 0, false⟩ := rfl
  rw [e2_]
  have hgl_ := hb.lt
  refine ⟨?_, TapeAt.mk (s := ⟨(s.xs.take (s.sure + s.left k).toNat), ((s.xs.take (s.sure + s.left k).toNat).length : Int), s.steps, false, 0, false, 0, false⟩) (hk19.below (by omega) (chain (hk12.below (by omega) (chain (chain hB hb2) hb9)) hb16)) hg0 hk20 (BR.step (BR.below (BR.step (BR.of_R hO7) (fun q hq _ => hk12.block q (by have := hb.lt; omega))) hb16) (fun q hq _ => hk19.block q (by have := hb.lt; omega))) (fun q hq => ⟨by omega, fun h_ => by have := hx q h_; omega⟩), by omega, (fun q hxq hxg => ((hk19.block q hxg).trans ((hb16.block q (by have := hx q hxq; omega)).trans ((hk12.block q hxg).trans ((hb9.block q (by have := hx q hxq; omega)).trans (hb2.block q (by have := hx q hxq; omega)))))))⟩
  rfl
end Go.Proofs.Ytiiljpaedelhlaa.Tp
namespace Go.Proofs.Ytiiljpaedelhlaa.Tp
open Go.RowKit Go.Proofs.YtiiljpaedelhlaaW.PrintWords Go.Proofs.YtiiljpaedelhlaaW.PrintLast Go.Proofs.YtiiljpaedelhlaaW.PrintMore
open Go.Proofs.YtiiljpaedelhlaaW.PrintWords.Kd Go.Proofs.Ytiiljpaedelhlaa.Flow
set_option linter.unusedVariables false
set_option linter.unusedSimpArgs false
theorem cut3_run {P : Program} {t e : TypeId} (hu : P.underlying t = some (.slice e)) {sz : Nat} (hz : ∀ w, (sizeOf e).run P w = .ok sz w) {A : Option Addr} {n c : Nat} {x : Int} (h0 : 0 ≤ x) (h1 : x ≤ c) (w : World) : (Instr.sliceAt t (.slice A n c) none (some (.int .i64 x)) (some (.int .i64 x))).run P w = .ok (.slice A x.toNat x.toNat) w := by
  simp [go_sem, hu, h0, h1, hz]
def TS.cut (s : TS) : TS := if s.dn = true then s else { s with xs := s.xs.take s.sure.toNat }
set_option maxHeartbeats 4000000 in
theorem cut_raw (w0 w : World) (g m : Nat) (x : Nat → Prop) (hx : ∀ q, x q → q < w.heap.size) (s : TS) (A : Option Addr) (n c : Nat) (hB : Below w0.heap.size w0 w) (hg0 : w0.heap.size ≤ g) (hm : g < m ∧ m ≤ w.heap.size) (hb : Blk w g 76 (tcells A n c s)) (hR : BR .u8 5 w w0.heap.size (fun q => g < q ∧ q < m ∧ ¬ x q) A n c s.xs) (hok : s.Ok) :
    Calls Try.prog 41 #[.pointer (some ⟨g, 0, none⟩)] w fun e w' => e = .returned (.tuple #[]) ∧ TapeAt w0 w' g w'.heap.size x s.cut ∧ w.heap.size ≤ w'.heap.size ∧ (∀ q, x q → q ≠ g → w'.heap[q]? = w.heap[q]?) := by
  refine calls_flow Try.func41 rfl 21 rfl (Nat.le_of_ble_eq_true rfl) [(0, .pointer (some ⟨g, 0, none⟩))] ?_ ?_
  · intro t v h; exact args_look rfl t v h
  refine w_seq ?_
  refine w_region ?_
  refine rw_val (v := .pointer (some ⟨g, 0, none⟩)) (w' := w) rfl rfl rfl rfl rfl ?_
  refine rw_call rfl rfl rfl rfl (f := 35) (args := #[.pointer (some ⟨g, 0, none⟩)]) (by simp [go_sem, sEv, sLook, nbeq, i64_w]) (down_raw w0 w g m x (fun q h_ => by have := hx q h_; omega) s A n c hB hg0 hm hb hR hok) ?_
  rintro e_ w1 ⟨rfl, rfl⟩
  refine ⟨_, rfl, ?_⟩
  refine rw_val (v := .bool (!s.dn)) (w' := w) rfl rfl rfl rfl (by simp [go_sem, sEv, sLook, nbeq, i64_w]) ?_
  refine rw_end ?_
  refine w_cond rfl rfl (fun cDn => ?_) (fun cDn => ?_)
  · refine w_drawk (M := [0, 0, 2, 6, 14, 0, 32, 96, 224, 0, 512, 1536, 3584, 8190, 16383, 32767, 65535]) (ss := [Is (.pointer (some ⟨g, 0, none⟩)), Is (.pointer (some ⟨g, 0, none⟩)), Is (.pointer (some ⟨g, 0, none⟩)), Is (.pointer (some ⟨g, 0, none⟩)), Is (.slice A n c), Is (.pointer (some ⟨g, 0, none⟩)), Is (.pointer (some ⟨g, 0, none⟩)), Is (.pointer (some ⟨g, 1, none⟩)), Is (.int .i64 s.sure), Is (.pointer (some ⟨g, 0, none⟩)), Is (.pointer (some ⟨g, 0, none⟩)), Is (.pointer (some ⟨g, 1, none⟩)), Is (.int .i64 s.sure), Is (.slice A s.sure.toNat s.sure.toNat)]) 14 rfl (by decide +kernel) ?_
    refine t_is (.pointer (some ⟨g, 0, none⟩)) rfl rfl rfl rfl (fun W_ hW_ F_ => rfl) ?_
    refine t_is (.pointer (some ⟨g, 0, none⟩)) rfl rfl rfl rfl (fun W_ hW_ F_ => rfl) ?_
    refine t_is (.pointer (some ⟨g, 0, none⟩)) rfl rfl rfl rfl (fun W_ hW_ F_ => by simp [go_sem, sEv, sLook, nbeq, i64_w]) ?_
    refine t_is (.pointer (some ⟨g, 0, none⟩)) rfl rfl rfl rfl (fun W_ hW_ F_ => by simp [go_sem, sEv, sLook, nbeq, i64_w, Try.underlying76]) ?_
    refine t_is (.slice A n c) rfl rfl rfl rfl (fun W_ hW_ F_ => by have eb_ := (hb.on (below_of_drew hW_)); have e0_ := eb_.cellv (i := 0) (v := (.slice A n c : Value)) rfl; simp [go_sem, sEv, sLook, nbeq, i64_w, e0_, Try.underlying32]) ?_
    refine t_is (.pointer (some ⟨g, 0, none⟩)) rfl rfl rfl rfl (fun W_ hW_ F_ => rfl) ?_
    refine t_is (.pointer (some ⟨g, 0, none⟩)) rfl rfl rfl rfl (fun W_ hW_ F_ => by simp [go_sem, sEv, sLook, nbeq, i64_w]) ?_
    refine t_is (.pointer (some ⟨g, 1, none⟩)) rfl rfl rfl rfl (fun W_ hW_ F_ => by simp [go_sem, sEv, sLook, nbeq, i64_w, Try.underlying76]) ?_
    refine t_is (.int .i64 s.sure) rfl rfl rfl rfl (fun W_ hW_ F_ => by have eb_ := (hb.on (below_of_drew hW_)); have e0_ := eb_.cellv (i := 1) (v := (.int .i64 s.sure : Value)) rfl; simp [go_sem, sEv, sLook, nbeq, i64_w, e0_]) ?_
    refine t_is (.pointer (some ⟨g, 0, none⟩)) rfl rfl rfl rfl (fun W_ hW_ F_ => rfl) ?_
    refine t_is (.pointer (some ⟨g, 0, none⟩)) rfl rfl rfl rfl (fun W_ hW_ F_ => by simp [go_sem, sEv, sLook, nbeq, i64_w]) ?_
    refine t_is (.pointer (some ⟨g, 1, none⟩)) rfl rfl rfl rfl (fun W_ hW_ F_ => by simp [go_sem, sEv, sLook, nbeq, i64_w, Try.underlying76]) ?_
    refine t_is (.int .i64 s.sure) rfl rfl rfl rfl (fun W_ hW_ F_ => by have eb_ := (hb.on (below_of_drew hW_)); have e0_ := eb_.cellv (i := 1) (v := (.int .i64 s.sure : Value)) rfl; simp [go_sem, sEv, sLook, nbeq, i64_w, e0_]) ?_
    refine t_is (.slice A s.sure.toNat s.sure.toNat) rfl rfl rfl rfl (fun W_ hW_ F_ => by have h1_ := hok.sure; have h4_ := (BR.reads' hR).1; have h5_ := (BR.reads' hR).2.1; exact run_as (cut3_run (e := 5) (sz := 1) (x := s.sure) (c := c) (n := n) (A := A) (by kernel_rfl) (fun _ => by kernel_rfl) (by omega) (by omega) W_)) ?_
    refine t_tail ?_
    intro w2 hb3_ F4
    have hb3 := below_of_drew hb3_
    have hs_w2 := hb3.size
    refine rw_val (v := .pointer (some ⟨g, 0, none⟩)) (w' := w2) rfl rfl rfl rfl (by simp [go_sem, sEv, sLook, nbeq, i64_w]) ?_
    refine rw_val (v := .pointer (some ⟨g, 0, none⟩)) (w' := w2) rfl rfl rfl rfl (by simp [go_sem, sEv, sLook, nbeq, i64_w, Try.underlying76]) ?_
    have hb8 := (hb.on hb3)
    refine rw_store (g := g) (i := 0) (l := [.slice A s.sure.toNat s.sure.toNat]) (cs' := #[.slice A s.sure.toNat s.sure.toNat, .int .i64 s.sure, .int .i64 s.steps, .bool s.ps, .int .i64 s.pl, .bool s.fs, .int .i64 s.fl, .bool s.dn]) rfl rfl rfl hb8 rfl (by have e0_ := hb8.cellv (i := 0) (v := (.slice A n c : Value)) rfl; have f0_ := hb8.frozen 0; simp [go_sem, sEv, sLook, nbeq, i64_w, putCells, e0_, f0_, Try.underlying32]) ?_
    intro w5 hk6 hk7
    have hs_w5 := hk6.size
    refine rw_end ?_
    refine w_weaken (G' := []) trivial ?_
    refine w_end (post_end0 rfl ?_)
    have e2_ : s.cut = ⟨(s.xs.take s.sure.toNat), s.sure, s.steps, s.ps, s.pl, s.fs, s.fl, s.dn⟩ := by rw [TS.cut, if_neg (by simpa using cDn)]
    rw [e2_]
    refine ⟨rfl, TapeAt.mk (s := ⟨(s.xs.take s.sure.toNat), s.sure, s.steps, s.ps, s.pl, s.fs, s.fl, s.dn⟩) (hk6.below (by omega) (chain hB hb3)) hg0 hk7 (BR.step (BR.below (BR.cut hR s.sure.toNat (by have := hok.sure; omega)) hb3) (fun q hq _ => hk6.block q (by have := hq.1; omega))) (fun q hq => ⟨hq.1, hq.2.2⟩), by omega, (fun q hxq hxg => ((hk6.block q hxg).trans (hb3.block q (by have := hx q hxq; omega))))⟩
  · refine w_skip ?_
    refine w_end (post_end0 rfl ?_)
    have e2_ : s.cut = ⟨s.xs, s.sure, s.steps, s.ps, s.pl, s.fs, s.fl, s.dn⟩ := by rw [TS.cut, if_pos (by simpa using cDn)]
    rw [e2_]
    refine ⟨rfl, TapeAt.mk (s := ⟨s.xs, s.sure, s.steps, s.ps, s.pl, s.fs, s.fl, s.dn⟩) hB hg0 hb hR (fun q hq => ⟨hq.1, hq.2.2⟩), by omega, (fun q hxq hxg => rfl)⟩
theorem cut_T (w0 w : World) (g m : Nat) (x : Nat → Prop) (hx : ∀ q, x q → q < w.heap.size) (s : TS) (hT : TapeAt w0 w g m x s) (hok : s.Ok) : Calls Try.prog 41 #[.pointer (some ⟨g, 0, none⟩)] w fun e w' => e = .returned (.tuple #[]) ∧ TapeAt w0 w' g w'.heap.size x s.cut ∧ w.heap.size ≤ w'.heap.size ∧ (∀ q, x q → q ≠ g → w'.heap[q]? = w.heap[q]?) := by
  obtain ⟨hB, hg0, hm, A, n, c, hb, hR⟩ := hT
  exact cut_raw w0 w g m x hx s A n c hB hg0 hm hb hR hok
theorem TS.cut_ok {s : TS} (h : s.Ok) : s.cut.Ok := by
  have h1 := h.sure
  have h2 := h.len
  unfold TS.cut
  split
  · exact h
  · exact ⟨h.steps, h.pl, h.fl, by simp only [List.length_take]; omega, by simp only [List.length_take]; omega⟩
end Go.Proofs.Ytiiljpaedelhlaa.Tp
end
section
namespace Go.Proofs.YtiiljpaedelhlaaW.PrintLast
open Go.Proofs.YtiiljpaedelhlaaW.PrintWords (Aside0)
section
variable {md : Region.Mode} {ops : Array Oper} {T : Bool × List (List Nat × List Nat)} {l l' li lj lk : Array Bool} {ds : List Nat} {i j k : Nat}
theorem gd (l : Array Bool) (j : Nat) (b : Bool) : l.getD j b = l.toList.getD j b := by simp [Array.getD_eq_getD_getElem?, List.getD_eq_getElem?_getD]
end
end Go.Proofs.YtiiljpaedelhlaaW.PrintLast
end
section
namespace Go.Proofs.YtiiljpaedelhlaaW.PrintWords
theorem Reps.one {α : Type} {R : α → List Value → Prop} {ps : List α} {cs : List Value} {p : α} {v : Value} (hp : R p [v]) (h : Reps R 1 ps cs) : Reps R 1 (p :: ps) (v :: cs) := by
  refine ⟨by simp [h.1], fun j q hq => ?_⟩
  cases j with
  | zero =>
    simp only [List.getElem?_cons_zero, Option.some.injEq] at hq
    subst hq
    simpa using hp
  | succ j =>
    simp only [List.getElem?_cons_succ] at hq
    have h1 := h.2 j q hq
    simpa [Nat.mul_one] using h1
end Go.Proofs.YtiiljpaedelhlaaW.PrintWords
end
section
namespace Go.Proofs.Ytiiljpaedelhlaa.PDiaryPlays
open Go.RowKit Go.Proofs.YtiiljpaedelhlaaW.PrintWords Go.Proofs.YtiiljpaedelhlaaW.PrintLast Go.Proofs.YtiiljpaedelhlaaW.PrintMore
attribute [local go_sem] max2_int min2_int max_two min_two
set_option linter.unusedVariables false
set_option linter.unusedSimpArgs false
def errW : Option Int → Value
  | none => .nilIface
  | some c => .iface 50 (.int .i64 c)
theorem errW_none : errW none = .nilIface := rfl
theorem errW_some (c : Int) : errW (some c) = .iface 50 (.int .i64 c) := rfl
theorem info5 : (Try.prog.info? 5).map (fun i => (i.zero, i.size, i.bytes)) = some (some (.int .u8 0), 1, 1) := by kernel_rfl
def rd_L1 (xs : List (List Int)) (i : Int) : (List Int) := xs.getD i.toNat ([] : List Int)
theorem at_L1 {w : World} {A : Option Addr} {n : Nat} {xs : List (List Int)} (h : Kd.C (Kd.slice 5 (Kd.int .u8)) w A n xs) (i : Int) (h0 : 0 ≤ i) (h1 : i < n) : ∃ ad A0 c0, A = some ad ∧ w.cell? (ad.add i.toNat) = some (.slice A0 (rd_L1 xs i).length c0) ∧ (rd_L1 xs i).length ≤ c0 ∧ (Kd.int .u8).C w A0 (rd_L1 xs i).length (rd_L1 xs i) := by
  obtain ⟨ad, c, e, _, hK, hc0⟩ := Kd.C_get h ([] : List Int) i h0 h1
  have hc : ∀ j u, c[j]? = some u → w.cell? (ad.add (i.toNat * 1 + j)) = some u := hc0
  obtain ⟨A0, c0, rfl, l0, g0⟩ := hK
  exact ⟨ad, A0, c0, e, by have hq := hc 0 _ rfl; rwa [Nat.mul_one, Nat.add_zero] at hq, l0, g0⟩
end Go.Proofs.Ytiiljpaedelhlaa.PDiaryPlays
end
section
namespace Go.Proofs.Ytiiljpaedelhlaa.PDiaryPlays
open Go.RowKit Go.Proofs.YtiiljpaedelhlaaW.PrintWords Go.Proofs.YtiiljpaedelhlaaW.PrintLast Go.Proofs.YtiiljpaedelhlaaW.PrintMore
open Go.Proofs.Ytiiljpaedelhlaa.Flow
set_option linter.unusedVariables false
set_option linter.unusedSimpArgs false
theorem u64_wrap (x : Int) : IntKind.u64.wrap x = x % 18446744073709551616 := by simp [IntKind.wrap, IntKind.bits, IntKind.signed] <;> omega
theorem wrap_id {x : Int} (h1 : -9223372036854775808 ≤ x) (h2 : x ≤ 9223372036854775807) : wrap64 x = x := by unfold wrap64; omega
end Go.Proofs.Ytiiljpaedelhlaa.PDiaryPlays
namespace Go.Proofs.Ytiiljpaedelhlaa.PDiaryPlays
open Go.RowKit Go.Proofs.YtiiljpaedelhlaaW.PrintWords Go.Proofs.YtiiljpaedelhlaaW.PrintLast Go.Proofs.YtiiljpaedelhlaaW.PrintMore
attribute [local go_sem] max2_int min2_int max_two min_two
set_option linter.unusedVariables false
set_option linter.unusedSimpArgs false
def frame_low.l0 : Nat → List Int → Int → Int → Int → Option (List Int)
  | 0, _, _, _, _ => none
  | k + 1, x0, x1, x8, x9 => if x9 < x8 then (if 0 ≤ (wrap64 (8 * x9)) then (if x0.length < 140737488355328 then (frame_low.l0 k (x0 ++ [(shr .u64 x1 (wrap64 (8 * x9))) % 256]) x1 x8 (wrap64 (x9 + 1))) else (none)) else (none)) else (some x0)
def frame_low.f (k : Nat) (l0 : List Int) (a1 : Int) (a2 : Int) : Option (List Int) := frame_low.l0 k l0 a1 a2 0
set_option maxHeartbeats 8000000 in
set_option maxRecDepth 100000 in
theorem frame_low.calls (k : Nat) (P0_ : Nat → Prop) (u9000_ : Value) (l0 : List Int) (a1 : Int) (a2 : Int) (r : List Int) (w0 w : World) (hB : Below w0.heap.size w0 w) (ho0 : Kd.R (Kd.int .u8) 5 w w0.heap.size P0_ u9000_ l0) (h : frame_low.f k l0 a1 a2 = some r) :
    Calls Try.prog 51 #[u9000_, .int .u64 a1, .int .i64 a2] w fun e w' => ∃ v0_ : Value, e = .returned (v0_) ∧ Kd.R (Kd.int .u8) 5 w' w0.heap.size (fun k_ => (P0_ k_ ∨ w.heap.size ≤ k_)) v0_ r ∧ Below w0.heap.size w0 w' ∧ Kept w w' (fun k_ => P0_ k_) := by
  have HO0 := Aside0.mk (show Kd.R (Kd.int .u8) 5 w w0.heap.size (fun k_ => (P0_ k_ ∨ w.heap.size ≤ k_)) u9000_ l0 from Kd.R_mono ho0 (fun k_ hk => (.inl hk)))
  have HK := Aside0.mk (Kept.refl w (fun k_ => P0_ k_))
  have HW0 := Aside0.mk hB.size
  have HB := Aside0.mk hB
  clear hB
  have H : (frame_low.l0 k l0 a1 a2 0) = some r := h
  clear h
  have H' := Aside0.mk H
  clear H
  go_enter Try.func51, Try.ntmps51
  go_wp2
  go_loopg [0, 9] k (fun kq v0 v9 w' => ∃ (x0_1 : List Int) (x9_1 : Int), v9 = .int .i64 x9_1 ∧ Aside0 (frame_low.l0 kq x0_1 a1 a2 x9_1 = some r) ∧ Aside0 (kq ≤ k) ∧ Aside0 (Kd.R (Kd.int .u8) 5 w' w0.heap.size (fun k_ => (P0_ k_ ∨ w.heap.size ≤ k_)) v0 x0_1) ∧ Aside0 (Kept w w' (fun k_ => P0_ k_)) ∧ Aside0 (Below w0.heap.size w0 w'))
  case atStart => exact ⟨(l0), (0), (by first | rfl | (simp; done) | (simp [*]; done)), H', ⟨Nat.le_refl _⟩, ⟨by (with_reducible repeat (first | apply Kd.R_alloc | apply Kd.R_drewN | apply Kd.R_drew)); exact HO0.out⟩, ⟨by repeat (first | (with_reducible first | exact HK.out | apply Kept.alloc | apply Kept.drewN | apply Kept.drew) | exact HK.out)⟩, ⟨by repeat (first | (with_reducible first | exact HB.out | apply below_alloc | apply pw_below_drewN | apply below_drew1) | exact HB.out)⟩⟩
  case round =>
    clear H'
    try clear p2
    obtain ⟨x0_1, x9_1, rfl, HA, HK1, HO_0, HK, HB⟩ := hrel
    cases gk with
    | zero => exact absurd HA.out (by simp [frame_low.l0])
    | succ k1 =>
      have H := HA.out
      clear HA
      simp only [frame_low.l0] at H
      by_cases c4 : x9_1 < a2
      · rw [if_pos c4] at H
        have c4b0 : decide (x9_1 < a2) = true := decide_eq_true c4
        clear c4
        obtain ⟨ji5, hji5⟩ : ∃ j_ : Int, (wrap64 (8 * x9_1)) = j_ := ⟨_, rfl⟩
        replace H : (if 0 ≤ (ji5) then (if x0_1.length < 140737488355328 then (frame_low.l0 k1 (x0_1 ++ [(shr .u64 a1 (ji5)) % 256]) a1 a2 (wrap64 (x9_1 + 1))) else (none)) else (none)) = some r := by first | (rw [hji5] at H; exact H) | (simp only [hji5] at H ⊢; exact H)
        have hji5w : (IntKind.i64.wrap (8 * x9_1)) = ji5 := (i64_w _).trans hji5
        by_cases c6 : 0 ≤ (ji5)
        · rw [if_pos c6] at H
          have c6b0 := eq_true c6
          have c6b1 : decide (0 ≤ (ji5)) = true := decide_eq_true c6
          clear c6
          obtain ⟨ji7, hji7⟩ : ∃ j_ : Int, (shr .u64 a1 (ji5)) = j_ := ⟨_, rfl⟩
          replace H : (if x0_1.length < 140737488355328 then (frame_low.l0 k1 (x0_1 ++ [(ji7) % 256]) a1 a2 (wrap64 (x9_1 + 1))) else (none)) = some r := by first | (rw [hji7] at H; exact H) | (simp only [hji7] at H ⊢; exact H)
          have hji7_ : (a1 / 2 ^ min (ji5).toNat 64) = ji7 := hji7
          have hji7z : (ji5) ≤ 64 → (a1 / 2 ^ (ji5).toNat) = ji7 := shr_small hji7
          by_cases c8 : x0_1.length < 140737488355328
          · rw [if_pos c8] at H
            have LMc8 := Aside0.mk c8
            clear c8
            obtain ⟨y128, hy128⟩ : ∃ y_ : List Int, y_ = (x0_1 ++ [(ji7) % 256]) := ⟨_, rfl⟩
            replace H : (frame_low.l0 k1 y128 a1 a2 (wrap64 (x9_1 + 1))) = some r := by first | (rw [hy128]; with_reducible exact H) | (have H2_ := (Option.bind_some _ _).symm.trans H; rw [hy128]; with_reducible exact H2_) | (have H2_ := (Option.bind_some _ _).symm.trans H; with_reducible exact H2_) | with_reducible exact H | (rw [hy128]; exact H) | exact H
            have Ny128 := Aside0.mk hy128
            clear hy128
            have H' := Aside0.mk H
            clear H
            go_wp2_with (first | ((with_reducible refine gate_builtin (b := .append) (xs := #[.tmp 12, .tmp 18]) rfl ?_); at_builtin; refine Kd.R_append (Kd.int .u8) (w0 := w0) w0.heap.size rfl (.tmp 12) (.tmp 18) 32 5 (.int .u8 0) 1 rfl Try.underlying32 info5 rfl (by decide) (by omega) u0 x0_1 ((ji7) % 256) [.int .u8 ((ji7) % 256)] (fun k_ => (P0_ k_ ∨ w.heap.size ≤ k_)) (fun _ => False) rfl rfl ?aP (fun _ hk => hk.elim) ?aF ?aO ?aB ?aS ?aL ?_; (case aP => exact rfl); (case aB => exact (by repeat (first | (with_reducible first | exact HB.out | apply below_alloc | apply pw_below_drewN | apply below_drew1) | exact HB.out))); (case aF => exact (fun k_ hk => (.inr (Nat.le_trans (by first | exact HK.out.1 | exact (show Kept w _ (fun k_ => P0_ k_) from by repeat (first | (with_reducible first | exact HK.out | apply Kept.alloc | apply Kept.drewN | apply Kept.drew) | exact HK.out)).1) hk)))); (case aO => exact (by (with_reducible repeat (first | apply Kd.R_alloc | apply Kd.R_drewN | apply Kd.R_drew)); exact HO_0.out)); (case aS => exact (below_size (by repeat (first | (with_reducible first | exact HB.out | apply below_alloc | apply pw_below_drewN | apply below_drew1) | exact HB.out)))); (case aL => have := LMc8.out; omega); intro v129 w9 ho hb hg hat; rw [← Ny128.out] at ho; have n0_ := Aside0.mk (hb); have n1_ := Aside0.mk (Kept.of_grown (S := (fun k_ => P0_ k_)) hg (by repeat (first | (with_reducible first | exact HK.out | apply Kept.alloc | apply Kept.drewN | apply Kept.drew) | exact HK.out)) (fun k_ e_ => (HO_0.out.1 k_ e_))); have n2_ := Aside0.mk (ho); clear HB; clear HK; clear HO_0; have HB := n0_; have HK := n1_; have HO130 := n2_; clear n0_ n1_ n2_; clear ho hb hg hat))
            go_roundg k1
            case measure => have := HK1.out; omega
            case rel => exact ⟨(y128), (wrap64 (x9_1 + 1)), (by first | rfl | (simp; done) | (simp [*]; done)), H', ⟨by have := HK1.out; omega⟩, ⟨by (with_reducible repeat (first | apply Kd.R_alloc | apply Kd.R_drewN | apply Kd.R_drew)); exact HO130.out⟩, ⟨by repeat (first | (with_reducible first | exact HK.out | apply Kept.alloc | apply Kept.drewN | apply Kept.drew) | exact HK.out)⟩, ⟨by repeat (first | (with_reducible first | exact HB.out | apply below_alloc | apply pw_below_drewN | apply below_drew1) | exact HB.out)⟩⟩
          · rw [if_neg c8] at H
            exact absurd H (by simp)
        · rw [if_neg c6] at H
          exact absurd H (by simp)
      · rw [if_neg c4] at H
        have c4b0 : decide (x9_1 < a2) = false := decide_eq_false c4
        clear c4
        obtain rfl := Option.some.inj H
        go_wp2
        go_ret
        exact ⟨_, by first | rfl | (simp [errW_none, errW_some] <;> rfl) | (simp [*, errW_none, errW_some] <;> rfl), by (with_reducible repeat (first | apply Kd.R_alloc | apply Kd.R_drewN | apply Kd.R_drew)); exact HO_0.out, by repeat (first | (with_reducible first | exact HB.out | apply below_alloc | apply pw_below_drewN | apply below_drew1) | exact HB.out), by repeat (first | (with_reducible first | exact HK.out | apply Kept.alloc | apply Kept.drewN | apply Kept.drew) | exact HK.out)⟩
mutual
def frame_Sum.l0 : Nat → Int → List (List Int) → Int → Int → Option (Int)
  | 0, _, _, _, _ => none
  | k + 1, x3, x8, x9, x10 => if x10 < x9 then (if 0 ≤ x10 then (if x10 < (x8.length : Int) then (frame_Sum.l1 k x3 x8 x9 x10 (rd_L1 x8 x10) ((rd_L1 x8 x10).length : Int) 0) else (none)) else (none)) else (some x3)
def frame_Sum.l1 : Nat → Int → List (List Int) → Int → Int → List Int → Int → Int → Option (Int)
  | 0, _, _, _, _, _, _, _ => none
  | k + 1, x3, x8, x9, x10, x14, x15, x16 => if x16 < x15 then (if 0 ≤ x16 then (if x16 < (x14.length : Int) then (frame_Sum.l1 k (((Go.bits .xor .u32 x3 ((rd x14 x16) % 4294967296)) * 16777619) % 4294967296) x8 x9 x10 x14 x15 (wrap64 (x16 + 1))) else (none)) else (none)) else (frame_Sum.l0 k x3 x8 x9 (wrap64 (x10 + 1)))
end
def frame_Sum.f (k : Nat) (l0 : List (List Int)) : Option (Int) := frame_Sum.l0 k 2166136261 l0 (l0.length : Int) 0
set_option maxHeartbeats 8000000 in
set_option maxRecDepth 100000 in
theorem frame_Sum.calls (k : Nat) (A0 : Option Addr) (c0 : Nat) (l0 : List (List Int)) (r : Int) (w : World) (hr0 : Kd.C (Kd.slice 5 (Kd.int .u8)) w A0 l0.length l0) (hc0 : l0.length ≤ c0) (h : frame_Sum.f k l0 = some r) :
    Calls Try.prog 52 #[.slice A0 l0.length c0] w fun e w' => e = .returned (.int .u32 r) ∧ Drawn0 w w' := by
  have HR0 := Aside0.mk hr0
  have HC0 := Aside0.mk hc0
  clear hr0 hc0
  have H : (frame_Sum.l0 k 2166136261 l0 (l0.length : Int) 0) = some r := h
  clear h
  have H' := Aside0.mk H
  clear H
  go_enter Try.func52, Try.ntmps52
  go_wp2
  go_loopg [3, 10] k (fun kq v3 v10 w' => ∃ (x3_1 : Int) (x10_1 : Int), v3 = .int .u32 x3_1 ∧ v10 = .int .i64 x10_1 ∧ Aside0 (frame_Sum.l0 kq x3_1 l0 (l0.length : Int) x10_1 = some r) ∧ Aside0 (kq ≤ k) ∧ Drawn0 w w')
  case atStart => exact ⟨(2166136261), (0), (by first | rfl | (simp; done) | (simp [*]; done)), (by first | rfl | (simp; done) | (simp [*]; done)), H', ⟨Nat.le_refl _⟩, by repeat (first | exact Drawn0.refl _ | apply Drawn0.step)⟩
  case round =>
    clear H'
    obtain ⟨x3_1, x10_1, rfl, rfl, HA, HK1, ⟨m1, rfl⟩⟩ := hrel
    cases gk with
    | zero => exact absurd HA.out (by simp [frame_Sum.l0])
    | succ k1 =>
      have H := HA.out
      clear HA
      simp only [frame_Sum.l0] at H
      by_cases c2 : x10_1 < (l0.length : Int)
      · rw [if_pos c2] at H
        have c2b0 : decide (x10_1 < (l0.length : Int)) = true := decide_eq_true c2
        clear c2
        by_cases c3 : 0 ≤ x10_1
        · rw [if_pos c3] at H
          have c3b0 : decide (0 ≤ x10_1) = true := decide_eq_true c3
          clear c3
          by_cases c4 : x10_1 < (l0.length : Int)
          · rw [if_pos c4] at H
            have c4b0 : decide (x10_1 < (l0.length : Int)) = true := decide_eq_true c4
            clear c4
            have H' := Aside0.mk H
            clear H
            have p102 : 0 ≤ (x10_1 : Int) := of_decide_eq_true (by first | (with_reducible assumption) | assumption)
            have q102 : x10_1 < (l0.length : Int) := of_decide_eq_true (by first | (with_reducible assumption) | assumption)
            obtain ⟨ad102, A102_0, c102_0, e102, hx102_0, hl102_0, hi102_0⟩ := at_L1 HR0.out x10_1 p102 q102
            cases e102
            have HR102_0 := Aside0.mk hi102_0
            have HC102_0 := Aside0.mk hl102_0
            clear hi102_0 hl102_0
            replace p102 := eq_true p102
            replace q102 := eq_true q102
            go_wp2
            go_loopg [3, 16] k1 (fun kq v3 v16 w' => ∃ (x3_2 : Int) (x16_2 : Int), v3 = .int .u32 x3_2 ∧ v16 = .int .i64 x16_2 ∧ Aside0 (frame_Sum.l1 kq x3_2 l0 (l0.length : Int) x10_1 (rd_L1 l0 x10_1) ((rd_L1 l0 x10_1).length : Int) x16_2 = some r) ∧ Aside0 (kq ≤ k1) ∧ Drawn0 w w')
            case atStart => exact ⟨(x3_1), (0), (by first | rfl | (simp; done) | (simp [*]; done)), (by first | rfl | (simp; done) | (simp [*]; done)), H', ⟨Nat.le_refl _⟩, by repeat (first | exact Drawn0.refl _ | apply Drawn0.step)⟩
            case round =>
              clear H'
              try clear c1
              try clear p1
              try clear q1
              try clear hx1
              try clear c2
              try clear c2b0
              try clear p2
              try clear c3
              try clear c3b0
              try clear c4
              try clear c4b0
              try clear hx102_0
              try clear p102
              try clear q102
              obtain ⟨x3_2, x16_2, rfl, rfl, HA, HK2, ⟨m2, rfl⟩⟩ := hrel
              cases gk with
              | zero => exact absurd HA.out (by simp [frame_Sum.l1])
              | succ k2 =>
                have H := HA.out
                clear HA
                simp only [frame_Sum.l1] at H
                by_cases c5 : x16_2 < ((rd_L1 l0 x10_1).length : Int)
                · rw [if_pos c5] at H
                  have c5b0 : decide (x16_2 < ((rd_L1 l0 x10_1).length : Int)) = true := decide_eq_true c5
                  clear c5
                  by_cases c6 : 0 ≤ x16_2
                  · rw [if_pos c6] at H
                    have c6b0 : decide (0 ≤ x16_2) = true := decide_eq_true c6
                    clear c6
                    by_cases c7 : x16_2 < ((rd_L1 l0 x10_1).length : Int)
                    · rw [if_pos c7] at H
                      have c7b0 : decide (x16_2 < ((rd_L1 l0 x10_1).length : Int)) = true := decide_eq_true c7
                      clear c7
                      have H' := Aside0.mk H
                      clear H
                      have p103 : 0 ≤ (x16_2 : Int) := of_decide_eq_true (by first | (with_reducible assumption) | assumption)
                      have q103 : x16_2 < ((rd_L1 l0 x10_1).length : Int) := of_decide_eq_true (by first | (with_reducible assumption) | assumption)
                      obtain ⟨ad103, e103, hx103_0⟩ := Kd.at_int HR102_0.out x16_2 p103 q103
                      cases e103
                      replace p103 := eq_true p103
                      replace q103 := eq_true q103
                      go_wp2
                      go_roundg k2
                      case measure => have := HK1.out; have := HK2.out; omega
                      case rel => exact ⟨(((Go.bits .xor .u32 x3_2 ((rd (rd_L1 l0 x10_1) x16_2) % 4294967296)) * 16777619) % 4294967296), (wrap64 (x16_2 + 1)), (by first | rfl | (simp; done) | (simp [*]; done)), (by first | rfl | (simp; done) | (simp [*]; done)), H', ⟨by have := HK1.out; have := HK2.out; omega⟩, by repeat (first | exact Drawn0.refl _ | apply Drawn0.step)⟩
                    · rw [if_neg c7] at H
                      exact absurd H (by simp)
                  · rw [if_neg c6] at H
                    exact absurd H (by simp)
                · rw [if_neg c5] at H
                  have c5b0 : decide (x16_2 < ((rd_L1 l0 x10_1).length : Int)) = false := decide_eq_false c5
                  clear c5
                  have H' := Aside0.mk H
                  clear H
                  go_wp2
                  go_roundg k2
                  case measure => have := HK1.out; have := HK2.out; omega
                  case rel => exact ⟨(x3_2), (wrap64 (x10_1 + 1)), (by first | rfl | (simp; done) | (simp [*]; done)), (by first | rfl | (simp; done) | (simp [*]; done)), H', ⟨by have := HK1.out; have := HK2.out; omega⟩, by repeat (first | exact Drawn0.refl _ | apply Drawn0.step)⟩
          · rw [if_neg c4] at H
            exact absurd H (by simp)
        · rw [if_neg c3] at H
          exact absurd H (by simp)
      · rw [if_neg c2] at H
        have c2b0 : decide (x10_1 < (l0.length : Int)) = false := decide_eq_false c2
        clear c2
        obtain rfl := Option.some.inj H
        go_wp2
        go_ret
        exact ⟨by first | rfl | (simp; done) | (simp [*]; done), by repeat (first | exact Drawn0.refl _ | apply Drawn0.step)⟩
end Go.Proofs.Ytiiljpaedelhlaa.PDiaryPlays
namespace Go.Proofs.Ytiiljpaedelhlaa.PDiaryPlays
open Go.RowKit Go.Proofs.YtiiljpaedelhlaaW.PrintWords Go.Proofs.YtiiljpaedelhlaaW.PrintLast Go.Proofs.YtiiljpaedelhlaaW.PrintMore
open Go.Proofs.Ytiiljpaedelhlaa.Flow
set_option linter.unusedVariables false
set_option linter.unusedSimpArgs false
def lowl (u : Int) : Nat → Nat → List Int
  | 0, _ => []
  | n + 1, i => (shr .u64 u (8 * (i : Int))) % 256 :: lowl u n (i + 1)
theorem lowl_len (u : Int) : ∀ n i, (lowl u n i).length = n
  | 0, _ => rfl
  | n + 1, i => by simp [lowl, lowl_len u n]
theorem low_l0 (u : Int) (N : Nat) (hN : N ≤ 8) : ∀ (n K i : Nat) (l : List Int), n + 1 ≤ K → i + n = N → l.length + n < 140737488355328 → frame_low.l0 K l u (N : Int) (i : Int) = some (l ++ lowl u n i)
  | 0, K, i, l, hK, hi, hl => by
    obtain ⟨k, rfl⟩ : ∃ k, K = k + 1 := ⟨K - 1, by omega⟩
    rw [frame_low.l0, if_neg (by omega)]
    simp [lowl]
  | n + 1, K, i, l, hK, hi, hl => by
    obtain ⟨k, rfl⟩ : ∃ k, K = k + 1 := ⟨K - 1, by omega⟩
    have e1 : wrap64 (8 * (i : Int)) = 8 * (i : Int) := wrap_id (by omega) (by omega)
    have e2 : wrap64 ((i : Int) + 1) = ((i + 1 : Nat) : Int) := wrap_id (by omega) (by omega)
    rw [frame_low.l0, if_pos (by omega), e1, if_pos (by omega), if_pos (by omega), e2]
    rw [low_l0 u N hN n k (i + 1) _ (by omega) (by omega) (by simp; omega)]
    simp [lowl]
theorem low_f (K : Nat) (l : List Int) (u : Int) (N : Nat) (hN : N ≤ 8) (hK : N + 1 ≤ K) (hl : l.length + N < 140737488355328) : frame_low.f K l u (N : Int) = some (l ++ lowl u N 0) := by
  unfold frame_low.f
  exact low_l0 u N hN N K 0 l hK (by omega) hl
def fnv (s : Int) (l : List Int) : Int := l.foldl (fun s c => ((Go.bits .xor .u32 s (c % 4294967296)) * 16777619) % 4294967296) s
theorem fnv_append (s : Int) (l m : List Int) : fnv s (l ++ m) = fnv (fnv s l) m := by simp [fnv]
theorem sum_l1 (ps : List (List Int)) (j : Nat) (p : List Int) (hp : p.length ≤ 9223372036854775806) (K0 : Nat) (R : Option Int) : ∀ (m K i : Nat) (s : Int), m + 1 + K0 ≤ K → i + m = p.length → (∀ K', K0 ≤ K' → frame_Sum.l0 K' (fnv s (p.drop i)) ps (ps.length : Int) (wrap64 ((j : Int) + 1)) = R) →
    frame_Sum.l1 K s ps (ps.length : Int) (j : Int) p (p.length : Int) (i : Int) = R
  | 0, K, i, s, hK, hi, h => by
    obtain ⟨k, rfl⟩ : ∃ k, K = k + 1 := ⟨K - 1, by omega⟩
    rw [frame_Sum.l1, if_neg (by omega)]
    have := h k (by omega)
    rw [List.drop_of_length_le (by omega)] at this
    exact this
  | m + 1, K, i, s, hK, hi, h => by
    obtain ⟨k, rfl⟩ : ∃ k, K = k + 1 := ⟨K - 1, by omega⟩
    have e2 : wrap64 ((i : Int) + 1) = ((i + 1 : Nat) : Int) := wrap_id (by omega) (by omega)
    rw [frame_Sum.l1, if_pos (by omega), if_pos (by omega), if_pos (by omega), e2]
    refine sum_l1 ps j p hp K0 R m k (i + 1) _ (by omega) (by omega) (fun K' hK' => ?_)
    have := h K' hK'
    have hlt : i < p.length := by omega
    rw [List.drop_eq_getElem_cons hlt] at this
    have e3 : rd p (i : Int) = p[i] := by
      unfold rd
      rw [List.getD_eq_getElem?_getD, show ((i : Int)).toNat = i by omega, List.getElem?_eq_getElem hlt]
      rfl
    rw [e3]
    exact this
theorem rd_L1_at (ps : List (List Int)) (j : Nat) (h : j < ps.length) : rd_L1 ps (j : Int) = ps[j] := by
  unfold rd_L1
  rw [List.getD_eq_getElem?_getD, show ((j : Int)).toNat = j by omega, List.getElem?_eq_getElem h]
  rfl
theorem sum_l0 (ps : List (List Int)) (hps : ps.length ≤ 9223372036854775806) (hall : ∀ p ∈ ps, p.length ≤ 9223372036854775806) : ∀ (m K j : Nat) (s : Int), j + m = ps.length → 2 * m + 1 + ((ps.drop j).flatten).length ≤ K → frame_Sum.l0 K s ps (ps.length : Int) (j : Int) = some (fnv s ((ps.drop j).flatten))
  | 0, K, j, s, hj, hK => by
    obtain ⟨k, rfl⟩ : ∃ k, K = k + 1 := ⟨K - 1, by omega⟩
    rw [frame_Sum.l0, if_neg (by omega), List.drop_of_length_le (by omega)]
    rfl
  | m + 1, K, j, s, hj, hK => by
    obtain ⟨k, rfl⟩ : ∃ k, K = k + 1 := ⟨K - 1, by omega⟩
    have hlt : j < ps.length := by omega
    have e2 : wrap64 ((j : Int) + 1) = ((j + 1 : Nat) : Int) := wrap_id (by omega) (by omega)
    rw [List.drop_eq_getElem_cons hlt] at hK ⊢
    simp only [List.flatten_cons, List.length_append] at hK ⊢
    rw [frame_Sum.l0, if_pos (by omega), if_pos (by omega), if_pos (by omega), rd_L1_at ps j hlt]
    refine sum_l1 ps j ps[j] (hall _ (List.getElem_mem hlt)) (2 * m + 1 + ((ps.drop (j + 1)).flatten).length) _ ps[j].length k 0 s (by omega) (by omega) (fun K' hK' => ?_)
    rw [e2, sum_l0 ps hps hall m K' (j + 1) _ (by omega) hK', fnv_append]
    rfl
theorem sum_f (ps : List (List Int)) (hps : ps.length ≤ 9223372036854775806) (hall : ∀ p ∈ ps, p.length ≤ 9223372036854775806) (K : Nat) (hK : 2 * ps.length + 1 + ps.flatten.length ≤ K) : frame_Sum.f K ps = some (fnv 2166136261 ps.flatten) := by
  unfold frame_Sum.f
  exact sum_l0 ps hps hall ps.length K 0 _ (by omega) hK
theorem fnv_range : ∀ (l : List Int) (s : Int), 0 ≤ s ∧ s < 4294967296 → 0 ≤ fnv s l ∧ fnv s l < 4294967296
  | [], s, h => h
  | c :: r, s, h => fnv_range r _ ⟨Int.emod_nonneg _ (by decide), Int.emod_lt_of_pos _ (by decide)⟩
theorem take_flat (ps : List (List Int)) (i : Nat) (h : i < ps.length) : (ps.take (i + 1)).flatten = (ps.take i).flatten ++ rd_L1 ps (i : Int) := by
  rw [List.take_succ_eq_append_getElem h, rd_L1_at ps i h, List.flatten_append]
  simp only [List.flatten_cons, List.flatten_nil, List.append_nil]
theorem take_len (ps : List (List Int)) (i : Nat) (h : i < ps.length) : ((ps.take (i + 1)).flatten).length = ((ps.take i).flatten).length + (rd_L1 ps (i : Int)).length := by
  rw [take_flat ps i h, List.length_append]
theorem take_le (ps : List (List Int)) (i : Nat) : ((ps.take i).flatten).length ≤ ps.flatten.length := by
  have h : ps.flatten = (ps.take i).flatten ++ (ps.drop i).flatten := by rw [← List.flatten_append, List.take_append_drop]
  rw [h]
  simp
theorem rd_L1_mem (ps : List (List Int)) (i : Nat) (h : i < ps.length) : rd_L1 ps (i : Int) ∈ ps := by
  rw [rd_L1_at ps i h]
  exact List.getElem_mem h
def frameB (l : List Int) : List Int := if 16376 < l.length then [] else (lowl (l.length : Int) 4 0 ++ lowl (fnv 2166136261 l) 4 0) ++ l
def frameE (l : List Int) : Option Int := if 16376 < l.length then some 7 else none
end Go.Proofs.Ytiiljpaedelhlaa.PDiaryPlays
end
section
namespace Go.Proofs.Ytiiljpaedelhlaa.PDiaryPlays
open Go.RowKit Go.Proofs.YtiiljpaedelhlaaW.PrintWords Go.Proofs.YtiiljpaedelhlaaW.PrintLast Go.Proofs.YtiiljpaedelhlaaW.PrintMore
attribute [local go_sem] max2_int min2_int max_two min_two
set_option linter.unusedVariables false
set_option linter.unusedSimpArgs false
def frame_high.l0 : Nat → Int → List Int → Int → Int → Option (Int)
  | 0, _, _, _, _ => none
  | k + 1, x3, x6, x7, x8 => if x8 < x7 then (if 0 ≤ x8 then (if x8 < (x6.length : Int) then (if 0 ≤ (wrap64 (8 * x8)) then (frame_high.l0 k (Go.bits .or .u64 x3 (shl .u64 (IntKind.u64.wrap (rd x6 x8)) (wrap64 (8 * x8)))) x6 x7 (wrap64 (x8 + 1))) else (none)) else (none)) else (none)) else (some x3)
def frame_high.f (k : Nat) (l0 : List Int) : Option (Int) := frame_high.l0 k 0 l0 (l0.length : Int) 0
set_option maxHeartbeats 8000000 in
set_option maxRecDepth 100000 in
theorem frame_high.calls (k : Nat) (A0 : Option Addr) (c0 : Nat) (l0 : List Int) (r : Int) (w : World) (hr0 : Kd.C (Kd.int .u8) w A0 l0.length l0) (hc0 : l0.length ≤ c0) (h : frame_high.f k l0 = some r) :
    Calls Try.prog 57 #[.slice A0 l0.length c0] w fun e w' => e = .returned (.int .u64 r) ∧ Drawn0 w w' := by
  have HR0 := Aside0.mk hr0
  have HC0 := Aside0.mk hc0
  clear hr0 hc0
  have H : (frame_high.l0 k 0 l0 (l0.length : Int) 0) = some r := h
  clear h
  have H' := Aside0.mk H
  clear H
  go_enter Try.func57, Try.ntmps57
  go_wp2
  go_loopg [3, 8] k (fun kq v3 v8 w' => ∃ (x3_1 : Int) (x8_1 : Int), v3 = .int .u64 x3_1 ∧ v8 = .int .i64 x8_1 ∧ Aside0 (frame_high.l0 kq x3_1 l0 (l0.length : Int) x8_1 = some r) ∧ Aside0 (kq ≤ k) ∧ Drawn0 w w')
  case atStart => exact ⟨(0), (0), (by first | rfl | (simp; done) | (simp [*]; done)), (by first | rfl | (simp; done) | (simp [*]; done)), H', ⟨Nat.le_refl _⟩, by repeat (first | exact Drawn0.refl _ | apply Drawn0.step)⟩
  case round =>
    clear H'
    obtain ⟨x3_1, x8_1, rfl, rfl, HA, HK1, ⟨m1, rfl⟩⟩ := hrel
    cases gk with
    | zero => exact absurd HA.out (by simp [frame_high.l0])
    | succ k1 =>
      have H := HA.out
      clear HA
      simp only [frame_high.l0] at H
      by_cases c2 : x8_1 < (l0.length : Int)
      · rw [if_pos c2] at H
        have c2b0 : decide (x8_1 < (l0.length : Int)) = true := decide_eq_true c2
        clear c2
        by_cases c3 : 0 ≤ x8_1
        · rw [if_pos c3] at H
          have c3b0 : decide (0 ≤ x8_1) = true := decide_eq_true c3
          clear c3
          by_cases c4 : x8_1 < (l0.length : Int)
          · rw [if_pos c4] at H
            have c4b0 : decide (x8_1 < (l0.length : Int)) = true := decide_eq_true c4
            clear c4
            obtain ⟨ji5, hji5⟩ : ∃ j_ : Int, (wrap64 (8 * x8_1)) = j_ := ⟨_, rfl⟩
            replace H : (if 0 ≤ (ji5) then (frame_high.l0 k1 (Go.bits .or .u64 x3_1 (shl .u64 (IntKind.u64.wrap (rd l0 x8_1)) (ji5))) l0 (l0.length : Int) (wrap64 (x8_1 + 1))) else (none)) = some r := by first | (rw [hji5] at H; exact H) | (simp only [hji5] at H ⊢; exact H)
            have hji5w : (IntKind.i64.wrap (8 * x8_1)) = ji5 := (i64_w _).trans hji5
            by_cases c6 : 0 ≤ (ji5)
            · rw [if_pos c6] at H
              have c6b0 := eq_true c6
              have c6b1 : decide (0 ≤ (ji5)) = true := decide_eq_true c6
              clear c6
              obtain ⟨ji7, hji7⟩ : ∃ j_ : Int, (shl .u64 (IntKind.u64.wrap (rd l0 x8_1)) (ji5)) = j_ := ⟨_, rfl⟩
              replace H : (frame_high.l0 k1 (Go.bits .or .u64 x3_1 (ji7)) l0 (l0.length : Int) (wrap64 (x8_1 + 1))) = some r := by first | (rw [hji7] at H; exact H) | (simp only [hji7] at H ⊢; exact H)
              have hji7_ : (IntKind.u64.wrap ((IntKind.u64.wrap (rd l0 x8_1)) * 2 ^ min (ji5).toNat 64)) = ji7 := hji7
              have hji7z : (ji5) ≤ 64 → (IntKind.u64.wrap ((IntKind.u64.wrap (rd l0 x8_1)) * 2 ^ (ji5).toNat)) = ji7 := shl_small hji7
              have H' := Aside0.mk H
              clear H
              have p104 : 0 ≤ (x8_1 : Int) := of_decide_eq_true (by first | (with_reducible assumption) | assumption)
              have q104 : x8_1 < (l0.length : Int) := of_decide_eq_true (by first | (with_reducible assumption) | assumption)
              obtain ⟨ad104, e104, hx104_0⟩ := Kd.at_int HR0.out x8_1 p104 q104
              cases e104
              replace p104 := eq_true p104
              replace q104 := eq_true q104
              go_wp2
              go_roundg k1
              case measure => have := HK1.out; omega
              case rel => exact ⟨(Go.bits .or .u64 x3_1 (ji7)), (wrap64 (x8_1 + 1)), (by first | rfl | (simp; done) | (simp only [← hji7] <;> (first | rfl | simp)) | (simp [*]; done)), (by first | rfl | (simp; done) | (simp [*]; done)), H', ⟨by have := HK1.out; omega⟩, by repeat (first | exact Drawn0.refl _ | apply Drawn0.step)⟩
            · rw [if_neg c6] at H
              exact absurd H (by simp)
          · rw [if_neg c4] at H
            exact absurd H (by simp)
        · rw [if_neg c3] at H
          exact absurd H (by simp)
      · rw [if_neg c2] at H
        have c2b0 : decide (x8_1 < (l0.length : Int)) = false := decide_eq_false c2
        clear c2
        obtain rfl := Option.some.inj H
        go_wp2
        go_ret
        exact ⟨by first | rfl | (simp; done) | (simp [*]; done), by repeat (first | exact Drawn0.refl _ | apply Drawn0.step)⟩
end Go.Proofs.Ytiiljpaedelhlaa.PDiaryPlays
namespace Go.Proofs.Ytiiljpaedelhlaa.PDiaryPlays
open Go.RowKit Go.Proofs.YtiiljpaedelhlaaW.PrintWords Go.Proofs.YtiiljpaedelhlaaW.PrintLast Go.Proofs.YtiiljpaedelhlaaW.PrintMore
open Go.Proofs.Ytiiljpaedelhlaa.Flow
set_option linter.unusedVariables false
set_option linter.unusedSimpArgs false
def Bytes (l : List Int) : Prop := ∀ c ∈ l, 0 ≤ c ∧ c < 256
def valN : List Int → Nat
  | [] => 0
  | c :: r => c.toNat + 256 * valN r
theorem Bytes.tail {c : Int} {r : List Int} (h : Bytes (c :: r)) : Bytes r := fun x hx => h x (List.mem_cons_of_mem _ hx)
theorem Bytes.take {l : List Int} (h : Bytes l) (n : Nat) : Bytes (l.take n) := fun x hx => h x (List.mem_of_mem_take hx)
theorem Bytes.drop {l : List Int} (h : Bytes l) (n : Nat) : Bytes (l.drop n) := fun x hx => h x (List.mem_of_mem_drop hx)
theorem Bytes.append {l m : List Int} (h : Bytes l) (k : Bytes m) : Bytes (l ++ m) := fun x hx => (List.mem_append.1 hx).elim (h x) (k x)
theorem Bytes.set {l : List Int} (h : Bytes l) (i : Nat) {c : Int} (hc : 0 ≤ c ∧ c < 256) : Bytes (l.set i c) := fun x hx => by
  rcases List.mem_or_eq_of_mem_set hx with h1 | h1
  · exact h x h1
  · rw [h1]
    exact hc
theorem valN_lt : ∀ (l : List Int), Bytes l → valN l < 2 ^ (8 * l.length)
  | [], _ => by simp [valN]
  | c :: r, h => by
    have h1 := valN_lt r h.tail
    have h2 := h c (by simp)
    have e : 2 ^ (8 * (c :: r).length) = 256 * 2 ^ (8 * r.length) := by
      rw [List.length_cons, show 8 * (r.length + 1) = 8 * r.length + 8 by omega, Nat.pow_add, Nat.mul_comm]
    rw [e, valN]
    omega
theorem valN_inj : ∀ (l m : List Int), Bytes l → Bytes m → l.length = m.length → valN l = valN m → l = m
  | [], [], _, _, _, _ => rfl
  | c :: r, d :: s, h, k, hl, hv => by
    have h2 := h c (by simp)
    have k2 := k d (by simp)
    rw [valN, valN] at hv
    have e1 : c = d := by omega
    have e2 : valN r = valN s := by omega
    rw [e1, valN_inj r s h.tail k.tail (by simpa using hl) e2]
theorem shl_nat (C i : Nat) (hC : C < 256) (hi : i ≤ 7) : shl .u64 ((C : Int)) (8 * (i : Int)) = ((C * 2 ^ (8 * i) : Nat) : Int) := by
  have hp : C * 2 ^ (8 * i) < 2 ^ 64 := by
    have h1 : C * 2 ^ (8 * i) < 2 ^ 8 * 2 ^ (8 * i) := Nat.mul_lt_mul_of_pos_right hC (Nat.pow_pos (by omega))
    rw [← Nat.pow_add] at h1
    exact Nat.lt_of_lt_of_le h1 (Nat.pow_le_pow_right (by omega) (by omega))
  have e0 : min ((8 * (i : Int)).toNat) (IntKind.u64.bits) = 8 * i := by
    have : IntKind.u64.bits = 64 := rfl
    omega
  unfold shl
  rw [e0]
  have e1 : (C : Int) * 2 ^ (8 * i) = ((C * 2 ^ (8 * i) : Nat) : Int) := by push_cast; rfl
  rw [e1, u64_wrap]
  have hp2 : C * 2 ^ (8 * i) < 18446744073709551616 := hp
  generalize C * 2 ^ (8 * i) = z at hp2 ⊢
  omega
theorem or_step (x C i : Nat) (hx : x < 2 ^ (8 * i)) (hC : C < 256) (hi : i ≤ 7) : Go.bits .or .u64 (x : Int) (shl .u64 (C : Int) (8 * (i : Int))) = ((x + 2 ^ (8 * i) * C : Nat) : Int) := by
  rw [shl_nat C i hC hi]
  have hx2 : x < 2 ^ 64 := Nat.lt_of_lt_of_le hx (Nat.pow_le_pow_right (by omega) (by omega))
  have hp : C * 2 ^ (8 * i) < 2 ^ 64 := by
    have h1 : C * 2 ^ (8 * i) < 2 ^ 8 * 2 ^ (8 * i) := Nat.mul_lt_mul_of_pos_right hC (Nat.pow_pos (by omega))
    rw [← Nat.pow_add] at h1
    exact Nat.lt_of_lt_of_le h1 (Nat.pow_le_pow_right (by omega) (by omega))
  rw [bits_or_u64_nat x (C * 2 ^ (8 * i)) hx2 hp]
  congr 1
  rw [Nat.or_comm, Nat.mul_comm C, ← Nat.two_pow_add_eq_or_of_lt hx, Nat.add_comm]
theorem rd_at (l : List Int) (i : Nat) (h : i < l.length) : rd l (i : Int) = l[i] := by
  unfold rd
  rw [List.getD_eq_getElem?_getD, show ((i : Int)).toNat = i by omega, List.getElem?_eq_getElem h]
  rfl
theorem high_l0 (l : List Int) (hb : Bytes l) (hl : l.length ≤ 8) : ∀ (m K i x : Nat), m + 1 ≤ K → i + m = l.length → x < 2 ^ (8 * i) → frame_high.l0 K (x : Int) l (l.length : Int) (i : Int) = some ((x + 2 ^ (8 * i) * valN (l.drop i) : Nat) : Int)
  | 0, K, i, x, hK, hi, hx => by
    obtain ⟨k, rfl⟩ : ∃ k, K = k + 1 := ⟨K - 1, by omega⟩
    rw [frame_high.l0, if_neg (by omega), List.drop_of_length_le (by omega)]
    simp [valN]
  | m + 1, K, i, x, hK, hi, hx => by
    obtain ⟨k, rfl⟩ : ∃ k, K = k + 1 := ⟨K - 1, by omega⟩
    have hlt : i < l.length := by omega
    have e1 : wrap64 (8 * (i : Int)) = 8 * (i : Int) := wrap_id (by omega) (by omega)
    have e2 : wrap64 ((i : Int) + 1) = ((i + 1 : Nat) : Int) := wrap_id (by omega) (by omega)
    have hc := hb l[i] (List.getElem_mem hlt)
    have e3 : IntKind.u64.wrap (rd l (i : Int)) = ((l[i].toNat : Nat) : Int) := by
      rw [rd_at l i hlt, u64_wrap]
      omega
    rw [frame_high.l0, if_pos (by omega), if_pos (by omega), if_pos (by omega), e1, if_pos (by omega), e2, e3, or_step x l[i].toNat i hx (by omega) (by omega)]
    have hp : 2 ^ (8 * (i + 1)) = 2 ^ (8 * i) * 256 := by rw [show 8 * (i + 1) = 8 * i + 8 by omega, Nat.pow_add]
    have hx2 : x + 2 ^ (8 * i) * l[i].toNat < 2 ^ (8 * (i + 1)) := by
      have h1 : 2 ^ (8 * i) * l[i].toNat ≤ 2 ^ (8 * i) * 255 := Nat.mul_le_mul_left _ (by omega)
      omega
    rw [high_l0 l hb hl m k (i + 1) _ (by omega) (by omega) hx2, List.drop_eq_getElem_cons hlt, valN, hp, Nat.mul_add, Nat.mul_assoc]
    congr 2
    omega
theorem high_f (l : List Int) (hb : Bytes l) (hl : l.length ≤ 8) (K : Nat) (hK : 9 ≤ K) : frame_high.f K l = some ((valN l : Nat) : Int) := by
  unfold frame_high.f
  have h := high_l0 l hb hl l.length K 0 0 (by omega) (by omega) (by simp)
  simpa using h
theorem shr_nat (U i : Nat) (hi : i ≤ 8) : shr .u64 (U : Int) (8 * (i : Int)) = ((U / 2 ^ (8 * i) : Nat) : Int) := by
  have e0 : min ((8 * (i : Int)).toNat) (IntKind.u64.bits) = 8 * i := by
    have : IntKind.u64.bits = 64 := rfl
    omega
  unfold shr
  rw [e0]
  push_cast
  rfl
theorem lowl_bytes (u : Int) : ∀ n i, Bytes (lowl u n i)
  | 0, i => fun c hc => by simp [lowl] at hc
  | n + 1, i => fun c hc => by
    rw [lowl] at hc
    rcases List.mem_cons.1 hc with rfl | hc
    · exact ⟨Int.emod_nonneg _ (by decide), Int.emod_lt_of_pos _ (by decide)⟩
    · exact lowl_bytes u n (i + 1) c hc
theorem valN_lowl (U : Nat) : ∀ n i, i + n ≤ 8 → valN (lowl (U : Int) n i) = (U / 2 ^ (8 * i)) % 2 ^ (8 * n)
  | 0, i, h => by simp [lowl, valN, Nat.mod_one]
  | n + 1, i, h => by
    rw [lowl, valN, valN_lowl U n (i + 1) (by omega), shr_nat U i (by omega)]
    have e1 : U / 2 ^ (8 * (i + 1)) = U / 2 ^ (8 * i) / 256 := by rw [Nat.div_div_eq_div_mul, show 8 * (i + 1) = 8 * i + 8 by omega, Nat.pow_add]
    have e2 : 2 ^ (8 * (n + 1)) = 256 * 2 ^ (8 * n) := by rw [show 8 * (n + 1) = 8 * n + 8 by omega, Nat.pow_add, Nat.mul_comm]
    rw [e1, e2, Nat.mod_mul]
    congr 1
theorem valN_low4 (U : Nat) (h : U < 4294967296) : valN (lowl (U : Int) 4 0) = U := by
  rw [valN_lowl U 4 0 (by omega)]
  simp
  omega
def wholeP (b : List Int) : Nat :=
  if b.length < 8 then 0 else if 16376 < valN (b.take 4) then 0 else if b.length < 8 + valN (b.take 4) then 0
  else if fnv 2166136261 ((b.drop 8).take (valN (b.take 4))) = ((valN ((b.take 8).drop 4) : Nat) : Int) then 8 + valN (b.take 4) else 0
theorem xor_u32_nat (a b : Nat) (ha : a < 4294967296) (hb : b < 4294967296) : Go.bits .xor .u32 (a : Int) (b : Int) = ((a ^^^ b : Nat) : Int) := by
  show IntKind.u32.wrap ((BitVec.ofInt 32 (a : Int) ^^^ BitVec.ofInt 32 (b : Int)).toNat : Int) = _
  have h1 : (BitVec.ofInt 32 (a : Int) ^^^ BitVec.ofInt 32 (b : Int)).toNat = a ^^^ b := by
    rw [BitVec.toNat_xor, BitVec.toNat_ofInt, BitVec.toNat_ofInt]
    congr 1 <;> omega
  rw [h1]
  have h2 : a ^^^ b < 2 ^ 32 := Nat.xor_lt_two_pow (by omega) (by omega)
  simp [IntKind.wrap, IntKind.bits, IntKind.signed]
  omega
def stepS (s c : Int) : Int := ((Go.bits .xor .u32 s (c % 4294967296)) * 16777619) % 4294967296
theorem stepS_eq (s c : Nat) (hs : s < 4294967296) (hc : c < 256) : stepS (s : Int) (c : Int) = (((s ^^^ c : Nat) : Int) * 16777619) % 4294967296 := by
  unfold stepS
  rw [show ((c : Int) % 4294967296) = (c : Int) by omega, xor_u32_nat s c hs (by omega)]
theorem frameB_parts (l : List Int) (hl : l.length ≤ 16376) : ∃ a b, frameB l = a ++ b ++ l ∧ a = lowl (l.length : Int) 4 0 ∧ b = lowl (fnv 2166136261 l) 4 0 ∧ a.length = 4 ∧ b.length = 4 := by
  refine ⟨_, _, ?_, rfl, rfl, lowl_len _ _ _, lowl_len _ _ _⟩
  unfold frameB
  rw [if_neg (by omega)]
theorem frameB_len (l : List Int) (hl : l.length ≤ 16376) : (frameB l).length = 8 + l.length := by
  obtain ⟨a, b, h, _, _, h1, h2⟩ := frameB_parts l hl
  rw [h]
  simp only [List.length_append]
  omega
theorem frameB_bytes (l : List Int) (hb : Bytes l) : Bytes (frameB l) := by
  unfold frameB
  split
  · exact fun c hc => by simp at hc
  · exact ((lowl_bytes _ _ _).append (lowl_bytes _ _ _)).append hb
theorem take4 (l : List Int) (hl : l.length ≤ 16376) (r : List Int) : valN ((frameB l ++ r).take 4) = l.length := by
  obtain ⟨a, b, h, ha, hb, h1, h2⟩ := frameB_parts l hl
  have e : (frameB l ++ r).take 4 = a := by
    rw [h, List.append_assoc, List.append_assoc, ← h1]
    exact List.take_left
  rw [e, ha]
  exact valN_low4 _ (by omega)
theorem whole_cut (l : List Int) (hl : l.length ≤ 16376) (k : Nat) (hk : k < (frameB l).length) : wholeP ((frameB l).take k) = 0 := by
  have hf := frameB_len l hl
  have hlen : ((frameB l).take k).length = k := by rw [List.length_take]; omega
  unfold wholeP
  rw [hlen]
  split
  · rfl
  · have e : ((frameB l).take k).take 4 = (frameB l ++ []).take 4 := by rw [List.append_nil, List.take_take, Nat.min_eq_left (by omega)]
    rw [e, take4 l hl, if_neg (by omega), if_pos (by omega)]
end Go.Proofs.Ytiiljpaedelhlaa.PDiaryPlays
namespace Go.Proofs.Ytiiljpaedelhlaa.PDiaryPlays
open Go.RowKit Go.Proofs.YtiiljpaedelhlaaW.PrintWords Go.Proofs.YtiiljpaedelhlaaW.PrintLast Go.Proofs.YtiiljpaedelhlaaW.PrintMore
open Go.Proofs.Ytiiljpaedelhlaa.Flow
set_option linter.unusedVariables false
set_option linter.unusedSimpArgs false
inductive SplitR : List Int → List (List Int) → Nat → Prop
  | none (b : List Int) : wholeP b = 0 → SplitR b [] 0
  | some (b : List Int) (l : List (List Int)) (n : Nat) : wholeP b ≠ 0 → SplitR (b.drop (wholeP b)) l n → SplitR b ((b.take (wholeP b)).drop 8 :: l) (wholeP b + n)
theorem wholeP_le (b : List Int) : wholeP b = 0 ∨ (8 ≤ wholeP b ∧ wholeP b ≤ b.length) := by
  unfold wholeP
  split
  · exact Or.inl rfl
  · split
    · exact Or.inl rfl
    · split
      · exact Or.inl rfl
      · split
        · right
          omega
        · exact Or.inl rfl
def FC (ps : List (List Int)) : List Int := (ps.map frameB).flatten
def ends (ps : List (List Int)) (j : Nat) : Nat := (FC (ps.take j)).length
theorem FC_cons (p : List Int) (ps : List (List Int)) : FC (p :: ps) = frameB p ++ FC ps := rfl
theorem ends_zero (ps : List (List Int)) : ends ps 0 = 0 := by simp [ends, FC]
theorem ends_cons (p : List Int) (ps : List (List Int)) (j : Nat) : ends (p :: ps) (j + 1) = (frameB p).length + ends ps j := by
  unfold ends
  rw [List.take_succ_cons, FC_cons, List.length_append]
theorem whole_frame (p r : List Int) (hl : p.length ≤ 16376) : wholeP (frameB p ++ r) = 8 + p.length := by
  have hf := frameB_len p hl
  obtain ⟨a, b, h, ha, hb, h1, h2⟩ := frameB_parts p hl
  have hS := fnv_range p 2166136261 (by omega)
  obtain ⟨S, hSn⟩ := Int.eq_ofNat_of_zero_le hS.1
  have hvb : valN b = S := by rw [hb, hSn]; exact valN_low4 S (by omega)
  have e1 : ((frameB p ++ r).drop 8).take p.length = p := by
    rw [h, List.append_assoc, show (8 : Nat) = (a ++ b).length by simp; omega, List.drop_left, List.take_left]
  have e2 : ((frameB p ++ r).take 8).drop 4 = b := by
    rw [h, List.append_assoc, show (8 : Nat) = (a ++ b).length by simp; omega, List.take_left, ← h1, List.drop_left]
  unfold wholeP
  rw [take4 p hl r, List.length_append, if_neg (by omega), if_neg (by omega), if_neg (by omega), e1, e2, hvb, if_pos (by rw [hSn])]
theorem split_frames : ∀ (ps : List (List Int)), (∀ p ∈ ps, p.length ≤ 16376) → ∀ (k : Nat) (l : List (List Int)) (n : Nat), SplitR ((FC ps).take k) l n →
    ∃ wh, wh ≤ ps.length ∧ l = ps.take wh ∧ n = ends ps wh ∧ ends ps wh ≤ k ∧ (wh < ps.length → k < ends ps (wh + 1))
  | [], _, k, l, n, h => by
    have e : (FC []).take k = [] := by simp [FC]
    rw [e] at h
    cases h with
    | none _ h0 => exact ⟨0, by simp, rfl, (ends_zero _).symm, by rw [ends_zero]; omega, fun h => by simp at h⟩
    | some _ l n h0 _ => exact absurd (by simp [wholeP]) h0
  | p :: ps, hps, k, l, n, h => by
    have hp := hps p (by simp)
    have hf := frameB_len p hp
    rw [FC_cons] at h
    by_cases hk : k < (frameB p).length
    · have e : (frameB p ++ FC ps).take k = (frameB p).take k := by rw [List.take_append_of_le_length (by omega)]
      have e0 := whole_cut p hp k hk
      rw [e] at h
      cases h with
      | none _ h0 => exact ⟨0, by simp, rfl, (ends_zero _).symm, by rw [ends_zero]; omega, fun _ => by rw [ends_cons, ends_zero]; omega⟩
      | some _ l n h0 _ => exact absurd e0 h0
    · have e : (frameB p ++ FC ps).take k = frameB p ++ (FC ps).take (k - (frameB p).length) := by
        rw [List.take_append, List.take_of_length_le (by omega)]
      have e0 := whole_frame p ((FC ps).take (k - (frameB p).length)) hp
      rw [e] at h
      cases h with
      | none _ h0 => rw [e0] at h0; omega
      | some _ l' n' h0 hs =>
        have ed : (frameB p ++ (FC ps).take (k - (frameB p).length)).drop (8 + p.length) = (FC ps).take (k - (frameB p).length) := by rw [← hf, List.drop_left]
        have et : ((frameB p ++ (FC ps).take (k - (frameB p).length)).take (8 + p.length)).drop 8 = p := by
          rw [← hf, List.take_left]
          obtain ⟨a, b, h, ha, hb, h1, h2⟩ := frameB_parts p hp
          rw [h, show (8 : Nat) = (a ++ b).length by simp; omega, List.drop_left]
        rw [e0, ed] at hs
        obtain ⟨wh, q1, q2, q3, q4, q5⟩ := split_frames ps (fun x hx => hps x (List.mem_cons_of_mem _ hx)) _ _ _ hs
        refine ⟨wh + 1, by simp; omega, ?_, ?_, ?_, fun hlt => ?_⟩
        · rw [e0, et, q2, List.take_succ_cons]
        · rw [e0, ends_cons, q3]; omega
        · rw [ends_cons]; omega
        · have := q5 (by simpa using hlt)
          rw [ends_cons]
          omega
end Go.Proofs.Ytiiljpaedelhlaa.PDiaryPlays
end
section
namespace Go.Proofs.Ytiiljpaedelhlaa.Flow
open Go.RowKit Go.Proofs.YtiiljpaedelhlaaW.PrintWords Go.Proofs.YtiiljpaedelhlaaW.PrintLast Go.Proofs.YtiiljpaedelhlaaW.PrintMore
open Go.ChangeShapes Go.WideShapes Go.ChangeAt Go.Deep
set_option linter.unusedVariables false
set_option linter.unusedSimpArgs false
section
variable {H : Type} {enc : TypeId × Value → H} {P : Program} {W : World}
end
def SlcSpec (B : Nat) (t : TypeId) (cs : Array Value) (n : Nat) : Spec where
  s := fun v w => ∃ g, v = .slice (some ⟨g, 0, none⟩) n n ∧ B ≤ g ∧ Blk w g t cs
  pl := fun v => ∃ g, v = .slice (some ⟨g, 0, none⟩) n n
  stab := fun v w w' hb ⟨g, h1, h2, h3⟩ => ⟨g, h1, h2, h3.on hb⟩
  imp := fun v w ⟨g, h1, _⟩ => ⟨g, h1⟩
  inh := ⟨.slice (some ⟨0, 0, none⟩) n n, 0, rfl⟩
theorem slc_gives {P : Program} {o : Oper} {G : Env} {w : World} (B : Nat) (t : TypeId) (cs : Array Value) (n : Nat) (hB : B ≤ w.heap.size)
    (hrun : (execOp (sEv G) o).run P w = .ok (.value (.slice (some ⟨w.heap.size, 0, none⟩) n n)) (w.alloc (.cells cs t))) :
    ∃ v w', (execOp (sEv G) o).run P w = .ok (.value v) w' ∧ (SlcSpec B t cs n).s v w' ∧ Below w.heap.size w w' :=
  ⟨_, _, hrun, ⟨_, rfl, hB, Blk.alloc_new _ _ _⟩, below_alloc (Below.refl _ _) _⟩
theorem slc_fact {B : Nat} {t : TypeId} {cs : Array Value} {n g : Nat} {w : World} (h : (SlcSpec B t cs n).s (.slice (some ⟨g, 0, none⟩) n n) w) : B ≤ g ∧ Blk w g t cs := by
  obtain ⟨g', he, h2, h3⟩ := h
  injection he with he
  injection he with he
  injection he with he
  subst he
  exact ⟨h2, h3⟩
end Go.Proofs.Ytiiljpaedelhlaa.Flow
end
section
namespace Go.Proofs.Ytiiljpaedelhlaa.Flow
open Go.RowKit Go.Proofs.YtiiljpaedelhlaaW.PrintWords Go.Proofs.YtiiljpaedelhlaaW.PrintLast Go.Proofs.YtiiljpaedelhlaaW.PrintMore
set_option linter.unusedVariables false
set_option linter.unusedSimpArgs false
def adr (A : Option Addr) (c lo : Nat) : Option Addr := if c = lo then A else A.map (·.add (lo * 1))
section
variable {P : Program} {t e : TypeId} {A : Option Addr} {n c : Nat} {xs : List Int}
theorem run_to (hu : P.underlying t = some (.slice e)) (hz : ∀ w, (sizeOf e).run P w = .ok 1 w) (hi : Nat) (y : Int) (hy : y = (hi : Int)) (hn : n = xs.length) (h2 : hi ≤ xs.length) (hc : n ≤ c) (w : World) :
    (Instr.sliceAt t (.slice A n c) none (some (.int .i64 y)) none).run P w = .ok (.slice A (xs.take hi).length c) w := by
  subst hy hn
  have hl : (xs.take hi).length = hi := by rw [List.length_take]; omega
  have h3 : hi ≤ c := by omega
  rw [hl]
  simp [go_sem, hu, hz, h3]
theorem run_mid (hu : P.underlying t = some (.slice e)) (hz : ∀ w, (sizeOf e).run P w = .ok 1 w) (lo hi : Nat) (x y : Int) (hx : x = (lo : Int)) (hy : y = (hi : Int)) (hn : n = xs.length) (h1 : lo ≤ hi) (h2 : hi ≤ xs.length) (hc : n ≤ c) (w : World) :
    (Instr.sliceAt t (.slice A n c) (some (.int .i64 x)) (some (.int .i64 y)) none).run P w = .ok (.slice (adr A c lo) ((xs.take hi).drop lo).length (c - lo)) w := by
  subst hx hy hn
  have hl : ((xs.take hi).drop lo).length = hi - lo := by rw [List.length_drop, List.length_take]; omega
  have h3 : hi ≤ c := by omega
  have h4 : ¬ hi < lo := by omega
  rw [hl]
  simp [go_sem, hu, hz, h3, h1, adr, sliced]
  try omega
theorem run_from (hu : P.underlying t = some (.slice e)) (hz : ∀ w, (sizeOf e).run P w = .ok 1 w) (lo : Nat) (x : Int) (hx : x = (lo : Int)) (hn : n = xs.length) (h1 : lo ≤ xs.length) (hc : n ≤ c) (w : World) :
    (Instr.sliceAt t (.slice A n c) (some (.int .i64 x)) none none).run P w = .ok (.slice (adr A c lo) (xs.drop lo).length (c - lo)) w := by
  subst hx hn
  have hl : (xs.drop lo).length = xs.length - lo := List.length_drop
  rw [hl]
  simp [go_sem, hu, hz, h1, hc, adr, sliced]
  try omega
end
section
variable {k : IntKind} {w : World} {A : Option Addr} {n c : Nat} {xs : List Int}
theorem to_C (h : (Kd.int k).C w A xs.length xs) (hi : Nat) (h2 : hi ≤ xs.length) : (Kd.int k).C w A (xs.take hi).length (xs.take hi) := Kd.C_take h h2
theorem mid_C (h : (Kd.int k).C w A xs.length xs) (lo hi : Nat) (h1 : lo ≤ hi) (h2 : hi ≤ xs.length) (hc : xs.length ≤ c) : (Kd.int k).C w (adr A c lo) ((xs.take hi).drop lo).length ((xs.take hi).drop lo) := Kd.C_mid h h1 h2 hc
theorem from_C (h : (Kd.int k).C w A xs.length xs) (lo : Nat) (h1 : lo ≤ xs.length) (hc : xs.length ≤ c) : (Kd.int k).C w (adr A c lo) (xs.drop lo).length (xs.drop lo) := Kd.C_drop h h1 hc
end
end Go.Proofs.Ytiiljpaedelhlaa.Flow
end
section
namespace Go.Proofs.Ytiiljpaedelhlaa.Flow
open Go.RowKit Go.Proofs.YtiiljpaedelhlaaW.PrintWords Go.Proofs.YtiiljpaedelhlaaW.PrintLast Go.Proofs.YtiiljpaedelhlaaW.PrintMore
set_option linter.unusedVariables false
set_option linter.unusedSimpArgs false
section
variable {P : Program} {cx : Cx} {n : Nat} {Q : Exit → Act → World → Prop} {G : Env} {w : World} {ops : Array Oper} {o : Oper} {rest : List Oper}
theorem rw_on {g t : Nat} {b c : Bool} (hgd : o.guard = some (g, b)) (ht : (ops[g]?).bind (·.dst) = some t) (hl : sLook G t = some (.bool c)) (he : (c == b) = true)
    (k : RW P ops cx n Q ({ o with guard := none } :: rest) G w) : RW P ops cx n Q (o :: rest) G w := fun a ha => by
  have hw := wanted_some (ops := ops) ha hgd ht hl
  have h1 := k a ha
  unfold wpList at h1 ⊢
  rw [if_pos (by simp [Region.wanted])] at h1
  rw [if_pos (by rw [hw]; simpa using he)]
  exact h1
end
end Go.Proofs.Ytiiljpaedelhlaa.Flow
end
section
namespace Go.Proofs.Ytiiljpaedelhlaa.PDiaryPlays
open Go.RowKit Go.Proofs.YtiiljpaedelhlaaW.PrintWords Go.Proofs.YtiiljpaedelhlaaW.PrintLast Go.Proofs.YtiiljpaedelhlaaW.PrintMore
open Go.Proofs.Ytiiljpaedelhlaa.Flow
set_option linter.unusedVariables false
set_option linter.unusedSimpArgs false
set_option maxHeartbeats 4000000 in
theorem clone_calls (w : World) (A : Option Addr) (n c : Nat) (xs : List Int) (hC : (Kd.int .u8).C w A n xs) (hl : n ≤ 140737488355328) :
    Calls Try.prog 42 #[.slice A n c] w fun e w' => ∃ A' n' c', e = .returned (.slice A' n' c') ∧ Own .u8 5 w' w.heap.size w.heap.size A' n' c' xs ∧ Below w.heap.size w w' := by
  refine calls_flow Try.func42 rfl 8 rfl (Nat.le_of_ble_eq_true rfl) [(0, .slice A n c)] ?_ ?_
  · intro t v h; exact args_look rfl t v h
  refine w_seq ?_
  refine w_region ?_
  refine rw_val (v := .slice none 0 0) (w' := w) rfl rfl rfl rfl rfl ?_
  refine rw_end ?_
  refine w_seq ?_
  refine w_seq ?_
  refine w_region ?_
  refine rw_val (v := .slice A n c) (w' := w) rfl rfl rfl rfl rfl ?_
  refine rw_val (v := .bool A.isNone) (w' := w) rfl rfl rfl rfl (run_as (run_nil_eql (P := Try.prog) (e := 5) (by kernel_rfl) _ _ _ _)) ?_
  refine rw_end ?_
  refine w_cond rfl rfl (fun cN => ?_) (fun cN => ?_)
  · refine w_seq ?_
    refine w_region ?_
    refine rw_val (v := .slice none 0 0) (w' := w) rfl rfl rfl rfl rfl ?_
    refine rw_end ?_
    refine w_ret (post_ret1 rfl rfl ?_)
    have hn_ : xs = [] := by
      have h1_ := hC.1
      have h2_ := hC.2.2
      rcases n with _ | n
      · exact List.eq_nil_of_length_eq_zero h1_
      · obtain ⟨ad, h3_, _⟩ := h2_ (by omega)
        rw [h3_] at cN
        exact absurd cN (by simp)
    subst hn_
    exact ⟨_, _, _, rfl, Own.nil _ _ _ _ _, (Below.refl _ _)⟩
  · refine w_skip ?_
    refine w_seq ?_
    refine w_region ?_
    refine rw_new (cs := #[]) (t := 5) (fun g => .slice (some ⟨g, 0, none⟩) 0 0) rfl rfl rfl rfl (by kernel_rfl) ?_
    intro g1 w2 hg6 hz5 hb3 hk4
    have hs_w2 := hb3.size
    have hO7 : Own .u8 5 w2 w.heap.size g1 (some ⟨g1, 0, none⟩) 0 0 [] := own_blk w.heap.size hk4 (by omega) rfl (by simp) (by omega) (Nums.nil _ _)
    refine rw_val (v := .slice A n c) (w' := w2) rfl rfl rfl rfl rfl ?_
    refine rw_append_row .u8 w.heap.size rfl rfl rfl (.tmp 5) (.tmp 6) rfl rfl 32 5 1 rfl (by kernel_rfl) info5 (by decide) (b := g1) rfl rfl (by omega) (hO7.on (Below.refl _ _)) (Kd.C_below hC hb3) hb3 (by omega) (by simp; omega) ?_
    intro A8 n9 c10 w11 hn12 hO13 hB14 hG15
    have hs_w11 := hB14.size
    have hgs_w11 := hG15.size
    refine rw_val (v := .slice A8 n9 c10) (w' := w11) rfl rfl rfl rfl rfl ?_
    refine rw_end ?_
    refine w_weaken (G' := [(2, .slice A8 n9 c10)]) ⟨rfl, trivial⟩ ?_
    refine w_ret (post_ret1 rfl rfl ?_)
    exact ⟨_, _, _, rfl, by simpa using ((hO13.on (Below.refl _ _)).mono (by omega) : Own .u8 5 w11 w.heap.size w.heap.size _ _ _ _), hB14⟩
set_option maxHeartbeats 4000000 in
theorem wrap_calls (w : World) (A0 : Option Addr) (c0 : Nat) (ps : List (List Int)) (hP : (Kd.slice 5 (Kd.int .u8)).C w A0 ps.length ps) (hc0 : ps.length ≤ c0) (hn : ps.length ≤ 1000000) (hall : ∀ p ∈ ps, p.length ≤ 140737488355328) :
    Calls Try.prog 38 #[.slice A0 ps.length c0] w fun e w' => ∃ A' n' c', e = .returned (.tuple #[.slice A' n' c', errW (frameE ps.flatten)]) ∧ Own .u8 5 w' w.heap.size w.heap.size A' n' c' (frameB ps.flatten) ∧ Below w.heap.size w w' := by
  refine calls_flow Try.func38 rfl 46 rfl (Nat.le_of_ble_eq_true rfl) [(0, .slice A0 ps.length c0)] ?_ ?_
  · intro t v h; exact args_look rfl t v h
  refine w_seq ?_
  refine w_region ?_
  refine rw_val (v := .slice none 0 0) (w' := w) rfl rfl rfl rfl rfl ?_
  refine rw_val (v := .nilIface) (w' := w) rfl rfl rfl rfl rfl ?_
  refine rw_end ?_
  refine w_seq ?_
  refine w_region ?_
  refine rw_val (v := .int .i64 0) (w' := w) rfl rfl rfl rfl rfl ?_
  refine rw_end ?_
  refine w_seq ?_
  refine w_seq ?_
  refine w_region ?_
  refine rw_val (v := .slice A0 ps.length c0) (w' := w) rfl rfl rfl rfl rfl ?_
  refine rw_val (v := .int .i64 (ps.length : Int)) (w' := w) rfl rfl rfl rfl (by simp [go_sem, sEv, sLook, nbeq, i64_w, -List.length_flatten]) ?_
  refine rw_val (v := .int .i64 0) (w' := w) rfl rfl rfl rfl rfl ?_
  refine rw_end ?_
  refine w_block ?_
  refine w_loop (fun m G W_ => ∃ i : Nat, i + m = ps.length ∧ (ps.take i).flatten.length ≤ 16376 ∧ w = W_ ∧ G = [(0, .slice A0 ps.length c0), (2, .slice none 0 0), (3, .nilIface), (4, .int .i64 ((ps.take i).flatten.length : Int)), (10, .slice A0 ps.length c0), (11, .int .i64 (ps.length : Int)), (12, .int .i64 (i : Int))]) ps.length [(0, .slice A0 ps.length c0), (2, .slice none 0 0), (3, .nilIface), (4, .int .i64 0), (10, .slice A0 ps.length c0), (11, .int .i64 (ps.length : Int)), (12, .int .i64 0)] ⟨0, by omega, by simp, rfl, rfl⟩ ⟨rfl, rfl, rfl, rfl, rfl, rfl, rfl, trivial⟩ ?_
  rintro m G w_ ⟨i, him, hfl, rfl, rfl⟩
  refine w_seq ?_
  refine w_region ?_
  refine rw_val (v := .bool (decide ((i : Int) < (ps.length : Int)))) (w' := w) rfl rfl rfl rfl (by simp [go_sem, sEv, sLook, nbeq, i64_w, -List.length_flatten]) ?_
  refine rw_end ?_
  refine w_seq ?_
  refine w_cond rfl rfl (fun cL => ?_) (fun cL => ?_)
  · refine w_skip ?_
    refine w_seq ?_
    refine w_block ?_
    refine w_seq ?_
    refine w_region ?_
    have l_ := of_decide_eq_true cL
    obtain ⟨ad, A1, c1, hA_, hcell_, hle_, hC_⟩ := at_L1 (Kd.C_below hP (Below.refl _ _)) (i : Int) (by omega) (by omega)
    subst hA_
    rw [show ((i : Int)).toNat = i by omega] at hcell_
    have hpl_ := hall _ (rd_L1_mem ps i (by omega))
    have htl_ := take_len ps i (by omega)
    have hfl3_ := take_le ps (i + 1)
    refine rw_val (v := .pointer (some (ad.add i))) (w' := w) rfl rfl rfl rfl (by simp [go_sem, sEv, sLook, nbeq, i64_w, -List.length_flatten, Try.underlying22]; omega) ?_
    refine rw_val (v := .slice A1 ((rd_L1 ps (i : Int)).length) c1) (w' := w) rfl rfl rfl rfl (by simp [go_sem, sEv, sLook, nbeq, i64_w, -List.length_flatten, hcell_]) ?_
    refine rw_val (v := .slice A1 ((rd_L1 ps (i : Int)).length) c1) (w' := w) rfl rfl rfl rfl rfl ?_
    refine rw_end ?_
    refine w_seq ?_
    refine w_region ?_
    refine rw_val (v := .int .i64 ((ps.take i).flatten.length : Int)) (w' := w) rfl rfl rfl rfl rfl ?_
    refine rw_val (v := .slice A1 ((rd_L1 ps (i : Int)).length) c1) (w' := w) rfl rfl rfl rfl rfl ?_
    refine rw_val (v := .int .i64 ((rd_L1 ps (i : Int)).length : Int)) (w' := w) rfl rfl rfl rfl (by simp [go_sem, sEv, sLook, nbeq, i64_w, -List.length_flatten]) ?_
    refine rw_val (v := .int .i64 ((ps.take (i + 1)).flatten.length : Int)) (w' := w) rfl rfl rfl rfl (by simp [go_sem, sEv, sLook, nbeq, i64_w, -List.length_flatten]; rw [htl_, ← Int.natCast_add]; exact wrap_id (by omega) (by omega)) ?_
    refine rw_val (v := .int .i64 ((ps.take (i + 1)).flatten.length : Int)) (w' := w) rfl rfl rfl rfl rfl ?_
    refine rw_end ?_
    refine w_weaken (G' := [(0, .slice (some ad) ps.length c0), (2, .slice none 0 0), (3, .nilIface), (4, .int .i64 ((ps.take (i + 1)).flatten.length : Int)), (10, .slice (some ad) ps.length c0), (11, .int .i64 (ps.length : Int)), (12, .int .i64 (i : Int))]) ⟨rfl, rfl, rfl, rfl, rfl, rfl, rfl, trivial⟩ ?_
    refine w_seq ?_
    refine w_region ?_
    refine rw_val (v := .int .i64 ((ps.take (i + 1)).flatten.length : Int)) (w' := w) rfl rfl rfl rfl rfl ?_
    refine rw_val (v := .bool (decide (16376 < ((ps.take (i + 1)).flatten.length : Int)))) (w' := w) rfl rfl rfl rfl (by simp [go_sem, sEv, sLook, nbeq, i64_w, -List.length_flatten]) ?_
    refine rw_end ?_
    refine w_cond rfl rfl (fun cF => ?_) (fun cF => ?_)
    · refine w_seq ?_
      refine w_region ?_
      refine rw_val (v := errW (some 7)) (w' := w) rfl rfl rfl rfl (by simp [go_sem, sEv, sLook, nbeq, i64_w, -List.length_flatten, errW_some]) ?_
      refine rw_val (v := .slice none 0 0) (w' := w) rfl rfl rfl rfl rfl ?_
      refine rw_val (v := errW (some 7)) (w' := w) rfl rfl rfl rfl rfl ?_
      refine rw_end ?_
      refine w_ret (post_ret2 rfl rfl rfl ?_)
      have f_ := of_decide_eq_true cF
      have t_ := take_le ps (i + 1)
      have hf_ : 16376 < ps.flatten.length := by omega
      rw [frameB, frameE, if_pos hf_, if_pos hf_]
      exact ⟨_, _, _, rfl, Own.nil _ _ _ _ _, (Below.refl _ _)⟩
    · refine w_skip ?_
      refine w_blk ?_
      refine w_region ?_
      refine rw_val (v := .int .i64 ((i + 1 : Nat) : Int)) (w' := w) rfl rfl rfl rfl (by simp [go_sem, sEv, sLook, nbeq, i64_w, -List.length_flatten]; have l_ := of_decide_eq_true cL; exact wrap_id (by omega) (by omega)) ?_
      refine rw_val (v := .int .i64 ((i + 1 : Nat) : Int)) (w' := w) rfl rfl rfl rfl rfl ?_
      refine rw_end ?_
      have l_ := of_decide_eq_true cL
      have f_ := of_decide_eq_false cF
      exact w_back (m - 1) [(0, .slice (some ad) ps.length c0), (2, .slice none 0 0), (3, .nilIface), (4, .int .i64 ((ps.take (i + 1)).flatten.length : Int)), (10, .slice (some ad) ps.length c0), (11, .int .i64 (ps.length : Int)), (12, .int .i64 ((i + 1 : Nat) : Int))] (by omega) ⟨rfl, rfl, rfl, rfl, rfl, rfl, rfl, trivial⟩ ⟨i + 1, by omega, by omega, rfl, rfl⟩
  · refine w_exit rfl ?_
    refine w_seq ?_
    refine w_region ?_
    have l0_ := of_decide_eq_false cL
    obtain rfl : i = ps.length := by omega
    rw [List.take_length] at hfl
    rw [List.take_length]
    refine rw_val (v := .int .i64 (ps.flatten.length : Int)) (w' := w) rfl rfl rfl rfl rfl ?_
    refine rw_val (v := .int .i64 ((8 + ps.flatten.length : Nat) : Int)) (w' := w) rfl rfl rfl rfl (by simp [go_sem, sEv, sLook, nbeq, i64_w, -List.length_flatten]; rw [show (8 : Int) + (ps.flatten.length : Int) = ((8 + ps.flatten.length : Nat) : Int) by omega]; exact wrap_id (by omega) (by omega)) ?_
    obtain ⟨i5_, hi5_, hz5_⟩ := Option.map_eq_some_iff.1 info5
    simp only [Prod.mk.injEq] at hz5_
    have hmk_ := run_makeSlice (P := Try.prog) w 32 5 i5_ (.int .u8 0) (by kernel_rfl) hi5_ hz5_.1 .i64 .i64 0 ((8 + ps.flatten.length : Nat) : Int) (by omega) (by omega) (by rw [hz5_.2.1]; omega) (by rw [hz5_.2.2]; omega) (by omega)
    simp only [Int.toNat_zero, Int.toNat_natCast, hz5_.2.1, Nat.mul_one] at hmk_
    refine rw_new (cs := madeCells (Value.int .u8 0).cells (8 + ps.flatten.length)) (t := 5) (fun g => .slice (some ⟨g, 0, none⟩) 0 (8 + ps.flatten.length)) rfl rfl rfl rfl (run_as hmk_) ?_
    intro g1 w2 hg6 hz5 hb3 hk4
    have hs_w2 := hb3.size
    have hO7 : Own .u8 5 w2 w.heap.size g1 (some ⟨g1, 0, none⟩) 0 (8 + ps.flatten.length) [] := own_blk w.heap.size hk4 (by omega) (size_madeCells _ _) (by simp) (by omega) (Nums.nil _ _)
    refine rw_val (v := .int .i64 (ps.flatten.length : Int)) (w' := w2) rfl rfl rfl rfl rfl ?_
    refine rw_val (v := .int .u64 (ps.flatten.length : Int)) (w' := w2) rfl rfl rfl rfl (by simp [go_sem, sEv, sLook, nbeq, i64_w, -List.length_flatten]; rw [u64_wrap]; omega) ?_
    refine rw_call rfl rfl rfl rfl (f := 51) (args := #[.slice (some ⟨g1, 0, none⟩) 0 (8 + ps.flatten.length), .int .u64 (ps.flatten.length : Int), .int .i64 4]) (by simp [go_sem, sEv, sLook, nbeq, i64_w, -List.length_flatten]) (frame_low.calls 5 (fun q => w.heap.size ≤ q) _ [] (ps.flatten.length : Int) 4 _ w w2 hb3 (Own.mono (hO7.on (Below.refl _ _)) (by omega)) (low_f 5 _ _ 4 (by omega) (by omega) (by simp [lowl_len]))) ?_
    rintro e_ w10 ⟨_, rfl, hR11, hB12, hK13⟩
    refine ⟨_, rfl, ?_⟩
    have hs_w10 := hB12.size
    have hgs_w10 := hK13.1
    obtain ⟨A8, c9, rfl, hle15, hR16⟩ := R_shape hR11
    have hO14 : Own .u8 5 w10 w.heap.size w.heap.size A8 ([] ++ lowl (ps.flatten.length : Int) 4 0).length c9 ([] ++ lowl (ps.flatten.length : Int) 4 0) := Kd.R_mono hR16 (fun q hq => hq.elim id (fun h => by omega))
    refine rw_val (v := .slice A8 (([] ++ lowl (ps.flatten.length : Int) 4 0).length) c9) (w' := w10) rfl rfl rfl rfl rfl ?_
    refine rw_end ?_
    refine w_weaken (G' := [(0, .slice A0 ps.length c0), (2, .slice none 0 0), (3, .nilIface), (7, .slice A8 (([] ++ lowl (ps.flatten.length : Int) 4 0).length) c9)]) ⟨rfl, rfl, rfl, rfl, trivial⟩ ?_
    refine w_seq ?_
    refine w_region ?_
    refine rw_val (v := .slice A8 (([] ++ lowl (ps.flatten.length : Int) 4 0).length) c9) (w' := w10) rfl rfl rfl rfl rfl ?_
    refine rw_val (v := .slice A0 ps.length c0) (w' := w10) rfl rfl rfl rfl rfl ?_
    refine rw_call rfl rfl rfl rfl (f := 52) (args := #[.slice A0 ps.length c0]) (by simp [go_sem, sEv, sLook, nbeq, i64_w, -List.length_flatten]) (frame_Sum.calls (2 * ps.length + 1 + ps.flatten.length) A0 c0 ps _ w10 (Kd.C_below hP hB12) hc0 (sum_f ps (by omega) (fun p hp => by have := hall p hp; omega) _ (Nat.le_refl _))) ?_
    rintro e_ w17 ⟨rfl, hb18_⟩
    refine ⟨_, rfl, ?_⟩
    have hb18 := hb18_.below
    have hs_w17 := hb18.size
    refine rw_val (v := .int .u64 (fnv 2166136261 ps.flatten)) (w' := w17) rfl rfl rfl rfl (by simp [go_sem, sEv, sLook, nbeq, i64_w, -List.length_flatten]; rw [u64_wrap]; have := fnv_range ps.flatten 2166136261 (by omega); omega) ?_
    refine rw_call rfl rfl rfl rfl (f := 51) (args := #[.slice A8 (([] ++ lowl (ps.flatten.length : Int) 4 0).length) c9, .int .u64 (fnv 2166136261 ps.flatten), .int .i64 4]) (by simp [go_sem, sEv, sLook, nbeq, i64_w, -List.length_flatten]) (frame_low.calls 5 (fun q => w.heap.size ≤ q) _ ([] ++ lowl (ps.flatten.length : Int) 4 0) (fnv 2166136261 ps.flatten) 4 _ w w17 (chain hB12 hb18) (Own.mono (hO14.on hb18) (by omega)) (low_f 5 _ _ 4 (by omega) (by omega) (by simp [lowl_len]))) ?_
    rintro e_ w21 ⟨_, rfl, hR22, hB23, hK24⟩
    refine ⟨_, rfl, ?_⟩
    have hs_w21 := hB23.size
    have hgs_w21 := hK24.1
    obtain ⟨A19, c20, rfl, hle26, hR27⟩ := R_shape hR22
    have hO25 : Own .u8 5 w21 w.heap.size w.heap.size A19 (([] ++ lowl (ps.flatten.length : Int) 4 0) ++ lowl (fnv 2166136261 ps.flatten) 4 0).length c20 (([] ++ lowl (ps.flatten.length : Int) 4 0) ++ lowl (fnv 2166136261 ps.flatten) 4 0) := Kd.R_mono hR27 (fun q hq => hq.elim id (fun h => by omega))
    refine rw_val (v := .slice A19 ((([] ++ lowl (ps.flatten.length : Int) 4 0) ++ lowl (fnv 2166136261 ps.flatten) 4 0).length) c20) (w' := w21) rfl rfl rfl rfl rfl ?_
    refine rw_end ?_
    refine w_weaken (G' := [(0, .slice A0 ps.length c0), (2, .slice none 0 0), (3, .nilIface), (7, .slice A19 ((([] ++ lowl (ps.flatten.length : Int) 4 0) ++ lowl (fnv 2166136261 ps.flatten) 4 0).length) c20)]) ⟨rfl, rfl, rfl, rfl, trivial⟩ ?_
    refine w_seq ?_
    refine w_seq ?_
    refine w_region ?_
    refine rw_val (v := .slice A0 ps.length c0) (w' := w21) rfl rfl rfl rfl rfl ?_
    refine rw_val (v := .int .i64 (ps.length : Int)) (w' := w21) rfl rfl rfl rfl (by simp [go_sem, sEv, sLook, nbeq, i64_w, -List.length_flatten]) ?_
    refine rw_val (v := .int .i64 0) (w' := w21) rfl rfl rfl rfl rfl ?_
    refine rw_end ?_
    refine w_block ?_
    refine w_loop (fun m G W_ => ∃ (i : Nat) (A7 : Option Addr) (n7 c7 : Nat), i + m = ps.length ∧ Own .u8 5 W_ w.heap.size w.heap.size A7 n7 c7 ((([] ++ lowl (ps.flatten.length : Int) 4 0) ++ lowl (fnv 2166136261 ps.flatten) 4 0) ++ (ps.take i).flatten) ∧ Below w.heap.size w W_ ∧ G = [(7, .slice A7 n7 c7), (35, .slice A0 ps.length c0), (36, .int .i64 (ps.length : Int)), (37, .int .i64 (i : Int))]) ps.length [(7, .slice A19 ((([] ++ lowl (ps.flatten.length : Int) 4 0) ++ lowl (fnv 2166136261 ps.flatten) 4 0).length) c20), (35, .slice A0 ps.length c0), (36, .int .i64 (ps.length : Int)), (37, .int .i64 0)] ⟨0, _, _, _, by omega, by simpa using (hO25.on (Below.refl _ _)), hB23, rfl⟩ ⟨rfl, rfl, rfl, rfl, trivial⟩ ?_
    rintro m G w_ ⟨i, A7, n7, c7, him2, hO7, hB7, rfl⟩
    have hfl2_ := take_le ps i
    have hs_w_ := hB7.size
    refine w_seq ?_
    refine w_region ?_
    refine rw_val (v := .bool (decide ((i : Int) < (ps.length : Int)))) (w' := w_) rfl rfl rfl rfl (by simp [go_sem, sEv, sLook, nbeq, i64_w, -List.length_flatten]) ?_
    refine rw_end ?_
    refine w_seq ?_
    refine w_cond rfl rfl (fun cM => ?_) (fun cM => ?_)
    · refine w_skip ?_
      refine w_seq ?_
      refine w_block ?_
      refine w_seq ?_
      refine w_region ?_
      have l_ := of_decide_eq_true cM
      obtain ⟨ad, A1, c1, hA_, hcell_, hle_, hC_⟩ := at_L1 (Kd.C_below hP hB7) (i : Int) (by omega) (by omega)
      subst hA_
      rw [show ((i : Int)).toNat = i by omega] at hcell_
      have hpl_ := hall _ (rd_L1_mem ps i (by omega))
      have htl_ := take_len ps i (by omega)
      have hfl3_ := take_le ps (i + 1)
      refine rw_val (v := .pointer (some (ad.add i))) (w' := w_) rfl rfl rfl rfl (by simp [go_sem, sEv, sLook, nbeq, i64_w, -List.length_flatten, Try.underlying22]; omega) ?_
      refine rw_val (v := .slice A1 ((rd_L1 ps (i : Int)).length) c1) (w' := w_) rfl rfl rfl rfl (by simp [go_sem, sEv, sLook, nbeq, i64_w, -List.length_flatten, hcell_]) ?_
      refine rw_val (v := .slice A1 ((rd_L1 ps (i : Int)).length) c1) (w' := w_) rfl rfl rfl rfl rfl ?_
      refine rw_end ?_
      refine w_region ?_
      refine rw_val (v := .slice A7 n7 c7) (w' := w_) rfl rfl rfl rfl rfl ?_
      refine rw_val (v := .slice A1 ((rd_L1 ps (i : Int)).length) c1) (w' := w_) rfl rfl rfl rfl rfl ?_
      refine rw_append_row .u8 w.heap.size rfl rfl rfl (.tmp 41) (.tmp 42) rfl rfl 32 5 1 rfl (by kernel_rfl) info5 (by decide) (b := w.heap.size) rfl rfl (by omega) (hO7.on (Below.refl _ _)) (Kd.C_below hC_ (Below.refl _ _)) hB7 (by omega) (by simp only [List.length_append, lowl_len, List.length_nil]; omega) ?_
      intro A28 n29 c30 w31 hn32 hO33 hB34 hG35
      have hs_w31 := hB34.size
      have hgs_w31 := hG35.size
      refine rw_val (v := .slice A28 n29 c30) (w' := w31) rfl rfl rfl rfl rfl ?_
      refine rw_end ?_
      refine w_weaken (G' := [(7, .slice A28 n29 c30), (35, .slice (some ad) ps.length c0), (36, .int .i64 (ps.length : Int)), (37, .int .i64 (i : Int))]) ⟨rfl, rfl, rfl, rfl, trivial⟩ ?_
      refine w_blk ?_
      refine w_region ?_
      refine rw_val (v := .int .i64 ((i + 1 : Nat) : Int)) (w' := w31) rfl rfl rfl rfl (by simp [go_sem, sEv, sLook, nbeq, i64_w, -List.length_flatten]; have l_ := of_decide_eq_true cM; exact wrap_id (by omega) (by omega)) ?_
      refine rw_val (v := .int .i64 ((i + 1 : Nat) : Int)) (w' := w31) rfl rfl rfl rfl rfl ?_
      refine rw_end ?_
      have l_ := of_decide_eq_true cM
      have hO8_ : Own .u8 5 w31 w.heap.size w.heap.size A28 n29 c30 ((([] ++ lowl (ps.flatten.length : Int) 4 0) ++ lowl (fnv 2166136261 ps.flatten) 4 0) ++ (ps.take (i + 1)).flatten) := by rw [take_flat ps i (by omega), ← List.append_assoc]; exact (hO33.on (Below.refl _ _))
      exact w_back (m - 1) [(7, .slice A28 n29 c30), (35, .slice (some ad) ps.length c0), (36, .int .i64 (ps.length : Int)), (37, .int .i64 ((i + 1 : Nat) : Int))] (by omega) ⟨rfl, rfl, rfl, rfl, trivial⟩ ⟨i + 1, _, _, _, by omega, hO8_, hB34, rfl⟩
    · refine w_exit rfl ?_
      refine w_seq ?_
      refine w_region ?_
      refine rw_val (v := .slice A7 n7 c7) (w' := w_) rfl rfl rfl rfl rfl ?_
      refine rw_val (v := .slice A7 n7 c7) (w' := w_) rfl rfl rfl rfl rfl ?_
      refine rw_val (v := .nilIface) (w' := w_) rfl rfl rfl rfl rfl ?_
      refine rw_end ?_
      refine w_ret (post_ret2 rfl rfl rfl ?_)
      have l_ := of_decide_eq_false cM
      obtain rfl : i = ps.length := by omega
      rw [frameB, frameE, if_neg (by omega), if_neg (by omega)]
      exact ⟨_, _, _, rfl, by simpa using (hO7.on (Below.refl _ _)), hB7⟩
end Go.Proofs.Ytiiljpaedelhlaa.PDiaryPlays
end
section
namespace Go.Proofs.Ytiiljpaedelhlaa.Flow
open Go.RowKit Go.Proofs.YtiiljpaedelhlaaW.PrintWords Go.Proofs.YtiiljpaedelhlaaW.PrintLast Go.Proofs.YtiiljpaedelhlaaW.PrintMore
set_option linter.unusedVariables false
set_option linter.unusedSimpArgs false
theorem RR_shape {k : IntKind} {e2 e : TypeId} {w : World} {base : Nat} {ok : Nat → Prop} {v : Value} {xss : List (List Int)} (h : (Kd.slice e2 (Kd.int k)).R e w base ok v xss) : ∃ A c, v = .slice A xss.length c ∧ xss.length ≤ c := by
  obtain ⟨A, c, rfl, h1, _⟩ := Kd.R_reads h
  exact ⟨A, c, rfl, h1⟩
section
variable {P : Program} {cx : Cx} {n : Nat} {Q : Exit → Act → World → Prop} {st : List Itm} {G : Env} {w : World} {ops : Array Oper} {o : Oper} {rest : List Oper}
end
end Go.Proofs.Ytiiljpaedelhlaa.Flow
end
section
namespace Go.Proofs.Ytiiljpaedelhlaa.PDiaryPlays
open Go.RowKit Go.Proofs.YtiiljpaedelhlaaW.PrintWords Go.Proofs.YtiiljpaedelhlaaW.PrintLast Go.Proofs.YtiiljpaedelhlaaW.PrintMore
open Go.Proofs.Ytiiljpaedelhlaa.Flow
set_option linter.unusedVariables false
set_option linter.unusedSimpArgs false
theorem high_calls (w : World) (A0 : Option Addr) (c0 : Nat) (l : List Int) (hr : (Kd.int .u8).C w A0 l.length l) (hc : l.length ≤ c0) (hb : Bytes l) (hl : l.length ≤ 8) : Calls Try.prog 57 #[.slice A0 l.length c0] w fun e w' => e = .returned (.int .u64 ((valN l : Nat) : Int)) ∧ Drawn0 w w' :=
  frame_high.calls 9 A0 c0 l _ w hr hc (high_f l hb hl 9 (by omega))
set_option maxHeartbeats 4000000 in
theorem whole_calls (w : World) (A0 : Option Addr) (c0 : Nat) (b : List Int) (hC : (Kd.int .u8).C w A0 b.length b) (hc : b.length ≤ c0) (hb : Bytes b) (hl : b.length ≤ 140737488355328) :
    Calls Try.prog 49 #[.slice A0 b.length c0] w fun e w' => e = .returned (.int .i64 ((wholeP b : Nat) : Int)) ∧ Below w.heap.size w w' := by
  refine calls_flow Try.func49 rfl 35 rfl (Nat.le_of_ble_eq_true rfl) [(0, .slice A0 b.length c0)] ?_ ?_
  · intro t v h; exact args_look rfl t v h
  refine w_seq ?_
  refine w_region ?_
  refine rw_val (v := .int .i64 0) (w' := w) rfl rfl rfl rfl rfl ?_
  refine rw_end ?_
  refine w_seq ?_
  refine w_seq ?_
  refine w_region ?_
  refine rw_val (v := .slice A0 b.length c0) (w' := w) rfl rfl rfl rfl rfl ?_
  refine rw_val (v := .int .i64 (b.length : Int)) (w' := w) rfl rfl rfl rfl (by simp [go_sem, sEv, sLook, nbeq, i64_w, -List.length_flatten]) ?_
  refine rw_val (v := .bool (decide ((b.length : Int) < 8))) (w' := w) rfl rfl rfl rfl (by simp [go_sem, sEv, sLook, nbeq, i64_w, -List.length_flatten]) ?_
  refine rw_end ?_
  refine w_cond rfl rfl (fun c8 => ?_) (fun c8 => ?_)
  · refine w_seq ?_
    refine w_region ?_
    refine rw_val (v := .int .i64 0) (w' := w) rfl rfl rfl rfl rfl ?_
    refine rw_end ?_
    refine w_ret (post_ret1 rfl rfl ?_)
    have e_ : wholeP b = 0 := by
      unfold wholeP
      have c8_ := of_decide_eq_true c8
      rw [if_pos (by omega)]
    exact ⟨by rw [e_]; rfl, (Below.refl _ _)⟩
  · refine w_skip ?_
    refine w_seq ?_
    refine w_region ?_
    refine rw_val (v := .slice A0 b.length c0) (w' := w) rfl rfl rfl rfl rfl ?_
    have c8_ := of_decide_eq_false c8
    have l4_ : (b.take 4).length = 4 := by rw [List.length_take]; omega
    have n4_ : valN (b.take 4) < 4294967296 := by have h_ := valN_lt (b.take 4) (hb.take 4); rw [l4_] at h_; exact h_
    have hP1 := (to_C hC 4 (by omega))
    have hc2 : (b.take 4).length ≤ c0 := by have q_ := hc; have q2_ : b.length = b.length := rfl; simp only [List.length_take, List.length_drop]; omega
    refine rw_val (v := .slice A0 ((b.take 4).length) c0) (w' := w) rfl rfl rfl rfl (run_as (run_to (e := 5) (by kernel_rfl) (fun _ => by kernel_rfl) 4 _ (by first | rfl | (simp; done) | omega) rfl (by omega) hc _)) ?_
    refine rw_call rfl rfl rfl rfl (f := 57) (args := #[.slice A0 ((b.take 4).length) c0]) (by simp [go_sem, sEv, sLook, nbeq, i64_w, -List.length_flatten]) (high_calls w _ _ (b.take 4) (Kd.C_below hP1 (Below.refl _ _)) hc2 (hb.take _) (by simp only [List.length_take, List.length_drop]; omega)) ?_
    rintro e_ w3 ⟨rfl, hb4_⟩
    refine ⟨_, rfl, ?_⟩
    have hb4 := hb4_.below
    have hs_w3 := hb4.size
    refine rw_val (v := .int .i64 ((valN (b.take 4) : Nat) : Int)) (w' := w3) rfl rfl rfl rfl (by simp [go_sem, sEv, sLook, nbeq, i64_w, -List.length_flatten]; exact wrap_id (by omega) (by omega)) ?_
    refine rw_val (v := .int .i64 ((valN (b.take 4) : Nat) : Int)) (w' := w3) rfl rfl rfl rfl rfl ?_
    refine rw_end ?_
    refine w_weaken (G' := [(0, .slice A0 b.length c0), (2, .int .i64 0), (3, .int .i64 ((valN (b.take 4) : Nat) : Int))]) ⟨rfl, rfl, rfl, trivial⟩ ?_
    refine w_seq ?_
    refine w_seq ?_
    rcases bcase (decide (16376 < ((valN (b.take 4) : Nat) : Int))) with cM | cM
    · rcases bcase (decide (((b.length : Int) - 8) < ((valN (b.take 4) : Nat) : Int))) with cL | cL
      · refine w_draw (M := [0, 1, 3, 7, 7, 23, 55, 127, 255, 511, 1023, 1023, 3071, 8191, 16383, 32767, 65535, 1023, 132095, 458751, 1048575, 2097151]) (ss := [Is (.int .i64 ((valN (b.take 4) : Nat) : Int)), Is (.bool (decide (16376 < ((valN (b.take 4) : Nat) : Int)))), Is (.bool (decide (16376 < ((valN (b.take 4) : Nat) : Int)))), Is (.int .i64 ((valN (b.take 4) : Nat) : Int)), Is (.slice A0 b.length c0), Is (.int .i64 (b.length : Int)), Is (.int .i64 ((b.length : Int) - 8)), Is (.bool (decide (((b.length : Int) - 8) < ((valN (b.take 4) : Nat) : Int)))), Is (.bool (decide (((b.length : Int) - 8) < ((valN (b.take 4) : Nat) : Int)))), Is (.bool (decide (((b.length : Int) - 8) < ((valN (b.take 4) : Nat) : Int)))), Is (.slice A0 b.length c0), Is (.int .i64 ((valN (b.take 4) : Nat) : Int)), Is (.int .i64 ((8 + valN (b.take 4) : Nat) : Int)), Is (.slice (adr A0 c0 8) (((b.take (8 + valN (b.take 4))).drop 8).length) (c0 - 8)), SlcSpec w3.heap.size 32 #[.slice (adr A0 c0 8) (((b.take (8 + valN (b.take 4))).drop 8).length) (c0 - 8)] 1, (Is (.int .u32 (fnv 2166136261 ([((b.take (8 + valN (b.take 4))).drop 8)]).flatten))), Is (.int .u64 (fnv 2166136261 ((b.take (8 + valN (b.take 4))).drop 8))), Is (.slice A0 b.length c0), Is (.slice (adr A0 c0 4) (((b.take 8).drop 4).length) (c0 - 4)), (Is (.int .u64 ((valN ((b.take 8).drop 4) : Nat) : Int))), Is (.bool ((fnv 2166136261 ((b.take (8 + valN (b.take 4))).drop 8)) != ((valN ((b.take 8).drop 4) : Nat) : Int))), Is (.bool ((fnv 2166136261 ((b.take (8 + valN (b.take 4))).drop 8)) != ((valN ((b.take 8).drop 4) : Nat) : Int)))]) rfl (by decide +kernel) ?_
        refine t_is (.int .i64 ((valN (b.take 4) : Nat) : Int)) rfl rfl rfl rfl (fun W_ hW_ F_ => rfl) ?_
        refine t_is (.bool (decide (16376 < ((valN (b.take 4) : Nat) : Int)))) rfl rfl rfl rfl (fun W_ hW_ F_ => by simp [go_sem, sEv, sLook, nbeq, i64_w, -List.length_flatten]) ?_
        refine t_is (.bool (decide (16376 < ((valN (b.take 4) : Nat) : Int)))) rfl rfl rfl rfl (fun W_ hW_ F_ => rfl) ?_
        refine t_gis (c := decide (16376 < ((valN (b.take 4) : Nat) : Int))) (.int .i64 ((valN (b.take 4) : Nat) : Int)) rfl rfl rfl (by first | (rw [cM]; rfl) | simp [cM]) rfl rfl rfl (fun W_ hW_ F_ => rfl) ?_
        refine t_gis (c := decide (16376 < ((valN (b.take 4) : Nat) : Int))) (.slice A0 b.length c0) rfl rfl rfl (by first | (rw [cM]; rfl) | simp [cM]) rfl rfl rfl (fun W_ hW_ F_ => rfl) ?_
        refine t_gis (c := decide (16376 < ((valN (b.take 4) : Nat) : Int))) (.int .i64 (b.length : Int)) rfl rfl rfl (by first | (rw [cM]; rfl) | simp [cM]) rfl rfl rfl (fun W_ hW_ F_ => by simp [go_sem, sEv, sLook, nbeq, i64_w, -List.length_flatten]) ?_
        refine t_gis (c := decide (16376 < ((valN (b.take 4) : Nat) : Int))) (.int .i64 ((b.length : Int) - 8)) rfl rfl rfl (by first | (rw [cM]; rfl) | simp [cM]) rfl rfl rfl (fun W_ hW_ F_ => by simp [go_sem, sEv, sLook, nbeq, i64_w, -List.length_flatten]; exact wrap_id (by omega) (by omega)) ?_
        refine t_gis (c := decide (16376 < ((valN (b.take 4) : Nat) : Int))) (.bool (decide (((b.length : Int) - 8) < ((valN (b.take 4) : Nat) : Int)))) rfl rfl rfl (by first | (rw [cM]; rfl) | simp [cM]) rfl rfl rfl (fun W_ hW_ F_ => by simp [go_sem, sEv, sLook, nbeq, i64_w, -List.length_flatten]) ?_
        refine t_is (.bool (decide (((b.length : Int) - 8) < ((valN (b.take 4) : Nat) : Int)))) rfl rfl rfl rfl (fun W_ hW_ F_ => by first | (simp [go_sem, sEv, sLook, nbeq, i64_w, -List.length_flatten, cM]; done) | (simp [go_sem, sEv, sLook, nbeq, i64_w, -List.length_flatten] <;> omega) | (simp [go_sem, sEv, sLook, nbeq, i64_w, -List.length_flatten]; intro h_; exact absurd (by omega) h_) | (rw [cM]; simp [go_sem, sEv, sLook, nbeq, i64_w, -List.length_flatten]; done)) ?_
        refine t_is (.bool (decide (((b.length : Int) - 8) < ((valN (b.take 4) : Nat) : Int)))) rfl rfl rfl rfl (fun W_ hW_ F_ => rfl) ?_
        refine t_gis (c := decide (((b.length : Int) - 8) < ((valN (b.take 4) : Nat) : Int))) (.slice A0 b.length c0) rfl rfl rfl (by first | (rw [cL]; rfl) | simp [cL]) rfl rfl rfl (fun W_ hW_ F_ => rfl) ?_
        refine t_gis (c := decide (((b.length : Int) - 8) < ((valN (b.take 4) : Nat) : Int))) (.int .i64 ((valN (b.take 4) : Nat) : Int)) rfl rfl rfl (by first | (rw [cL]; rfl) | simp [cL]) rfl rfl rfl (fun W_ hW_ F_ => rfl) ?_
        refine t_gis (c := decide (((b.length : Int) - 8) < ((valN (b.take 4) : Nat) : Int))) (.int .i64 ((8 + valN (b.take 4) : Nat) : Int)) rfl rfl rfl (by first | (rw [cL]; rfl) | simp [cL]) rfl rfl rfl (fun W_ hW_ F_ => by simp [go_sem, sEv, sLook, nbeq, i64_w, -List.length_flatten]; exact wrap_id (by omega) (by omega)) ?_
        have cL_ := of_decide_eq_false cL
        have cM_ := of_decide_eq_false cM
        have hP5 := (mid_C hC 8 (8 + valN (b.take 4)) (by omega) (by omega) (show b.length ≤ c0 by have q_ := hc; have q2_ : b.length = b.length := rfl; omega))
        have hc6 : ((b.take (8 + valN (b.take 4))).drop 8).length ≤ (c0 - 8) := by have q_ := hc; have q2_ : b.length = b.length := rfl; simp only [List.length_take, List.length_drop]; omega
        refine t_gis (c := decide (((b.length : Int) - 8) < ((valN (b.take 4) : Nat) : Int))) (.slice (adr A0 c0 8) (((b.take (8 + valN (b.take 4))).drop 8).length) (c0 - 8)) rfl rfl rfl (by first | (rw [cL]; rfl) | simp [cL]) rfl rfl rfl (fun W_ hW_ F_ => (run_as (run_mid (e := 5) (by kernel_rfl) (fun _ => by kernel_rfl) 8 (8 + valN (b.take 4)) _ _ (by first | rfl | (simp; done) | omega) (by first | rfl | (simp; done) | omega) rfl (by omega) (by omega) hc _))) ?_
        refine t_gval (c := decide (((b.length : Int) - 8) < ((valN (b.take 4) : Nat) : Int))) (SlcSpec w3.heap.size 32 #[.slice (adr A0 c0 8) (((b.take (8 + valN (b.take 4))).drop 8).length) (c0 - 8)] 1) rfl rfl rfl (by first | (rw [cL]; rfl) | simp [cL]) rfl rfl rfl (fun W_ hW_ F_ => slc_gives _ _ _ _ (below_of_drew hW_).size (by kernel_rfl)) ?_
        rintro _ ⟨g7, rfl⟩
        refine t_gcall (c := decide (((b.length : Int) - 8) < ((valN (b.take 4) : Nat) : Int))) (f := 52) (args := #[.slice (some ⟨g7, 0, none⟩) 1 1]) (Is (.int .u32 (fnv 2166136261 ([((b.take (8 + valN (b.take 4))).drop 8)]).flatten))) rfl rfl rfl (by first | (rw [cL]; rfl) | simp [cL]) rfl rfl rfl (fun W_ => by simp [go_sem, sEv, sLook, nbeq, i64_w, -List.length_flatten]) (fun W_ hW_ F_ => ?_) ?_
        · refine (frame_Sum.calls (2 * [((b.take (8 + valN (b.take 4))).drop 8)].length + 1 + [((b.take (8 + valN (b.take 4))).drop 8)].flatten.length) _ 1 [((b.take (8 + valN (b.take 4))).drop 8)] _ W_ (rows1 (e := 5) (slc_fact (F_ 14 _ _ rfl rfl)).2 hc6 (Kd.C_below hP5 (chain hb4 (below_of_drew hW_)))) (by simp) (sum_f _ (by simp) (by simp only [List.mem_cons, List.not_mem_nil, or_false, forall_eq, List.length_take, List.length_drop]; omega) _ (Nat.le_refl _))).mono ?_
          rintro e_ w_ ⟨rfl, hd_⟩
          exact ⟨_, rfl, rfl, hd_.below⟩
        rintro _ rfl
        refine t_gis (c := decide (((b.length : Int) - 8) < ((valN (b.take 4) : Nat) : Int))) (.int .u64 (fnv 2166136261 ((b.take (8 + valN (b.take 4))).drop 8))) rfl rfl rfl (by first | (rw [cL]; rfl) | simp [cL]) rfl rfl rfl (fun W_ hW_ F_ => by simp [go_sem, sEv, sLook, nbeq, i64_w, -List.length_flatten]; have hf_ := fnv_range ((b.take (8 + valN (b.take 4))).drop 8) 2166136261 (by omega); rw [u64_wrap]; omega) ?_
        refine t_gis (c := decide (((b.length : Int) - 8) < ((valN (b.take 4) : Nat) : Int))) (.slice A0 b.length c0) rfl rfl rfl (by first | (rw [cL]; rfl) | simp [cL]) rfl rfl rfl (fun W_ hW_ F_ => rfl) ?_
        have hP10 := (mid_C hC 4 8 (by omega) (by omega) (show b.length ≤ c0 by have q_ := hc; have q2_ : b.length = b.length := rfl; omega))
        have hc11 : ((b.take 8).drop 4).length ≤ (c0 - 4) := by have q_ := hc; have q2_ : b.length = b.length := rfl; simp only [List.length_take, List.length_drop]; omega
        refine t_gis (c := decide (((b.length : Int) - 8) < ((valN (b.take 4) : Nat) : Int))) (.slice (adr A0 c0 4) (((b.take 8).drop 4).length) (c0 - 4)) rfl rfl rfl (by first | (rw [cL]; rfl) | simp [cL]) rfl rfl rfl (fun W_ hW_ F_ => (run_as (run_mid (e := 5) (by kernel_rfl) (fun _ => by kernel_rfl) 4 8 _ _ (by first | rfl | (simp; done) | omega) (by first | rfl | (simp; done) | omega) rfl (by omega) (by omega) hc _))) ?_
        refine t_gcall (c := decide (((b.length : Int) - 8) < ((valN (b.take 4) : Nat) : Int))) (f := 57) (args := #[.slice (adr A0 c0 4) (((b.take 8).drop 4).length) (c0 - 4)]) (Is (.int .u64 ((valN ((b.take 8).drop 4) : Nat) : Int))) rfl rfl rfl (by first | (rw [cL]; rfl) | simp [cL]) rfl rfl rfl (fun W_ => by simp [go_sem, sEv, sLook, nbeq, i64_w, -List.length_flatten]) (fun W_ hW_ F_ => ?_) ?_
        · refine (high_calls W_ _ _ ((b.take 8).drop 4) (Kd.C_below hP10 (chain hb4 (below_of_drew hW_))) hc11 ((hb.take _).drop _) (by simp only [List.length_take, List.length_drop]; omega)).mono ?_
          rintro e_ w_ ⟨rfl, hd_⟩
          exact ⟨_, rfl, rfl, hd_.below⟩
        rintro _ rfl
        refine t_gis (c := decide (((b.length : Int) - 8) < ((valN (b.take 4) : Nat) : Int))) (.bool ((fnv 2166136261 ((b.take (8 + valN (b.take 4))).drop 8)) != ((valN ((b.take 8).drop 4) : Nat) : Int))) rfl rfl rfl (by first | (rw [cL]; rfl) | simp [cL]) rfl rfl rfl (fun W_ hW_ F_ => by simp [go_sem, sEv, sLook, nbeq, i64_w, -List.length_flatten]) ?_
        refine t_is (.bool ((fnv 2166136261 ((b.take (8 + valN (b.take 4))).drop 8)) != ((valN ((b.take 8).drop 4) : Nat) : Int))) rfl rfl rfl rfl (fun W_ hW_ F_ => by first | (simp [go_sem, sEv, sLook, nbeq, i64_w, -List.length_flatten, cL]; done) | (simp [go_sem, sEv, sLook, nbeq, i64_w, -List.length_flatten] <;> omega) | (simp [go_sem, sEv, sLook, nbeq, i64_w, -List.length_flatten]; intro h_; exact absurd (by omega) h_) | (rw [cL]; simp [go_sem, sEv, sLook, nbeq, i64_w, -List.length_flatten]; done)) ?_
        refine t_end ?_
        intro w12 hb13_ F14
        have hb13 := below_of_drew hb13_
        have hs_w12 := hb13.size
        refine w_weaken (G' := [(2, .int .i64 0), (3, .int .i64 ((valN (b.take 4) : Nat) : Int)), (32, .bool ((fnv 2166136261 ((b.take (8 + valN (b.take 4))).drop 8)) != ((valN ((b.take 8).drop 4) : Nat) : Int)))]) ⟨rfl, rfl, rfl, trivial⟩ ?_
        refine w_cond rfl rfl (fun cS => ?_) (fun cS => ?_)
        · refine w_seq ?_
          refine w_region ?_
          refine rw_val (v := .int .i64 0) (w' := w12) rfl rfl rfl rfl rfl ?_
          refine rw_end ?_
          refine w_ret (post_ret1 rfl rfl ?_)
          have e_ : wholeP b = 0 := by
            unfold wholeP
            have c8_ := of_decide_eq_false c8
            rw [if_neg (by omega)]
            have cM_ := of_decide_eq_false cM
            rw [if_neg (by omega)]
            have cL_ := of_decide_eq_false cL
            rw [if_neg (by omega)]
            have eX_ : ((b.take (8 + valN (b.take 4))).drop 8) = (b.drop 8).take (valN (b.take 4)) := (by rw [List.drop_take]; congr 1; omega)
            rw [eX_] at cS
            rw [if_neg (by simpa using cS)]
          exact ⟨by rw [e_]; rfl, (chain hb4 hb13)⟩
        · refine w_skip ?_
          refine w_seq ?_
          refine w_region ?_
          refine rw_val (v := .int .i64 ((valN (b.take 4) : Nat) : Int)) (w' := w12) rfl rfl rfl rfl rfl ?_
          refine rw_val (v := .int .i64 ((8 + valN (b.take 4) : Nat) : Int)) (w' := w12) rfl rfl rfl rfl (by simp [go_sem, sEv, sLook, nbeq, i64_w, -List.length_flatten]; exact wrap_id (by omega) (by omega)) ?_
          refine rw_val (v := .int .i64 ((8 + valN (b.take 4) : Nat) : Int)) (w' := w12) rfl rfl rfl rfl rfl ?_
          refine rw_end ?_
          refine w_ret (post_ret1 rfl rfl ?_)
          have e_ : wholeP b = 8 + valN (b.take 4) := by
            unfold wholeP
            have c8_ := of_decide_eq_false c8
            rw [if_neg (by omega)]
            have cM_ := of_decide_eq_false cM
            rw [if_neg (by omega)]
            have cL_ := of_decide_eq_false cL
            rw [if_neg (by omega)]
            have eX_ : ((b.take (8 + valN (b.take 4))).drop 8) = (b.drop 8).take (valN (b.take 4)) := (by rw [List.drop_take]; congr 1; omega)
            rw [eX_] at cS
            rw [if_pos (by simpa using cS)]
          exact ⟨by rw [e_], (chain hb4 hb13)⟩
      · refine w_draw (M := [0, 1, 3, 7, 7, 23, 55, 127, 255, 511, 1023, 1023, 3071, 8191, 16383, 32767, 65535, 1023, 132095, 458751, 1048575, 2097151]) (ss := [Is (.int .i64 ((valN (b.take 4) : Nat) : Int)), Is (.bool (decide (16376 < ((valN (b.take 4) : Nat) : Int)))), Is (.bool (decide (16376 < ((valN (b.take 4) : Nat) : Int)))), Is (.int .i64 ((valN (b.take 4) : Nat) : Int)), Is (.slice A0 b.length c0), Is (.int .i64 (b.length : Int)), Is (.int .i64 ((b.length : Int) - 8)), Is (.bool (decide (((b.length : Int) - 8) < ((valN (b.take 4) : Nat) : Int)))), Is (.bool (decide (((b.length : Int) - 8) < ((valN (b.take 4) : Nat) : Int)))), Is (.bool (decide (((b.length : Int) - 8) < ((valN (b.take 4) : Nat) : Int)))), Is undef, Is undef, Is undef, Is undef, Is undef, Is undef, Is undef, Is undef, Is undef, Is undef, Is undef, Is (.bool true)]) rfl (by decide +kernel) ?_
        refine t_is (.int .i64 ((valN (b.take 4) : Nat) : Int)) rfl rfl rfl rfl (fun W_ hW_ F_ => rfl) ?_
        refine t_is (.bool (decide (16376 < ((valN (b.take 4) : Nat) : Int)))) rfl rfl rfl rfl (fun W_ hW_ F_ => by simp [go_sem, sEv, sLook, nbeq, i64_w, -List.length_flatten]) ?_
        refine t_is (.bool (decide (16376 < ((valN (b.take 4) : Nat) : Int)))) rfl rfl rfl rfl (fun W_ hW_ F_ => rfl) ?_
        refine t_gis (c := decide (16376 < ((valN (b.take 4) : Nat) : Int))) (.int .i64 ((valN (b.take 4) : Nat) : Int)) rfl rfl rfl (by first | (rw [cM]; rfl) | simp [cM]) rfl rfl rfl (fun W_ hW_ F_ => rfl) ?_
        refine t_gis (c := decide (16376 < ((valN (b.take 4) : Nat) : Int))) (.slice A0 b.length c0) rfl rfl rfl (by first | (rw [cM]; rfl) | simp [cM]) rfl rfl rfl (fun W_ hW_ F_ => rfl) ?_
        refine t_gis (c := decide (16376 < ((valN (b.take 4) : Nat) : Int))) (.int .i64 (b.length : Int)) rfl rfl rfl (by first | (rw [cM]; rfl) | simp [cM]) rfl rfl rfl (fun W_ hW_ F_ => by simp [go_sem, sEv, sLook, nbeq, i64_w, -List.length_flatten]) ?_
        refine t_gis (c := decide (16376 < ((valN (b.take 4) : Nat) : Int))) (.int .i64 ((b.length : Int) - 8)) rfl rfl rfl (by first | (rw [cM]; rfl) | simp [cM]) rfl rfl rfl (fun W_ hW_ F_ => by simp [go_sem, sEv, sLook, nbeq, i64_w, -List.length_flatten]; exact wrap_id (by omega) (by omega)) ?_
        refine t_gis (c := decide (16376 < ((valN (b.take 4) : Nat) : Int))) (.bool (decide (((b.length : Int) - 8) < ((valN (b.take 4) : Nat) : Int)))) rfl rfl rfl (by first | (rw [cM]; rfl) | simp [cM]) rfl rfl rfl (fun W_ hW_ F_ => by simp [go_sem, sEv, sLook, nbeq, i64_w, -List.length_flatten]) ?_
        refine t_is (.bool (decide (((b.length : Int) - 8) < ((valN (b.take 4) : Nat) : Int)))) rfl rfl rfl rfl (fun W_ hW_ F_ => by first | (simp [go_sem, sEv, sLook, nbeq, i64_w, -List.length_flatten, cM]; done) | (simp [go_sem, sEv, sLook, nbeq, i64_w, -List.length_flatten] <;> omega) | (simp [go_sem, sEv, sLook, nbeq, i64_w, -List.length_flatten]; intro h_; exact absurd (by omega) h_) | (rw [cM]; simp [go_sem, sEv, sLook, nbeq, i64_w, -List.length_flatten]; done)) ?_
        refine t_is (.bool (decide (((b.length : Int) - 8) < ((valN (b.take 4) : Nat) : Int)))) rfl rfl rfl rfl (fun W_ hW_ F_ => rfl) ?_
        refine t_off (c := decide (((b.length : Int) - 8) < ((valN (b.take 4) : Nat) : Int))) rfl rfl rfl (by first | (rw [cL]; rfl) | simp [cL]) rfl rfl ?_
        refine t_off (c := decide (((b.length : Int) - 8) < ((valN (b.take 4) : Nat) : Int))) rfl rfl rfl (by first | (rw [cL]; rfl) | simp [cL]) rfl rfl ?_
        refine t_off (c := decide (((b.length : Int) - 8) < ((valN (b.take 4) : Nat) : Int))) rfl rfl rfl (by first | (rw [cL]; rfl) | simp [cL]) rfl rfl ?_
        refine t_off (c := decide (((b.length : Int) - 8) < ((valN (b.take 4) : Nat) : Int))) rfl rfl rfl (by first | (rw [cL]; rfl) | simp [cL]) rfl rfl ?_
        refine t_off (c := decide (((b.length : Int) - 8) < ((valN (b.take 4) : Nat) : Int))) rfl rfl rfl (by first | (rw [cL]; rfl) | simp [cL]) rfl rfl ?_
        refine t_off (c := decide (((b.length : Int) - 8) < ((valN (b.take 4) : Nat) : Int))) rfl rfl rfl (by first | (rw [cL]; rfl) | simp [cL]) rfl rfl ?_
        refine t_off (c := decide (((b.length : Int) - 8) < ((valN (b.take 4) : Nat) : Int))) rfl rfl rfl (by first | (rw [cL]; rfl) | simp [cL]) rfl rfl ?_
        refine t_off (c := decide (((b.length : Int) - 8) < ((valN (b.take 4) : Nat) : Int))) rfl rfl rfl (by first | (rw [cL]; rfl) | simp [cL]) rfl rfl ?_
        refine t_off (c := decide (((b.length : Int) - 8) < ((valN (b.take 4) : Nat) : Int))) rfl rfl rfl (by first | (rw [cL]; rfl) | simp [cL]) rfl rfl ?_
        refine t_off (c := decide (((b.length : Int) - 8) < ((valN (b.take 4) : Nat) : Int))) rfl rfl rfl (by first | (rw [cL]; rfl) | simp [cL]) rfl rfl ?_
        refine t_off (c := decide (((b.length : Int) - 8) < ((valN (b.take 4) : Nat) : Int))) rfl rfl rfl (by first | (rw [cL]; rfl) | simp [cL]) rfl rfl ?_
        refine t_is (.bool true) rfl rfl rfl rfl (fun W_ hW_ F_ => by first | (simp [go_sem, sEv, sLook, nbeq, i64_w, -List.length_flatten, cL]; done) | (simp [go_sem, sEv, sLook, nbeq, i64_w, -List.length_flatten] <;> omega) | (simp [go_sem, sEv, sLook, nbeq, i64_w, -List.length_flatten]; intro h_; exact absurd (by omega) h_) | (rw [cL]; simp [go_sem, sEv, sLook, nbeq, i64_w, -List.length_flatten]; done)) ?_
        refine t_end ?_
        intro w15 hb16_ F17
        have hb16 := below_of_drew hb16_
        have hs_w15 := hb16.size
        refine w_weaken (G' := [(2, .int .i64 0), (3, .int .i64 ((valN (b.take 4) : Nat) : Int)), (32, .bool true)]) ⟨rfl, rfl, rfl, trivial⟩ ?_
        refine w_cond_t rfl rfl rfl ?_
        refine w_seq ?_
        refine w_region ?_
        refine rw_val (v := .int .i64 0) (w' := w15) rfl rfl rfl rfl rfl ?_
        refine rw_end ?_
        refine w_ret (post_ret1 rfl rfl ?_)
        have e_ : wholeP b = 0 := by
          unfold wholeP
          have c8_ := of_decide_eq_false c8
          rw [if_neg (by omega)]
          have cM_ := of_decide_eq_false cM
          rw [if_neg (by omega)]
          have cL_ := of_decide_eq_true cL
          rw [if_pos (by omega)]
        exact ⟨by rw [e_]; rfl, (chain hb4 hb16)⟩
    · refine w_draw (M := [0, 1, 3, 7, 7, 23, 55, 127, 255, 511, 1023, 1023, 3071, 8191, 16383, 32767, 65535, 1023, 132095, 458751, 1048575, 2097151]) (ss := [Is (.int .i64 ((valN (b.take 4) : Nat) : Int)), Is (.bool (decide (16376 < ((valN (b.take 4) : Nat) : Int)))), Is (.bool (decide (16376 < ((valN (b.take 4) : Nat) : Int)))), Is undef, Is undef, Is undef, Is undef, Is undef, Is (.bool true), Is (.bool true), Is undef, Is undef, Is undef, Is undef, Is undef, Is undef, Is undef, Is undef, Is undef, Is undef, Is undef, Is (.bool true)]) rfl (by decide +kernel) ?_
      refine t_is (.int .i64 ((valN (b.take 4) : Nat) : Int)) rfl rfl rfl rfl (fun W_ hW_ F_ => rfl) ?_
      refine t_is (.bool (decide (16376 < ((valN (b.take 4) : Nat) : Int)))) rfl rfl rfl rfl (fun W_ hW_ F_ => by simp [go_sem, sEv, sLook, nbeq, i64_w, -List.length_flatten]) ?_
      refine t_is (.bool (decide (16376 < ((valN (b.take 4) : Nat) : Int)))) rfl rfl rfl rfl (fun W_ hW_ F_ => rfl) ?_
      refine t_off (c := decide (16376 < ((valN (b.take 4) : Nat) : Int))) rfl rfl rfl (by first | (rw [cM]; rfl) | simp [cM]) rfl rfl ?_
      refine t_off (c := decide (16376 < ((valN (b.take 4) : Nat) : Int))) rfl rfl rfl (by first | (rw [cM]; rfl) | simp [cM]) rfl rfl ?_
      refine t_off (c := decide (16376 < ((valN (b.take 4) : Nat) : Int))) rfl rfl rfl (by first | (rw [cM]; rfl) | simp [cM]) rfl rfl ?_
      refine t_off (c := decide (16376 < ((valN (b.take 4) : Nat) : Int))) rfl rfl rfl (by first | (rw [cM]; rfl) | simp [cM]) rfl rfl ?_
      refine t_off (c := decide (16376 < ((valN (b.take 4) : Nat) : Int))) rfl rfl rfl (by first | (rw [cM]; rfl) | simp [cM]) rfl rfl ?_
      refine t_is (.bool true) rfl rfl rfl rfl (fun W_ hW_ F_ => by first | (simp [go_sem, sEv, sLook, nbeq, i64_w, -List.length_flatten, cM]; done) | (simp [go_sem, sEv, sLook, nbeq, i64_w, -List.length_flatten] <;> omega) | (simp [go_sem, sEv, sLook, nbeq, i64_w, -List.length_flatten]; intro h_; exact absurd (by omega) h_) | (rw [cM]; simp [go_sem, sEv, sLook, nbeq, i64_w, -List.length_flatten]; done)) ?_
      refine t_is (.bool true) rfl rfl rfl rfl (fun W_ hW_ F_ => rfl) ?_
      refine t_off (c := true) rfl rfl rfl rfl rfl rfl ?_
      refine t_off (c := true) rfl rfl rfl rfl rfl rfl ?_
      refine t_off (c := true) rfl rfl rfl rfl rfl rfl ?_
      refine t_off (c := true) rfl rfl rfl rfl rfl rfl ?_
      refine t_off (c := true) rfl rfl rfl rfl rfl rfl ?_
      refine t_off (c := true) rfl rfl rfl rfl rfl rfl ?_
      refine t_off (c := true) rfl rfl rfl rfl rfl rfl ?_
      refine t_off (c := true) rfl rfl rfl rfl rfl rfl ?_
      refine t_off (c := true) rfl rfl rfl rfl rfl rfl ?_
      refine t_off (c := true) rfl rfl rfl rfl rfl rfl ?_
      refine t_off (c := true) rfl rfl rfl rfl rfl rfl ?_
      refine t_is (.bool true) rfl rfl rfl rfl (fun W_ hW_ F_ => by simp [go_sem, sEv, sLook, nbeq, i64_w, -List.length_flatten]) ?_
      refine t_end ?_
      intro w18 hb19_ F20
      have hb19 := below_of_drew hb19_
      have hs_w18 := hb19.size
      refine w_weaken (G' := [(2, .int .i64 0), (3, .int .i64 ((valN (b.take 4) : Nat) : Int)), (32, .bool true)]) ⟨rfl, rfl, rfl, trivial⟩ ?_
      refine w_cond_t rfl rfl rfl ?_
      refine w_seq ?_
      refine w_region ?_
      refine rw_val (v := .int .i64 0) (w' := w18) rfl rfl rfl rfl rfl ?_
      refine rw_end ?_
      refine w_ret (post_ret1 rfl rfl ?_)
      have e_ : wholeP b = 0 := by
        unfold wholeP
        have c8_ := of_decide_eq_false c8
        rw [if_neg (by omega)]
        have cM_ := of_decide_eq_true cM
        rw [if_pos (by omega)]
      exact ⟨by rw [e_]; rfl, (chain hb4 hb19)⟩
end Go.Proofs.Ytiiljpaedelhlaa.PDiaryPlays
namespace Go.Proofs.Ytiiljpaedelhlaa.PDiaryPlays
open Go.RowKit Go.Proofs.YtiiljpaedelhlaaW.PrintWords Go.Proofs.YtiiljpaedelhlaaW.PrintLast Go.Proofs.YtiiljpaedelhlaaW.PrintMore
open Go.Proofs.Ytiiljpaedelhlaa.Flow
set_option linter.unusedVariables false
set_option linter.unusedSimpArgs false
end Go.Proofs.Ytiiljpaedelhlaa.PDiaryPlays
end
section
namespace Go.Proofs.Ytiiljpaedelhlaa.Flow
open Go.RowKit Go.Proofs.YtiiljpaedelhlaaW.PrintWords Go.Proofs.YtiiljpaedelhlaaW.PrintLast Go.Proofs.YtiiljpaedelhlaaW.PrintMore
set_option linter.unusedVariables false
set_option linter.unusedSimpArgs false
set_option linter.unusedSectionVars false
def OwnK {α : Type} (d : Kd α) (e : TypeId) (w : World) (base b : Nat) (A : Option Addr) (n c : Nat) (xs : List α) : Prop := d.R e w base (fun q => b ≤ q) (.slice A n c) xs
section
variable {α : Type} {d : Kd α} {e : TypeId} {w w' w1 : World} {base b : Nat} {A : Option Addr} {n c : Nat} {xs : List α}
theorem OwnK.len (h : OwnK d e w base b A n c xs) : n = xs.length := (Kd.R_reads' h).1
theorem OwnK.cap (h : OwnK d e w base b A n c xs) : n ≤ c := (Kd.R_reads' h).2.1
theorem OwnK.C (h : OwnK d e w base b A n c xs) : d.C w A xs.length xs := (Kd.R_reads' h).2.2
theorem OwnK.Cn (h : OwnK d e w base b A n c xs) : d.C w A n xs := by rw [h.len]; exact h.C
theorem OwnK.on (h : OwnK d e w base b A n c xs) (hb : Below w.heap.size w w') : OwnK d e w' base b A n c xs := Kd.R_below h hb
theorem OwnK.mono {b' : Nat} (h : OwnK d e w base b A n c xs) (hb : b' ≤ b) : OwnK d e w base b' A n c xs := Kd.R_mono h (fun q hq => Nat.le_trans hb hq)
theorem OwnK.lower {base' : Nat} (h : OwnK d e w base b A n c xs) (hb : base' ≤ base) : OwnK d e w base' b A n c xs := Kd.R_lower h hb
theorem OwnK.nil (d : Kd α) (e : TypeId) (w : World) (base b : Nat) : OwnK d e w base b none 0 0 [] := Kd.R_nil _ _ _ _ _
theorem OwnK.step (h : OwnK d e w base b A n c xs) (hk : ∀ q, b ≤ q → q < w.heap.size → w'.heap[q]? = w.heap[q]?) : OwnK d e w' base b A n c xs := Kd.R_step h hk
theorem OwnK.blk_ge {q : Nat} (h : OwnK d e w base b A n c xs) (hq : (Value.slice A n c).ownBlock = some q) : b ≤ q := h.1 q hq
theorem OwnK.blk_grown {g : Nat} {t : TypeId} {cs : Array Value} (hb : Blk w g t cs) (ho : OwnK d e w base b A n c xs) (hg : g < b ∨ e ≠ t) (hG : w.grownBy w' (Value.slice A n c).ownBlock) : Blk w' g t cs := by
  refine (hG.block g hb.lt (fun he => ?_)).trans hb
  rcases hg with hg | hg
  · have := ho.blk_ge he.symm; omega
  · obtain ⟨_, inner, hown, _⟩ := ho
    obtain ⟨cells2, hc2⟩ := own_typed hown g he.symm
    have hb' : w.heap[g]? = some (.cells cs t (0, 0)) := hb
    rw [hc2] at hb'
    injection hb' with hb'
    injection hb' with _ hb'
    exact hg hb'
end
def flat {α : Type} (sz : Nat) (enc : α → List Value) (hl : ∀ x, (enc x).length = sz) (h1 : ∀ x, ∀ u ∈ enc x, u.oneCell' = true) : Kd α where
  sz := sz
  E := []
  K := fun _ x cs => cs = enc x
  M := fun _ _ _ x cs => cs = enc x
  K_len := fun h => by rw [h]; exact hl _
  K_one := fun h u hu => by rw [h] at hu; exact h1 _ u hu
  K_below := fun _ h => h
  K_of_M := fun h => h
  M_mono := fun _ h => h
  M_bound := fun h => h
  M_move := fun _ h => h
  M_lower := fun _ h => h
section
variable {α : Type} {sz : Nat} {enc : α → List Value} {hl1 : ∀ x, (enc x).length = sz} {h1 : ∀ x, ∀ u ∈ enc x, u.oneCell' = true}
theorem flat_at {w : World} {A : Option Addr} {n : Nat} {xs : List α} (h : (flat sz enc hl1 h1).C w A n xs) (z : α) (i : Nat) (hi : i < n) : ∃ ad, A = some ad ∧ ∀ j u, (enc (xs.getD i z))[j]? = some u → w.cell? (ad.add (i * sz + j)) = some u := by
  obtain ⟨ad, c, h1, h2, h3, h4⟩ := Kd.C_get h z (i : Int) (by omega) (by omega)
  have h5 : c = enc (xs.getD ((i : Int)).toNat z) := h3
  subst h5
  exact ⟨ad, h1, h4⟩
end
section
variable {P : Program} {cx : Cx} {n : Nat} {Q : Exit → Act → World → Prop} {st : List Itm} {G : Env} {w : World} {ops : Array Oper} {o : Oper} {rest : List Oper}
end
def OwnKSpec {α : Type} (d : Kd α) (e : TypeId) (base b : Nat) (xs : List α) : Spec where
  s := fun v w => ∃ A c, v = .slice A xs.length c ∧ OwnK d e w base b A xs.length c xs
  pl := fun v => ∃ A c, v = .slice A xs.length c ∧ xs.length ≤ c
  stab := fun v w w' hb ⟨A, c, h1, h2⟩ => ⟨A, c, h1, h2.on hb⟩
  imp := fun v w ⟨A, c, h1, h2⟩ => ⟨A, c, h1, h2.cap⟩
  inh := ⟨.slice none xs.length xs.length, none, xs.length, rfl, Nat.le_refl _⟩
theorem ownk_fact {α : Type} {d : Kd α} {e : TypeId} {base b : Nat} {xs : List α} {A : Option Addr} {n c : Nat} {w : World} (h : (OwnKSpec d e base b xs).s (.slice A n c) w) : OwnK d e w base b A n c xs := by
  obtain ⟨A', c', he, h2⟩ := h
  injection he with h3 h4 h5
  subst h3 h4 h5
  exact h2
section
variable {P : Program} {w : World} {ad : Addr} {v : Value}
theorem cell_0 {k : Nat} (h : w.cell? (ad.add (k + 0)) = some v) : w.cell? (ad.add k) = some v := h
theorem cell_j {k j : Nat} (h : w.cell? (ad.add (k + (j + 1))) = some v) : w.cell? ⟨(ad.add k).block, (ad.add k).off + (j + 1), none⟩ = some v := by
  have e1 : ad.add (k + (j + 1)) = ⟨(ad.add k).block, (ad.add k).off + (j + 1), none⟩ := by
    unfold Addr.add
    rw [if_neg (by omega)]
    by_cases hk : k = 0
    · subst hk; simp
    · rw [if_neg hk]; simp; omega
  rw [← e1]
  exact h
theorem cell_g {g k i : Nat} (h : w.cell? ((⟨g, 0, none⟩ : Addr).add k) = some v) (hk : k = i := by simp) : w.cell? ⟨g, i, none⟩ = some v := by
  subst hk
  rwa [add_plain] at h
theorem run_at_k {t : TypeId} (e : TypeId) {sz : Nat} (ht : P.underlying t = some (.slice e)) (hi : (P.info? e).map (·.size) = some sz) (k : Nat) {n c : Nat} {ik : IntKind} (hk : k < n) (w : World) : (Instr.indexAt t (.slice (some ad) n c) (.int ik ((k : Nat) : Int))).run P w = .ok (.pointer (some (ad.add (k * sz)))) w := by
  obtain ⟨i0, hj, hs⟩ := Option.map_eq_some_iff.1 hi
  have h1 : ((k : Nat) : Int) < (n : Int) := by omega
  subst hs
  simp only [Instr.indexAt, asIntOf, Sem.run_bind, Sem.run_pure, Result.andThen_ok, run_underlying ht]
  rw [if_pos ⟨by omega, h1⟩]
  have h2 : (Go.sizeOf e).run P w = .ok i0.size w := by simp [Go.sizeOf, Go.typeInfo, hj]
  simp only [Sem.run_bind, h2, Result.andThen_ok, Sem.run_pure, Int.toNat_natCast]
theorem run_at_1 {t : TypeId} (e : TypeId) (ht : P.underlying t = some (.slice e)) (hi : (P.info? e).map (·.size) = some 1) (k : Nat) {n c : Nat} {ik : IntKind} (hk : k < n) (w : World) : (Instr.indexAt t (.slice (some ad) n c) (.int ik ((k : Nat) : Int))).run P w = .ok (.pointer (some (ad.add k))) w := by
  have h := run_at_k (ad := ad) (c := c) (ik := ik) e ht hi k hk w
  rwa [Nat.mul_one] at h
theorem run_at_z {t : TypeId} (e : TypeId) {sz : Nat} (ht : P.underlying t = some (.slice e)) (hi : (P.info? e).map (·.size) = some sz) {n c : Nat} {ik : IntKind} (hk : 0 < n) (w : World) : (Instr.indexAt t (.slice (some ad) n c) (.int ik 0)).run P w = .ok (.pointer (some ad)) w := by
  have h := run_at_k (ad := ad) (c := c) (ik := ik) e ht hi 0 hk w
  simpa [Addr.add] using h
end
theorem str_el {w : World} {A : Option Addr} {n : Nat} {xs : List ByteArray} (h : Kd.string.C w A n xs) (z : ByteArray) (i : Nat) (hi : i < n) : ∃ ad, A = some ad ∧ ∀ j u, [Value.string (xs.getD i z)][j]? = some u → w.cell? (ad.add (i + j)) = some u := by
  obtain ⟨ad, c, h1, h2, h3, h4⟩ := Kd.C_get h z (i : Int) (by omega) (by omega)
  have h5 : c = [Value.string (xs.getD ((i : Int)).toNat z)] := h3
  subst h5
  refine ⟨ad, h1, fun j u hu => ?_⟩
  have h6 := h4 j u hu
  have e1 : ((i : Int)).toNat * Kd.string.sz + j = i + j := by show ((i : Int)).toNat * 1 + j = i + j; omega
  rw [e1] at h6
  exact h6
section
variable {α : Type} {enc : α → Value} {h1 : ∀ x, (enc x).oneCell' = true}
theorem scal_own {w : World} {g cap : Nat} {e : TypeId} {cs : Array Value} {xs : List α} (base : Nat) (hb : Blk w g e cs) (hbase : base ≤ g) (hc : cs.toList = xs.map enc) (hcap : xs.length = cap) (hm : xs.length ≤ 9223372036854775807) : OwnK (Kd.scalar enc h1) e w base g (some ⟨g, 0, none⟩) xs.length cap xs := by
  have hcs : cs.size = xs.length := by rw [← Array.length_toList, hc, List.length_map]
  refine Kd.R_of_own ⟨by simp [encs], Or.inr ⟨g, cap, cs, rfl, hbase, hb, by omega, by subst hcap; exact hm, by omega, ?_⟩⟩ (fun q hq => ?_)
  · rw [hc, Nat.mul_one, List.take_of_length_le (by simp)]
    rfl
  · simp only [Value.ownBlock, Option.some.injEq] at hq
    omega
end
section
variable {P : Program} {cx : Cx} {n : Nat} {Q : Exit → Act → World → Prop} {st : List Itm} {G : Env} {w : World} {ops : Array Oper} {o : Oper} {rest : List Oper}
end
section
variable {α : Type} {d : Kd α} {e : TypeId} {w : World} {base b : Nat} {A : Option Addr} {n c : Nat} {xs ys : List α}
theorem lit_nilK {g : Nat} (d : Kd α) (base : Nat) (hb : Blk w g e #[]) (hbase : base ≤ g) : OwnK d e w base g (some ⟨g, 0, none⟩) 0 0 [] :=
  ⟨fun q hq => by simp only [Value.ownBlock, Option.some.injEq] at hq; omega, [], ⟨by rw [List.length_nil, List.length_nil, Nat.zero_mul], Or.inr ⟨g, 0, #[], rfl, hbase, hb, Nat.le_refl _, Nat.zero_le _, by rw [Nat.zero_mul]; rfl, by rw [List.length_nil, Nat.zero_mul]; rfl⟩⟩, Reps.none _ _⟩
end
section
variable {P : Program} {t e : TypeId} {A : Option Addr} {n c sz : Nat}
theorem sl_to (hu : P.underlying t = some (.slice e)) (hz : ∀ w, (sizeOf e).run P w = .ok sz w) (hi : Nat) (y : Int) (hy : y = (hi : Int)) (hc : hi ≤ c) (w : World) :
    (Instr.sliceAt t (.slice A n c) none (some (.int .i64 y)) none).run P w = .ok (.slice A hi c) w := by
  subst hy
  have h3 : (hi : Int) ≤ (c : Int) := by omega
  simp [go_sem, hu, h3, hz]
end
section
variable {P : Program} {cx : Cx} {n : Nat} {Q : Exit → Act → World → Prop} {st : List Itm} {G : Env} {w : World} {ops : Array Oper} {o : Oper} {rest : List Oper}
theorem rw_append_kd {α : Type} {d : Kd α} {dst : Nat} {w0 : World} (base : Nat) (hg : o.guard = none) (hd : o.dst = some dst) (hdn : Nat.blt dst n = true) (s x : Operand) (hks : knownO G s = true) (hkx : knownO G x = true) (t e : TypeId) (z : Value) (bytes : Nat)
    (ho : o.op = .call { callee := .builtin .append, args := #[s, x], argTypes := #[t, t] }) (ht : P.underlying t = some (.slice e)) (hinfo : (P.info? e).map (fun i => (i.zero, i.size, i.bytes)) = some (some z, d.sz, bytes)) (hz : z.cells.size = d.sz) (hs0 : 0 < d.sz) (hb0 : 0 < bytes) (hKM : ∀ x cs, d.K w x cs → d.M w base (fun _ => False) x cs)
    {xs ys : List α} {A A2 : Option Addr} {m c m2 c2 b : Nat} (hs : sEv G s = .slice A m c) (hx : sEv G x = .slice A2 m2 c2) (hb : b ≤ w.heap.size)
    (HO : OwnK d e w base b A m c xs) (HR : d.C w A2 m2 ys) (HB : Below base w0 w) (hbase : base ≤ w.heap.size) (hl : (xs.length + m2) * bytes ≤ 140737488355328)
    (kk : ∀ A' c' w', OwnK d e w' base b A' (xs ++ ys).length c' (xs ++ ys) → Below base w0 w' → w.grownBy w' (Value.slice A m c).ownBlock → RW P ops cx n Q rest ((dst, .slice A' (xs ++ ys).length c') :: G) w') : RW P ops cx n Q (o :: rest) G w := fun a ha =>
  Kd.R_append_rows d (Rr := d.K w) base hg s x t e z bytes ho ht hinfo hz hs0 hb0 _ xs ys A2 m2 c2 (fun q => b ≤ q) (fun _ => False) ((eval_known ha hks).trans hs) ((eval_known ha hkx).trans hx) HO HR hKM (fun _ h => h.elim) (fun q hq => Nat.le_trans hb hq) HB hbase hl
    (fun v1 w1 h1 h2 h3 _ => by
      obtain ⟨A', c', rfl, _, _⟩ := Kd.R_reads h1
      rw [hd]
      exact kk A' c' w1 h1 h2 h3 _ (ha.put hdn _))
end
section
variable {α : Type} {d : Kd α} {e : TypeId} {w : World} {base b : Nat} {A : Option Addr} {n c : Nat} {xs : List α}
theorem OwnK.full (h : OwnK d e w base b A n c xs) : OwnK d e w base b A xs.length c xs := by
  have h1 := h.len
  subst h1
  exact h
theorem OwnK.adr (h : OwnK d e w base b A n c xs) (hn : 0 < n) : ∃ g, A = some ⟨g, 0, none⟩ := by
  have hl := h.len
  obtain ⟨_, inner, hown, _⟩ := h
  rcases hown.2 with ⟨hv, h2⟩ | ⟨g, cap, cur, hv, _⟩
  · omega
  · injection hv with h1 _ _
    exact ⟨g, h1⟩
end
section
variable {P : Program} {cx : Cx} {n : Nat} {Q : Exit → Act → World → Prop} {st : List Itm} {G : Env} {w : World} {ops : Array Oper} {o : Oper} {rest : List Oper}
end
section
variable {P : Program} {cx : Cx} {n : Nat} {Q : Exit → Act → World → Prop} {st : List Itm} {G : Env} {w : World} {ops : Array Oper} {o : Oper} {rest : List Oper}
end
theorem rows_at {α : Type} {d : Kd α} {e : TypeId} {w : World} {A : Option Addr} {n : Nat} {xss : List (List α)} (h : (Kd.slice e d).C w A n xss) (i : Nat) (hi : i < n) : ∃ ad A0 c0, A = some ad ∧ w.cell? (ad.add i) = some (.slice A0 (xss.getD i []).length c0) ∧ (xss.getD i []).length ≤ c0 ∧ d.C w A0 (xss.getD i []).length (xss.getD i []) := by
  obtain ⟨ad, c, h1, h2, ⟨A0, c0, h3, h4, h5⟩, h6⟩ := Kd.C_get h [] (i : Int) (by omega) (by omega)
  subst h3
  have h7 := h6 0 _ rfl
  have e1 : ((i : Int)).toNat * (Kd.slice e d).sz + 0 = i := by show ((i : Int)).toNat * 1 + 0 = i; omega
  rw [e1] at h7
  exact ⟨ad, A0, c0, h1, h7, h4, h5⟩
theorem getD_mem {α : Type} (xs : List α) (i : Nat) (z : α) (h : i < xs.length) : xs.getD i z ∈ xs := by
  rw [List.getD_eq_getElem?_getD, List.getElem?_eq_getElem h]
  exact List.getElem_mem h
end Go.Proofs.Ytiiljpaedelhlaa.Flow
end
section
namespace Go.Proofs.Ytiiljpaedelhlaa.Flow
open Go.RowKit Go.Proofs.YtiiljpaedelhlaaW.PrintWords Go.Proofs.YtiiljpaedelhlaaW.PrintLast Go.Proofs.YtiiljpaedelhlaaW.PrintMore
open Go.ChangeShapes Go.WideShapes Go.ChangeAt Go.Deep
set_option linter.unusedVariables false
set_option linter.unusedSimpArgs false
section
variable {H : Type} {enc : TypeId × Value → H} {P : Program} {W : World}
def Opn (enc : TypeId × Value → H) (P : Program) (W : World) {α : Type} (t : TypeId) (d : Kd α) (ok : α → Prop) : Prop :=
  ∀ (m : Nat) (cs : List Value) (y : DataW H × List MemPlace), DataW.trod enc P W 0 (fun _ => true) true m t cs = some y → ∃ x, d.K W x cs ∧ ok x
theorem opn_int {t : TypeId} {k : IntKind} (hu : P.underlying t = some (.int k)) : Opn enc P W t (Kd.int k) (fun x => (Lit.int k x).wf = true) := fun m cs y h => by
  obtain ⟨x, hx, _, hw⟩ := DataW.trod_int hu h
  exact ⟨x, hx, hw⟩
theorem split_at (cs : List Value) (a s : Nat) : cs.drop a = (cs.drop a).take s ++ cs.drop (a + s) := by
  rw [← List.drop_drop]
  exact (List.take_append_drop s _).symm
theorem take_all (cs : List Value) (a s : Nat) (h : cs.length = a + s) : (cs.drop a).take s = cs.drop a := List.take_of_length_le (by rw [List.length_drop]; omega)
def OpnAt (enc : TypeId × Value → H) (P : Program) (W : World) {α : Type} (cs : List Value) (a : Nat) (d : Kd α) (ok : α → Prop) : Prop := ∃ x, d.K W x (cs.drop a) ∧ ok x
end
end Go.Proofs.Ytiiljpaedelhlaa.Flow
end
section
namespace Go.Proofs.Ytiiljpaedelhlaa.Tp
open Go.RowKit Go.Proofs.YtiiljpaedelhlaaW.PrintWords Go.Proofs.YtiiljpaedelhlaaW.PrintLast Go.Proofs.YtiiljpaedelhlaaW.PrintMore
open Go.Proofs.Ytiiljpaedelhlaa.Flow
open Go.Proofs.Ytiiljpaedelhlaa.PDiaryPlays (SplitR Bytes frameB frameE FC wholeP errW wrap_calls frameB_len frameB_bytes)
set_option linter.unusedVariables false
set_option linter.unusedSimpArgs false
theorem errW_T (o : Option Int) : errW o = errT o := by cases o <;> rfl
theorem run_err_eq0 (o : Option Int) (w : World) : (binOp .eql 29 (errT o) .nilIface).run Try.prog w = .ok (.bool o.isNone) w := by
  cases o with
  | none => kernel_rfl
  | some c => kernel_rfl
theorem guard_err_eq0 (t : Nat) (o : Option Int) (w : World) : (do eqGuard .eql 29 (.tmp t) (.const .nilIface) (errT o) .nilIface; binOp .eql 29 (errT o) .nilIface : Sem Value).run Try.prog w = .ok (.bool o.isNone) w := by
  have h := run_err_eq0 o w
  cases o with
  | none => simpa [eqGuard, errT] using h
  | some c => simpa [eqGuard, errT] using h
theorem crash_T (w0 w : World) (g m : Nat) (x : Nat → Prop) (hx : ∀ q, x q → q < w.heap.size) (s : TS) (hT : TapeAt w0 w g m x s) (hok : s.Ok) (k : Int) : Calls Try.prog 22 #[.pointer (some ⟨g, 0, none⟩), .int .i64 k] w fun e w' => e = .returned (.tuple #[]) ∧ TapeAt w0 w' g w'.heap.size x (s.crash k) ∧ w.heap.size ≤ w'.heap.size ∧ (∀ q, x q → q ≠ g → w'.heap[q]? = w.heap[q]?) := by
  obtain ⟨hB, hg0, hm, A, n, c, hb, hR⟩ := hT
  exact crash_raw w0 w g m x hx s A n c hB hg0 hm hb hR hok k
theorem TapeAt.hole {w0 w : World} {g m : Nat} {x : Nat → Prop} {s : TS} (h : TapeAt w0 w g m x s) (y : Nat → Prop) (hy : ∀ q, g < q → q < m → ¬ x q → ¬ y q) : TapeAt w0 w g m y s := by
  obtain ⟨h1, h2, h3, A, n, c, h4, h5⟩ := h
  exact ⟨h1, h2, h3, A, n, c, h4, BR.mono h5 (fun q hq => ⟨hq.1, hq.2.1, hy q hq.1 hq.2.1 hq.2.2⟩)⟩
def HX (gd : Nat) (x : Nat → Prop) : Nat → Prop := fun q => q = gd ∨ x q
theorem HX.lt {gd n : Nat} {x : Nat → Prop} (h1 : gd < n) (h2 : ∀ q, x q → q < n) : ∀ q, HX gd x q → q < n := fun q h => h.elim (fun e => e ▸ h1) (h2 q)
theorem TapeAt.holeX {w0 w : World} {g m : Nat} {x : Nat → Prop} {s : TS} (h : TapeAt w0 w g m x s) {gd : Nat} (hgd : m ≤ gd) : TapeAt w0 w g m (HX gd x) s := h.hole _ (fun q h1 h2 h3 h4 => h4.elim (fun e => by omega) h3)
theorem TapeAt.beside {w0 w w' : World} {g m z : Nat} {x : Nat → Prop} {s : TS} (h : TapeAt w0 w g m x s) (k : Keep z w w') (hxz : x z) (hxg : z ≠ g) (hx : w0.heap.size ≤ z) : TapeAt w0 w' g m x s := by
  obtain ⟨h1, h2, h3, A, n, c, h4, h5⟩ := h
  exact ⟨k.below hx h1, h2, ⟨h3.1, by rw [k.size]; exact h3.2⟩, A, n, c, h4.keep k (Ne.symm hxg), BR.step h5 (fun q hq _ => k.block q (fun e => hq.2.2 (e ▸ hxz)))⟩
theorem TapeAt.size {w0 w : World} {g m : Nat} {x : Nat → Prop} {s : TS} (h : TapeAt w0 w g m x s) : w0.heap.size ≤ g ∧ g < m ∧ m ≤ w.heap.size := ⟨h.2.1, h.2.2.1.1, h.2.2.1.2⟩
theorem ownK_kept {α : Type} {d : Kd α} {e : TypeId} {w : World} {base b : Nat} {A : Option Addr} {n c : Nat} {xs : List α} {S : Nat → Prop} (h : OwnK d e w base b A n c xs) (hS : ∀ q, b ≤ q → ¬ S q) : ∀ W_, Kept w W_ S → d.C W_ A xs.length xs := fun W_ hk => OwnK.C (h.step (fun q hq hlt => hk.2 q hlt (hS q hq)) : OwnK d e W_ base b A n c xs)
theorem Blk.keptT {w w' : World} {g t : Nat} {cs : Array Value} {S : Nat → Prop} (h : Blk w g t cs) (hk : Kept w w' S) (hS : ¬ S g) : Blk w' g t cs := (hk.2 g h.lt hS).trans h
theorem rowsK1 {k : IntKind} {e t : TypeId} {w : World} {g : Nat} {A1 : Option Addr} {c1 : Nat} {x1 : List Int} {S : Nat → Prop} (hb : Blk w g t #[.slice A1 x1.length c1]) (hS : ¬ S g) (h1 : x1.length ≤ c1) (f1 : ∀ W_, Kept w W_ S → (Kd.int k).C W_ A1 x1.length x1) : ∀ W_, Kept w W_ S → (Kd.slice e (Kd.int k)).C W_ (some ⟨g, 0, none⟩) [x1].length [x1] := fun W_ hk => rows1 (Blk.keptT hb hk hS) h1 (f1 W_ hk)
structure DS where
  s : TS
  r : Int
  b : Int
def dcells (g : Nat) (r b : Int) : Array Value := #[.pointer (some ⟨g, 0, none⟩), .int .i64 r, .int .i64 b]
def DiaryAt (w0 w : World) (g gd m : Nat) (x : Nat → Prop) (D : DS) : Prop := TapeAt w0 w g m x D.s ∧ Blk w gd 80 (dcells g D.r D.b) ∧ gd ≠ g ∧ w0.heap.size ≤ gd ∧ x gd
def DS.add1E (D : DS) (row : List Int) : Option Int := if (D.s.appE (frameB row)).isNone then (D.s.app (frameB row)).err else D.s.appE (frameB row)
def DS.add1S (D : DS) (row : List Int) : TS := if (D.s.appE (frameB row)).isNone then (D.s.app (frameB row)).sync else D.s.app (frameB row)
def DS.addE (D : DS) (row : List Int) : Option Int := if (frameE row).isSome then frameE row else D.add1E row
def DS.add (D : DS) (row : List Int) : DS := if (frameE row).isSome then D else if (D.add1E row).isSome then { D with s := (D.add1S row).cut } else ⟨D.add1S row, D.r + 1, D.b + ((frameB row).length : Int)⟩
def rwFull (rows : List (List Int)) : Bool := rows.any (fun r => decide (16376 < r.length)) || decide (1048576 < (FC rows).length)
def DS.rwE (D : DS) (rows : List (List Int)) : Option Int := if rwFull rows then some 7 else D.s.repE (FC rows)
def DS.rw (D : DS) (rows : List (List Int)) : DS := if rwFull rows then D else if (D.s.repE (FC rows)).isSome then { D with s := D.s.rep (FC rows) } else ⟨D.s.rep (FC rows), (rows.length : Int), ((FC rows).length : Int)⟩
def openE (s : TS) (n : Nat) : Option Int := if s.dn then some 5 else if n < s.xs.length then s.repE (s.xs.take n) else none
def openS (s : TS) (n : Nat) : TS := if s.dn then s else if n < s.xs.length then s.rep (s.xs.take n) else s
theorem wrap_one (w : World) (A0 : Option Addr) (c0 : Nat) (row : List Int) (hP : (Kd.slice 5 (Kd.int .u8)).C w A0 [row].length [row]) (hc0 : 1 ≤ c0) (hl : row.length ≤ 140737488355328) :
    Calls Try.prog 38 #[.slice A0 1 c0] w fun e w' => ∃ A' c', e = .returned (.tuple #[.slice A' (frameB row).length c', errT (frameE row)]) ∧ OwnK (Kd.int .u8) 5 w' w.heap.size w.heap.size A' (frameB row).length c' (frameB row) ∧ Below w.heap.size w w' := by
  have h := wrap_calls w A0 c0 [row] hP hc0 (by simp) (by simpa using hl)
  have e1 : ([row] : List (List Int)).flatten = row := by simp
  rw [e1, errW_T] at h
  refine h.mono fun e w' he => ?_
  obtain ⟨A', n', c', h1, h2, h3⟩ := he
  have h4 := h2.len
  subst h4
  exact ⟨A', c', h1, h2, h3⟩
end Go.Proofs.Ytiiljpaedelhlaa.Tp
end
section
namespace Go.Proofs.Ytiiljpaedelhlaa.Tp
open Go.RowKit Go.Proofs.YtiiljpaedelhlaaW.PrintWords Go.Proofs.YtiiljpaedelhlaaW.PrintLast Go.Proofs.YtiiljpaedelhlaaW.PrintMore
open Go.Proofs.Ytiiljpaedelhlaa.Flow
open Go.Proofs.Ytiiljpaedelhlaa.PDiaryPlays (SplitR Bytes frameB frameE FC wholeP errW wrap_calls frameB_len frameB_bytes)
set_option linter.unusedVariables false
set_option linter.unusedSimpArgs false
set_option maxHeartbeats 4000000 in
theorem len_B (w : World) (g gd : Nat) (r b : Int) (hb : Blk w gd 80 (dcells g r b)) :
    Calls Try.prog 15 #[.pointer (some ⟨gd, 0, none⟩)] w fun e w' => e = .returned (.int .i64 r) ∧ Below w.heap.size w w' := by
  refine calls_flow Try.func15 rfl 9 rfl (Nat.le_of_ble_eq_true rfl) [(0, .pointer (some ⟨gd, 0, none⟩))] ?_ ?_
  · intro t v h; exact args_look rfl t v h
  refine w_seq ?_
  refine w_region ?_
  refine rw_val (v := .int .i64 0) (w' := w) rfl rfl rfl rfl rfl ?_
  refine rw_end ?_
  refine w_seq ?_
  refine w_seq ?_
  refine w_region ?_
  refine rw_val (v := .pointer (some ⟨gd, 0, none⟩)) (w' := w) rfl rfl rfl rfl rfl ?_
  refine rw_val (v := .bool false) (w' := w) rfl rfl rfl rfl (run_as (run_ptr_eql (e := 80) (by kernel_rfl) _ _)) ?_
  refine rw_end ?_
  refine w_cond_f rfl rfl rfl ?_
  refine w_skip ?_
  refine w_seq ?_
  refine w_region ?_
  refine rw_val (v := .pointer (some ⟨gd, 0, none⟩)) (w' := w) rfl rfl rfl rfl rfl ?_
  refine rw_val (v := .pointer (some ⟨gd, 0, none⟩)) (w' := w) rfl rfl rfl rfl (by simp [go_sem, sEv, sLook, nbeq, i64_w, -List.getD_eq_getElem?_getD]) ?_
  refine rw_val (v := .pointer (some ⟨gd, 1, none⟩)) (w' := w) rfl rfl rfl rfl (by simp [go_sem, sEv, sLook, nbeq, i64_w, -List.getD_eq_getElem?_getD, Try.underlying80]) ?_
  refine rw_val (v := .int .i64 r) (w' := w) rfl rfl rfl rfl (by have eb_ := hb; have e0_ := eb_.cellv (i := 1) (v := (.int .i64 r : Value)) rfl; simp [go_sem, sEv, sLook, nbeq, i64_w, -List.getD_eq_getElem?_getD, e0_]) ?_
  refine rw_val (v := .int .i64 r) (w' := w) rfl rfl rfl rfl rfl ?_
  refine rw_end ?_
  refine w_weaken (G' := [(2, .int .i64 r)]) ⟨rfl, trivial⟩ ?_
  refine w_ret (post_ret1 rfl rfl ?_)
  exact ⟨rfl, (Below.refl _ _)⟩
set_option maxHeartbeats 4000000 in
theorem bytes_B (w : World) (g gd : Nat) (r b : Int) (hb : Blk w gd 80 (dcells g r b)) :
    Calls Try.prog 16 #[.pointer (some ⟨gd, 0, none⟩)] w fun e w' => e = .returned (.int .i64 b) ∧ Below w.heap.size w w' := by
  refine calls_flow Try.func16 rfl 9 rfl (Nat.le_of_ble_eq_true rfl) [(0, .pointer (some ⟨gd, 0, none⟩))] ?_ ?_
  · intro t v h; exact args_look rfl t v h
  refine w_seq ?_
  refine w_region ?_
  refine rw_val (v := .int .i64 0) (w' := w) rfl rfl rfl rfl rfl ?_
  refine rw_end ?_
  refine w_seq ?_
  refine w_seq ?_
  refine w_region ?_
  refine rw_val (v := .pointer (some ⟨gd, 0, none⟩)) (w' := w) rfl rfl rfl rfl rfl ?_
  refine rw_val (v := .bool false) (w' := w) rfl rfl rfl rfl (run_as (run_ptr_eql (e := 80) (by kernel_rfl) _ _)) ?_
  refine rw_end ?_
  refine w_cond_f rfl rfl rfl ?_
  refine w_skip ?_
  refine w_seq ?_
  refine w_region ?_
  refine rw_val (v := .pointer (some ⟨gd, 0, none⟩)) (w' := w) rfl rfl rfl rfl rfl ?_
  refine rw_val (v := .pointer (some ⟨gd, 0, none⟩)) (w' := w) rfl rfl rfl rfl (by simp [go_sem, sEv, sLook, nbeq, i64_w, -List.getD_eq_getElem?_getD]) ?_
  refine rw_val (v := .pointer (some ⟨gd, 2, none⟩)) (w' := w) rfl rfl rfl rfl (by simp [go_sem, sEv, sLook, nbeq, i64_w, -List.getD_eq_getElem?_getD, Try.underlying80]) ?_
  refine rw_val (v := .int .i64 b) (w' := w) rfl rfl rfl rfl (by have eb_ := hb; have e0_ := eb_.cellv (i := 2) (v := (.int .i64 b : Value)) rfl; simp [go_sem, sEv, sLook, nbeq, i64_w, -List.getD_eq_getElem?_getD, e0_]) ?_
  refine rw_val (v := .int .i64 b) (w' := w) rfl rfl rfl rfl rfl ?_
  refine rw_end ?_
  refine w_weaken (G' := [(2, .int .i64 b)]) ⟨rfl, trivial⟩ ?_
  refine w_ret (post_ret1 rfl rfl ?_)
  exact ⟨rfl, (Below.refl _ _)⟩
theorem sync_ok {s : TS} (h : s.Ok) (h9 : s.steps ≤ 999999999999999) : s.sync.Ok ∧ s.sync.steps ≤ s.steps + 1 := by
  obtain ⟨a, b, c, d, e⟩ := h
  have p1 := duel_ok s.ps s.pl b
  have p2 := duel_ok s.fs s.fl c
  unfold TS.sync TS.next
  split <;> split <;> (try split) <;> (try split) <;> exact ⟨⟨by (try simp only); omega, by first | exact b | exact p1, by first | exact c | exact p2 | ((try simp only); omega), by (try simp only); omega, e⟩, by (try simp only); omega⟩
theorem next_ok {s : TS} (h : s.Ok) (h9 : s.steps ≤ 999999999999999) : s.next.Ok ∧ s.next.steps ≤ s.steps + 1 := by
  obtain ⟨a, b, c, d, e⟩ := h
  have p1 := duel_ok s.ps s.pl b
  have p2 := duel_ok s.fs s.fl c
  unfold TS.next
  split <;> (try split) <;> (try split) <;> exact ⟨⟨by (try simp only); omega, by first | exact b | exact p1, by first | exact c | exact p2 | ((try simp only); omega), by (try simp only); omega, e⟩, by (try simp only); omega⟩
theorem app_ok {s : TS} (ys : List Int) (h : s.Ok) (h9 : s.steps ≤ 999999999999999) : (s.app ys).Ok ∧ (s.app ys).steps ≤ s.steps + 1 := by
  have hn := next_ok h h9
  obtain ⟨⟨a, b, c, d, e⟩, f⟩ := hn
  have e1 := s.next_xs
  have e2 := s.next_sure
  have h4 := h.sure
  have h5 := h.len
  unfold TS.app
  split
  · exact ⟨h, by omega⟩
  · split
    · exact ⟨⟨a, b, c, d, e⟩, f⟩
    · exact ⟨⟨a, b, c, by simp only [List.length_append]; omega, by simp only [List.length_append]; omega⟩, f⟩
theorem rep_ok {s : TS} (ys : List Int) (h : s.Ok) (h9 : s.steps ≤ 999999999999999) : (s.rep ys).Ok ∧ (s.rep ys).steps ≤ s.steps + 1 := by
  have hn := next_ok h h9
  obtain ⟨⟨a, b, c, d, e⟩, f⟩ := hn
  unfold TS.rep
  split
  · exact ⟨h, by omega⟩
  · split
    · exact ⟨⟨a, b, c, d, e⟩, f⟩
    · exact ⟨⟨a, b, c, by (try simp only); omega, by (try simp only); omega⟩, f⟩
theorem append_one (w0 w : World) (g m : Nat) (x : Nat → Prop) (hx : ∀ q, x q → q < w.heap.size) (s : TS) (hT : TapeAt w0 w g m x s) (hok : s.Ok) (P0 : Option Addr) (p : List Int) (pc : Nat) (hP : ∀ W_, Kept w W_ (fun k => k = g ∨ (g < k ∧ k < m ∧ ¬ x k)) → (Kd.slice 5 (Kd.int .u8)).C W_ P0 [p].length [p]) (hl : p.length ≤ 140737488355328) : Calls Try.prog 39 #[.pointer (some ⟨g, 0, none⟩), .slice P0 1 pc] w fun e w' => e = .returned (errT (s.appE p)) ∧ TapeAt w0 w' g w'.heap.size x (s.app p) ∧ w.heap.size ≤ w'.heap.size ∧ (∀ q, x q → q ≠ g → w'.heap[q]? = w.heap[q]?) := by
  have h := append_T w0 w g m x hx s hT hok P0 [p] pc hP (by simp) (by intro q hq; rw [List.mem_singleton.1 hq]; exact hl)
  have e1 : ([p] : List (List Int)).flatten = p := by simp
  rw [e1] at h
  exact h
theorem frameB_short (row : List Int) : (frameB row).length ≤ 16384 := by
  by_cases h : row.length ≤ 16376
  · rw [frameB_len row h]; omega
  · unfold frameB
    rw [if_pos (by omega)]
    simp
set_option maxHeartbeats 4000000 in
theorem add_D (w0 w : World) (g gd m : Nat) (x : Nat → Prop) (hx : ∀ q, x q → q < w.heap.size) (D : DS) (hD : DiaryAt w0 w g gd m x D) (hok : D.s.Ok) (h9 : D.s.steps ≤ 999999999999990) (hr0 : -1000000000000000 ≤ D.r ∧ D.r ≤ 1000000000000000) (hb0 : -1000000000000000 ≤ D.b ∧ D.b ≤ 1000000000000000) (A1 : Option Addr) (c1 : Nat) (row : List Int) (hr : (Kd.int .u8).C w A1 row.length row) (hc1 : row.length ≤ c1) (hl : row.length ≤ 140737488355328) :
    Calls Try.prog 12 #[.pointer (some ⟨gd, 0, none⟩), .slice A1 row.length c1] w fun e w' => e = .returned (errT (D.addE row)) ∧ ∃ m', DiaryAt w0 w' g gd m' x (D.add row) ∧ w.heap.size ≤ w'.heap.size ∧ (∀ q, x q → q ≠ g → q ≠ gd → w'.heap[q]? = w.heap[q]?) := by
  obtain ⟨hT, hb, hgd, hgd0, hXgd⟩ := hD
  have hts_ := hT.size
  have hlt_ := hb.lt
  have hfs_ := frameB_short row
  refine calls_flow Try.func12 rfl 57 rfl (Nat.le_of_ble_eq_true rfl) [(0, .pointer (some ⟨gd, 0, none⟩)), (1, .slice A1 row.length c1)] ?_ ?_
  · intro t v h; exact args_look rfl t v h
  refine w_seq ?_
  refine w_region ?_
  refine rw_val (v := .nilIface) (w' := w) rfl rfl rfl rfl rfl ?_
  refine rw_end ?_
  refine w_seq ?_
  refine w_region ?_
  refine rw_val (v := .slice A1 row.length c1) (w' := w) rfl rfl rfl rfl rfl ?_
  refine rw_new (cs := #[.slice A1 row.length c1]) (t := 32) (fun g => .slice (some ⟨g, 0, none⟩) 1 1) rfl rfl rfl rfl (by kernel_rfl) ?_
  intro g1 w2 hg6 hz5 hb3 hk4
  have hs_w2 := hb3.size
  have hP7 : (Kd.slice 5 (Kd.int .u8)).C w2 (some ⟨g1, 0, none⟩) [row].length [row] := rows1 hk4 hc1 (Kd.C_below hr hb3)
  refine rw_call rfl rfl rfl rfl (f := 38) (args := #[.slice (some ⟨g1, 0, none⟩) 1 1]) (by simp [go_sem, sEv, sLook, nbeq, i64_w, -List.getD_eq_getElem?_getD]) (wrap_one w2 (some ⟨g1, 0, none⟩) 1 row (Kd.C_below hP7 (Below.refl _ _)) (by omega) (by omega)) ?_
  rintro e_ w10 ⟨A8, c9, rfl, hO11, hB12⟩
  refine ⟨_, rfl, ?_⟩
  have hs_w10 := hB12.size
  refine rw_val (v := .tuple #[.slice A8 ((frameB row).length) c9, errT (frameE row)]) (w' := w10) rfl rfl rfl rfl rfl ?_
  refine rw_val (v := .slice A8 ((frameB row).length) c9) (w' := w10) rfl rfl rfl rfl (by simp [go_sem, sEv, sLook, nbeq, i64_w, -List.getD_eq_getElem?_getD]) ?_
  refine rw_val (v := errT (frameE row)) (w' := w10) rfl rfl rfl rfl (by simp [go_sem, sEv, sLook, nbeq, i64_w, -List.getD_eq_getElem?_getD]) ?_
  refine rw_val (v := .slice A8 ((frameB row).length) c9) (w' := w10) rfl rfl rfl rfl rfl ?_
  refine rw_val (v := errT (frameE row)) (w' := w10) rfl rfl rfl rfl rfl ?_
  refine rw_end ?_
  refine w_weaken (G' := [(0, .pointer (some ⟨gd, 0, none⟩)), (4, .nilIface), (5, .slice A8 ((frameB row).length) c9), (6, errT (frameE row))]) ⟨rfl, rfl, rfl, rfl, trivial⟩ ?_
  refine w_seq ?_
  refine w_seq ?_
  refine w_region ?_
  refine rw_val (v := errT (frameE row)) (w' := w10) rfl rfl rfl rfl rfl ?_
  refine rw_val (v := .bool ((frameE row).isSome)) (w' := w10) rfl rfl rfl rfl (run_as (guard_err_neq _ (frameE row) _)) ?_
  refine rw_end ?_
  refine w_cond rfl rfl (fun cF => ?_) (fun cF => ?_)
  · refine w_seq ?_
    refine w_region ?_
    refine rw_val (v := errT (frameE row)) (w' := w10) rfl rfl rfl rfl rfl ?_
    refine rw_val (v := errT (frameE row)) (w' := w10) rfl rfl rfl rfl rfl ?_
    refine rw_end ?_
    refine w_ret (post_ret1 rfl rfl ?_)
    have e1_ : D.addE row = frameE row := by rw [DS.addE, if_pos cF]
    have e2_ : D.add row = D := by rw [DS.add, if_pos cF]
    rw [e1_, e2_]
    exact ⟨rfl, m, ⟨(TapeAt.on (TapeAt.on hT hb3) hB12), ((hb.on hb3).on hB12), hgd, hgd0, hXgd⟩, by omega, fun q hq_ hqg hqd => ((hB12.block q (by have := hx q hq_; omega)).trans (hb3.block q (by have := hx q hq_; omega)))⟩
  · refine w_skip ?_
    refine w_seq ?_
    refine w_seq ?_
    refine w_region ?_
    refine rw_val (v := .pointer (some ⟨gd, 0, none⟩)) (w' := w10) rfl rfl rfl rfl rfl ?_
    refine rw_val (v := .bool false) (w' := w10) rfl rfl rfl rfl (run_as (run_ptr_eql (e := 80) (by kernel_rfl) _ _)) ?_
    refine rw_end ?_
    refine w_cond_f rfl rfl rfl ?_
    refine w_skip ?_
    refine w_seq ?_
    refine w_seq ?_
    refine w_region ?_
    refine rw_val (v := .pointer (some ⟨gd, 0, none⟩)) (w' := w10) rfl rfl rfl rfl rfl ?_
    refine rw_val (v := .pointer (some ⟨gd, 0, none⟩)) (w' := w10) rfl rfl rfl rfl (by simp [go_sem, sEv, sLook, nbeq, i64_w, -List.getD_eq_getElem?_getD]) ?_
    refine rw_val (v := .pointer (some ⟨gd, 0, none⟩)) (w' := w10) rfl rfl rfl rfl (by simp [go_sem, sEv, sLook, nbeq, i64_w, -List.getD_eq_getElem?_getD, Try.underlying80]) ?_
    refine rw_val (v := .pointer (some ⟨g, 0, none⟩)) (w' := w10) rfl rfl rfl rfl (by have eb_ := ((hb.on hb3).on hB12); have e0_ := eb_.cellv (i := 0) (v := (.pointer (some ⟨g, 0, none⟩) : Value)) rfl; simp [go_sem, sEv, sLook, nbeq, i64_w, -List.getD_eq_getElem?_getD, e0_]) ?_
    refine rw_val (v := .slice A8 ((frameB row).length) c9) (w' := w10) rfl rfl rfl rfl rfl ?_
    refine rw_new (cs := #[.slice A8 ((frameB row).length) c9]) (t := 32) (fun g => .slice (some ⟨g, 0, none⟩) 1 1) rfl rfl rfl rfl (by kernel_rfl) ?_
    intro g13 w14 hg18 hz17 hb15 hk16
    have hs_w14 := hb15.size
    have hP19 : (Kd.slice 5 (Kd.int .u8)).C w14 (some ⟨g13, 0, none⟩) [(frameB row)].length [(frameB row)] := rows1 hk16 (OwnK.cap (d := (Kd.int .u8)) hO11) (Kd.C_below (OwnK.C (d := (Kd.int .u8)) hO11) hb15)
    refine rw_call rfl rfl rfl rfl (f := 39) (args := #[.pointer (some ⟨g, 0, none⟩), .slice (some ⟨g13, 0, none⟩) 1 1]) (by simp [go_sem, sEv, sLook, nbeq, i64_w, -List.getD_eq_getElem?_getD]) (append_one w0 w14 g m x (fun q h_ => by have := hx q h_; omega) D.s (TapeAt.on (TapeAt.on (TapeAt.on hT hb3) hB12) hb15) hok (some ⟨g13, 0, none⟩) (frameB row) 1 (rowsK1 (S := (fun k => k = g ∨ (g < k ∧ k < m ∧ ¬ x k))) hk16 (fun h => by omega) (OwnK.cap (d := (Kd.int .u8)) hO11) (ownK_kept (OwnK.on (d := (Kd.int .u8)) hO11 hb15) (fun q hq h => by omega))) (by omega)) ?_
    rintro e_ w20 ⟨rfl, hT21, hs22, hx23⟩
    refine ⟨_, rfl, ?_⟩
    have hts_w20 := hT21.size
    have hok24 : ((D.s.app (frameB row))).Ok := (app_ok (frameB row) hok (by omega)).1
    have hk_w20 : Blk w20 gd 80 _ := (hx23 gd hXgd hgd).trans ((((hb.on hb3).on hB12).on hb15))
    have hlt_w20 := hk_w20.lt
    refine rw_val (v := errT (D.s.appE (frameB row))) (w' := w20) rfl rfl rfl rfl rfl ?_
    refine rw_end ?_
    refine w_weaken (G' := [(0, .pointer (some ⟨gd, 0, none⟩)), (4, .nilIface), (5, .slice A8 ((frameB row).length) c9), (6, errT (D.s.appE (frameB row)))]) ⟨rfl, rfl, rfl, rfl, trivial⟩ ?_
    refine w_seq ?_
    refine w_region ?_
    refine rw_val (v := errT (D.s.appE (frameB row))) (w' := w20) rfl rfl rfl rfl rfl ?_
    refine rw_val (v := .bool ((D.s.appE (frameB row)).isNone)) (w' := w20) rfl rfl rfl rfl (run_as (guard_err_eq0 _ (D.s.appE (frameB row)) _)) ?_
    refine rw_end ?_
    refine w_cond rfl rfl (fun cA => ?_) (fun cA => ?_)
    · refine w_region ?_
      refine rw_val (v := .pointer (some ⟨gd, 0, none⟩)) (w' := w20) rfl rfl rfl rfl rfl ?_
      refine rw_val (v := .pointer (some ⟨gd, 0, none⟩)) (w' := w20) rfl rfl rfl rfl (by simp [go_sem, sEv, sLook, nbeq, i64_w, -List.getD_eq_getElem?_getD]) ?_
      refine rw_val (v := .pointer (some ⟨gd, 0, none⟩)) (w' := w20) rfl rfl rfl rfl (by simp [go_sem, sEv, sLook, nbeq, i64_w, -List.getD_eq_getElem?_getD, Try.underlying80]) ?_
      refine rw_val (v := .pointer (some ⟨g, 0, none⟩)) (w' := w20) rfl rfl rfl rfl (by have eb_ := hk_w20; have e0_ := eb_.cellv (i := 0) (v := (.pointer (some ⟨g, 0, none⟩) : Value)) rfl; simp [go_sem, sEv, sLook, nbeq, i64_w, -List.getD_eq_getElem?_getD, e0_]) ?_
      refine rw_call rfl rfl rfl rfl (f := 40) (args := #[.pointer (some ⟨g, 0, none⟩)]) (by simp [go_sem, sEv, sLook, nbeq, i64_w, -List.getD_eq_getElem?_getD]) (sync_T w0 w20 g w20.heap.size x (fun q h_ => by have := hx q h_; omega) (D.s.app (frameB row)) hT21 hok24) ?_
      rintro e_ w25 ⟨rfl, hT26, hs27, hx28⟩
      refine ⟨_, rfl, ?_⟩
      have hts_w25 := hT26.size
      have hok29 : (((D.s.app (frameB row)).sync)).Ok := (sync_ok hok24 (by have := (app_ok (frameB row) hok (by omega)).2; omega)).1
      have hk_w25 : Blk w25 gd 80 _ := (hx28 gd hXgd hgd).trans (hk_w20)
      have hlt_w25 := hk_w25.lt
      refine rw_val (v := errT ((D.s.app (frameB row)).err)) (w' := w25) rfl rfl rfl rfl rfl ?_
      refine rw_end ?_
      refine w_weaken (G' := [(0, .pointer (some ⟨gd, 0, none⟩)), (4, .nilIface), (5, .slice A8 ((frameB row).length) c9), (6, errT ((D.s.app (frameB row)).err))]) ⟨rfl, rfl, rfl, rfl, trivial⟩ ?_
      refine w_seq ?_
      refine w_seq ?_
      refine w_region ?_
      refine rw_val (v := errT ((D.s.app (frameB row)).err)) (w' := w25) rfl rfl rfl rfl rfl ?_
      refine rw_val (v := .bool (((D.s.app (frameB row)).err).isSome)) (w' := w25) rfl rfl rfl rfl (run_as (guard_err_neq _ ((D.s.app (frameB row)).err) _)) ?_
      refine rw_end ?_
      refine w_cond rfl rfl (fun cS => ?_) (fun cS => ?_)
      · refine w_seq ?_
        refine w_region ?_
        refine rw_val (v := .pointer (some ⟨gd, 0, none⟩)) (w' := w25) rfl rfl rfl rfl rfl ?_
        refine rw_val (v := .pointer (some ⟨gd, 0, none⟩)) (w' := w25) rfl rfl rfl rfl (by simp [go_sem, sEv, sLook, nbeq, i64_w, -List.getD_eq_getElem?_getD]) ?_
        refine rw_val (v := .pointer (some ⟨gd, 0, none⟩)) (w' := w25) rfl rfl rfl rfl (by simp [go_sem, sEv, sLook, nbeq, i64_w, -List.getD_eq_getElem?_getD, Try.underlying80]) ?_
        refine rw_val (v := .pointer (some ⟨g, 0, none⟩)) (w' := w25) rfl rfl rfl rfl (by have eb_ := hk_w25; have e0_ := eb_.cellv (i := 0) (v := (.pointer (some ⟨g, 0, none⟩) : Value)) rfl; simp [go_sem, sEv, sLook, nbeq, i64_w, -List.getD_eq_getElem?_getD, e0_]) ?_
        refine rw_call rfl rfl rfl rfl (f := 41) (args := #[.pointer (some ⟨g, 0, none⟩)]) (by simp [go_sem, sEv, sLook, nbeq, i64_w, -List.getD_eq_getElem?_getD]) (cut_T w0 w25 g w25.heap.size x (fun q h_ => by have := hx q h_; omega) ((D.s.app (frameB row)).sync) hT26 hok29) ?_
        rintro e_ w30 ⟨rfl, hT31, hs32, hx33⟩
        refine ⟨.tuple #[], rfl, ?_⟩
        have hts_w30 := hT31.size
        have hk_w30 : Blk w30 gd 80 _ := (hx33 gd hXgd hgd).trans (hk_w25)
        have hlt_w30 := hk_w30.lt
        refine rw_end ?_
        refine w_weaken (G' := [(0, .pointer (some ⟨gd, 0, none⟩)), (4, .nilIface), (5, .slice A8 ((frameB row).length) c9), (6, errT ((D.s.app (frameB row)).err))]) ⟨rfl, rfl, rfl, rfl, trivial⟩ ?_
        refine w_seq ?_
        refine w_region ?_
        refine rw_val (v := errT ((D.s.app (frameB row)).err)) (w' := w30) rfl rfl rfl rfl rfl ?_
        refine rw_val (v := errT ((D.s.app (frameB row)).err)) (w' := w30) rfl rfl rfl rfl rfl ?_
        refine rw_end ?_
        refine w_ret (post_ret1 rfl rfl ?_)
        have f_ : ¬ (frameE row).isSome = true := by rw [cF]; simp
        have e3_ : D.add1E row = (D.s.app (frameB row)).err := by rw [DS.add1E, if_pos cA]
        have e4_ : D.add1S row = (D.s.app (frameB row)).sync := by rw [DS.add1S, if_pos cA]
        have e1_ : D.addE row = ((D.s.app (frameB row)).err) := by rw [DS.addE, if_neg f_, e3_]
        have e2_ : D.add row = { D with s := (((D.s.app (frameB row)).sync).cut) } := by rw [DS.add, if_neg f_, if_pos (by rw [e3_, cS]), e4_]
        rw [e1_, e2_]
        exact ⟨rfl, w30.heap.size, ⟨hT31, hk_w30, hgd, hgd0, hXgd⟩, by omega, fun q hq_ hqg hqd => ((hx33 q hq_ hqg).trans ((hx28 q hq_ hqg).trans ((hx23 q hq_ hqg).trans ((hb15.block q (by have := hx q hq_; omega)).trans ((hB12.block q (by have := hx q hq_; omega)).trans (hb3.block q (by have := hx q hq_; omega)))))))⟩
      · refine w_skip ?_
        refine w_seq ?_
        refine w_region ?_
        refine rw_val (v := .pointer (some ⟨gd, 0, none⟩)) (w' := w25) rfl rfl rfl rfl rfl ?_
        refine rw_val (v := .pointer (some ⟨gd, 0, none⟩)) (w' := w25) rfl rfl rfl rfl (by simp [go_sem, sEv, sLook, nbeq, i64_w, -List.getD_eq_getElem?_getD]) ?_
        refine rw_val (v := .pointer (some ⟨gd, 1, none⟩)) (w' := w25) rfl rfl rfl rfl (by simp [go_sem, sEv, sLook, nbeq, i64_w, -List.getD_eq_getElem?_getD, Try.underlying80]) ?_
        refine rw_val (v := .int .i64 D.r) (w' := w25) rfl rfl rfl rfl (by have eb_ := hk_w25; have e0_ := eb_.cellv (i := 1) (v := (.int .i64 D.r : Value)) rfl; simp [go_sem, sEv, sLook, nbeq, i64_w, -List.getD_eq_getElem?_getD, e0_]) ?_
        refine rw_val (v := .int .i64 (D.r + 1)) (w' := w25) rfl rfl rfl rfl (by simp [go_sem, sEv, sLook, nbeq, i64_w, -List.getD_eq_getElem?_getD]; exact wrap_id (by omega) (by omega)) ?_
        refine rw_val (v := .pointer (some ⟨gd, 0, none⟩)) (w' := w25) rfl rfl rfl rfl (by simp [go_sem, sEv, sLook, nbeq, i64_w, -List.getD_eq_getElem?_getD]) ?_
        refine rw_val (v := .pointer (some ⟨gd, 1, none⟩)) (w' := w25) rfl rfl rfl rfl (by simp [go_sem, sEv, sLook, nbeq, i64_w, -List.getD_eq_getElem?_getD, Try.underlying80]) ?_
        have hb38 := hk_w25
        refine rw_store (g := gd) (i := 1) (l := [.int .i64 (D.r + 1)]) (cs' := #[.pointer (some ⟨g, 0, none⟩), .int .i64 (D.r + 1), .int .i64 D.b]) rfl rfl rfl hb38 rfl (by have e0_ := hb38.cellv (i := 1) (v := (.int .i64 D.r : Value)) rfl; have f0_ := hb38.frozen 1; simp [go_sem, sEv, sLook, nbeq, i64_w, -List.getD_eq_getElem?_getD, putCells, e0_, f0_]) ?_
        intro w35 hk36 hk37
        have hs_w35 := hk36.size
        refine rw_end ?_
        refine w_weaken (G' := [(0, .pointer (some ⟨gd, 0, none⟩)), (4, .nilIface), (5, .slice A8 ((frameB row).length) c9)]) ⟨rfl, rfl, rfl, trivial⟩ ?_
        refine w_seq ?_
        refine w_region ?_
        refine rw_val (v := .pointer (some ⟨gd, 0, none⟩)) (w' := w35) rfl rfl rfl rfl rfl ?_
        refine rw_val (v := .pointer (some ⟨gd, 0, none⟩)) (w' := w35) rfl rfl rfl rfl (by simp [go_sem, sEv, sLook, nbeq, i64_w, -List.getD_eq_getElem?_getD]) ?_
        refine rw_val (v := .pointer (some ⟨gd, 2, none⟩)) (w' := w35) rfl rfl rfl rfl (by simp [go_sem, sEv, sLook, nbeq, i64_w, -List.getD_eq_getElem?_getD, Try.underlying80]) ?_
        refine rw_val (v := .int .i64 D.b) (w' := w35) rfl rfl rfl rfl (by have eb_ := hk37; have e0_ := eb_.cellv (i := 2) (v := (.int .i64 D.b : Value)) rfl; simp [go_sem, sEv, sLook, nbeq, i64_w, -List.getD_eq_getElem?_getD, e0_]) ?_
        refine rw_val (v := .slice A8 ((frameB row).length) c9) (w' := w35) rfl rfl rfl rfl rfl ?_
        refine rw_val (v := .int .i64 (((frameB row).length : Nat) : Int)) (w' := w35) rfl rfl rfl rfl (by simp [go_sem, sEv, sLook, nbeq, i64_w, -List.getD_eq_getElem?_getD]) ?_
        refine rw_val (v := .int .i64 (D.b + (((frameB row).length : Nat) : Int))) (w' := w35) rfl rfl rfl rfl (by simp [go_sem, sEv, sLook, nbeq, i64_w, -List.getD_eq_getElem?_getD]; exact wrap_id (by omega) (by omega)) ?_
        refine rw_val (v := .pointer (some ⟨gd, 0, none⟩)) (w' := w35) rfl rfl rfl rfl (by simp [go_sem, sEv, sLook, nbeq, i64_w, -List.getD_eq_getElem?_getD]) ?_
        refine rw_val (v := .pointer (some ⟨gd, 2, none⟩)) (w' := w35) rfl rfl rfl rfl (by simp [go_sem, sEv, sLook, nbeq, i64_w, -List.getD_eq_getElem?_getD, Try.underlying80]) ?_
        have hb42 := hk37
        refine rw_store (g := gd) (i := 2) (l := [.int .i64 (D.b + (((frameB row).length : Nat) : Int))]) (cs' := #[.pointer (some ⟨g, 0, none⟩), .int .i64 (D.r + 1), .int .i64 (D.b + (((frameB row).length : Nat) : Int))]) rfl rfl rfl hb42 rfl (by have e0_ := hb42.cellv (i := 2) (v := (.int .i64 D.b : Value)) rfl; have f0_ := hb42.frozen 2; simp [go_sem, sEv, sLook, nbeq, i64_w, -List.getD_eq_getElem?_getD, putCells, e0_, f0_]) ?_
        intro w39 hk40 hk41
        have hs_w39 := hk40.size
        refine rw_end ?_
        refine w_weaken (G' := [(4, .nilIface)]) ⟨rfl, trivial⟩ ?_
        refine w_seq ?_
        refine w_region ?_
        refine rw_val (v := .nilIface) (w' := w39) rfl rfl rfl rfl rfl ?_
        refine rw_end ?_
        refine w_ret (post_ret1 rfl rfl ?_)
        have f_ : ¬ (frameE row).isSome = true := by rw [cF]; simp
        have e3_ : D.add1E row = (D.s.app (frameB row)).err := by rw [DS.add1E, if_pos cA]
        have e4_ : D.add1S row = (D.s.app (frameB row)).sync := by rw [DS.add1S, if_pos cA]
        have e1_ : D.addE row = none := by rw [DS.addE, if_neg f_, e3_]; simpa using cS
        have e2_ : D.add row = ⟨(D.s.app (frameB row)).sync, D.r + 1, D.b + ((frameB row).length : Int)⟩ := by rw [DS.add, if_neg f_, if_neg (by rw [e3_, cS]; simp), e4_]
        rw [e1_, e2_]
        exact ⟨rfl, w25.heap.size, ⟨(TapeAt.beside (TapeAt.beside hT26 hk36 hXgd hgd hgd0) hk40 hXgd hgd hgd0), hk41, hgd, hgd0, hXgd⟩, by omega, fun q hq_ hqg hqd => ((hk40.block q hqd).trans ((hk36.block q hqd).trans ((hx28 q hq_ hqg).trans ((hx23 q hq_ hqg).trans ((hb15.block q (by have := hx q hq_; omega)).trans ((hB12.block q (by have := hx q hq_; omega)).trans (hb3.block q (by have := hx q hq_; omega))))))))⟩
    · refine w_skip ?_
      refine w_seq ?_
      refine w_seq ?_
      refine w_region ?_
      refine rw_val (v := errT (D.s.appE (frameB row))) (w' := w20) rfl rfl rfl rfl rfl ?_
      refine rw_val (v := .bool ((D.s.appE (frameB row)).isSome)) (w' := w20) rfl rfl rfl rfl (run_as (guard_err_neq _ (D.s.appE (frameB row)) _)) ?_
      refine rw_end ?_
      have hq43 : ((D.s.appE (frameB row)).isSome) = true := by revert cA; cases D.s.appE (frameB row) <;> simp
      refine w_cond_t rfl rfl hq43 ?_
      refine w_seq ?_
      refine w_region ?_
      refine rw_val (v := .pointer (some ⟨gd, 0, none⟩)) (w' := w20) rfl rfl rfl rfl rfl ?_
      refine rw_val (v := .pointer (some ⟨gd, 0, none⟩)) (w' := w20) rfl rfl rfl rfl (by simp [go_sem, sEv, sLook, nbeq, i64_w, -List.getD_eq_getElem?_getD]) ?_
      refine rw_val (v := .pointer (some ⟨gd, 0, none⟩)) (w' := w20) rfl rfl rfl rfl (by simp [go_sem, sEv, sLook, nbeq, i64_w, -List.getD_eq_getElem?_getD, Try.underlying80]) ?_
      refine rw_val (v := .pointer (some ⟨g, 0, none⟩)) (w' := w20) rfl rfl rfl rfl (by have eb_ := hk_w20; have e0_ := eb_.cellv (i := 0) (v := (.pointer (some ⟨g, 0, none⟩) : Value)) rfl; simp [go_sem, sEv, sLook, nbeq, i64_w, -List.getD_eq_getElem?_getD, e0_]) ?_
      refine rw_call rfl rfl rfl rfl (f := 41) (args := #[.pointer (some ⟨g, 0, none⟩)]) (by simp [go_sem, sEv, sLook, nbeq, i64_w, -List.getD_eq_getElem?_getD]) (cut_T w0 w20 g w20.heap.size x (fun q h_ => by have := hx q h_; omega) (D.s.app (frameB row)) hT21 hok24) ?_
      rintro e_ w44 ⟨rfl, hT45, hs46, hx47⟩
      refine ⟨.tuple #[], rfl, ?_⟩
      have hts_w44 := hT45.size
      have hk_w44 : Blk w44 gd 80 _ := (hx47 gd hXgd hgd).trans (hk_w20)
      have hlt_w44 := hk_w44.lt
      refine rw_end ?_
      refine w_weaken (G' := [(0, .pointer (some ⟨gd, 0, none⟩)), (4, .nilIface), (5, .slice A8 ((frameB row).length) c9), (6, errT (D.s.appE (frameB row)))]) ⟨rfl, rfl, rfl, rfl, trivial⟩ ?_
      refine w_seq ?_
      refine w_region ?_
      refine rw_val (v := errT (D.s.appE (frameB row))) (w' := w44) rfl rfl rfl rfl rfl ?_
      refine rw_val (v := errT (D.s.appE (frameB row))) (w' := w44) rfl rfl rfl rfl rfl ?_
      refine rw_end ?_
      refine w_ret (post_ret1 rfl rfl ?_)
      have f_ : ¬ (frameE row).isSome = true := by rw [cF]; simp
      have fa_ : ¬ (D.s.appE (frameB row)).isNone = true := by rw [cA]; simp
      have e3_ : D.add1E row = D.s.appE (frameB row) := by rw [DS.add1E, if_neg fa_]
      have e4_ : D.add1S row = D.s.app (frameB row) := by rw [DS.add1S, if_neg fa_]
      have e1_ : D.addE row = (D.s.appE (frameB row)) := by rw [DS.addE, if_neg f_, e3_]
      have e2_ : D.add row = { D with s := ((D.s.app (frameB row)).cut) } := by rw [DS.add, if_neg f_, if_pos (by rw [e3_, hq43]), e4_]
      rw [e1_, e2_]
      exact ⟨rfl, w44.heap.size, ⟨hT45, hk_w44, hgd, hgd0, hXgd⟩, by omega, fun q hq_ hqg hqd => ((hx47 q hq_ hqg).trans ((hx23 q hq_ hqg).trans ((hb15.block q (by have := hx q hq_; omega)).trans ((hB12.block q (by have := hx q hq_; omega)).trans (hb3.block q (by have := hx q hq_; omega))))))⟩
theorem FC_take_getD (rows : List (List Int)) (j : Nat) (h : j < rows.length) : FC (rows.take (j + 1)) = FC (rows.take j) ++ frameB (rows.getD j []) := by
  unfold FC
  rw [List.take_succ_eq_append_getElem h, List.map_append, List.flatten_append, List.getD_eq_getElem?_getD, List.getElem?_eq_getElem h]
  simp
theorem FC_take_le (rows : List (List Int)) (j : Nat) : (FC (rows.take j)).length ≤ (FC rows).length := by
  have h : FC rows = FC (rows.take j) ++ FC (rows.drop j) := by unfold FC; rw [← List.flatten_append, ← List.map_append, List.take_append_drop]
  rw [h, List.length_append]
  omega
theorem frameE_long {r : List Int} : (frameE r).isSome = true ↔ 16376 < r.length := by
  unfold frameE
  split <;> simp <;> omega
theorem rwFull_long {rows : List (List Int)} {j : Nat} (h : j < rows.length) (hl : (frameE (rows.getD j [])).isSome = true) : rwFull rows = true := by
  unfold rwFull
  rw [Bool.or_eq_true]
  refine .inl (List.any_eq_true.2 ⟨_, getD_mem rows j [] h, ?_⟩)
  simpa using frameE_long.1 hl
theorem rwFull_big {rows : List (List Int)} {j : Nat} (h : 1048576 < (FC (rows.take j)).length) : rwFull rows = true := by
  unfold rwFull
  have h2 := FC_take_le rows j
  rw [Bool.or_eq_true]
  exact .inr (decide_eq_true (by omega))
theorem rwFull_no {rows : List (List Int)} (h1 : ∀ p ∈ rows, p.length ≤ 16376) (h2 : (FC rows).length ≤ 1048576) : rwFull rows = false := by
  unfold rwFull
  rw [Bool.or_eq_false_iff]
  refine ⟨?_, decide_eq_false (by omega)⟩
  rw [List.any_eq_false]
  intro p hp
  have := h1 p hp
  simp
  omega
set_option maxHeartbeats 4000000 in
theorem rewrite_D (w0 w : World) (g gd m : Nat) (x : Nat → Prop) (hx : ∀ q, x q → q < w.heap.size) (D : DS) (hD : DiaryAt w0 w g gd m x D) (hok : D.s.Ok) (A1 : Option Addr) (c1 : Nat) (rows : List (List Int)) (hr : (Kd.slice 5 (Kd.int .u8)).C w A1 rows.length rows) (hc1 : rows.length ≤ c1) (hn : rows.length ≤ 6000000000000) (hall : ∀ p ∈ rows, p.length ≤ 140737488355328) :
    Calls Try.prog 21 #[.pointer (some ⟨gd, 0, none⟩), .slice A1 rows.length c1] w fun e w' => e = .returned (errT (D.rwE rows)) ∧ ∃ m', DiaryAt w0 w' g gd m' x (D.rw rows) ∧ w.heap.size ≤ w'.heap.size ∧ (∀ q, x q → q ≠ g → q ≠ gd → w'.heap[q]? = w.heap[q]?) := by
  obtain ⟨hT, hb, hgd, hgd0, hXgd⟩ := hD
  have hts_ := hT.size
  have hlt_ := hb.lt
  refine calls_flow Try.func21 rfl 60 rfl (Nat.le_of_ble_eq_true rfl) [(0, .pointer (some ⟨gd, 0, none⟩)), (1, .slice A1 rows.length c1)] ?_ ?_
  · intro t v h; exact args_look rfl t v h
  refine w_seq ?_
  refine w_region ?_
  refine rw_val (v := .nilIface) (w' := w) rfl rfl rfl rfl rfl ?_
  refine rw_end ?_
  refine w_seq ?_
  refine w_region ?_
  refine rw_val (v := .slice none 0 0) (w' := w) rfl rfl rfl rfl rfl ?_
  refine rw_end ?_
  refine w_seq ?_
  refine w_seq ?_
  refine w_region ?_
  refine rw_val (v := .slice A1 rows.length c1) (w' := w) rfl rfl rfl rfl rfl ?_
  refine rw_val (v := .int .i64 ((rows.length : Nat) : Int)) (w' := w) rfl rfl rfl rfl (by simp [go_sem, sEv, sLook, nbeq, i64_w, -List.getD_eq_getElem?_getD]) ?_
  refine rw_val (v := .int .i64 0) (w' := w) rfl rfl rfl rfl rfl ?_
  refine rw_end ?_
  refine w_block ?_
  refine w_loop (fun m_ G W_ => ∃ (j : Nat) (A5_ : Option Addr) (c5_ : Nat), j + m_ = rows.length ∧ Below w.heap.size w W_ ∧ OwnK (Kd.int .u8) 5 W_ w.heap.size w.heap.size A5_ (FC (rows.take j)).length c5_ (FC (rows.take j)) ∧ (∀ p ∈ rows.take j, p.length ≤ 16376) ∧ ((FC (rows.take j)).length ≤ 1048576) ∧ G = [(0, .pointer (some ⟨gd, 0, none⟩)), (1, .slice A1 rows.length c1), (5, .slice A5_ ((FC (rows.take j)).length) c5_), (11, .slice A1 rows.length c1), (12, .int .i64 ((rows.length : Nat) : Int)), (13, .int .i64 ((j : Nat) : Int))]) rows.length [(0, .pointer (some ⟨gd, 0, none⟩)), (1, .slice A1 rows.length c1), (5, .slice none ((FC (rows.take 0)).length) 0), (11, .slice A1 rows.length c1), (12, .int .i64 ((rows.length : Nat) : Int)), (13, .int .i64 0)] ⟨0, none, 0, by omega, (Below.refl _ _), (OwnK.nil _ _ _ _ _), (by simp), (by simp [FC]), rfl⟩ ⟨rfl, rfl, rfl, rfl, rfl, rfl, trivial⟩ ?_
  rintro m_ G w_L1 ⟨j, A5_, c5_, hp2, hB_L1, hO5_, hf3, hf4, rfl⟩
  have hs_w_L1 := hB_L1.size
  refine w_seq ?_
  refine w_region ?_
  refine rw_val (v := .bool (decide (((j : Nat) : Int) < ((rows.length : Nat) : Int)))) (w' := w_L1) rfl rfl rfl rfl (by simp [go_sem, sEv, sLook, nbeq, i64_w, -List.getD_eq_getElem?_getD]) ?_
  refine rw_end ?_
  refine w_seq ?_
  refine w_cond rfl rfl (fun cJ => ?_) (fun cJ => ?_)
  · have l5 : (((j : Nat) : Int) < ((rows.length : Nat) : Int)) := of_decide_eq_true cJ
    refine w_skip ?_
    refine w_seq ?_
    refine w_block ?_
    refine w_seq ?_
    refine w_region ?_
    obtain ⟨ad6, A9, c10, hA7, he11, hle12, hC13⟩ := rows_at (Kd.C_below hr hB_L1) j (by first | omega | decide)
    subst hA7
    refine rw_val (v := .pointer (some (ad6.add (j)))) (w' := w_L1) rfl rfl rfl rfl (run_as (run_at_1 (P := Try.prog) (e := 32) (by kernel_rfl) (by kernel_rfl) j (by first | omega | decide) _)) ?_
    refine rw_val (v := .slice A9 ((rows.getD j []).length) c10) (w' := w_L1) rfl rfl rfl rfl (by have e0_ := cellOn he11 (Below.refl _ _); simp [go_sem, sEv, sLook, nbeq, i64_w, -List.getD_eq_getElem?_getD, e0_, Try.underlying32]) ?_
    refine rw_val (v := .slice A9 ((rows.getD j []).length) c10) (w' := w_L1) rfl rfl rfl rfl rfl ?_
    refine rw_end ?_
    refine w_seq ?_
    refine w_region ?_
    refine rw_val (v := .slice A9 ((rows.getD j []).length) c10) (w' := w_L1) rfl rfl rfl rfl rfl ?_
    refine rw_new (cs := #[.slice A9 ((rows.getD j []).length) c10]) (t := 32) (fun g => .slice (some ⟨g, 0, none⟩) 1 1) rfl rfl rfl rfl (by kernel_rfl) ?_
    intro g14 w15 hg19 hz18 hb16 hk17
    have hs_w15 := hb16.size
    have hP20 : (Kd.slice 5 (Kd.int .u8)).C w15 (some ⟨g14, 0, none⟩) [(rows.getD j [])].length [(rows.getD j [])] := rows1 hk17 hle12 (Kd.C_below hC13 hb16)
    have hlj_ : (rows.getD j []).length ≤ 140737488355328 := hall _ (getD_mem rows j [] (by omega))
    have hfj_ := frameB_short (rows.getD j [])
    refine rw_call rfl rfl rfl rfl (f := 38) (args := #[.slice (some ⟨g14, 0, none⟩) 1 1]) (by simp [go_sem, sEv, sLook, nbeq, i64_w, -List.getD_eq_getElem?_getD]) (wrap_one w15 (some ⟨g14, 0, none⟩) 1 (rows.getD j []) (Kd.C_below hP20 (Below.refl _ _)) (by omega) (by omega)) ?_
    rintro e_ w23 ⟨A21, c22, rfl, hO24, hB25⟩
    refine ⟨_, rfl, ?_⟩
    have hs_w23 := hB25.size
    refine rw_val (v := .tuple #[.slice A21 ((frameB (rows.getD j [])).length) c22, errT (frameE (rows.getD j []))]) (w' := w23) rfl rfl rfl rfl rfl ?_
    refine rw_val (v := .slice A21 ((frameB (rows.getD j [])).length) c22) (w' := w23) rfl rfl rfl rfl (by simp [go_sem, sEv, sLook, nbeq, i64_w, -List.getD_eq_getElem?_getD]) ?_
    refine rw_val (v := errT (frameE (rows.getD j []))) (w' := w23) rfl rfl rfl rfl (by simp [go_sem, sEv, sLook, nbeq, i64_w, -List.getD_eq_getElem?_getD]) ?_
    refine rw_val (v := .slice A21 ((frameB (rows.getD j [])).length) c22) (w' := w23) rfl rfl rfl rfl rfl ?_
    refine rw_val (v := errT (frameE (rows.getD j []))) (w' := w23) rfl rfl rfl rfl rfl ?_
    refine rw_end ?_
    refine w_weaken (G' := [(0, .pointer (some ⟨gd, 0, none⟩)), (1, .slice (some ad6) rows.length c1), (5, .slice A5_ ((FC (rows.take j)).length) c5_), (8, .slice A21 ((frameB (rows.getD j [])).length) c22), (9, errT (frameE (rows.getD j []))), (11, .slice (some ad6) rows.length c1), (12, .int .i64 ((rows.length : Nat) : Int)), (13, .int .i64 ((j : Nat) : Int))]) ⟨rfl, rfl, rfl, rfl, rfl, rfl, rfl, rfl, trivial⟩ ?_
    refine w_seq ?_
    refine w_seq ?_
    refine w_region ?_
    refine rw_val (v := errT (frameE (rows.getD j []))) (w' := w23) rfl rfl rfl rfl rfl ?_
    refine rw_val (v := .bool ((frameE (rows.getD j [])).isSome)) (w' := w23) rfl rfl rfl rfl (run_as (guard_err_neq _ (frameE (rows.getD j [])) _)) ?_
    refine rw_val (v := .bool ((frameE (rows.getD j [])).isSome)) (w' := w23) rfl rfl rfl rfl rfl ?_
    rcases bcase ((frameE (rows.getD j [])).isSome) with cF | cF
    · refine rw_on (c := (frameE (rows.getD j [])).isSome) rfl rfl rfl (by first | (rw [cF]; rfl) | simp [cF]) ?_
      refine rw_val (v := .slice A5_ ((FC (rows.take j)).length) c5_) (w' := w23) rfl rfl rfl rfl rfl ?_
      refine rw_on (c := (frameE (rows.getD j [])).isSome) rfl rfl rfl (by first | (rw [cF]; rfl) | simp [cF]) ?_
      refine rw_val (v := .int .i64 (((FC (rows.take j)).length : Nat) : Int)) (w' := w23) rfl rfl rfl rfl (by simp [go_sem, sEv, sLook, nbeq, i64_w, -List.getD_eq_getElem?_getD]) ?_
      refine rw_on (c := (frameE (rows.getD j [])).isSome) rfl rfl rfl (by first | (rw [cF]; rfl) | simp [cF]) ?_
      refine rw_val (v := .slice A21 ((frameB (rows.getD j [])).length) c22) (w' := w23) rfl rfl rfl rfl rfl ?_
      refine rw_on (c := (frameE (rows.getD j [])).isSome) rfl rfl rfl (by first | (rw [cF]; rfl) | simp [cF]) ?_
      refine rw_val (v := .int .i64 (((frameB (rows.getD j [])).length : Nat) : Int)) (w' := w23) rfl rfl rfl rfl (by simp [go_sem, sEv, sLook, nbeq, i64_w, -List.getD_eq_getElem?_getD]) ?_
      refine rw_on (c := (frameE (rows.getD j [])).isSome) rfl rfl rfl (by first | (rw [cF]; rfl) | simp [cF]) ?_
      refine rw_val (v := .int .i64 (((FC (rows.take j)).length + ((frameB (rows.getD j [])).length) : Nat) : Int)) (w' := w23) rfl rfl rfl rfl (by simp [go_sem, sEv, sLook, nbeq, i64_w, -List.getD_eq_getElem?_getD]; exact wrap_id (by omega) (by omega)) ?_
      refine rw_on (c := (frameE (rows.getD j [])).isSome) rfl rfl rfl (by first | (rw [cF]; rfl) | simp [cF]) ?_
      refine rw_val (v := .bool (decide (1048576 < (((FC (rows.take j)).length + ((frameB (rows.getD j [])).length) : Nat) : Int)))) (w' := w23) rfl rfl rfl rfl (by simp [go_sem, sEv, sLook, nbeq, i64_w, -List.getD_eq_getElem?_getD]) ?_
      refine rw_val (v := .bool (decide (1048576 < (((FC (rows.take j)).length + ((frameB (rows.getD j [])).length) : Nat) : Int)))) (w' := w23) rfl rfl rfl rfl (by first | (simp [go_sem, sEv, sLook, nbeq, i64_w, -List.getD_eq_getElem?_getD, cF]; done) | (rw [cF]; simp [go_sem, sEv, sLook, nbeq, i64_w, -List.getD_eq_getElem?_getD]; done) | (simp [go_sem, sEv, sLook, nbeq, i64_w, -List.getD_eq_getElem?_getD] <;> omega) | (simp [go_sem, sEv, sLook, nbeq, i64_w, -List.getD_eq_getElem?_getD]; intro h_; exact absurd (by omega) h_)) ?_
      refine rw_end ?_
      refine w_weaken (G' := [(0, .pointer (some ⟨gd, 0, none⟩)), (1, .slice (some ad6) rows.length c1), (5, .slice A5_ ((FC (rows.take j)).length) c5_), (8, .slice A21 ((frameB (rows.getD j [])).length) c22), (11, .slice (some ad6) rows.length c1), (12, .int .i64 ((rows.length : Nat) : Int)), (13, .int .i64 ((j : Nat) : Int)), (32, .bool (decide (1048576 < (((FC (rows.take j)).length + ((frameB (rows.getD j [])).length) : Nat) : Int))))]) ⟨rfl, rfl, rfl, rfl, rfl, rfl, rfl, rfl, trivial⟩ ?_
      refine w_cond rfl rfl (fun c26 => ?_) (fun c26 => ?_)
      · have l27 : (1048576 < (((FC (rows.take j)).length + ((frameB (rows.getD j [])).length) : Nat) : Int)) := of_decide_eq_true c26
        refine w_seq ?_
        refine w_region ?_
        refine rw_val (v := errT (some 7)) (w' := w23) rfl rfl rfl rfl (by simp [go_sem, sEv, sLook, nbeq, i64_w, -List.getD_eq_getElem?_getD, errT]) ?_
        refine rw_val (v := errT (some 7)) (w' := w23) rfl rfl rfl rfl rfl ?_
        refine rw_end ?_
        refine w_ret (post_ret1 rfl rfl ?_)
        have hf_ : rwFull rows = true := rwFull_big (j := j + 1) (by rw [FC_take_getD rows j (by omega), List.length_append]; omega)
        rw [DS.rwE, DS.rw, if_pos hf_, if_pos hf_]
        exact ⟨rfl, m, ⟨(TapeAt.on (TapeAt.on (TapeAt.on hT hB_L1) hb16) hB25), (((hb.on hB_L1).on hb16).on hB25), hgd, hgd0, hXgd⟩, by omega, fun q hq_ hqg hqd => ((hB25.block q (by have := hx q hq_; omega)).trans ((hb16.block q (by have := hx q hq_; omega)).trans (hB_L1.block q (by have := hx q hq_; omega))))⟩
      · have l28 : ¬ (1048576 < (((FC (rows.take j)).length + ((frameB (rows.getD j [])).length) : Nat) : Int)) := of_decide_eq_false c26
        refine w_skip ?_
        refine w_region ?_
        refine rw_val (v := .slice A5_ ((FC (rows.take j)).length) c5_) (w' := w23) rfl rfl rfl rfl rfl ?_
        refine rw_val (v := .slice A21 ((frameB (rows.getD j [])).length) c22) (w' := w23) rfl rfl rfl rfl rfl ?_
        have oA35 : OwnK (Kd.int .u8) 5 w23 w.heap.size w.heap.size A5_ ((FC (rows.take j)).length) c5_ (FC (rows.take j)) := (OwnK.on (d := (Kd.int .u8)) hO5_ (chain hb16 hB25))
        refine rw_append_kd (d := (Kd.int .u8)) w.heap.size rfl rfl rfl (.tmp 34) (.tmp 35) rfl rfl 32 5 (.int .u8 0) 1 rfl (by kernel_rfl) (by kernel_rfl) rfl (show 0 < 1 by decide) (by decide) (fun _ _ h => h) (b := w.heap.size) rfl rfl (by omega) oA35 (OwnK.Cn (d := (Kd.int .u8)) hO24) (chain (chain hB_L1 hb16) hB25) (by omega) (by first | omega | (simp only [List.length_append, List.length_nil, List.length_cons]; omega)) ?_
        intro A29 c30 w31 hO32 hB33 hG34
        have hs_w31 := hB33.size
        have hgs_w31 := hG34.size
        refine rw_val (v := .slice A29 (((FC (rows.take j)) ++ (frameB (rows.getD j []))).length) c30) (w' := w31) rfl rfl rfl rfl rfl ?_
        refine rw_end ?_
        refine w_weaken (G' := [(0, .pointer (some ⟨gd, 0, none⟩)), (1, .slice (some ad6) rows.length c1), (5, .slice A29 (((FC (rows.take j)) ++ (frameB (rows.getD j []))).length) c30), (11, .slice (some ad6) rows.length c1), (12, .int .i64 ((rows.length : Nat) : Int)), (13, .int .i64 ((j : Nat) : Int))]) ⟨rfl, rfl, rfl, rfl, rfl, rfl, trivial⟩ ?_
        refine w_blk ?_
        refine w_region ?_
        refine rw_val (v := .int .i64 ((j + 1 : Nat) : Int)) (w' := w31) rfl rfl rfl rfl (by simp [go_sem, sEv, sLook, nbeq, i64_w, -List.getD_eq_getElem?_getD]; exact wrap_id (by omega) (by omega)) ?_
        refine rw_val (v := .int .i64 ((j + 1 : Nat) : Int)) (w' := w31) rfl rfl rfl rfl rfl ?_
        refine rw_end ?_
        have e37 : ((FC (rows.take j)) ++ (frameB (rows.getD j []))) = (FC (rows.take (j + 1))) := by exact (FC_take_getD rows j (by omega)).symm
        have hO38 : OwnK (Kd.int .u8) 5 w31 w.heap.size w.heap.size A29 (FC (rows.take (j + 1))).length c30 (FC (rows.take (j + 1))) := by rw [← e37]; exact OwnK.full hO32
        have en39 : ((FC (rows.take j)) ++ (frameB (rows.getD j []))).length = (FC (rows.take (j + 1))).length := by rw [← e37] <;> exact OwnK.len (d := (Kd.int .u8)) hO32
        exact w_back (m_ - 1) [(0, .pointer (some ⟨gd, 0, none⟩)), (1, .slice (some ad6) rows.length c1), (5, .slice A29 ((FC (rows.take (j + 1))).length) c30), (11, .slice (some ad6) rows.length c1), (12, .int .i64 ((rows.length : Nat) : Int)), (13, .int .i64 ((j + 1 : Nat) : Int))] (by omega) ⟨rfl, rfl, (by first | rfl | (rw [← en39]; rfl)), rfl, rfl, rfl, trivial⟩ ⟨(j + 1), A29, c30, by omega, hB33, (OwnK.mono (d := (Kd.int .u8)) hO38 (by omega)), (by intro p hp; rw [List.take_succ_eq_append_getElem (by omega)] at hp; exact (List.mem_append.1 hp).elim (fun hp => hf3 p hp) (fun hp => by rw [List.mem_singleton.1 hp]; have q_ := mt frameE_long.2 (show ¬ (frameE (rows.getD j [])).isSome = true by rw [cF]; simp); rw [List.getD_eq_getElem?_getD, List.getElem?_eq_getElem (by omega)] at q_; exact Nat.le_of_not_lt q_)), (by rw [FC_take_getD rows j (by omega), List.length_append]; omega), rfl⟩
    · refine rw_off (c := (frameE (rows.getD j [])).isSome) rfl rfl rfl (by first | (rw [cF]; rfl) | simp [cF]) rfl rfl ?_
      refine rw_off (c := (frameE (rows.getD j [])).isSome) rfl rfl rfl (by first | (rw [cF]; rfl) | simp [cF]) rfl rfl ?_
      refine rw_off (c := (frameE (rows.getD j [])).isSome) rfl rfl rfl (by first | (rw [cF]; rfl) | simp [cF]) rfl rfl ?_
      refine rw_off (c := (frameE (rows.getD j [])).isSome) rfl rfl rfl (by first | (rw [cF]; rfl) | simp [cF]) rfl rfl ?_
      refine rw_off (c := (frameE (rows.getD j [])).isSome) rfl rfl rfl (by first | (rw [cF]; rfl) | simp [cF]) rfl rfl ?_
      refine rw_off (c := (frameE (rows.getD j [])).isSome) rfl rfl rfl (by first | (rw [cF]; rfl) | simp [cF]) rfl rfl ?_
      refine rw_val (v := .bool true) (w' := w23) rfl rfl rfl rfl (by first | (simp [go_sem, sEv, sLook, nbeq, i64_w, -List.getD_eq_getElem?_getD, cF]; done) | (rw [cF]; simp [go_sem, sEv, sLook, nbeq, i64_w, -List.getD_eq_getElem?_getD]; done) | (simp [go_sem, sEv, sLook, nbeq, i64_w, -List.getD_eq_getElem?_getD] <;> omega) | (simp [go_sem, sEv, sLook, nbeq, i64_w, -List.getD_eq_getElem?_getD]; intro h_; exact absurd (by omega) h_)) ?_
      refine rw_end ?_
      refine w_weaken (G' := [(0, .pointer (some ⟨gd, 0, none⟩)), (1, .slice (some ad6) rows.length c1), (5, .slice A5_ ((FC (rows.take j)).length) c5_), (8, .slice A21 ((frameB (rows.getD j [])).length) c22), (11, .slice (some ad6) rows.length c1), (12, .int .i64 ((rows.length : Nat) : Int)), (13, .int .i64 ((j : Nat) : Int)), (32, .bool true)]) ⟨rfl, rfl, rfl, rfl, rfl, rfl, rfl, rfl, trivial⟩ ?_
      refine w_cond_t rfl rfl rfl ?_
      refine w_seq ?_
      refine w_region ?_
      refine rw_val (v := errT (some 7)) (w' := w23) rfl rfl rfl rfl (by simp [go_sem, sEv, sLook, nbeq, i64_w, -List.getD_eq_getElem?_getD, errT]) ?_
      refine rw_val (v := errT (some 7)) (w' := w23) rfl rfl rfl rfl rfl ?_
      refine rw_end ?_
      refine w_ret (post_ret1 rfl rfl ?_)
      have hf_ : rwFull rows = true := rwFull_long (j := j) (by omega) cF
      rw [DS.rwE, DS.rw, if_pos hf_, if_pos hf_]
      exact ⟨rfl, m, ⟨(TapeAt.on (TapeAt.on (TapeAt.on hT hB_L1) hb16) hB25), (((hb.on hB_L1).on hb16).on hB25), hgd, hgd0, hXgd⟩, by omega, fun q hq_ hqg hqd => ((hB25.block q (by have := hx q hq_; omega)).trans ((hb16.block q (by have := hx q hq_; omega)).trans (hB_L1.block q (by have := hx q hq_; omega))))⟩
  · have l40 : ¬ (((j : Nat) : Int) < ((rows.length : Nat) : Int)) := of_decide_eq_false cJ
    refine w_exit rfl ?_
    refine w_seq ?_
    refine w_seq ?_
    refine w_region ?_
    refine rw_val (v := .pointer (some ⟨gd, 0, none⟩)) (w' := w_L1) rfl rfl rfl rfl rfl ?_
    refine rw_val (v := .bool false) (w' := w_L1) rfl rfl rfl rfl (run_as (run_ptr_eql (e := 80) (by kernel_rfl) _ _)) ?_
    refine rw_end ?_
    refine w_cond_f rfl rfl rfl ?_
    refine w_skip ?_
    refine w_seq ?_
    refine w_seq ?_
    refine w_region ?_
    refine rw_val (v := .pointer (some ⟨gd, 0, none⟩)) (w' := w_L1) rfl rfl rfl rfl rfl ?_
    refine rw_val (v := .pointer (some ⟨gd, 0, none⟩)) (w' := w_L1) rfl rfl rfl rfl (by simp [go_sem, sEv, sLook, nbeq, i64_w, -List.getD_eq_getElem?_getD]) ?_
    refine rw_val (v := .pointer (some ⟨gd, 0, none⟩)) (w' := w_L1) rfl rfl rfl rfl (by simp [go_sem, sEv, sLook, nbeq, i64_w, -List.getD_eq_getElem?_getD, Try.underlying80]) ?_
    refine rw_val (v := .pointer (some ⟨g, 0, none⟩)) (w' := w_L1) rfl rfl rfl rfl (by have eb_ := (hb.on hB_L1); have e0_ := eb_.cellv (i := 0) (v := (.pointer (some ⟨g, 0, none⟩) : Value)) rfl; simp [go_sem, sEv, sLook, nbeq, i64_w, -List.getD_eq_getElem?_getD, e0_]) ?_
    refine rw_val (v := .slice A5_ ((FC (rows.take j)).length) c5_) (w' := w_L1) rfl rfl rfl rfl rfl ?_
    refine rw_call rfl rfl rfl rfl (f := 37) (args := #[.pointer (some ⟨g, 0, none⟩), .slice A5_ ((FC (rows.take j)).length) c5_]) (by simp [go_sem, sEv, sLook, nbeq, i64_w, -List.getD_eq_getElem?_getD]) (replace_T w0 w_L1 g m x (fun q h_ => by have := hx q h_; omega) D.s (TapeAt.on hT hB_L1) hok A5_ (FC (rows.take j)) c5_ (ownK_kept (S := fun k => k = g) hO5_ (fun q hq h => by omega))) ?_
    rintro e_ w41 ⟨rfl, hT42, hs43, hx44, hq45⟩
    refine ⟨_, rfl, ?_⟩
    have hts_w41 := hT42.size
    have hk_w41 : Blk w41 gd 80 _ := (hx44 gd hXgd hgd).trans ((hb.on hB_L1))
    have hlt_w41 := hk_w41.lt
    refine rw_val (v := errT (D.s.repE (FC (rows.take j)))) (w' := w41) rfl rfl rfl rfl rfl ?_
    refine rw_end ?_
    refine w_weaken (G' := [(0, .pointer (some ⟨gd, 0, none⟩)), (1, .slice A1 rows.length c1), (5, .slice A5_ ((FC (rows.take j)).length) c5_), (10, errT (D.s.repE (FC (rows.take j))))]) ⟨rfl, rfl, rfl, rfl, trivial⟩ ?_
    refine w_seq ?_
    refine w_region ?_
    refine rw_val (v := errT (D.s.repE (FC (rows.take j)))) (w' := w41) rfl rfl rfl rfl rfl ?_
    refine rw_val (v := .bool ((D.s.repE (FC (rows.take j))).isSome)) (w' := w41) rfl rfl rfl rfl (run_as (guard_err_neq _ (D.s.repE (FC (rows.take j))) _)) ?_
    refine rw_end ?_
    refine w_cond rfl rfl (fun cE => ?_) (fun cE => ?_)
    · refine w_seq ?_
      refine w_region ?_
      refine rw_val (v := errT (D.s.repE (FC (rows.take j)))) (w' := w41) rfl rfl rfl rfl rfl ?_
      refine rw_val (v := errT (D.s.repE (FC (rows.take j)))) (w' := w41) rfl rfl rfl rfl rfl ?_
      refine rw_end ?_
      refine w_ret (post_ret1 rfl rfl ?_)
      have ej_ : j = rows.length := by omega
      subst ej_
      have et_ : rows.take rows.length = rows := List.take_length
      have hf_ : rwFull rows = false := rwFull_no (by rw [et_] at hf3; exact hf3) (by rw [et_] at hf4; exact hf4)
      have n_ : ¬ rwFull rows = true := by rw [hf_]; simp
      have hT_ := hT42
      have hb_ := hk_w41
      rw [et_] at cE hT_
      try rw [et_] at hb_
      rw [DS.rwE, DS.rw, if_neg n_, if_neg n_, if_pos cE]
      exact ⟨congrArg (fun z => Ending.returned (errT (D.s.repE (FC z)))) et_, w41.heap.size, ⟨hT_, hb_, hgd, hgd0, hXgd⟩, by omega, fun q hq_ hqg hqd => ((hx44 q hq_ hqg).trans (hB_L1.block q (by have := hx q hq_; omega)))⟩
    · refine w_skip ?_
      refine w_seq ?_
      refine w_region ?_
      refine rw_val (v := .pointer (some ⟨gd, 0, none⟩)) (w' := w41) rfl rfl rfl rfl rfl ?_
      refine rw_val (v := .pointer (some ⟨gd, 0, none⟩)) (w' := w41) rfl rfl rfl rfl rfl ?_
      refine rw_val (v := .slice A1 rows.length c1) (w' := w41) rfl rfl rfl rfl rfl ?_
      refine rw_val (v := .int .i64 ((rows.length : Nat) : Int)) (w' := w41) rfl rfl rfl rfl (by simp [go_sem, sEv, sLook, nbeq, i64_w, -List.getD_eq_getElem?_getD]) ?_
      refine rw_val (v := .slice A5_ ((FC (rows.take j)).length) c5_) (w' := w41) rfl rfl rfl rfl rfl ?_
      refine rw_val (v := .int .i64 (((FC (rows.take j)).length : Nat) : Int)) (w' := w41) rfl rfl rfl rfl (by simp [go_sem, sEv, sLook, nbeq, i64_w, -List.getD_eq_getElem?_getD]) ?_
      refine rw_val (v := .pointer (some ⟨gd, 0, none⟩)) (w' := w41) rfl rfl rfl rfl (by simp [go_sem, sEv, sLook, nbeq, i64_w, -List.getD_eq_getElem?_getD]) ?_
      refine rw_val (v := .pointer (some ⟨gd, 1, none⟩)) (w' := w41) rfl rfl rfl rfl (by simp [go_sem, sEv, sLook, nbeq, i64_w, -List.getD_eq_getElem?_getD, Try.underlying80]) ?_
      have hb50 := hk_w41
      refine rw_store (g := gd) (i := 1) (l := [.int .i64 ((rows.length : Nat) : Int)]) (cs' := #[.pointer (some ⟨g, 0, none⟩), .int .i64 ((rows.length : Nat) : Int), .int .i64 D.b]) rfl rfl rfl hb50 rfl (by have e0_ := hb50.cellv (i := 1) (v := (.int .i64 D.r : Value)) rfl; have f0_ := hb50.frozen 1; simp [go_sem, sEv, sLook, nbeq, i64_w, -List.getD_eq_getElem?_getD, putCells, e0_, f0_]) ?_
      intro w47 hk48 hk49
      have hs_w47 := hk48.size
      refine rw_val (v := .pointer (some ⟨gd, 0, none⟩)) (w' := w47) rfl rfl rfl rfl (by simp [go_sem, sEv, sLook, nbeq, i64_w, -List.getD_eq_getElem?_getD]) ?_
      refine rw_val (v := .pointer (some ⟨gd, 2, none⟩)) (w' := w47) rfl rfl rfl rfl (by simp [go_sem, sEv, sLook, nbeq, i64_w, -List.getD_eq_getElem?_getD, Try.underlying80]) ?_
      have hb54 := hk49
      refine rw_store (g := gd) (i := 2) (l := [.int .i64 (((FC (rows.take j)).length : Nat) : Int)]) (cs' := #[.pointer (some ⟨g, 0, none⟩), .int .i64 ((rows.length : Nat) : Int), .int .i64 (((FC (rows.take j)).length : Nat) : Int)]) rfl rfl rfl hb54 rfl (by have e0_ := hb54.cellv (i := 2) (v := (.int .i64 D.b : Value)) rfl; have f0_ := hb54.frozen 2; simp [go_sem, sEv, sLook, nbeq, i64_w, -List.getD_eq_getElem?_getD, putCells, e0_, f0_]) ?_
      intro w51 hk52 hk53
      have hs_w51 := hk52.size
      refine rw_end ?_
      refine w_weaken (G' := []) trivial ?_
      refine w_seq ?_
      refine w_region ?_
      refine rw_val (v := .nilIface) (w' := w51) rfl rfl rfl rfl rfl ?_
      refine rw_end ?_
      refine w_ret (post_ret1 rfl rfl ?_)
      have ej_ : j = rows.length := by omega
      subst ej_
      have et_ : rows.take rows.length = rows := List.take_length
      have hf_ : rwFull rows = false := rwFull_no (by rw [et_] at hf3; exact hf3) (by rw [et_] at hf4; exact hf4)
      have n_ : ¬ rwFull rows = true := by rw [hf_]; simp
      have hT_ := (TapeAt.beside (TapeAt.beside hT42 hk48 hXgd hgd hgd0) hk52 hXgd hgd hgd0)
      have hb_ := hk53
      rw [et_] at cE hT_
      try rw [et_] at hb_
      have e0_ : D.s.repE (FC rows) = none := by simpa using cE
      rw [DS.rwE, DS.rw, if_neg n_, if_neg n_, if_neg (by rw [cE]; simp), e0_]
      exact ⟨rfl, w41.heap.size, ⟨hT_, hb_, hgd, hgd0, hXgd⟩, by omega, fun q hq_ hqg hqd => ((hk52.block q hqd).trans ((hk48.block q hqd).trans ((hx44 q hq_ hqg).trans (hB_L1.block q (by have := hx q hq_; omega)))))⟩
end Go.Proofs.Ytiiljpaedelhlaa.Tp
end
section
namespace Go.Proofs.Ytiiljpaedelhlaa.PDiaryPlays
open Go.RowKit Go.Proofs.YtiiljpaedelhlaaW.PrintWords Go.Proofs.YtiiljpaedelhlaaW.PrintLast Go.Proofs.YtiiljpaedelhlaaW.PrintMore
attribute [local go_sem] max2_int min2_int max_two min_two
set_option linter.unusedVariables false
set_option linter.unusedSimpArgs false
mutual
def estuaryref04_Sum.l0 : Nat → List Int → Int → Int → Option (Int)
  | 0, _, _, _ => none
  | k + 1, x0, x3, x4 => if x4 < (x0.length : Int) then (estuaryref04_Sum.l1 k x0 (IntKind.u64.wrap (x3 - (Int.tmod x3 256))) x4 (Int.tmod x3 256) 0) else (some ((x3) % 4294967296))
def estuaryref04_Sum.l1 : Nat → List Int → Int → Int → Int → Int → Option (Int)
  | 0, _, _, _, _, _ => none
  | k + 1, x0, x3, x4, x5, x6 => if x6 < 8 then (if 0 ≤ (IntKind.u64.wrap (x6)) then (if (shl .u64 1 (IntKind.u64.wrap (x6))) = 0 then (none) else (if 0 ≤ x4 then (if x4 < (x0.length : Int) then (if (Int.tmod (IntKind.u64.wrap (Int.tdiv x5 (shl .u64 1 (IntKind.u64.wrap (x6))))) 2) = (Int.tmod (IntKind.u64.wrap (Int.tdiv (IntKind.u64.wrap (rd x0 x4)) (shl .u64 1 (IntKind.u64.wrap (x6))))) 2) then (estuaryref04_Sum.l1 k x0 x3 x4 x5 (wrap64 (x6 + 1))) else (estuaryref04_Sum.l1 k x0 (IntKind.u64.wrap (x3 + (shl .u64 1 (IntKind.u64.wrap (x6))))) x4 x5 (wrap64 (x6 + 1)))) else (none)) else (none))) else (none)) else (estuaryref04_Sum.l0 k x0 (Int.tmod (IntKind.u64.wrap (x3 * 16777619)) 4294967296) (wrap64 (x4 + 1)))
end
def estuaryref04_Sum.f (k : Nat) (l0 : List Int) : Option (Int) := estuaryref04_Sum.l0 k l0 2166136261 0
set_option maxHeartbeats 8000000 in
set_option maxRecDepth 100000 in
theorem estuaryref04_Sum.calls (k : Nat) (A0 : Option Addr) (c0 : Nat) (l0 : List Int) (r : Int) (w : World) (hr0 : Kd.C (Kd.int .u8) w A0 l0.length l0) (hc0 : l0.length ≤ c0) (h : estuaryref04_Sum.f k l0 = some r) :
    Calls Try.prog 60 #[.slice A0 l0.length c0] w fun e w' => e = .returned (.int .u32 r) ∧ Drawn0 w w' := by
  have HR0 := Aside0.mk hr0
  have HC0 := Aside0.mk hc0
  clear hr0 hc0
  have H : (estuaryref04_Sum.l0 k l0 2166136261 0) = some r := h
  clear h
  have H' := Aside0.mk H
  clear H
  go_enter Try.func60, Try.ntmps60
  go_wp2
  repeat (go_quiet (fail); try go_wp2)
  go_loopg [3, 4] k (fun kq v3 v4 w' => ∃ (x3_1 : Int) (x4_1 : Int), v3 = .int .u64 x3_1 ∧ v4 = .int .i64 x4_1 ∧ Aside0 (estuaryref04_Sum.l0 kq l0 x3_1 x4_1 = some r) ∧ Aside0 (kq ≤ k) ∧ Drawn0 w w')
  case atStart => exact ⟨(2166136261), (0), (by first | rfl | (simp; done) | (simp [*]; done)), (by first | rfl | (simp; done) | (simp [*]; done)), H', ⟨Nat.le_refl _⟩, by repeat (first | exact Drawn0.refl _ | apply Drawn0.step)⟩
  case round =>
    clear H'
    obtain ⟨x3_1, x4_1, rfl, rfl, HA, HK1, ⟨m1, rfl⟩⟩ := hrel
    cases gk with
    | zero => exact absurd HA.out (by simp [estuaryref04_Sum.l0])
    | succ k1 =>
      have H := HA.out
      clear HA
      simp only [estuaryref04_Sum.l0] at H
      by_cases c2 : x4_1 < (l0.length : Int)
      · rw [if_pos c2] at H
        have c2b0 : decide (x4_1 < (l0.length : Int)) = true := decide_eq_true c2
        clear c2
        have H' := Aside0.mk H
        clear H
        go_wp2
        repeat (go_quiet (fail); try go_wp2)
        go_loopg [3, 6] k1 (fun kq v3 v6 w' => ∃ (x3_2 : Int) (x6_2 : Int), v3 = .int .u64 x3_2 ∧ v6 = .int .i64 x6_2 ∧ Aside0 (estuaryref04_Sum.l1 kq l0 x3_2 x4_1 (Int.tmod x3_1 256) x6_2 = some r) ∧ Aside0 (kq ≤ k1) ∧ Drawn0 w w')
        case atStart => exact ⟨(IntKind.u64.wrap (x3_1 - (Int.tmod x3_1 256))), (0), (by first | rfl | (simp; done) | (simp [*]; done)), (by first | rfl | (simp; done) | (simp [*]; done)), H', ⟨Nat.le_refl _⟩, by repeat (first | exact Drawn0.refl _ | apply Drawn0.step)⟩
        case round =>
          clear H'
          try clear c2
          try clear c2b0
          try clear p2
          obtain ⟨x3_2, x6_2, rfl, rfl, HA, HK2, ⟨m2, rfl⟩⟩ := hrel
          cases gk with
          | zero => exact absurd HA.out (by simp [estuaryref04_Sum.l1])
          | succ k2 =>
            have H := HA.out
            clear HA
            simp only [estuaryref04_Sum.l1] at H
            by_cases c3 : x6_2 < 8
            · rw [if_pos c3] at H
              have c3b0 : decide (x6_2 < 8) = true := decide_eq_true c3
              clear c3
              obtain ⟨ji4, hji4⟩ : ∃ j_ : Int, (IntKind.u64.wrap (x6_2)) = j_ := ⟨_, rfl⟩
              replace H : (if 0 ≤ (ji4) then (if (shl .u64 1 (ji4)) = 0 then (none) else (if 0 ≤ x4_1 then (if x4_1 < (l0.length : Int) then (if (Int.tmod (IntKind.u64.wrap (Int.tdiv (Int.tmod x3_1 256) (shl .u64 1 (ji4)))) 2) = (Int.tmod (IntKind.u64.wrap (Int.tdiv (IntKind.u64.wrap (rd l0 x4_1)) (shl .u64 1 (ji4)))) 2) then (estuaryref04_Sum.l1 k2 l0 x3_2 x4_1 (Int.tmod x3_1 256) (wrap64 (x6_2 + 1))) else (estuaryref04_Sum.l1 k2 l0 (IntKind.u64.wrap (x3_2 + (shl .u64 1 (ji4)))) x4_1 (Int.tmod x3_1 256) (wrap64 (x6_2 + 1)))) else (none)) else (none))) else (none)) = some r := by first | (rw [hji4] at H; exact H) | (simp only [hji4] at H ⊢; exact H)
              by_cases c5 : 0 ≤ (ji4)
              · rw [if_pos c5] at H
                have c5b0 := eq_true c5
                have c5b1 : decide (0 ≤ (ji4)) = true := decide_eq_true c5
                clear c5
                obtain ⟨ji6, hji6⟩ : ∃ j_ : Int, (shl .u64 1 (ji4)) = j_ := ⟨_, rfl⟩
                replace H : (if (ji6) = 0 then (none) else (if 0 ≤ x4_1 then (if x4_1 < (l0.length : Int) then (if (Int.tmod (IntKind.u64.wrap (Int.tdiv (Int.tmod x3_1 256) (ji6))) 2) = (Int.tmod (IntKind.u64.wrap (Int.tdiv (IntKind.u64.wrap (rd l0 x4_1)) (ji6))) 2) then (estuaryref04_Sum.l1 k2 l0 x3_2 x4_1 (Int.tmod x3_1 256) (wrap64 (x6_2 + 1))) else (estuaryref04_Sum.l1 k2 l0 (IntKind.u64.wrap (x3_2 + (ji6))) x4_1 (Int.tmod x3_1 256) (wrap64 (x6_2 + 1)))) else (none)) else (none))) = some r := by first | (rw [hji6] at H; exact H) | (simp only [hji6] at H ⊢; exact H)
                have hji6_ : (IntKind.u64.wrap (1 * 2 ^ min (ji4).toNat 64)) = ji6 := hji6
                have hji6z : (ji4) ≤ 64 → (IntKind.u64.wrap (1 * 2 ^ (ji4).toNat)) = ji6 := shl_small hji6
                have hji6u : (IntKind.u64.wrap (2 ^ min (ji4).toNat 64)) = ji6 := by have h_ := hji6_; rw [Int.one_mul] at h_; exact h_
                have hji6v : (ji4) ≤ 64 → (IntKind.u64.wrap (2 ^ (ji4).toNat)) = ji6 := fun hle_ => by have h_ := hji6z hle_; rw [Int.one_mul] at h_; exact h_
                by_cases c7 : (ji6) = 0
                · rw [if_pos c7] at H
                  exact absurd H (by simp)
                · rw [if_neg c7] at H
                  have c7b0 : ((ji6) == 0) = false := beq_eq_false_iff_ne.mpr c7
                  have c7b1 : ((ji6) != 0) = true := bne_iff_ne.mpr c7
                  by_cases c8 : 0 ≤ x4_1
                  · rw [if_pos c8] at H
                    have c8b0 : decide (0 ≤ x4_1) = true := decide_eq_true c8
                    clear c8
                    by_cases c9 : x4_1 < (l0.length : Int)
                    · rw [if_pos c9] at H
                      have c9b0 : decide (x4_1 < (l0.length : Int)) = true := decide_eq_true c9
                      clear c9
                      by_cases c10 : (Int.tmod (IntKind.u64.wrap (Int.tdiv (Int.tmod x3_1 256) (ji6))) 2) = (Int.tmod (IntKind.u64.wrap (Int.tdiv (IntKind.u64.wrap (rd l0 x4_1)) (ji6))) 2)
                      · rw [if_pos c10] at H
                        have c10b0 : ((Int.tmod (IntKind.u64.wrap (Int.tdiv (Int.tmod x3_1 256) (ji6))) 2) == (Int.tmod (IntKind.u64.wrap (Int.tdiv (IntKind.u64.wrap (rd l0 x4_1)) (ji6))) 2)) = true := beq_iff_eq.mpr c10
                        have c10b1 : ((Int.tmod (IntKind.u64.wrap (Int.tdiv (Int.tmod x3_1 256) (ji6))) 2) != (Int.tmod (IntKind.u64.wrap (Int.tdiv (IntKind.u64.wrap (rd l0 x4_1)) (ji6))) 2)) = false := bne_eq_false_iff_eq.mpr c10
                        clear c10
                        have H' := Aside0.mk H
                        clear H
                        have p157 : 0 ≤ (x4_1 : Int) := of_decide_eq_true (by first | (with_reducible assumption) | assumption)
                        have q157 : x4_1 < (l0.length : Int) := of_decide_eq_true (by first | (with_reducible assumption) | assumption)
                        obtain ⟨ad157, e157, hx157_0⟩ := Kd.at_int HR0.out x4_1 p157 q157
                        cases e157
                        replace p157 := eq_true p157
                        replace q157 := eq_true q157
                        go_wp2
                        repeat (go_quiet (fail); try go_wp2)
                        go_roundg k2
                        case measure => have := HK1.out; have := HK2.out; omega
                        case rel => exact ⟨(x3_2), (wrap64 (x6_2 + 1)), (by first | rfl | (simp; done) | (simp [*]; done)), (by first | rfl | (simp; done) | (simp [*]; done)), H', ⟨by have := HK1.out; have := HK2.out; omega⟩, by repeat (first | exact Drawn0.refl _ | apply Drawn0.step)⟩
                      · rw [if_neg c10] at H
                        have c10b0 : ((Int.tmod (IntKind.u64.wrap (Int.tdiv (Int.tmod x3_1 256) (ji6))) 2) == (Int.tmod (IntKind.u64.wrap (Int.tdiv (IntKind.u64.wrap (rd l0 x4_1)) (ji6))) 2)) = false := beq_eq_false_iff_ne.mpr c10
                        have c10b1 : ((Int.tmod (IntKind.u64.wrap (Int.tdiv (Int.tmod x3_1 256) (ji6))) 2) != (Int.tmod (IntKind.u64.wrap (Int.tdiv (IntKind.u64.wrap (rd l0 x4_1)) (ji6))) 2)) = true := bne_iff_ne.mpr c10
                        have H' := Aside0.mk H
                        clear H
                        have p157 : 0 ≤ (x4_1 : Int) := of_decide_eq_true (by first | (with_reducible assumption) | assumption)
                        have q157 : x4_1 < (l0.length : Int) := of_decide_eq_true (by first | (with_reducible assumption) | assumption)
                        obtain ⟨ad157, e157, hx157_0⟩ := Kd.at_int HR0.out x4_1 p157 q157
                        cases e157
                        replace p157 := eq_true p157
                        replace q157 := eq_true q157
                        go_wp2
                        repeat (go_quiet (fail); try go_wp2)
                        go_roundg k2
                        case measure => have := HK1.out; have := HK2.out; omega
                        case rel => exact ⟨(IntKind.u64.wrap (x3_2 + (ji6))), (wrap64 (x6_2 + 1)), (by first | rfl | (simp; done) | (simp only [← hji6] <;> (first | rfl | simp)) | (simp [*]; done)), (by first | rfl | (simp; done) | (simp [*]; done)), H', ⟨by have := HK1.out; have := HK2.out; omega⟩, by repeat (first | exact Drawn0.refl _ | apply Drawn0.step)⟩
                    · rw [if_neg c9] at H
                      exact absurd H (by simp)
                  · rw [if_neg c8] at H
                    exact absurd H (by simp)
              · rw [if_neg c5] at H
                exact absurd H (by simp)
            · rw [if_neg c3] at H
              have c3b0 : decide (x6_2 < 8) = false := decide_eq_false c3
              clear c3
              have H' := Aside0.mk H
              clear H
              go_wp2
              repeat (go_quiet (fail); try go_wp2)
              go_roundg k2
              case measure => have := HK1.out; have := HK2.out; omega
              case rel => exact ⟨(Int.tmod (IntKind.u64.wrap (x3_2 * 16777619)) 4294967296), (wrap64 (x4_1 + 1)), (by first | rfl | (simp; done) | (simp [*]; done)), (by first | rfl | (simp; done) | (simp [*]; done)), H', ⟨by have := HK1.out; have := HK2.out; omega⟩, by repeat (first | exact Drawn0.refl _ | apply Drawn0.step)⟩
      · rw [if_neg c2] at H
        have c2b0 : decide (x4_1 < (l0.length : Int)) = false := decide_eq_false c2
        clear c2
        obtain rfl := Option.some.inj H
        go_wp2
        repeat (go_quiet (fail); try go_wp2)
        go_ret
        exact ⟨by first | rfl | (simp; done) | (simp [*]; done), by repeat (first | exact Drawn0.refl _ | apply Drawn0.step)⟩
def estuaryref04_four.f (a0 : Int) : Option (List Int) := some (([(a0) % 256, ((Int.tdiv a0 256) % 4294967296) % 256, ((Int.tdiv a0 65536) % 4294967296) % 256, ((Int.tdiv a0 16777216) % 4294967296) % 256] : List Int))
set_option maxHeartbeats 8000000 in
set_option maxRecDepth 100000 in
theorem estuaryref04_four.calls (a0 : Int) (r : List Int) (w : World) (h : estuaryref04_four.f a0 = some r) :
    Calls Try.prog 59 #[.int .u32 a0] w fun e w' => ∃ v0_ : Value, e = .returned (v0_) ∧ Kd.R (Kd.int .u8) 5 w' w.heap.size (fun _ => True) v0_ r ∧ Below w.heap.size w w' := by
  have HB := Aside0.mk (Below.refl w.heap.size w)
  have H : (some (([(a0) % 256, ((Int.tdiv a0 256) % 4294967296) % 256, ((Int.tdiv a0 65536) % 4294967296) % 256, ((Int.tdiv a0 16777216) % 4294967296) % 256] : List Int))) = some r := h
  clear h
  obtain ⟨y154, hy154⟩ : ∃ y_ : List Int, y_ = (([(a0) % 256, ((Int.tdiv a0 256) % 4294967296) % 256, ((Int.tdiv a0 65536) % 4294967296) % 256, ((Int.tdiv a0 16777216) % 4294967296) % 256] : List Int)) := ⟨_, rfl⟩
  replace H : (some y154) = some r := by first | (rw [hy154]; with_reducible exact H) | (have H2_ := (Option.bind_some _ _).symm.trans H; rw [hy154]; with_reducible exact H2_) | (have H2_ := (Option.bind_some _ _).symm.trans H; with_reducible exact H2_) | with_reducible exact H | (rw [hy154]; exact H) | exact H
  have Ny154 := Aside0.mk hy154
  clear hy154
  obtain rfl := Option.some.inj H
  go_enter Try.func59, Try.ntmps59
  go_wp2_with (first | ((with_reducible refine gate_dst (N := 14) rfl ?_); refine Kd.R_lit (Kd.int .u8) _ 5 ?hg (N := 14) ?hd (xs := ([(a0) % 256, ((Int.tdiv a0 256) % 4294967296) % 256, ((Int.tdiv a0 65536) % 4294967296) % 256, ((Int.tdiv a0 16777216) % 4294967296) % 256] : List Int)) (inner := [.int .u8 ((a0) % 256), .int .u8 (((Int.tdiv a0 256) % 4294967296) % 256), .int .u8 (((Int.tdiv a0 65536) % 4294967296) % 256), .int .u8 (((Int.tdiv a0 16777216) % 4294967296) % 256)]) (ok := fun _ => True) (okp := fun _ => True) ?hr ?hp (fun _ hk => hk) trivial (Below.refl _ _) (Nat.le_refl _) (by simp) ?_; (case hd => rfl); (case hg => rfl); (case hr => first | (go_simp; done) | (go_simp; rfl)); (case hp => exact (Reps.one (show Kd.M (Kd.int .u8) _ _ _ ((a0) % 256) [.int .u8 ((a0) % 256)] from rfl) (Reps.one (show Kd.M (Kd.int .u8) _ _ _ (((Int.tdiv a0 256) % 4294967296) % 256) [.int .u8 (((Int.tdiv a0 256) % 4294967296) % 256)] from rfl) (Reps.one (show Kd.M (Kd.int .u8) _ _ _ (((Int.tdiv a0 65536) % 4294967296) % 256) [.int .u8 (((Int.tdiv a0 65536) % 4294967296) % 256)] from rfl) (Reps.one (show Kd.M (Kd.int .u8) _ _ _ (((Int.tdiv a0 16777216) % 4294967296) % 256) [.int .u8 (((Int.tdiv a0 16777216) % 4294967296) % 256)] from rfl) (Reps.none _ _)))))); intro v155 w2 ho3 hb hg_ hnew_; clear hg_ hnew_; (first | rw [← Ny154.out] at ho3 | (simp only [Int.reduceToNat] at ho3; rw [← Ny154.out] at ho3)); have n0_ := Aside0.mk (Kd.R_lower ho3 (below_size (by repeat (first | (with_reducible first | exact HB.out | apply below_alloc | apply pw_below_drewN | apply below_drew1) | exact HB.out)))); have n1_ := Aside0.mk (below_step (by repeat (first | (with_reducible first | exact HB.out | apply below_alloc | apply pw_below_drewN | apply below_drew1) | exact HB.out)) hb); clear HB; have HO156 := n0_; have HB := n1_; clear n0_ n1_; clear hb ho3))
  go_ret
  exact ⟨_, by first | rfl | (simp [errW_none, errW_some] <;> rfl) | (simp [*, errW_none, errW_some] <;> rfl), by (with_reducible repeat (first | apply Kd.R_alloc | apply Kd.R_drewN | apply Kd.R_drew)); exact HO156.out, by repeat (first | (with_reducible first | exact HB.out | apply below_alloc | apply pw_below_drewN | apply below_drew1) | exact HB.out)⟩
def estuaryref04_Wrap.f (k : Nat) (l0 : List Int) : Option (List Int × Int) := if (l0.length : Int) > 16376 then (some (([] : List Int), 7)) else ((estuaryref04_four.f (((l0.length : Int)) % 4294967296)).bind fun t158 => ((estuaryref04_Sum.f k l0).bind fun t161 => ((estuaryref04_four.f t161).bind fun t162 => (if t158.length + t162.length < 140737488355328 then ((some (t158 ++ t162 : List Int)).bind fun y165 => (if y165.length + l0.length < 140737488355328 then (some ((y165 ++ l0), 0)) else (none))) else (none)))))
set_option maxHeartbeats 8000000 in
set_option maxRecDepth 100000 in
theorem estuaryref04_Wrap.calls (k : Nat) (A0 : Option Addr) (c0 : Nat) (l0 : List Int) (r1 : List Int) (r2 : Int) (w : World) (hr0 : Kd.C (Kd.int .u8) w A0 l0.length l0) (hc0 : l0.length ≤ c0) (h : estuaryref04_Wrap.f k l0 = some (r1, r2)) :
    Calls Try.prog 56 #[.slice A0 l0.length c0] w fun e w' => ∃ v0_ : Value, e = .returned (.tuple #[v0_, .int .i64 r2]) ∧ Kd.R (Kd.int .u8) 5 w' w.heap.size (fun _ => True) v0_ r1 ∧ Below w.heap.size w w' := by
  have HR0 := Aside0.mk hr0
  have HC0 := Aside0.mk hc0
  clear hr0 hc0
  have HB := Aside0.mk (Below.refl w.heap.size w)
  have H : (if (l0.length : Int) > 16376 then (some (([] : List Int), 7)) else ((estuaryref04_four.f (((l0.length : Int)) % 4294967296)).bind fun t158 => ((estuaryref04_Sum.f k l0).bind fun t161 => ((estuaryref04_four.f t161).bind fun t162 => (if t158.length + t162.length < 140737488355328 then ((some (t158 ++ t162 : List Int)).bind fun y165 => (if y165.length + l0.length < 140737488355328 then (some ((y165 ++ l0), 0)) else (none))) else (none)))))) = some (r1, r2) := h
  clear h
  by_cases c2 : (l0.length : Int) > 16376
  · rw [if_pos c2] at H
    have c2b0 : decide (16376 < (l0.length : Int)) = true := decide_eq_true c2
    have c2b1 : decide (16376 < l0.length) = true := decide_eq_true (by omega)
    clear c2
    simp only [Option.some.injEq, Prod.mk.injEq] at H
    obtain ⟨rfl, rfl⟩ := H
    go_enter Try.func56, Try.ntmps56
    go_wp2
    go_ret2
    exact ⟨_, by first | rfl | (simp [errW_none, errW_some] <;> rfl) | (simp [*, errW_none, errW_some] <;> rfl), by first | exact Kd.R_nil _ _ _ _ _ | exact Kd.N_nil _ _ _ _ _ | exact Kd.V_nil _ _ _ _ _ | exact Kd.Q_nil _ _ _ _ _ | exact Kd.S_nil _ _ _ _ _, by repeat (first | (with_reducible first | exact HB.out | apply below_alloc | apply pw_below_drewN | apply below_drew1) | exact HB.out)⟩
  · rw [if_neg c2] at H
    have c2b0 : decide (16376 < (l0.length : Int)) = false := decide_eq_false c2
    have c2b1 : decide (16376 < l0.length) = false := decide_eq_false (by omega)
    clear c2
    replace H := Option.bind_eq_some_iff.mp H
    obtain ⟨t158, A30, H⟩ := H
    replace H : ((estuaryref04_Sum.f k l0).bind fun t161 => ((estuaryref04_four.f t161).bind fun t162 => (if t158.length + t162.length < 140737488355328 then ((some (t158 ++ t162 : List Int)).bind fun y165 => (if y165.length + l0.length < 140737488355328 then (some ((y165 ++ l0), 0)) else (none))) else (none)))) = some (r1, r2) := H
    have A3 := Aside0.mk A30
    clear A30
    replace H := Option.bind_eq_some_iff.mp H
    obtain ⟨t161, A40, H⟩ := H
    replace H : ((estuaryref04_four.f t161).bind fun t162 => (if t158.length + t162.length < 140737488355328 then ((some (t158 ++ t162 : List Int)).bind fun y165 => (if y165.length + l0.length < 140737488355328 then (some ((y165 ++ l0), 0)) else (none))) else (none))) = some (r1, r2) := H
    have A4 := Aside0.mk A40
    clear A40
    replace H := Option.bind_eq_some_iff.mp H
    obtain ⟨t162, A50, H⟩ := H
    replace H : (if t158.length + t162.length < 140737488355328 then ((some (t158 ++ t162 : List Int)).bind fun y165 => (if y165.length + l0.length < 140737488355328 then (some ((y165 ++ l0), 0)) else (none))) else (none)) = some (r1, r2) := H
    have A5 := Aside0.mk A50
    clear A50
    by_cases c6 : t158.length + t162.length < 140737488355328
    · rw [if_pos c6] at H
      have LMc6 := Aside0.mk c6
      clear c6
      obtain ⟨y165, hy165⟩ : ∃ y_ : List Int, y_ = (t158 ++ t162) := ⟨_, rfl⟩
      replace H : (if y165.length + l0.length < 140737488355328 then (some ((y165 ++ l0), 0)) else (none)) = some (r1, r2) := by first | (rw [hy165]; with_reducible exact H) | (have H2_ := (Option.bind_some _ _).symm.trans H; rw [hy165]; with_reducible exact H2_) | (have H2_ := (Option.bind_some _ _).symm.trans H; with_reducible exact H2_) | with_reducible exact H | (rw [hy165]; exact H) | exact H
      have Ny165 := Aside0.mk hy165
      clear hy165
      by_cases c7 : y165.length + l0.length < 140737488355328
      · rw [if_pos c7] at H
        have LMc7 := Aside0.mk c7
        clear c7
        obtain ⟨y168, hy168⟩ : ∃ y_ : List Int, y_ = (y165 ++ l0) := ⟨_, rfl⟩
        replace H : (some (y168, 0)) = some (r1, r2) := by first | (rw [hy168]; with_reducible exact H) | (have H2_ := (Option.bind_some _ _).symm.trans H; rw [hy168]; with_reducible exact H2_) | (have H2_ := (Option.bind_some _ _).symm.trans H; with_reducible exact H2_) | with_reducible exact H | (rw [hy168]; exact H) | exact H
        have Ny168 := Aside0.mk hy168
        clear hy168
        simp only [Option.some.injEq, Prod.mk.injEq] at H
        obtain ⟨rfl, rfl⟩ := H
        go_enter Try.func56, Try.ntmps56
        go_wp2_with (first | ((with_reducible refine gate_callee (f := 59) rfl ?_); refine goesL_ (some 11) rfl rfl Try.func59 (by kernel_rfl) rfl #[.int .u32 (((l0.length : Int)) % 4294967296)] rfl (by (try simp only [List.map_toArray, List.map_cons, List.map_nil]); first | done | rfl | (simp only [List.length_drop, List.length_take]; rfl)) ?_; (with_reducible refine (estuaryref04_four.calls (((l0.length : Int)) % 4294967296) t158 _ A3.out).mono ?_); rintro e w8 ⟨v159, rfl, ho0, hb⟩; refine ⟨_, rfl, ?_⟩; have n0_ := Aside0.mk (Kd.R_lower ho0 (below_size (by repeat (first | (with_reducible first | exact HB.out | apply below_alloc | apply pw_below_drewN | apply below_drew1) | exact HB.out)))); have n1_ := Aside0.mk (below_step (by repeat (first | (with_reducible first | exact HB.out | apply below_alloc | apply pw_below_drewN | apply below_drew1) | exact HB.out)) hb); clear HB; have HO160 := n0_; have HB := n1_; clear n0_ n1_; (try clear hb); (try clear hb2); (try clear hk); (try clear hi); (try clear ho0)) | ((with_reducible refine gate_callee (f := 60) rfl ?_); refine goesL_ (some 13) rfl rfl Try.func60 (by kernel_rfl) rfl #[.slice A0 l0.length c0] rfl (by (try simp only [List.map_toArray, List.map_cons, List.map_nil]); first | done | rfl | (simp only [List.length_drop, List.length_take]; rfl)) ?_; (with_reducible refine (estuaryref04_Sum.calls k _ _ l0 t161 _ ?side1 ?side2 A4.out).mono ?_); (case side1 => repeat (first | exact (Kd.C_below HR0.out HB.out) | (with_reducible refine Kd.C_alloc ?_ _) | (with_reducible refine Kd.C_drewN ?_ _) | (with_reducible refine Kd.C_drew ?_))); (case side2 => exact HC0.out); rintro e w' ⟨rfl, ⟨nd, rfl⟩⟩; refine ⟨_, rfl, ?_⟩) | ((with_reducible refine gate_callee (f := 59) rfl ?_); refine goesL_ (some 14) rfl rfl Try.func59 (by kernel_rfl) rfl #[.int .u32 t161] rfl (by (try simp only [List.map_toArray, List.map_cons, List.map_nil]); first | done | rfl | (simp only [List.length_drop, List.length_take]; rfl)) ?_; (with_reducible refine (estuaryref04_four.calls t161 t162 _ A5.out).mono ?_); rintro e w9 ⟨v163, rfl, ho0, hb⟩; refine ⟨_, rfl, ?_⟩; have n0_ := Aside0.mk (Kd.R_elder' (by (with_reducible repeat (first | apply Kd.R_alloc | apply Kd.R_drewN | apply Kd.R_drew)); exact HO160.out) (Kd.R_base ho0) hb); have n1_ := Aside0.mk (Kd.R_lower (Kd.R_new' ho0 (Kd.R_lt (by (with_reducible repeat (first | apply Kd.R_alloc | apply Kd.R_drewN | apply Kd.R_drew)); exact HO160.out))) (below_size (by repeat (first | (with_reducible first | exact HB.out | apply below_alloc | apply pw_below_drewN | apply below_drew1) | exact HB.out)))); have n2_ := Aside0.mk (below_step (by repeat (first | (with_reducible first | exact HB.out | apply below_alloc | apply pw_below_drewN | apply below_drew1) | exact HB.out)) hb); clear HO160; clear HB; have HO160 := n0_; have HO164 := n1_; have HB := n2_; clear n0_ n1_ n2_; (try clear hb); (try clear hb2); (try clear hk); (try clear hi); (try clear ho0); obtain ⟨Ao11, co11, eo11⟩ := Kd.R_slice HO164.out; subst eo11) | ((with_reducible refine gate_builtin (b := .append) (xs := #[.tmp 11, .tmp 14]) rfl ?_); at_builtin; refine Kd.R_append_rows (Kd.int .u8) (w0 := w) w.heap.size rfl (.tmp 11) (.tmp 14) 32 5 (.int .u8 0) 1 rfl Try.underlying32 info5 rfl (by decide) (by omega) v159 t158 t162 _ _ _ (fun k_ => some k_ ≠ (.slice Ao11 t162.length co11 : Value).ownBlock) (fun _ => False) rfl rfl ?aO ?aR (fun _ _ h => h) (fun _ h => h.elim) ?aF ?aB ?aS ?aL ?_; (case aR => repeat (first | exact (Kd.R_reads' HO164.out).2.2 | (with_reducible refine Kd.C_alloc ?_ _) | (with_reducible refine Kd.C_drewN ?_ _) | (with_reducible refine Kd.C_drew ?_))); (case aB => exact (by repeat (first | (with_reducible first | exact HB.out | apply below_alloc | apply pw_below_drewN | apply below_drew1) | exact HB.out))); (case aF => exact (fun k_ hk => Kd.fresh' (Kd.R_lt (by (with_reducible repeat (first | apply Kd.R_alloc | apply Kd.R_drewN | apply Kd.R_drew)); exact HO164.out)) k_ hk)); (case aO => exact (by (with_reducible repeat (first | apply Kd.R_alloc | apply Kd.R_drewN | apply Kd.R_drew)); exact Kd.R_mono HO160.out (fun _ hk => hk.2))); (case aS => exact (below_size (by repeat (first | (with_reducible first | exact HB.out | apply below_alloc | apply pw_below_drewN | apply below_drew1) | exact HB.out)))); (case aL => have := LMc6.out; omega); intro v166 w10 ho hb hg hat; rw [← Ny165.out] at ho; have n0_ := Aside0.mk (Kd.R_after (ok := (fun _ => True)) (by (with_reducible repeat (first | apply Kd.R_alloc | apply Kd.R_drewN | apply Kd.R_drew)); exact HO164.out) hg hat); have n1_ := Aside0.mk (hb); have n2_ := Aside0.mk (ho); clear HO164; clear HB; clear HO160; have HO164 := n0_; have HB := n1_; have HO167 := n2_; clear n0_ n1_ n2_; clear ho hb hg hat) | ((with_reducible refine gate_builtin (b := .append) (xs := #[.tmp 16, .tmp 17]) rfl ?_); at_builtin; refine Kd.R_append_rows (Kd.int .u8) (w0 := w) w.heap.size rfl (.tmp 16) (.tmp 17) 32 5 (.int .u8 0) 1 rfl Try.underlying32 info5 rfl (by decide) (by omega) v166 y165 l0 _ _ _ (fun k_ => some k_ ≠ (.slice Ao11 t162.length co11 : Value).ownBlock) (fun _ => False) rfl rfl ?aO ?aR (fun _ _ h => h) (fun _ h => h.elim) ?aF ?aB ?aS ?aL ?_; (case aR => repeat (first | exact (Kd.C_below HR0.out HB.out) | (with_reducible refine Kd.C_alloc ?_ _) | (with_reducible refine Kd.C_drewN ?_ _) | (with_reducible refine Kd.C_drew ?_))); (case aB => exact (by repeat (first | (with_reducible first | exact HB.out | apply below_alloc | apply pw_below_drewN | apply below_drew1) | exact HB.out))); (case aF => exact (fun k_ hk => Kd.fresh' (Kd.R_lt (by (with_reducible repeat (first | apply Kd.R_alloc | apply Kd.R_drewN | apply Kd.R_drew)); exact HO164.out)) k_ hk)); (case aO => exact (by (with_reducible repeat (first | apply Kd.R_alloc | apply Kd.R_drewN | apply Kd.R_drew)); exact HO167.out)); (case aS => exact (below_size (by repeat (first | (with_reducible first | exact HB.out | apply below_alloc | apply pw_below_drewN | apply below_drew1) | exact HB.out)))); (case aL => have := LMc7.out; omega); intro v169 w12 ho hb hg hat; rw [← Ny168.out] at ho; have n0_ := Aside0.mk (Kd.R_after (ok := (fun _ => True)) (by (with_reducible repeat (first | apply Kd.R_alloc | apply Kd.R_drewN | apply Kd.R_drew)); exact HO164.out) hg hat); have n1_ := Aside0.mk (hb); have n2_ := Aside0.mk (ho); clear HO164; clear HB; clear HO167; have HO164 := n0_; have HB := n1_; have HO170 := n2_; clear n0_ n1_ n2_; clear ho hb hg hat))
        go_ret2
        exact ⟨_, by first | rfl | (simp [errW_none, errW_some] <;> rfl) | (simp [*, errW_none, errW_some] <;> rfl), by (with_reducible repeat (first | apply Kd.R_alloc | apply Kd.R_drewN | apply Kd.R_drew)); exact Kd.R_mono HO170.out (fun _ hk => trivial), by repeat (first | (with_reducible first | exact HB.out | apply below_alloc | apply pw_below_drewN | apply below_drew1) | exact HB.out)⟩
      · rw [if_neg c7] at H
        exact absurd H (by simp)
    · rw [if_neg c6] at H
      exact absurd H (by simp)
end Go.Proofs.Ytiiljpaedelhlaa.PDiaryPlays
end
section
namespace Go.Proofs.Ytiiljpaedelhlaa.PDiaryPlays
open Go.RowKit Go.Proofs.YtiiljpaedelhlaaW.PrintWords Go.Proofs.YtiiljpaedelhlaaW.PrintLast Go.Proofs.YtiiljpaedelhlaaW.PrintMore
open Go.Proofs.Ytiiljpaedelhlaa.Flow
set_option linter.unusedVariables false
set_option linter.unusedSimpArgs false
theorem u64_w (x : Int) : IntKind.u64.wrap x = x % 18446744073709551616 := by simp [IntKind.wrap, IntKind.bits, IntKind.signed]
theorem shl_one (i : Nat) (hi : i ≤ 8) : shl .u64 1 (IntKind.u64.wrap (i : Int)) = ((2 ^ i : Nat) : Int) := by
  have e : IntKind.u64.wrap (i : Int) = (i : Int) := by rw [u64_w]; omega
  rw [e]
  match i, hi with
  | 0, _ => rfl
  | 1, _ => rfl
  | 2, _ => rfl
  | 3, _ => rfl
  | 4, _ => rfl
  | 5, _ => rfl
  | 6, _ => rfl
  | 7, _ => rfl
  | 8, _ => rfl
  | i + 9, h => omega
theorem xor_high (s c : Nat) (hc : c < 256) : s ^^^ c = (s - s % 256) + (s % 256 ^^^ c) := by
  have h1 : (s ^^^ c) / 256 = s / 256 := by
    have h := Nat.xor_div_two_pow (a := s) (b := c) (n := 8)
    rw [show (2 : Nat) ^ 8 = 256 from rfl, Nat.div_eq_of_lt hc, Nat.xor_zero] at h
    exact h
  have h2 : (s ^^^ c) % 256 = (s % 256) ^^^ c := by
    have h := Nat.xor_mod_two_pow (a := s) (b := c) (n := 8)
    rw [show (2 : Nat) ^ 8 = 256 from rfl, Nat.mod_eq_of_lt hc] at h
    exact h
  have h3 := Nat.div_add_mod (s ^^^ c) 256
  have h4 := Nat.div_add_mod s 256
  rw [h1, h2] at h3
  omega
theorem bit_step (x y i : Nat) : (x ^^^ y) % 2 ^ (i + 1) = (x ^^^ y) % 2 ^ i + (if x / 2 ^ i % 2 = y / 2 ^ i % 2 then 0 else 2 ^ i) := by
  rw [Nat.pow_succ, Nat.mod_mul, Nat.xor_div_two_pow]
  have h0 := Nat.xor_mod_two_pow (a := x / 2 ^ i) (b := y / 2 ^ i) (n := 1)
  rw [show (2 : Nat) ^ 1 = 2 from rfl] at h0
  rw [h0]
  have h1 := Nat.mod_two_eq_zero_or_one (x / 2 ^ i)
  have h2 := Nat.mod_two_eq_zero_or_one (y / 2 ^ i)
  rcases h1 with h1 | h1 <;> rcases h2 with h2 | h2 <;> rw [h1, h2] <;> simp
theorem quo_bit (L p : Nat) (hL : L < 256) : Int.tmod (IntKind.u64.wrap (Int.tdiv (L : Int) (p : Int))) 2 = ((L / p % 2 : Nat) : Int) := by
  rw [Int.tdiv_eq_ediv_of_nonneg (by omega), ← Int.natCast_ediv, u64_w]
  have h : L / p ≤ L := Nat.div_le_self _ _
  generalize L / p = q at h ⊢
  rw [Int.emod_eq_of_lt (by omega) (by omega), Int.tmod_eq_emod_of_nonneg (by omega)]
  omega
theorem last_mul (y : Nat) (h : y < 4294967296) : Int.tmod (IntKind.u64.wrap ((y : Int) * 16777619)) 4294967296 = ((y * 16777619 % 4294967296 : Nat) : Int) := by
  rw [u64_w, Int.emod_eq_of_lt (by omega) (by omega), Int.tmod_eq_emod_of_nonneg (by omega)]
  omega
theorem bit_add (X x p y : Nat) (hx : x = y + p) (hy : y < p) (hp : p ≤ 128) (hX : X + 256 ≤ 4294967296) : IntKind.u64.wrap (((X + y : Nat) : Int) + (p : Int)) = ((X + x : Nat) : Int) := by
  rw [u64_w]
  omega
theorem u64_nonneg (x : Int) : 0 ≤ IntKind.u64.wrap x := by rw [u64_w]; omega
theorem u64_small (c : Nat) (h : c < 256) : IntKind.u64.wrap (c : Int) = (c : Int) := by rw [u64_w]; omega
theorem wrap_succ (i : Nat) (h : i ≤ 2000000) : wrap64 ((i : Int) + 1) = ((i + 1 : Nat) : Int) := by rw [wrap_id (by omega) (by omega)]; omega
theorem cast_ne (p : Nat) (h : 0 < p) : ¬ ((p : Int) = 0) := by omega
theorem cast_lt8 (i : Nat) (h : i < 8) : (i : Int) < 8 := by omega
theorem refsum_step0 (b : List Int) (at_ : Nat) (hat : at_ < b.length) (X L c x y p i k : Nat) (hL : L < 256) (hc : c < 256) (hr : rd b (at_ : Int) = (c : Int)) (hX : X + 256 ≤ 4294967296) (hi : i < 8) (hp : 0 < p) (hp8 : p ≤ 128) (hm : y < p)
    (hs : x = y + (if L / p % 2 = c / p % 2 then 0 else p)) (hsh : shl .u64 1 (IntKind.u64.wrap (i : Int)) = (p : Int)) :
    estuaryref04_Sum.l1 (k + 1) b ((X + y : Nat) : Int) (at_ : Int) (L : Int) (i : Int) = estuaryref04_Sum.l1 k b ((X + x : Nat) : Int) (at_ : Int) (L : Int) ((i + 1 : Nat) : Int) := by
  have q1 := quo_bit L p hL
  have q2 := quo_bit c p hc
  rw [estuaryref04_Sum.l1, if_pos (cast_lt8 i hi), if_pos (u64_nonneg _), hsh, if_neg (cast_ne p hp), if_pos (Int.natCast_nonneg _), if_pos (Int.ofNat_lt.2 hat), hr, u64_small c hc, q1, q2, wrap_succ i (Nat.le_of_lt (Nat.lt_trans hi (by decide)))]
  by_cases hb : L / p % 2 = c / p % 2
  · rw [if_pos (by rw [hb])]
    rw [if_pos hb, Nat.add_zero] at hs
    rw [hs]
  · rw [if_neg (fun h => hb (by exact_mod_cast h))]
    rw [if_neg hb] at hs
    rw [bit_add X x p y hs hm hp8 hX]
theorem two7 (i : Nat) (h : i < 8) : 2 ^ i ≤ 128 := Nat.pow_le_pow_right (n := 2) (show 0 < 2 by decide) (show i ≤ 7 by omega)
theorem refsum_step (b : List Int) (at_ : Nat) (hat : at_ < b.length) (X L c : Nat) (hL : L < 256) (hc : c < 256) (hr : rd b (at_ : Int) = (c : Int)) (hX : X + 256 ≤ 4294967296) (i k : Nat) (hi : i < 8) :
    estuaryref04_Sum.l1 (k + 1) b ((X + (L ^^^ c) % 2 ^ i : Nat) : Int) (at_ : Int) (L : Int) (i : Int) = estuaryref04_Sum.l1 k b ((X + (L ^^^ c) % 2 ^ (i + 1) : Nat) : Int) (at_ : Int) (L : Int) ((i + 1 : Nat) : Int) :=
  refsum_step0 b at_ hat X L c _ _ (2 ^ i) i k hL hc hr hX hi (Nat.two_pow_pos i) (two7 i hi) (Nat.mod_lt _ (Nat.two_pow_pos i)) (bit_step L c i) (shl_one i (Nat.le_of_lt hi))
theorem refsum_l1 (b : List Int) (at_ : Nat) (hat : at_ < b.length) (X L c : Nat) (hL : L < 256) (hc : c < 256) (hr : rd b (at_ : Int) = (c : Int)) (hX : X + 256 ≤ 4294967296) (R : Option Int) (K0 : Nat)
    (hR : ∀ K, K0 ≤ K → estuaryref04_Sum.l0 K b ((((X + (L ^^^ c)) * 16777619 % 4294967296 : Nat)) : Int) (wrap64 ((at_ : Int) + 1)) = R) :
    ∀ (m i K : Nat), i + m = 8 → m + 1 + K0 ≤ K → estuaryref04_Sum.l1 K b ((X + (L ^^^ c) % 2 ^ i : Nat) : Int) (at_ : Int) (L : Int) (i : Int) = R := by
  intro m
  induction m with
  | zero =>
    intro i K hi hK
    obtain ⟨k, rfl⟩ : ∃ k, K = k + 1 := ⟨K - 1, by omega⟩
    obtain rfl : i = 8 := by omega
    have hx : L ^^^ c < 256 := Nat.xor_lt_two_pow (n := 8) hL hc
    have e8 : (L ^^^ c) % 2 ^ 8 = L ^^^ c := Nat.mod_eq_of_lt hx
    rw [estuaryref04_Sum.l1, if_neg (by decide), e8, last_mul _ (by omega)]
    exact hR k (by omega)
  | succ m ih =>
    intro i K hi hK
    obtain ⟨k, rfl⟩ : ∃ k, K = k + 1 := ⟨K - 1, by omega⟩
    rw [refsum_step b at_ hat X L c hL hc hr hX i k (by omega)]
    exact ih (i + 1) k (by omega) (by omega)
theorem refsum_l0 (b : List Int) (hb : Bytes b) (hl : b.length ≤ 2000000) : ∀ (m K at_ S : Nat), 10 * m + 1 ≤ K → at_ + m = b.length → S < 4294967296 → estuaryref04_Sum.l0 K b (S : Int) (at_ : Int) = some (fnv (S : Int) (b.drop at_))
  | 0, K, at_, S, hK, hm, hS => by
    obtain ⟨k, rfl⟩ : ∃ k, K = k + 1 := ⟨K - 1, by omega⟩
    rw [estuaryref04_Sum.l0, if_neg (by omega), List.drop_of_length_le (by omega)]
    show some ((S : Int) % 4294967296) = some (S : Int)
    congr 1
    omega
  | m + 1, K, at_, S, hK, hm, hS => by
    obtain ⟨k, rfl⟩ : ∃ k, K = k + 1 := ⟨K - 1, by omega⟩
    have hlt : at_ < b.length := by omega
    have hc := hb b[at_] (List.getElem_mem hlt)
    have hr := rd_at b at_ hlt
    obtain ⟨c, hcn⟩ : ∃ c : Nat, b[at_] = (c : Int) := ⟨b[at_].toNat, by omega⟩
    rw [hcn] at hc hr
    have hmod : Int.tmod (S : Int) 256 = ((S % 256 : Nat) : Int) := by rw [Int.tmod_eq_emod_of_nonneg (by omega)]; omega
    have hsub : IntKind.u64.wrap ((S : Int) - ((S % 256 : Nat) : Int)) = ((S - S % 256 + (S % 256 ^^^ c) % 2 ^ 0 : Nat) : Int) := by
      rw [u64_w, Nat.pow_zero, Nat.mod_one]
      omega
    have ha1 : wrap64 ((at_ : Int) + 1) = ((at_ + 1 : Nat) : Int) := by rw [wrap_id (by omega) (by omega)]; omega
    rw [estuaryref04_Sum.l0, if_pos (by omega), hmod, hsub]
    have hx := xor_high S c (by omega)
    have hstep : stepS (S : Int) (c : Int) = (((S - S % 256 + (S % 256 ^^^ c)) * 16777619 % 4294967296 : Nat) : Int) := by
      rw [stepS_eq S c hS (by omega), hx]
      generalize S - S % 256 + (S % 256 ^^^ c) = y
      omega
    have hd : fnv (S : Int) (b.drop at_) = fnv (((S - S % 256 + (S % 256 ^^^ c)) * 16777619 % 4294967296 : Nat) : Int) (b.drop (at_ + 1)) := by
      rw [List.drop_eq_getElem_cons hlt, hcn, ← hstep]
      rfl
    rw [hd]
    refine refsum_l1 b at_ hlt (S - S % 256) (S % 256) c (by omega) (by omega) hr (by omega) _ (10 * m + 1) (fun K' hK' => ?_) 8 0 k rfl (by omega)
    rw [ha1]
    exact refsum_l0 b hb hl m K' (at_ + 1) _ hK' (by omega) (Nat.mod_lt _ (by decide))
theorem refsum_f (b : List Int) (hb : Bytes b) (hl : b.length ≤ 2000000) (K : Nat) (hK : 10 * b.length + 1 ≤ K) : estuaryref04_Sum.f K b = some (fnv 2166136261 b) :=
  refsum_l0 b hb hl b.length K 0 2166136261 hK (by omega) (by omega)
theorem four_f (n : Nat) (hn : n < 4294967296) : estuaryref04_four.f (n : Int) = some (lowl (n : Int) 4 0) := by
  have e : ∀ i : Nat, i ≤ 8 → (shr .u64 (n : Int) (8 * (i : Int))) % 256 = ((n / 2 ^ (8 * i) % 256 : Nat) : Int) := fun i hi => by
    rw [shr_nat n i hi]
    omega
  show some [(n : Int) % 256, ((Int.tdiv n 256) % 4294967296) % 256, ((Int.tdiv n 65536) % 4294967296) % 256, ((Int.tdiv n 16777216) % 4294967296) % 256] = _
  simp only [lowl]
  rw [e 0 (by omega), e (0 + 1) (by omega), e (0 + 1 + 1) (by omega), e (0 + 1 + 1 + 1) (by omega), Int.tdiv_eq_ediv_of_nonneg (by omega), Int.tdiv_eq_ediv_of_nonneg (by omega), Int.tdiv_eq_ediv_of_nonneg (by omega)]
  have e0 : (n : Int) % 256 = ((n / 2 ^ (8 * 0) % 256 : Nat) : Int) := by
    rw [show (2 : Nat) ^ (8 * 0) = 1 from rfl]; omega
  have e1 : ((n : Int) / 256) % 4294967296 % 256 = ((n / 2 ^ (8 * (0 + 1)) % 256 : Nat) : Int) := by
    rw [show (2 : Nat) ^ (8 * (0 + 1)) = 256 from rfl]; omega
  have e2 : ((n : Int) / 65536) % 4294967296 % 256 = ((n / 2 ^ (8 * (0 + 1 + 1)) % 256 : Nat) : Int) := by
    rw [show (2 : Nat) ^ (8 * (0 + 1 + 1)) = 65536 from rfl]; omega
  have e3 : ((n : Int) / 16777216) % 4294967296 % 256 = ((n / 2 ^ (8 * (0 + 1 + 1 + 1)) % 256 : Nat) : Int) := by
    rw [show (2 : Nat) ^ (8 * (0 + 1 + 1 + 1)) = 16777216 from rfl]; omega
  rw [e0, e1, e2, e3]
def errN (b : List Int) : Int := if 16376 < b.length then 7 else 0
theorem refwrap_f (b : List Int) (hb : Bytes b) (hl : b.length ≤ 2000000) (K : Nat) (hK : 10 * b.length + 1 ≤ K) : estuaryref04_Wrap.f K b = some (frameB b, errN b) := by
  unfold estuaryref04_Wrap.f frameB errN
  by_cases h : 16376 < b.length
  · rw [if_pos (by omega), if_pos h, if_pos h]
  · have hS := fnv_range b 2166136261 (by omega)
    obtain ⟨S, hSn⟩ := Int.eq_ofNat_of_zero_le hS.1
    have e : (b.length : Int) % 4294967296 = (b.length : Int) := by omega
    rw [if_neg (by omega), if_neg h, if_neg h, e, four_f b.length (by omega), Option.bind_some, refsum_f b hb hl K hK, Option.bind_some, hSn, four_f S (by omega), Option.bind_some, if_pos (by rw [lowl_len, lowl_len]; omega), Option.bind_some, if_pos (by rw [List.length_append, lowl_len, lowl_len]; omega)]
theorem fin_whole (b : List Int) (hb : Bytes b) (n : Nat) (hn : valN (b.take 4) = n) (h8 : 8 + n ≤ b.length) (h16 : n ≤ 16376) : wholeP b = if frameB ((b.take (8 + n)).drop 8) = b.take (8 + n) then 8 + n else 0 := by
  have eX : (b.take (8 + n)).drop 8 = (b.drop 8).take n := by rw [List.drop_take]; congr 1; omega
  have lX : ((b.drop 8).take n).length = n := by rw [List.length_take, List.length_drop]; omega
  have hS := fnv_range ((b.drop 8).take n) 2166136261 (by omega)
  obtain ⟨S, hSn⟩ := Int.eq_ofNat_of_zero_le hS.1
  obtain ⟨p, q, h, hp, hq, h1, h2⟩ := frameB_parts ((b.drop 8).take n) (by omega)
  have hqv : valN q = S := by rw [hq, hSn]; exact valN_low4 S (by omega)
  have hpv : valN p = n := by rw [hp, lX]; exact valN_low4 n (by omega)
  have e3 : b.take (8 + n) = (b.take 4 ++ (b.take 8).drop 4) ++ (b.drop 8).take n := by
    have e4 : b.take 4 ++ (b.take 8).drop 4 = b.take 8 := by
      have := List.take_append_drop 4 (b.take 8)
      rw [List.take_take, Nat.min_eq_left (by omega)] at this
      exact this
    rw [e4, ← List.take_add]
  have l4 : (b.take 4).length = 4 := by rw [List.length_take]; omega
  have l8 : ((b.take 8).drop 4).length = 4 := by rw [List.length_drop, List.length_take]; omega
  have iff1 : frameB ((b.take (8 + n)).drop 8) = b.take (8 + n) ↔ S = valN ((b.take 8).drop 4) := by
    rw [eX, h, e3]
    constructor
    · intro hh
      have h5 := List.append_cancel_right hh
      have h6 := (List.append_inj h5 (by omega)).2
      rw [← h6, hqv]
    · intro hh
      have h5 : q = (b.take 8).drop 4 := valN_inj _ _ (by rw [hq]; exact lowl_bytes _ _ _) ((hb.take _).drop _) (by omega) (by rw [hqv, hh])
      have h6 : p = b.take 4 := valN_inj _ _ (by rw [hp]; exact lowl_bytes _ _ _) (hb.take _) (by omega) (by rw [hpv, hn])
      rw [h5, h6]
  unfold wholeP
  rw [if_neg (by omega), hn, if_neg (by omega), if_neg (by omega), hSn]
  by_cases hh : S = valN ((b.take 8).drop 4)
  · rw [if_pos (by rw [hh]), if_pos (iff1.2 hh)]
  · rw [if_neg (by omega), if_neg (fun h => hh (iff1.1 h))]
theorem val4 (b : List Int) (hb : Bytes b) (hl : 4 ≤ b.length) : ((valN (b.take 4) : Nat) : Int) = rd b 0 + 256 * rd b 1 + 65536 * rd b 2 + 16777216 * rd b 3 := by
  match b, hl with
  | c0 :: c1 :: c2 :: c3 :: r, _ =>
    have h0 := hb c0 (by simp)
    have h1 := hb c1 (by simp)
    have h2 := hb c2 (by simp)
    have h3 := hb c3 (by simp)
    have e0 : rd (c0 :: c1 :: c2 :: c3 :: r) 0 = c0 := rfl
    have e1 : rd (c0 :: c1 :: c2 :: c3 :: r) 1 = c1 := rfl
    have e2 : rd (c0 :: c1 :: c2 :: c3 :: r) 2 = c2 := rfl
    have e3 : rd (c0 :: c1 :: c2 :: c3 :: r) 3 = c3 := rfl
    have e : valN ((c0 :: c1 :: c2 :: c3 :: r).take 4) = c0.toNat + 256 * (c1.toNat + 256 * (c2.toNat + 256 * (c3.toNat + 256 * 0))) := rfl
    rw [e, e0, e1, e2, e3]
    omega
theorem splitR_one : ∀ {b : List Int} {l : List (List Int)} {n : Nat}, SplitR b l n → ∀ {l' n'}, SplitR b l' n' → l = l' ∧ n = n' := by
  intro b l n h
  induction h with
  | none b h0 =>
    intro l' n' h'
    cases h' with
    | none => exact ⟨rfl, rfl⟩
    | some _ _ _ h1 _ => exact absurd h0 h1
  | some b l n h0 _ ih =>
    intro l' n' h'
    cases h' with
    | none _ h1 => exact absurd h1 h0
    | some _ l2 n2 _ h2 =>
      obtain ⟨rfl, rfl⟩ := ih h2
      exact ⟨rfl, rfl⟩
end Go.Proofs.Ytiiljpaedelhlaa.PDiaryPlays
end
section
namespace Go.Proofs.Ytiiljpaedelhlaa.Flow
open Go.RowKit Go.Proofs.YtiiljpaedelhlaaW.PrintWords Go.Proofs.YtiiljpaedelhlaaW.PrintLast Go.Proofs.YtiiljpaedelhlaaW.PrintMore
set_option linter.unusedVariables false
set_option linter.unusedSimpArgs false
structure Sh where
  nil : Bool
  g : Nat
  n : Nat
  c : Nat
def adrSh (s : Sh) : Option Addr := if s.nil = true then none else some ⟨s.g, 0, none⟩
theorem adrSh_some {s : Sh} (h : s.nil = false) : adrSh s = some ⟨s.g, 0, none⟩ := by unfold adrSh; rw [h]; rfl
def V (s : Sh) : Value := .slice (adrSh s) s.n s.c
def LR (e : TypeId) (w : World) (s : Sh) (ys : List Int) : Prop := ys.length = s.n ∧ (s.nil = true → s.n = 0 ∧ s.c = 0) ∧ (s.nil = false → ∃ cur, Blk w s.g e cur ∧ cur.size = s.c ∧ s.n ≤ s.c ∧ s.c ≤ 9223372036854775807 ∧ Nums .u8 cur ys)
section
variable {e : TypeId} {w w' : World} {s : Sh} {ys : List Int}
theorem LR.stay (h : LR e w s ys) (hb : s.nil = false → w'.heap[s.g]? = w.heap[s.g]?) : LR e w' s ys :=
  ⟨h.1, h.2.1, fun hn => by
    obtain ⟨cur, h1, h2⟩ := h.2.2 hn
    exact ⟨cur, (hb hn).trans h1, h2⟩⟩
theorem LR.lt (h : LR e w s ys) (hn : s.nil = false) : s.g < w.heap.size := by
  obtain ⟨cur, h1, _⟩ := h.2.2 hn
  exact h1.lt
theorem LR.on (h : LR e w s ys) (hb : Below w.heap.size w w') : LR e w' s ys := h.stay (fun hn => hb.block s.g (h.lt hn))
theorem LR.keep {g : Nat} (h : LR e w s ys) (hk : Keep g w w') (hne : s.nil = false → s.g ≠ g) : LR e w' s ys := h.stay (fun hn => hk.block s.g (hne hn))
theorem LR.pos (h : LR e w s ys) (hn : 0 < s.n) : s.nil = false := by
  cases hs : s.nil with
  | false => rfl
  | true => have := (h.2.1 hs).1; omega
theorem LR.at (h : LR e w s ys) (j : Nat) (hj : j < s.n) : s.nil = false ∧ w.cell? ⟨s.g, j, none⟩ = some (.int .u8 (ys.getD j 0)) ∧ w.frozen? ⟨s.g, j, none⟩ = false := by
  have hn := h.pos (by omega)
  obtain ⟨cur, h1, h2, h3, h4, h5⟩ := h.2.2 hn
  exact ⟨hn, h1.cellv (h5 j (by rw [h.1]; exact hj)), h1.frozen j⟩
theorem LR.put (h : LR e w s ys) (j : Nat) (hj : j < s.n) (x : Int) : ∃ cur, Blk w s.g e cur ∧ ∀ w', Blk w' s.g e (cur.setIfInBounds j (.int .u8 x)) → LR e w' s (ys.set j x) := by
  have hn := h.pos (by omega)
  obtain ⟨cur, h1, h2, h3, h4, h5⟩ := h.2.2 hn
  exact ⟨cur, h1, fun w' hb => ⟨by rw [List.length_set, h.1], h.2.1, fun _ => ⟨_, hb, by simp [h2], h3, h4, h5.set (by rw [h.1]; omega) j x⟩⟩⟩
end
theorem own_shape {e : TypeId} {w : World} {base b : Nat} {A : Option Addr} {n c : Nat} {xs : List Int} (h : Own .u8 e w base b A n c xs) : ∃ s : Sh, V s = .slice A n c ∧ LR e w s xs ∧ (s.nil = false → b ≤ s.g ∧ base ≤ s.g) := by
  have hl := h.len
  have ho := Kd.own_of_R h
  rcases ho.2 with ⟨hv, hn⟩ | ⟨g, cap, cur, hv, hb, hg, hn, hc, hsz, ht⟩
  · injection hv with h1 h2 h3
    subst h1 h2 h3
    exact ⟨⟨true, 0, 0, 0⟩, rfl, ⟨by omega, fun _ => ⟨rfl, rfl⟩, fun h => by cases h⟩, fun h => by cases h⟩
  · injection hv with h1 h2 h3
    subst h1 h2 h3
    refine ⟨⟨false, g, xs.length, c⟩, rfl, ⟨rfl, (fun h => by cases h), fun _ => ⟨cur, hg, (show cur.size = c by omega), hn, (show c ≤ 9223372036854775807 by simp [maxLen] at hc; omega), fun j hj => ?_⟩⟩, fun _ => ⟨h.1 g rfl, hb⟩⟩
    have h1 : (cur.toList.take (xs.length * 1))[j]? = some (.int .u8 (xs.getD j 0)) := by
      rw [ht]
      simp [encs, List.getElem?_eq_getElem hj]
    rw [List.getElem?_take_of_lt (by omega)] at h1
    simpa using h1
theorem nums_snoc {cur : Array Value} {ys : List Int} {x : Int} (h : Nums .u8 cur ys) (hx : cur[ys.length]? = some (.int .u8 x)) : Nums .u8 cur (ys ++ [x]) := fun j hj => by
  by_cases hj2 : j < ys.length
  · rw [h j hj2]
    simp [List.getD_eq_getElem?_getD, List.getElem?_append_left hj2]
  · have e1 : j = ys.length := by simp at hj; omega
    subst e1
    rw [hx]
    simp [List.getD_eq_getElem?_getD]
theorem set_far {cur : Array Value} {ys : List Int} {x : Value} (h : Nums .u8 cur ys) (i : Nat) (hi : ys.length ≤ i) : Nums .u8 (cur.setIfInBounds i x) ys := fun j hj => by
  have := h j hj
  simpa [Array.getElem?_setIfInBounds, show ¬ i = j by omega] using this
section
variable {P : Program} {cx : Cx} {n : Nat} {Q : Exit → Act → World → Prop} {st : List Itm} {G : Env} {w : World} {ops : Array Oper} {o : Oper} {rest : List Oper}
theorem rw_append_sh {dst : Nat} (hg : o.guard = none) (hd : o.dst = some dst) (hdn : Nat.blt dst n = true) (s x : Operand) (hks : knownO G s = true) (hkx : knownO G x = true) (t e : TypeId)
    (ho : o.op = .call { callee := .builtin .append, args := #[s, x], argTypes := #[t, t] }) (ht : P.underlying t = some (.slice e)) (hinfo : (P.info? e).map (fun i => (i.zero, i.size, i.bytes)) = some (some (.int .u8 0), 1, 1))
    {sl : Sh} {ys : List Int} {b : Int} {gx : Nat} {t2 : TypeId} (hs : sEv G s = V sl) (hx : sEv G x = .slice (some ⟨gx, 0, none⟩) 1 1) (hLR : LR e w sl ys) (hbx : Blk w gx t2 #[.int .u8 b]) (hl : sl.n ≤ 1000000000)
    (kk : ∀ (s2 : Sh) w', s2.nil = false → s2.n = sl.n + 1 → LR e w' s2 (ys ++ [b]) →
      ((sl.nil = false ∧ s2.g = sl.g ∧ Keep sl.g w w' ∧ ∃ cur, Blk w sl.g e cur ∧ Blk w' sl.g e (cur.setIfInBounds sl.n (.int .u8 b))) ∨ (w.heap.size ≤ s2.g ∧ Below w.heap.size w w')) → RW P ops cx n Q rest ((dst, V s2) :: G) w') : RW P ops cx n Q (o :: rest) G w := by
  intro a ha
  obtain ⟨i0, hi, hzz⟩ := Option.map_eq_some_iff.1 hinfo
  simp only [Prod.mk.injEq] at hzz
  obtain ⟨hz0, hz1, hz2⟩ := hzz
  have es : a.eval s = V sl := (eval_known ha hks).trans hs
  have ex : a.eval x = .slice (some ⟨gx, 0, none⟩) 1 1 := (eval_known ha hkx).trans hx
  have hnews : ∀ j u, [Value.int .u8 b][j]? = some u → w.cell? ((⟨gx, 0, none⟩ : Addr).add j) = some u := fun j u hu => by
    match j, hu with
    | 0, hu =>
      obtain rfl := Option.some.inj hu
      exact hbx.cellv rfl
    | j + 1, hu => simp at hu
  have grown : ∀ v' w', w'.ownsRow w.heap.size e 1 v' (sl.n + 1) (encs (Value.int .u8) ys ++ [.int .u8 b]) → w.grownBy w' none → wpList P ops Q rest (a.put o.dst v') w' := fun v' w' hown hgr => by
    have e1 : encs (Value.int .u8) ys ++ [.int .u8 b] = encs (Value.int .u8) (ys ++ [b]) := by simp [encs]
    have e2 : sl.n + 1 = (ys ++ [b]).length := by simp [hLR.1]
    rw [e1, e2] at hown
    have hR : (Kd.int .u8).R e w' w.heap.size (fun q => w.heap.size ≤ q) v' (ys ++ [b]) := Kd.R_of_own hown (fun q hq => by
      rcases hown.2 with ⟨hv, _⟩ | ⟨g', cap', cur', hv, hge, _⟩
      · rw [hv] at hq
        cases hq
      · rw [hv] at hq
        simp only [Value.ownBlock, Option.some.injEq] at hq
        omega)
    obtain ⟨A', c', rfl, _, h4⟩ := R_shape hR
    obtain ⟨s2, hV, hLR2, hge⟩ := own_shape (h4 : Own .u8 e w' w.heap.size w.heap.size A' _ c' _)
    have hn2 : s2.n = sl.n + 1 := by rw [← hLR2.1, ← e2]
    have hnil := hLR2.pos (by omega)
    have hBl : Below w.heap.size w w' := ⟨hgr.os, hgr.tape, hgr.output, hgr.size, fun q hq => hgr.block q hq (by simp)⟩
    rw [hd, ← hV]
    exact kk s2 w' hnil hn2 hLR2 (.inr ⟨(hge hnil).1, hBl⟩) _ (ha.put hdn _)
  cases hnil : sl.nil with
  | true =>
    have h0 := hLR.2.1 hnil
    have hy : ys = [] := List.eq_nil_of_length_eq_zero (by rw [hLR.1, h0.1])
    refine wpList_append_grows w hg s x t ho e i0 (.int .u8 0) 1 1 ht hi hz0 hz1 hz2 rfl (by omega) none sl.n sl.c [] (by rw [es]; unfold V adrSh; rw [hnil]; rfl) (fun _ => h0) (by simp [h0.1]) (fun b hb => by cases hb) ⟨gx, 0, none⟩ 1 1 [.int .u8 b] ex rfl hnews (fun u hu => by rw [List.mem_singleton.1 hu]; rfl) (by omega) (by simp [maxLen]; omega) (by omega) ?_
    intro v' w' hown hgr
    refine grown v' w' ?_ hgr
    rw [hy]
    exact hown
  | false =>
    obtain ⟨cur, h1, h2, h3, h4, h5⟩ := hLR.2.2 hnil
    have hcells : ∀ j u, (encs (Value.int .u8) ys)[j]? = some u → w.cell? ⟨sl.g, 0 + j, none⟩ = some u := fun j u hu => by
      have hj : j < ys.length := by
        have := (List.getElem?_eq_some_iff.1 hu).1
        rwa [encs_length] at this
      have := h1.cellv (h5 j hj)
      rw [Nat.zero_add, this, ← hu]
      simp [encs, List.getElem?_eq_getElem hj, List.getD_eq_getElem?_getD]
    refine wpList_append_arg w hg s x t ho e i0 (.int .u8 0) 1 1 ht hi hz0 hz1 hz2 rfl (by omega) sl.g 0 sl.n sl.c (encs (Value.int .u8) ys) (by rw [es]; unfold V; rw [adrSh_some hnil]) (by rw [encs_length, hLR.1]; omega) hcells ⟨gx, 0, none⟩ 1 1 [.int .u8 b] ex rfl hnews (fun u hu => by rw [List.mem_singleton.1 hu]; rfl) (fun hr j hj => ?_) (by simp [maxLen]; omega) (by omega) (fun hr => ?_) (fun hr v' w' hown hgr => grown v' w' hown hgr)
    · have hj0 : j = 0 := by simpa using hj
      subst hj0
      have hlt : sl.n < cur.size := by omega
      refine ⟨?_, by rw [Nat.zero_add, Nat.add_zero]; exact h1.frozen _⟩
      rw [show 0 + sl.n * 1 + 0 = sl.n by omega, h1.cell, Array.getElem?_eq_getElem hlt]
      rfl
    · have e0 : w.setCells sl.g (0 + sl.n * 1) [.int .u8 b] = w.setCell ⟨sl.g, sl.n, none⟩ (.int .u8 b) := by
        rw [show 0 + sl.n * 1 = sl.n by omega]
        rfl
      rw [e0, hd]
      have hb2 := h1.set sl.n (.int .u8 b)
      have hlt : sl.n < cur.size := by omega
      have hLR2 : LR e (w.setCell ⟨sl.g, sl.n, none⟩ (.int .u8 b)) ⟨false, sl.g, sl.n + 1, sl.c⟩ (ys ++ [b]) := ⟨by simp [hLR.1], (fun h => by cases h), fun _ => ⟨_, hb2, by simp [h2], hr, h4, nums_snoc (set_far h5 sl.n (by rw [hLR.1]; exact Nat.le_refl _)) (by rw [hLR.1]; simp [Array.getElem?_setIfInBounds, hlt])⟩⟩
      exact kk ⟨false, sl.g, sl.n + 1, sl.c⟩ _ rfl rfl hLR2 (.inl ⟨hnil, rfl, Keep.set _ _ _ _, cur, h1, hb2⟩) _ (ha.put hdn _)
end
end Go.Proofs.Ytiiljpaedelhlaa.Flow
end
section
namespace Go.Proofs.Ytiiljpaedelhlaa.PDiaryPlays
open Go.RowKit Go.Proofs.YtiiljpaedelhlaaW.PrintWords Go.Proofs.YtiiljpaedelhlaaW.PrintLast Go.Proofs.YtiiljpaedelhlaaW.PrintMore
open Go.Proofs.Ytiiljpaedelhlaa.Flow
set_option linter.unusedVariables false
set_option linter.unusedSimpArgs false
def OwnSpec (base b : Nat) (xs : List Int) : Flow.Spec where
  s := fun v w => ∃ A n c, v = .slice A n c ∧ Own .u8 5 w base b A n c xs
  pl := fun v => ∃ A n c, v = .slice A n c
  stab := fun v w w' hb ⟨A, n, c, h1, h2⟩ => ⟨A, n, c, h1, h2.on hb⟩
  imp := fun v w ⟨A, n, c, h1, _⟩ => ⟨A, n, c, h1⟩
  inh := ⟨.slice none 0 0, none, 0, 0, rfl⟩
theorem ownspec_fact {base b : Nat} {xs : List Int} {A : Option Addr} {n c : Nat} {w : World} (h : (OwnSpec base b xs).s (.slice A n c) w) : Own .u8 5 w base b A n c xs := by
  obtain ⟨A', n', c', he, h2⟩ := h
  injection he with h3 h4 h5
  subst h3 h4 h5
  exact h2
theorem rd_range {b : List Int} (hb : Bytes b) (i : Nat) (h : i < b.length) : 0 ≤ rd b (i : Int) ∧ rd b (i : Int) < 256 := by
  rw [rd_at b i h]
  exact hb _ (List.getElem_mem h)
theorem str_inj : ∀ (a b : List Int), Bytes a → Bytes b → (a.map fun n => UInt8.ofNat n.toNat) = (b.map fun n => UInt8.ofNat n.toNat) → a = b
  | [], [], _, _, _ => rfl
  | [], y :: b, _, _, h => by simp at h
  | x :: a, [], _, _, h => by simp at h
  | x :: a, y :: b, ha, hb, h => by
    simp only [List.map_cons, List.cons.injEq] at h
    have h1 := ha x (by simp)
    have h2 := hb y (by simp)
    have h3 := congrArg UInt8.toNat h.1
    simp at h3
    have h4 : x = y := by omega
    rw [h4, str_inj a b ha.tail hb.tail h.2]
theorem str_iff {a b : List Int} (ha : Bytes a) (hb : Bytes b) : (strOfNums a).toList = (strOfNums b).toList ↔ a = b := by
  constructor
  · intro h
    have h1 := toList_inj h
    have h2 : (strOfNums a).data.toList = (strOfNums b).data.toList := by rw [h1]
    rw [strOfNums_data, strOfNums_data] at h2
    exact str_inj a b ha hb h2
  · intro h
    rw [h]
end Go.Proofs.Ytiiljpaedelhlaa.PDiaryPlays
end
section
namespace Go.Proofs.Ytiiljpaedelhlaa.Flow
open Go.RowKit Go.Proofs.YtiiljpaedelhlaaW.PrintWords Go.Proofs.YtiiljpaedelhlaaW.PrintLast Go.Proofs.YtiiljpaedelhlaaW.PrintMore
set_option linter.unusedVariables false
set_option linter.unusedSimpArgs false
section
variable {P : Program} {cx : Cx} {n : Nat} {Q : Exit → Act → World → Prop} {st : List Itm} {G : Env} {w : World} {ops : Array Oper} {o : Oper} {rest : List Oper}
theorem rw_append_oneS {dst : Nat} (k : IntKind) (e2 : TypeId) {w0 : World} (base : Nat) (hg : o.guard = none) (hd : o.dst = some dst) (hdn : Nat.blt dst n = true) (s x : Operand) (hks : knownO G s = true) (hkx : knownO G x = true) (t e : TypeId) (bytes : Nat)
    (ho : o.op = .call { callee := .builtin .append, args := #[s, x], argTypes := #[t, t] }) (ht : P.underlying t = some (.slice e)) (hinfo : (P.info? e).map (fun i => (i.zero, i.size, i.bytes)) = some (some (.slice none 0 0), 1, bytes)) (hb0 : 0 < bytes)
    {xss : List (List Int)} {X : List Int} {v : Value} {A1 : Option Addr} {m1 c1 g : Nat} {t2 : TypeId} {okp okv : Nat → Prop} (hs : sEv G s = v) (hx : sEv G x = .slice (some ⟨g, 0, none⟩) 1 1)
    (HO : Kd.S (Kd.slice e2 (Kd.int k)) e w base okv v xss) (hov : ∀ q, okv q → base ≤ q) (hblk : Blk w g t2 #[.slice A1 m1 c1]) (hX : (Kd.int k).R e2 w base okp (.slice A1 m1 c1) X) (hokp : ∀ q, okp q → base ≤ q ∧ ¬ okv q)
    (HB : Below base w0 w) (hbase : base ≤ w.heap.size) (hl : (xss.length + 1) * bytes ≤ 140737488355328)
    (kk : ∀ A' c' w', Kd.S (Kd.slice e2 (Kd.int k)) e w' base (fun q => base ≤ q) (.slice A' (xss ++ [X]).length c') (xss ++ [X]) → Below base w0 w' → w.grownBy w' v.ownBlock → RW P ops cx n Q rest ((dst, .slice A' (xss ++ [X]).length c') :: G) w') : RW P ops cx n Q (o :: rest) G w := fun a ha => by
  obtain ⟨f, hf, hR⟩ := Kd.S_tag HO xss.length okp (fun q hq => (hokp q hq).2)
  refine Kd.R_append_rows (Kd.tag f (Kd.slice e2 (Kd.int k))) (Rr := fun y cs => y = (X, xss.length) ∧ cs = [.slice A1 m1 c1]) base hg s x t e (.slice none 0 0) bytes ho ht hinfo rfl (show 0 < 1 by decide) hb0 v xss.zipIdx [(X, xss.length)] (some ⟨g, 0, none⟩) 1 1 (fun q => base ≤ q) okp ((eval_known ha hks).trans hs) ((eval_known ha hkx).trans hx) (Kd.R_mono hR hov) ?_ ?_ (fun q hq => ⟨(hokp q hq).1, fun e => (hokp q hq).2 (hR.1 q e.symm)⟩) (fun q hq => Nat.le_trans hbase hq) HB hbase (by rw [List.length_zipIdx]; exact hl) ?_
  · refine ⟨rfl, by decide, fun _ => ⟨_, rfl, fun j p hj => ?_⟩⟩
    match j, hj with
    | 0, hj =>
      obtain rfl := Option.some.inj hj
      refine ⟨[.slice A1 m1 c1], rfl, ⟨rfl, rfl⟩, fun i u hu => ?_⟩
      match i, hu with
      | 0, hu =>
        obtain rfl := Option.some.inj hu
        exact hblk.cellv rfl
      | i + 1, hu => simp at hu
    | j + 1, hj => simp at hj
  · rintro y cs ⟨rfl, rfl⟩
    exact ⟨_, rfl, Kd.R_mono hX (fun q hq => ⟨hq, hf q hq⟩)⟩
  · intro v1 w1 h1 h2 h3 _
    rw [← Kd.zip_snoc] at h1
    have hS : Kd.S (Kd.slice e2 (Kd.int k)) e w1 base (fun q => base ≤ q) v1 (xss ++ [X]) := ⟨f, h1⟩
    obtain ⟨A', c', rfl, _⟩ := RR_shape (Kd.S_R hS)
    rw [hd]
    exact kk A' c' w1 hS h2 h3 _ (ha.put hdn _)
end
theorem S_shapes2 {e2 e : TypeId} {w : World} {base : Nat} {ok : Nat → Prop} {v : Value} {xss : List (List Int)} (h : Kd.S (Kd.slice e2 (Kd.int .u8)) e w base ok v xss) (hp : 0 < xss.length) :
    ∃ (ob c : Nat) (sh : Nat → Sh), v = .slice (some ⟨ob, 0, none⟩) xss.length c ∧ ob < w.heap.size ∧ (∀ k, k < xss.length → w.cell? ⟨ob, k, none⟩ = some (V (sh k))) ∧ (∀ i, i < xss.length → (sh i).nil = false → (sh i).g ≠ ob) ∧
      (∀ i j, i < xss.length → j < xss.length → (sh i).nil = false → (sh j).nil = false → (sh i).g = (sh j).g → i = j) ∧ (∀ i, i < xss.length → LR e2 w (sh i) (xss.getD i [])) ∧ (∀ i, i < xss.length → (sh i).nil = false → base ≤ (sh i).g ∧ ok (sh i).g) := by
  obtain ⟨f, h0, inner, ho, hr⟩ := h
  rw [List.length_zipIdx] at ho
  have hrl := hr.1
  rw [List.length_zipIdx] at hrl
  have hrl1 : inner.length = xss.length := by rw [hrl]; show xss.length * 1 = _; omega
  have key : ∀ j, j < xss.length → ∃ s : Sh, inner[j]? = some (V s) ∧ LR e2 w s (xss.getD j []) ∧ (s.nil = false → (some s.g ≠ v.ownBlock ∧ f s.g = j) ∧ base ≤ s.g ∧ ok s.g) := fun j hj => by
    have h1 := hr.2 j (xss[j], j) (Kd.zip_at (List.getElem?_eq_getElem hj))
    obtain ⟨vj, h2, h3⟩ := h1
    have hlt : j < inner.length := by omega
    have h4 : (inner.drop (j * 1)).take 1 = [inner[j]] := by
      rw [Nat.mul_one, List.drop_eq_getElem_cons hlt]
      rfl
    have h5 : inner[j] = vj := by
      have h6 : (inner.drop (j * 1)).take 1 = [vj] := h2
      rw [h4] at h6
      exact List.head_eq_of_cons_eq h6
    obtain ⟨A, c, rfl, hle, h7⟩ := R_shape h3
    have h8 := Kd.R_bound h7
    obtain ⟨s, hV, hLR, hge⟩ := own_shape (b := base) (Kd.R_mono h8 (fun q hq => hq.2.1))
    refine ⟨s, by rw [List.getElem?_eq_getElem hlt, h5, hV], ?_, fun hn => ?_⟩
    · rw [List.getD_eq_getElem?_getD, List.getElem?_eq_getElem hj]
      exact hLR
    · have h9 : (Value.slice A xss[j].length c).ownBlock = some s.g := by
        rw [← hV]
        unfold V
        rw [adrSh_some hn]
        rfl
      have h10 := h7.1 s.g h9
      exact ⟨⟨h10.1.2, h10.2⟩, (hge hn).2, h10.1.1⟩
  rcases ho.2 with ⟨hv, hn⟩ | ⟨g, cap, cur, hv, hb, hg, hn, hc, hsz, ht⟩
  · omega
  · have hob : v.ownBlock = some g := by rw [hv]; rfl
    have hblk : Blk w g e cur := hg
    have key2 : ∀ j, ∃ s : Sh, j < xss.length → inner[j]? = some (V s) ∧ LR e2 w s (xss.getD j []) ∧ (s.nil = false → (some s.g ≠ v.ownBlock ∧ f s.g = j) ∧ base ≤ s.g ∧ ok s.g) := fun j => by
      by_cases hj : j < xss.length
      · obtain ⟨s, hs⟩ := key j hj
        exact ⟨s, fun _ => hs⟩
      · exact ⟨⟨true, 0, 0, 0⟩, fun h => absurd h hj⟩
    obtain ⟨sh, hsh⟩ := (Classical.skolem (b := fun _ => Sh) (p := fun j s => j < xss.length → inner[j]? = some (V s) ∧ LR e2 w s (xss.getD j []) ∧ (s.nil = false → (some s.g ≠ v.ownBlock ∧ f s.g = j) ∧ base ≤ s.g ∧ ok s.g))).1 key2
    refine ⟨g, cap, sh, hv, hblk.lt, fun j hj => ?_, fun i hi hnil e => ?_, fun i j hi hj hni hnj he => ?_, fun i hi => (hsh i hi).2.1, fun i hi hnil => ((hsh i hi).2.2 hnil).2⟩
    · refine hblk.cellv ?_
      have h2 : (cur.toList.take (xss.length * 1))[j]? = some (V (sh j)) := by rw [show cur.toList.take (xss.length * 1) = inner from ht]; exact (hsh j hj).1
      rw [List.getElem?_take_of_lt (by omega)] at h2
      simpa using h2
    · exact ((hsh i hi).2.2 hnil).1.1 (by rw [hob, e])
    · rw [← ((hsh i hi).2.2 hni).1.2, ← ((hsh j hj).2.2 hnj).1.2, he]
end Go.Proofs.Ytiiljpaedelhlaa.Flow
end
