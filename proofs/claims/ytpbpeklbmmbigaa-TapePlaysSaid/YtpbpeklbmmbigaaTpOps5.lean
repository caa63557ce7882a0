/- A tape's methods: the walks, fifth part. -/
import Derived.Test.YtpbpeklbmmbigaaTpOps4
namespace Go.Proofs.Ytpbpeklbmmbigaa.Tp
open Go.RowKit Go.Proofs.YtpbpeklbmmbigaaW.PrintWords Go.Proofs.YtpbpeklbmmbigaaW.PrintLast Go.Proofs.YtpbpeklbmmbigaaW.PrintMore
open Go.Proofs.YtpbpeklbmmbigaaW.PrintWords.Kd Go.Proofs.Ytpbpeklbmmbigaa.Flow
set_option linter.unusedVariables false
set_option linter.unusedSimpArgs false


theorem cut3_run {P : Program} {t e : TypeId} (hu : P.underlying t = some (.slice e)) {sz : Nat} (hz : ∀ w, (sizeOf e).run P w = .ok sz w) {A : Option Addr} {n c : Nat} {x : Int} (h0 : 0 ≤ x) (h1 : x ≤ c) (w : World) : (Instr.sliceAt t (.slice A n c) none (some (.int .i64 x)) (some (.int .i64 x))).run P w = .ok (.slice A x.toNat x.toNat) w := by
  simp [go_sem, hu, h0, h1, hz]
def TS.cut (s : TS) : TS := if s.dn = true then s else { s with xs := s.xs.take s.sure.toNat }
set_option maxHeartbeats 4000000 in
theorem cut_raw (w0 w : World) (g m : Nat) (x : Nat → Prop) (hx : ∀ q, x q → q < w.heap.size) (s : TS) (A : Option Addr) (n c : Nat) (hB : Below w0.heap.size w0 w) (hg0 : w0.heap.size ≤ g) (hm : g < m ∧ m ≤ w.heap.size) (hb : Blk w g 60 (tcells A n c s)) (hR : BR .u8 5 w w0.heap.size (fun q => g < q ∧ q < m ∧ ¬ x q) A n c s.xs) (hok : s.Ok) :
    Calls Try.prog 17 #[.pointer (some ⟨g, 0, none⟩)] w fun e w' => e = .returned (.tuple #[]) ∧ TapeAt w0 w' g w'.heap.size x s.cut ∧ w.heap.size ≤ w'.heap.size ∧ (∀ q, x q → q ≠ g → w'.heap[q]? = w.heap[q]?) := by
  refine calls_flow Try.func17 rfl 21 rfl (Nat.le_of_ble_eq_true rfl) [(0, .pointer (some ⟨g, 0, none⟩))] ?_ ?_
  · intro t v h; exact args_look rfl t v h
  refine w_seq ?_
  refine w_region ?_
  refine rw_val (v := .pointer (some ⟨g, 0, none⟩)) (w' := w) rfl rfl rfl rfl rfl ?_
  refine rw_call rfl rfl rfl rfl (f := 23) (args := #[.pointer (some ⟨g, 0, none⟩)]) (by simp [go_sem, sEv, sLook, nbeq, i64_w]) (down_raw w0 w g m x (fun q h_ => by have := hx q h_; omega) s A n c hB hg0 hm hb hR hok) ?_
  rintro e_ w1 ⟨rfl, rfl⟩
  refine ⟨_, rfl, ?_⟩
  refine rw_val (v := .bool (!s.dn)) (w' := w) rfl rfl rfl rfl (by simp [go_sem, sEv, sLook, nbeq, i64_w]) ?_
  refine rw_end ?_
  refine w_cond rfl rfl (fun cDn => ?_) (fun cDn => ?_)
  · refine w_drawk (M := [0, 0, 2, 6, 14, 0, 32, 96, 224, 0, 512, 1536, 3584, 8190, 16383, 32767, 65535]) (ss := [Is (.pointer (some ⟨g, 0, none⟩)), Is (.pointer (some ⟨g, 0, none⟩)), Is (.pointer (some ⟨g, 0, none⟩)), Is (.pointer (some ⟨g, 0, none⟩)), Is (.slice A n c), Is (.pointer (some ⟨g, 0, none⟩)), Is (.pointer (some ⟨g, 0, none⟩)), Is (.pointer (some ⟨g, 1, none⟩)), Is (.int .i64 s.sure), Is (.pointer (some ⟨g, 0, none⟩)), Is (.pointer (some ⟨g, 0, none⟩)), Is (.pointer (some ⟨g, 1, none⟩)), Is (.int .i64 s.sure), Is (.slice A s.sure.toNat s.sure.toNat)]) 14 rfl (by decide +kernel) ?_
    refine t_is (.pointer (some ⟨g, 0, none⟩)) rfl rfl rfl rfl (fun W_ hW_ F_ => rfl) ?_
    refine t_is (.pointer (some ⟨g, 0, none⟩)) rfl rfl rfl rfl (fun W_ hW_ F_ => rfl) ?_
    refine t_is (.pointer (some ⟨g, 0, none⟩)) rfl rfl rfl rfl (fun W_ hW_ F_ => by simp [go_sem, sEv, sLook, nbeq, i64_w]) ?_
    refine t_is (.pointer (some ⟨g, 0, none⟩)) rfl rfl rfl rfl (fun W_ hW_ F_ => by simp [go_sem, sEv, sLook, nbeq, i64_w, Try.underlying60]) ?_
    refine t_is (.slice A n c) rfl rfl rfl rfl (fun W_ hW_ F_ => by have eb_ := (hb.on (below_of_drew hW_)); have e0_ := eb_.cellv (i := 0) (v := (.slice A n c : Value)) rfl; simp [go_sem, sEv, sLook, nbeq, i64_w, e0_, Try.underlying27]) ?_
    refine t_is (.pointer (some ⟨g, 0, none⟩)) rfl rfl rfl rfl (fun W_ hW_ F_ => rfl) ?_
    refine t_is (.pointer (some ⟨g, 0, none⟩)) rfl rfl rfl rfl (fun W_ hW_ F_ => by simp [go_sem, sEv, sLook, nbeq, i64_w]) ?_
    refine t_is (.pointer (some ⟨g, 1, none⟩)) rfl rfl rfl rfl (fun W_ hW_ F_ => by simp [go_sem, sEv, sLook, nbeq, i64_w, Try.underlying60]) ?_
    refine t_is (.int .i64 s.sure) rfl rfl rfl rfl (fun W_ hW_ F_ => by have eb_ := (hb.on (below_of_drew hW_)); have e0_ := eb_.cellv (i := 1) (v := (.int .i64 s.sure : Value)) rfl; simp [go_sem, sEv, sLook, nbeq, i64_w, e0_]) ?_
    refine t_is (.pointer (some ⟨g, 0, none⟩)) rfl rfl rfl rfl (fun W_ hW_ F_ => rfl) ?_
    refine t_is (.pointer (some ⟨g, 0, none⟩)) rfl rfl rfl rfl (fun W_ hW_ F_ => by simp [go_sem, sEv, sLook, nbeq, i64_w]) ?_
    refine t_is (.pointer (some ⟨g, 1, none⟩)) rfl rfl rfl rfl (fun W_ hW_ F_ => by simp [go_sem, sEv, sLook, nbeq, i64_w, Try.underlying60]) ?_
    refine t_is (.int .i64 s.sure) rfl rfl rfl rfl (fun W_ hW_ F_ => by have eb_ := (hb.on (below_of_drew hW_)); have e0_ := eb_.cellv (i := 1) (v := (.int .i64 s.sure : Value)) rfl; simp [go_sem, sEv, sLook, nbeq, i64_w, e0_]) ?_
    refine t_is (.slice A s.sure.toNat s.sure.toNat) rfl rfl rfl rfl (fun W_ hW_ F_ => by have h1_ := hok.sure; have h4_ := (BR.reads' hR).1; have h5_ := (BR.reads' hR).2.1; exact run_as (cut3_run (e := 5) (sz := 1) (x := s.sure) (c := c) (n := n) (A := A) (by kernel_rfl) (fun _ => by kernel_rfl) (by omega) (by omega) W_)) ?_
    refine t_tail ?_
    intro w2 hb3_ F4
    have hb3 := below_of_drew hb3_
    have hs_w2 := hb3.size
    refine rw_val (v := .pointer (some ⟨g, 0, none⟩)) (w' := w2) rfl rfl rfl rfl (by simp [go_sem, sEv, sLook, nbeq, i64_w]) ?_
    refine rw_val (v := .pointer (some ⟨g, 0, none⟩)) (w' := w2) rfl rfl rfl rfl (by simp [go_sem, sEv, sLook, nbeq, i64_w, Try.underlying60]) ?_
    have hb8 := (hb.on hb3)
    refine rw_store (g := g) (i := 0) (l := [.slice A s.sure.toNat s.sure.toNat]) (cs' := #[.slice A s.sure.toNat s.sure.toNat, .int .i64 s.sure, .int .i64 s.steps, .bool s.ps, .int .i64 s.pl, .bool s.fs, .int .i64 s.fl, .bool s.dn]) rfl rfl rfl hb8 rfl (by have e0_ := hb8.cellv (i := 0) (v := (.slice A n c : Value)) rfl; have f0_ := hb8.frozen 0; simp [go_sem, sEv, sLook, nbeq, i64_w, putCells, e0_, f0_, Try.underlying27]) ?_
    intro w5 hk6 hk7
    have hs_w5 := hk6.size
    refine rw_end ?_
    refine w_weaken (G' := []) trivial ?_
    refine w_end (post_end0 rfl ?_)
    have e2_ : s.cut = ⟨(s.xs.take s.sure.toNat), s.sure, s.steps, s.ps, s.pl, s.fs, s.fl, s.dn⟩ := by rw [TS.cut, if_neg (by simpa using cDn)]
    rw [e2_]
    refine ⟨rfl, TapeAt.mk (s := ⟨(s.xs.take s.sure.toNat), s.sure, s.steps, s.ps, s.pl, s.fs, s.fl, s.dn⟩) (hk6.below (by omega) (chain hB hb3)) hg0 hk7 (BR.step (BR.below (BR.cut hR s.sure.toNat (by have := hok.sure; omega)) hb3) (fun q hq _ => hk6.block q (by have := hq.1; omega))) (fun q hq => ⟨hq.1, hq.2.2⟩), by omega, (fun q hxq hxg => ((hk6.block q hxg).trans (hb3.block q (by have := hx q hxq; omega))))⟩
  · refine w_skip ?_
    refine w_end (post_end0 rfl ?_)
    have e2_ : s.cut = ⟨s.xs, s.sure, s.steps, s.ps, s.pl, s.fs, s.fl, s.dn⟩ := by rw [TS.cut, if_pos (by simpa using cDn)]
    rw [e2_]
    refine ⟨rfl, TapeAt.mk (s := ⟨s.xs, s.sure, s.steps, s.ps, s.pl, s.fs, s.fl, s.dn⟩) hB hg0 hb hR (fun q hq => ⟨hq.1, hq.2.2⟩), by omega, (fun q hxq hxg => rfl)⟩
theorem cut_T (w0 w : World) (g m : Nat) (x : Nat → Prop) (hx : ∀ q, x q → q < w.heap.size) (s : TS) (hT : TapeAt w0 w g m x s) (hok : s.Ok) : Calls Try.prog 17 #[.pointer (some ⟨g, 0, none⟩)] w fun e w' => e = .returned (.tuple #[]) ∧ TapeAt w0 w' g w'.heap.size x s.cut ∧ w.heap.size ≤ w'.heap.size ∧ (∀ q, x q → q ≠ g → w'.heap[q]? = w.heap[q]?) := by
  obtain ⟨hB, hg0, hm, A, n, c, hb, hR⟩ := hT
  exact cut_raw w0 w g m x hx s A n c hB hg0 hm hb hR hok
theorem TS.cut_ok {s : TS} (h : s.Ok) : s.cut.Ok := by
  have h1 := h.sure
  have h2 := h.len
  unfold TS.cut
  split
  · exact h
  · exact ⟨h.steps, h.pl, h.fl, by simp only [List.length_take]; omega, by simp only [List.length_take]; omega⟩
end Go.Proofs.Ytpbpeklbmmbigaa.Tp
