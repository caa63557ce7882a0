/- A cut Add or Rewrite: what the law needs. -/
import Derived.Test.YtiiljpaedelhlaaDyTexts
import Derived.Test.YtiiljpaedelhlaaDyPure
import Derived.Test.YtiiljpaedelhlaaFlowU
import Derived.Test.YtiiljpaedelhlaaFlowV
namespace Go.Proofs.Ytiiljpaedelhlaa.Tp
open Go.RowKit Go.Proofs.YtiiljpaedelhlaaW.PrintWords Go.Proofs.YtiiljpaedelhlaaW.PrintLast Go.Proofs.YtiiljpaedelhlaaW.PrintMore
open Go.Proofs.Ytiiljpaedelhlaa.Flow
open Go.Proofs.Ytiiljpaedelhlaa.PDiaryPlays (SplitR Bytes frameB frameE FC wholeP errW wrap_calls split_calls frameB_len frameB_bytes FC_cons)
set_option linter.unusedVariables false
set_option linter.unusedSimpArgs false

set_option maxHeartbeats 4000000 in
theorem num_none (w : World) :
    Calls Try.prog 23 #[errT none] w fun e w' => e = .returned (.int .i64 0) ∧ Below w.heap.size w w' := by
  refine calls_flow Try.func23 rfl 19 rfl (Nat.le_of_ble_eq_true rfl) [(0, errT none)] ?_ ?_
  · intro t v h; exact args_look rfl t v h
  refine w_seq ?_
  refine w_region ?_
  refine rw_val (v := .int .i64 0) (w' := w) rfl rfl rfl rfl rfl ?_
  refine rw_end ?_
  refine w_seq ?_
  refine w_seq ?_
  refine w_region ?_
  refine rw_val (v := errT none) (w' := w) rfl rfl rfl rfl rfl ?_
  refine rw_val (v := .bool ((none : Option Int).isNone)) (w' := w) rfl rfl rfl rfl (run_as (guard_err_eq0 _ (none : Option Int) _)) ?_
  refine rw_end ?_
  have hq1 : ((none : Option Int).isNone) = true := by rfl
  refine w_cond_t rfl rfl hq1 ?_
  refine w_seq ?_
  refine w_region ?_
  refine rw_val (v := .int .i64 0) (w' := w) rfl rfl rfl rfl rfl ?_
  refine rw_end ?_
  refine w_ret (post_ret1 rfl rfl ?_)
  exact ⟨rfl, (Below.refl _ _)⟩
set_option maxHeartbeats 4000000 in
theorem num_some (c : Int) (hc : (c == 0) = false) (w : World) :
    Calls Try.prog 23 #[errT (some c)] w fun e w' => e = .returned (.int .i64 c) ∧ Below w.heap.size w w' := by
  refine calls_flow Try.func23 rfl 19 rfl (Nat.le_of_ble_eq_true rfl) [(0, errT (some c))] ?_ ?_
  · intro t v h; exact args_look rfl t v h
  refine w_seq ?_
  refine w_region ?_
  refine rw_val (v := .int .i64 0) (w' := w) rfl rfl rfl rfl rfl ?_
  refine rw_end ?_
  refine w_seq ?_
  refine w_seq ?_
  refine w_region ?_
  refine rw_val (v := errT (some c)) (w' := w) rfl rfl rfl rfl rfl ?_
  refine rw_val (v := .bool ((some c).isNone)) (w' := w) rfl rfl rfl rfl (run_as (guard_err_eq0 _ (some c) _)) ?_
  refine rw_end ?_
  have hq1 : ((some c).isNone) = false := by rfl
  refine w_cond_f rfl rfl hq1 ?_
  refine w_skip ?_
  refine w_seq ?_
  refine w_region ?_
  refine rw_val (v := errT (some c)) (w' := w) rfl rfl rfl rfl rfl ?_
  refine rw_val (v := .tuple #[.int .i64 c, .bool true]) (w' := w) rfl rfl rfl rfl (by kernel_rfl) ?_
  refine rw_val (v := .tuple #[.int .i64 c, .bool true]) (w' := w) rfl rfl rfl rfl rfl ?_
  refine rw_val (v := .int .i64 c) (w' := w) rfl rfl rfl rfl (by simp [go_sem, sEv, sLook, nbeq, i64_w, -List.getD_eq_getElem?_getD]) ?_
  refine rw_val (v := .bool true) (w' := w) rfl rfl rfl rfl (by simp [go_sem, sEv, sLook, nbeq, i64_w, -List.getD_eq_getElem?_getD]) ?_
  refine rw_val (v := .int .i64 c) (w' := w) rfl rfl rfl rfl rfl ?_
  refine rw_val (v := .bool true) (w' := w) rfl rfl rfl rfl rfl ?_
  refine rw_end ?_
  refine w_weaken (G' := [(2, .int .i64 0), (3, .int .i64 c), (4, .bool true)]) ⟨rfl, rfl, rfl, trivial⟩ ?_
  refine w_seq ?_
  refine w_seq ?_
  refine w_region ?_
  refine rw_val (v := .bool true) (w' := w) rfl rfl rfl rfl rfl ?_
  refine rw_val (v := .bool false) (w' := w) rfl rfl rfl rfl (by simp [go_sem, sEv, sLook, nbeq, i64_w, -List.getD_eq_getElem?_getD]) ?_
  refine rw_val (v := .bool false) (w' := w) rfl rfl rfl rfl rfl ?_
  refine rw_on (c := false) rfl rfl rfl rfl ?_
  refine rw_val (v := .int .i64 c) (w' := w) rfl rfl rfl rfl rfl ?_
  refine rw_on (c := false) rfl rfl rfl rfl ?_
  refine rw_val (v := .bool (c == 0)) (w' := w) rfl rfl rfl rfl (by simp [go_sem, sEv, sLook, nbeq, i64_w, -List.getD_eq_getElem?_getD]) ?_
  refine rw_val (v := .bool (c == 0)) (w' := w) rfl rfl rfl rfl (by simp [go_sem, sEv, sLook, nbeq, i64_w, -List.getD_eq_getElem?_getD]) ?_
  refine rw_end ?_
  refine w_weaken (G' := [(2, .int .i64 0), (3, .int .i64 c), (17, .bool (c == 0))]) ⟨rfl, rfl, rfl, trivial⟩ ?_
  refine w_cond_f rfl rfl hc ?_
  refine w_skip ?_
  refine w_seq ?_
  refine w_region ?_
  refine rw_val (v := .int .i64 c) (w' := w) rfl rfl rfl rfl rfl ?_
  refine rw_val (v := .int .i64 c) (w' := w) rfl rfl rfl rfl rfl ?_
  refine rw_end ?_
  refine w_ret (post_ret1 rfl rfl ?_)
  exact ⟨rfl, (Below.refl _ _)⟩

theorem num_T (o : Option Int) (ho : o ≠ some 0) (w : World) : Calls Try.prog 23 #[errT o] w fun e w' => e = .returned (.int .i64 (numT o)) ∧ Below w.heap.size w w' := by
  cases o with
  | none => exact num_none w
  | some c => exact num_some c (by rw [beq_eq_false_iff_ne]; intro h; exact ho (by rw [h])) w
theorem cut_plain {was next : List (List Int)} {X : List Int} {o : Option Int} (h : CutO was next X o) : (∃ k, X = (FC was).take k) ∨ (∃ k, X = (FC next).take k) := by
  rcases h with ⟨_, rfl⟩ | ⟨_, rfl⟩ | ⟨_, rfl | ⟨r, k, _, _, rfl⟩⟩
  · exact .inr ⟨(FC next).length, by rw [List.take_length]⟩
  · exact .inl ⟨(FC was).length, by rw [List.take_length]⟩
  · exact .inl ⟨(FC was).length, by rw [List.take_length]⟩
  · exact .inr ⟨k, rfl⟩
theorem cut_bytes {was next : List (List Int)} {X : List Int} {o : Option Int} (h : CutO was next X o) (h1 : ∀ r ∈ was, Bytes r) (h2 : ∀ r ∈ next, Bytes r) : Bytes X := by
  rcases cut_plain h with ⟨k, rfl⟩ | ⟨k, rfl⟩
  · exact fun c hc => FC_bytes h1 c (List.mem_of_mem_take hc)
  · exact fun c hc => FC_bytes h2 c (List.mem_of_mem_take hc)
theorem cut_len {was next : List (List Int)} {X : List Int} {o : Option Int} (h : CutO was next X o) (h1 : (FC was).length ≤ 1048576) (h2 : (FC next).length ≤ 1048576) : X.length ≤ 1048576 := by
  rcases cut_plain h with ⟨k, rfl⟩ | ⟨k, rfl⟩ <;> rw [List.length_take] <;> omega
theorem cut_num {was next : List (List Int)} {X : List Int} {o : Option Int} (h : CutO was next X o) : o ≠ some 0 := by
  rcases h with ⟨rfl, _⟩ | ⟨rfl, _⟩ | ⟨rfl, _⟩ <;> simp
theorem FC_bound : ∀ (l : List (List Int)), (∀ p ∈ l, p.length ≤ 2000) → (FC l).length ≤ 2008 * l.length
  | [], _ => by simp [FC]
  | r :: l, h => by
    have h1 := frameB_len r (by have := h r (by simp); omega)
    have h2 := FC_bound l (fun p hp => h p (List.mem_cons_of_mem _ hp))
    have h3 := h r (by simp)
    rw [FC_cons, List.length_append, List.length_cons]
    omega
theorem open_cut (w0 w : World) (g m : Nat) (x : Nat → Prop) (hx : ∀ q, x q → q < w.heap.size) (X : List Int) (st : Int) (hT : TapeAt w0 w g m x (pl X (X.length : Int) st)) (h0 : 0 ≤ st ∧ st ≤ 1002) (hl : X.length ≤ 1048576) (hby : Bytes X) :
    Calls Try.prog 11 #[.pointer (some ⟨g, 0, none⟩)] w fun e w' => ∃ (gd m' : Nat) (A : Option Addr) (c : Nat) (out : List (List Int)) (n : Nat) (s' : TS), e = .returned (.tuple #[.pointer (some ⟨gd, 0, none⟩), .slice A out.length c, errT none]) ∧ SplitR X out n ∧ DiaryAt w0 w' g gd m' (HX gd x) ⟨s', (out.length : Int), (n : Int)⟩ ∧ OwnK (Kd.slice 5 (Kd.int .u8)) 32 w' w.heap.size w.heap.size A out.length c out ∧ w.heap.size ≤ w'.heap.size ∧ Kept w w' (fun k => k = g) := by
  have hok : (pl X (X.length : Int) st).Ok := pl_ok (by omega) (by omega) hl
  refine (open_D w0 w g m x hx _ hT hok hby).mono fun e w' h => ?_
  obtain ⟨hs, hK, h | ⟨_, out, n, hS, h⟩⟩ := h
  · cases h.1
  · have e1 : openE (pl X (X.length : Int) st) n = none := by
      rw [openE, if_neg (by simp [pl])]
      split
      · rw [TS.repE, if_neg (by rw [List.length_take]; show ¬ 1048576 < min n X.length; omega)]; rfl
      · rfl
    rw [e1] at h
    rcases h with ⟨c, h1, _⟩ | ⟨_, gd, m', A, c, h2, h3, h4⟩
    · cases h1
    · exact ⟨gd, m', A, c, out, n, _, h2, hS, h3, h4, hs, hK⟩
end Go.Proofs.Ytiiljpaedelhlaa.Tp
