/- An opening that is cut: the law's walk. -/
import Derived.Test.YtiiljpaedelhlaaDyGrows
import Derived.Test.YtiiljpaedelhlaaFlowU
namespace Go.Proofs.Ytiiljpaedelhlaa.Tp
open Go.RowKit Go.Proofs.YtiiljpaedelhlaaW.PrintWords Go.Proofs.YtiiljpaedelhlaaW.PrintLast Go.Proofs.YtiiljpaedelhlaaW.PrintMore
open Go.Proofs.Ytiiljpaedelhlaa.Flow
open Go.Proofs.Ytiiljpaedelhlaa.PDiaryPlays (SplitR Bytes frameB frameE FC wholeP errW wrap_calls split_calls frameB_len frameB_bytes whole_frame FC_cons frameB_parts)
set_option linter.unusedVariables false
set_option linter.unusedSimpArgs false


theorem splitR_zero {t : List Int} {n : Nat} (h : SplitR t [] n) : wholeP t = 0 := by
  cases h with
  | none _ h => exact h
/-- Whole frames, and what is none behind them. -/
theorem split_tail : ∀ (ps : List (List Int)), (∀ p ∈ ps, p.length ≤ 16376) → ∀ (t : List Int), wholeP t = 0 → ∀ (l : List (List Int)) (n : Nat), SplitR (FC ps ++ t) l n → l = ps ∧ n = (FC ps).length
  | [], _, t, h0, l, n, h => by
    have e : FC [] ++ t = t := by simp [FC]
    rw [e] at h
    cases h with
    | none _ _ => exact ⟨rfl, by simp [FC]⟩
    | some _ l n h1 _ => exact absurd h0 h1
  | p :: ps, hps, t, h0, l, n, h => by
    have hp := hps p (by simp)
    have hf := frameB_len p hp
    rw [FC_cons, List.append_assoc] at h
    have e0 := whole_frame p (FC ps ++ t) hp
    cases h with
    | none _ h1 => rw [e0] at h1; omega
    | some _ l' n' h1 hs =>
      have ed : (frameB p ++ (FC ps ++ t)).drop (8 + p.length) = FC ps ++ t := by rw [← hf, List.drop_left]
      have et : ((frameB p ++ (FC ps ++ t)).take (8 + p.length)).drop 8 = p := by
        rw [← hf, List.take_left]
        obtain ⟨a, b, h, ha, hb, h1, h2⟩ := frameB_parts p hp
        rw [h, show (8 : Nat) = (a ++ b).length by simp; omega, List.drop_left]
      rw [e0, ed] at hs
      obtain ⟨q1, q2⟩ := split_tail ps (fun x hx => hps x (List.mem_cons_of_mem _ hx)) t h0 _ _ hs
      refine ⟨by rw [e0, et, q1], ?_⟩
      rw [e0, FC_cons, List.length_append, q2]
      omega
theorem TapeAt.grown {w0 w w' : World} {g m x : Nat} {s : TS} {α : Type} {d : Kd α} {e : TypeId} {base b : Nat} {A : Option Addr} {n c : Nat} {ys : List α} (h : TapeAt w0 w g m x s) (ho : OwnK d e w base b A n c ys) (hb : m ≤ b) (hB : Below w0.heap.size w0 w') (hG : w.grownBy w' (Value.slice A n c).ownBlock) : TapeAt w0 w' g m x s := by
  obtain ⟨h1, h2, h3, A', n', c', h4, h5⟩ := h
  have hs := hG.size
  exact ⟨hB, h2, ⟨h3.1, by omega⟩, A', n', c', OwnK.blk_grown h4 ho (.inl (by omega)) hG, BR.step h5 (fun z hz hlt => hG.block z hlt (fun he => by have := OwnK.blk_ge ho he.symm; have := hz.2.1; omega))⟩
theorem crash_sure (s : TS) (k : Int) (h : s.sure = (s.xs.length : Int)) : s.crash k = pl s.xs (s.xs.length : Int) s.steps := by
  have e : s.left k = 0 := by unfold TS.left; rw [h]; omega
  have e2 : s.xs.take (s.sure + s.left k).toNat = s.xs := by rw [e, h]; simp
  unfold TS.crash
  rw [e2]
  rfl
theorem next_same (s : TS) : s.next.xs = s.xs ∧ s.next.sure = s.sure := by
  unfold TS.next
  split
  · exact ⟨rfl, rfl⟩
  · split
    · exact ⟨rfl, rfl⟩
    · split <;> exact ⟨rfl, rfl⟩
theorem bytes_app {a b : List Int} (ha : Bytes a) (hb : Bytes b) : Bytes (a ++ b) := fun c hc => (List.mem_append.1 hc).elim (ha c) (hb c)
theorem app_start (F t : List Int) (h : F.length + t.length ≤ 1048576) : TS.start.appE [F, t].flatten = none ∧ TS.start.app [F, t].flatten = pl (F ++ t) 0 1 := by
  have e : [F, t].flatten = F ++ t := by simp
  rw [e]
  obtain ⟨h1, h2⟩ := pl_app [] (F ++ t) 0 0 (by rw [List.length_append]; simpa using h)
  exact ⟨h1, h2⟩
theorem rowsK2 {k : IntKind} {e t : TypeId} {w : World} {g : Nat} {A1 A2 : Option Addr} {c1 c2 : Nat} {x1 x2 : List Int} {S : Nat → Prop} (hb : Blk w g t #[.slice A1 x1.length c1, .slice A2 x2.length c2]) (hS : ¬ S g) (h1 : x1.length ≤ c1) (f1 : ∀ W_, Kept w W_ S → (Kd.int k).C W_ A1 x1.length x1) (h2 : x2.length ≤ c2) (f2 : ∀ W_, Kept w W_ S → (Kd.int k).C W_ A2 x2.length x2) : ∀ W_, Kept w W_ S → (Kd.slice e (Kd.int k)).C W_ (some ⟨g, 0, none⟩) [x1, x2].length [x1, x2] := fun W_ hk => rows2 (Blk.keptT hb hk hS) h1 (f1 W_ hk) h2 (f2 W_ hk)
/-- An opening that can't replace: behind whole frames lies what is none. -/
theorem open_first (w0 w : World) (g m x : Nat) (hx : x < w.heap.size) (s : TS) (hT : TapeAt w0 w g m x s) (hok : s.Ok) (rows : List (List Int)) (torn : List Int) (n0 : Nat) (hS : SplitR torn [] n0) (hxs : s.xs = FC rows ++ torn) (hr : ∀ r ∈ rows, r.length ≤ 16376) (hby : Bytes (FC rows ++ torn)) (hdn : s.dn = false) (he : s.err.isSome = true) (h9 : s.steps ≤ 10) (hsu : s.sure = ((FC rows ++ torn).length : Int)) :
    Calls Try.prog 11 #[.pointer (some ⟨g, 0, none⟩)] w fun e w' => ∃ (P A : Option Addr) (n c : Nat) (o : Option Int) (s' : TS) (m' : Nat), e = .returned (.tuple #[.pointer P, .slice A n c, errT o]) ∧ o.isSome = decide (0 < torn.length) ∧ TapeAt w0 w' g m' g s' ∧ s'.xs = FC rows ++ torn ∧ s'.sure = ((FC rows ++ torn).length : Int) ∧ s'.Ok ∧ s'.steps ≤ 11 ∧ w.heap.size ≤ w'.heap.size := by
  refine (open_D w0 w g m x hx s hT hok (by rw [hxs]; exact hby)).mono fun e w' h => ?_
  obtain ⟨hs, hK, h | ⟨_, out, n, hS2, h⟩⟩ := h
  · rw [hdn] at h; cases h.1
  · rw [hxs] at hS2
    obtain ⟨e3, e4⟩ := split_tail rows hr torn (splitR_zero hS) out n hS2
    subst e4
    have hlen : s.xs.length = (FC rows).length + torn.length := by rw [hxs, List.length_append]
    have hl := hok.len
    have nd : ¬ s.dn = true := by rw [hdn]; simp
    by_cases ht : 0 < torn.length
    · have ht2 : (FC rows).length < s.xs.length := by omega
      have hl2 : ¬ 1048576 < (s.xs.take (FC rows).length).length := by rw [List.length_take]; omega
      have e1 : openE s (FC rows).length = s.err := by rw [openE, if_neg nd, if_pos ht2, TS.repE, if_neg hl2]
      have e2 : openS s (FC rows).length = s.next := by rw [openS, if_neg nd, if_pos ht2, TS.rep, if_neg hl2, if_pos he]
      rw [e1, e2] at h
      rcases h with ⟨c, h1, h2, m', h3⟩ | ⟨h1, _⟩
      · obtain ⟨q1, q2⟩ := next_ok hok (by omega)
        obtain ⟨n1, n2⟩ := next_same s
        exact ⟨none, none, 0, 0, some c, s.next, m', h2, by rw [decide_eq_true ht]; rfl, h3, by rw [n1]; exact hxs, by rw [n2]; exact hsu, q1, by omega, hs⟩
      · rw [h1] at he; cases he
    · have ht2 : ¬ (FC rows).length < s.xs.length := by omega
      have e1 : openE s (FC rows).length = none := by rw [openE, if_neg nd, if_neg ht2]
      have e2 : openS s (FC rows).length = s := by rw [openS, if_neg nd, if_neg ht2]
      rw [e1, e2] at h
      rcases h with ⟨c, h1, _⟩ | ⟨_, gd, m', A, c, h2, h3, h4⟩
      · cases h1
      · exact ⟨_, _, _, _, none, s, m', h2, by rw [decide_eq_false ht]; rfl, TapeAt.hole h3.1 g (.inl rfl), hxs, hsu, hok, by omega, hs⟩
/-- An opening that replaces what lies behind whole frames. -/
theorem open_second (w0 w : World) (g m x : Nat) (hx : x < w.heap.size) (rows : List (List Int)) (torn : List Int) (n0 : Nat) (st : Int) (hT : TapeAt w0 w g m x (pl (FC rows ++ torn) ((FC rows ++ torn).length : Int) st)) (h0 : 0 ≤ st ∧ st ≤ 11) (hS : SplitR torn [] n0) (hl : (FC rows ++ torn).length ≤ 1048576) (hr : ∀ r ∈ rows, r.length ≤ 16376) (hby : Bytes (FC rows ++ torn)) :
    Calls Try.prog 11 #[.pointer (some ⟨g, 0, none⟩)] w fun e w' => ∃ (gd m' : Nat) (A : Option Addr) (c : Nat) (s' : TS), e = .returned (.tuple #[.pointer (some ⟨gd, 0, none⟩), .slice A rows.length c, errT none]) ∧ DiaryAt w0 w' g gd m' ⟨s', (rows.length : Int), ((FC rows).length : Int)⟩ ∧ OwnK (Kd.slice 5 (Kd.int .u8)) 32 w' w.heap.size w.heap.size A rows.length c rows ∧ s'.xs = FC rows ∧ s'.Ok ∧ w.heap.size ≤ w'.heap.size := by
  have hok : (pl (FC rows ++ torn) ((FC rows ++ torn).length : Int) st).Ok := pl_ok (by omega) (by omega) hl
  refine (open_D w0 w g m x hx _ hT hok hby).mono fun e w' h => ?_
  obtain ⟨hs, hK, h | ⟨_, out, n, hS2, h⟩⟩ := h
  · cases h.1
  · obtain ⟨e3, e4⟩ := split_tail rows hr torn (splitR_zero hS) out n hS2
    subst e4
    subst e3
    have hlen : (FC out ++ torn).length = (FC out).length + torn.length := List.length_append
    have nd : ¬ (pl (FC out ++ torn) ((FC out ++ torn).length : Int) st).dn = true := by simp [pl]
    by_cases ht : 0 < torn.length
    · have ht2 : (FC out).length < (pl (FC out ++ torn) ((FC out ++ torn).length : Int) st).xs.length := by show (FC out).length < (FC out ++ torn).length; omega
      have et : (pl (FC out ++ torn) ((FC out ++ torn).length : Int) st).xs.take (FC out).length = FC out := List.take_left
      have hl2 : ¬ 1048576 < (FC out).length := by omega
      have e1 : openE (pl (FC out ++ torn) ((FC out ++ torn).length : Int) st) (FC out).length = none := by rw [openE, if_neg nd, if_pos ht2, et, TS.repE, if_neg hl2]; rfl
      have e2 : openS (pl (FC out ++ torn) ((FC out ++ torn).length : Int) st) (FC out).length = (pl (FC out ++ torn) ((FC out ++ torn).length : Int) st).rep (FC out) := by rw [openS, if_neg nd, if_pos ht2, et]
      have e5 : ((pl (FC out ++ torn) ((FC out ++ torn).length : Int) st).rep (FC out)).xs = FC out := by rw [TS.rep, if_neg hl2]; rfl
      rw [e1, e2] at h
      rcases h with ⟨c, h1, _⟩ | ⟨_, gd, m', A, c, h2, h3, h4⟩
      · cases h1
      · exact ⟨gd, m', A, c, _, h2, h3, h4, e5, (rep_ok (FC out) hok (by show st ≤ 999999999; omega)).1, hs⟩
    · have ht2 : ¬ (FC out).length < (pl (FC out ++ torn) ((FC out ++ torn).length : Int) st).xs.length := by show ¬ (FC out).length < (FC out ++ torn).length; omega
      have e0 : torn = [] := List.eq_nil_of_length_eq_zero (by omega)
      have e1 : openE (pl (FC out ++ torn) ((FC out ++ torn).length : Int) st) (FC out).length = none := by rw [openE, if_neg nd, if_neg ht2]
      have e2 : openS (pl (FC out ++ torn) ((FC out ++ torn).length : Int) st) (FC out).length = (pl (FC out ++ torn) ((FC out ++ torn).length : Int) st) := by rw [openS, if_neg nd, if_neg ht2]
      rw [e1, e2] at h
      rcases h with ⟨c, h1, _⟩ | ⟨_, gd, m', A, c, h2, h3, h4⟩
      · cases h1
      · exact ⟨gd, m', A, c, _, h2, h3, h4, by show FC out ++ torn = FC out; rw [e0, List.append_nil], hok, hs⟩
set_option maxHeartbeats 4000000 in
theorem opens_calls (w : World) (A1 A2 : Option Addr) (c1 c2 : Nat) (rows : List (List Int)) (torn : List Int) (arm keep : Int) (hr : (Kd.slice 5 (Kd.int .u8)).C w A1 rows.length rows) (hc1 : rows.length ≤ c1) (ht : (Kd.int .u8).C w A2 torn.length torn) (hc2 : torn.length ≤ c2) (hby : ∀ r ∈ rows, Bytes r) (hbt : Bytes torn) (hall : ∀ r ∈ rows, r.length ≤ 140737488355328) :
    Calls Try.prog 18 #[.slice A1 rows.length c1, .slice A2 torn.length c2, .int .i64 arm, .int .i64 keep] w fun e w' => e = .returned (.bool true) ∧ Below w.heap.size w w' := by
  refine calls_flow Try.func18 rfl 149 rfl (Nat.le_of_ble_eq_true rfl) [(0, .slice A1 rows.length c1), (1, .slice A2 torn.length c2), (2, .int .i64 arm), (3, .int .i64 keep)] ?_ ?_
  · intro t v h; exact args_look rfl t v h
  refine w_seq ?_
  refine w_region ?_
  refine rw_val (v := .bool false) (w' := w) rfl rfl rfl rfl rfl ?_
  refine rw_end ?_
  refine w_seq ?_
  refine w_seq ?_
  refine w_region ?_
  refine rw_call rfl rfl rfl rfl (f := 9) (args := #[]) (by simp [go_sem, sEv, sLook, nbeq, i64_w, -List.getD_eq_getElem?_getD]) (alive_calls w) ?_
  rintro e_ w1 ⟨rfl, hb2⟩
  refine ⟨_, rfl, ?_⟩
  have hs_w1 := hb2.size
  refine rw_val (v := .bool false) (w' := w1) rfl rfl rfl rfl (by simp [go_sem, sEv, sLook, nbeq, i64_w, -List.getD_eq_getElem?_getD]) ?_
  refine rw_end ?_
  refine w_cond_f rfl rfl rfl ?_
  refine w_skip ?_
  refine w_seq ?_
  refine w_seq ?_
  refine w_region ?_
  refine rw_val (v := .slice A1 rows.length c1) (w' := w1) rfl rfl rfl rfl rfl ?_
  refine rw_val (v := .int .i64 ((rows.length : Nat) : Int)) (w' := w1) rfl rfl rfl rfl (by simp [go_sem, sEv, sLook, nbeq, i64_w, -List.getD_eq_getElem?_getD]) ?_
  refine rw_val (v := .bool (decide (60 < ((rows.length : Nat) : Int)))) (w' := w1) rfl rfl rfl rfl (by simp [go_sem, sEv, sLook, nbeq, i64_w, -List.getD_eq_getElem?_getD]) ?_
  refine rw_val (v := .bool (decide (60 < ((rows.length : Nat) : Int)))) (w' := w1) rfl rfl rfl rfl rfl ?_
  rcases bcase (decide (60 < ((rows.length : Nat) : Int))) with c3 | c3
  · have l4 : ¬ (60 < ((rows.length : Nat) : Int)) := of_decide_eq_false c3
    refine rw_on (c := decide (60 < ((rows.length : Nat) : Int))) rfl rfl rfl (by first | (rw [c3]; rfl) | simp [c3]) ?_
    refine rw_val (v := .slice A2 torn.length c2) (w' := w1) rfl rfl rfl rfl rfl ?_
    refine rw_on (c := decide (60 < ((rows.length : Nat) : Int))) rfl rfl rfl (by first | (rw [c3]; rfl) | simp [c3]) ?_
    refine rw_val (v := .int .i64 ((torn.length : Nat) : Int)) (w' := w1) rfl rfl rfl rfl (by simp [go_sem, sEv, sLook, nbeq, i64_w, -List.getD_eq_getElem?_getD]) ?_
    refine rw_on (c := decide (60 < ((rows.length : Nat) : Int))) rfl rfl rfl (by first | (rw [c3]; rfl) | simp [c3]) ?_
    refine rw_val (v := .bool (decide (3000 < ((torn.length : Nat) : Int)))) (w' := w1) rfl rfl rfl rfl (by simp [go_sem, sEv, sLook, nbeq, i64_w, -List.getD_eq_getElem?_getD]) ?_
    refine rw_val (v := .bool (decide (3000 < ((torn.length : Nat) : Int)))) (w' := w1) rfl rfl rfl rfl (by first | (simp [go_sem, sEv, sLook, nbeq, i64_w, -List.getD_eq_getElem?_getD, c3]; done) | (rw [c3]; simp [go_sem, sEv, sLook, nbeq, i64_w, -List.getD_eq_getElem?_getD]; done) | (simp [go_sem, sEv, sLook, nbeq, i64_w, -List.getD_eq_getElem?_getD] <;> omega) | (simp [go_sem, sEv, sLook, nbeq, i64_w, -List.getD_eq_getElem?_getD]; intro h_; exact absurd (by omega) h_)) ?_
    refine rw_end ?_
    refine w_weaken (G' := [(0, .slice A1 rows.length c1), (1, .slice A2 torn.length c2), (2, .int .i64 arm), (3, .int .i64 keep), (8, .bool false), (31, .bool (decide (3000 < ((torn.length : Nat) : Int))))]) ⟨rfl, rfl, rfl, rfl, rfl, rfl, trivial⟩ ?_
    refine w_cond rfl rfl (fun c5 => ?_) (fun c5 => ?_)
    · have l6 : (3000 < ((torn.length : Nat) : Int)) := of_decide_eq_true c5
      refine w_seq ?_
      refine w_region ?_
      refine rw_val (v := .bool true) (w' := w1) rfl rfl rfl rfl rfl ?_
      refine rw_end ?_
      refine w_ret (post_ret1 rfl rfl ?_)
      exact ⟨rfl, hb2⟩
    · have l7 : ¬ (3000 < ((torn.length : Nat) : Int)) := of_decide_eq_false c5
      refine w_skip ?_
      refine w_seq ?_
      refine w_region ?_
      refine rw_call rfl rfl rfl rfl (f := 10) (args := #[]) (by simp [go_sem, sEv, sLook, nbeq, i64_w, -List.getD_eq_getElem?_getD]) (new_T w1) ?_
      rintro e_ w9 ⟨g8, rfl, hT10, hs11⟩
      refine ⟨_, rfl, ?_⟩
      have hT10o : TapeAt w w9 g8 w9.heap.size g8 TS.start := new_on hb2 hT10
      have hz_w9 := hT10o.size
      refine rw_val (v := .pointer (some ⟨g8, 0, none⟩)) (w' := w9) rfl rfl rfl rfl rfl ?_
      refine rw_end ?_
      refine w_seq ?_
      refine w_region ?_
      refine rw_new (cs := #[]) (t := 5) (fun g => .slice (some ⟨g, 0, none⟩) 0 0) rfl rfl rfl rfl (by kernel_rfl) ?_
      intro g12 w13 hg17 hz16 hb14 hk15
      have hs_w13 := hb14.size
      have hk15r : OwnK (Kd.int .u8) 5 w13 w.heap.size g12 (some ⟨g12, 0, none⟩) 0 0 ([] : List Int) := lit_nilK _ w.heap.size hk15 (by omega)
      refine rw_val (v := .slice (some ⟨g12, 0, none⟩) 0 0) (w' := w13) rfl rfl rfl rfl rfl ?_
      refine rw_end ?_
      refine w_seq ?_
      refine w_seq ?_
      refine w_region ?_
      refine rw_val (v := .slice A1 rows.length c1) (w' := w13) rfl rfl rfl rfl rfl ?_
      refine rw_val (v := .int .i64 ((rows.length : Nat) : Int)) (w' := w13) rfl rfl rfl rfl (by simp [go_sem, sEv, sLook, nbeq, i64_w, -List.getD_eq_getElem?_getD]) ?_
      refine rw_val (v := .int .i64 0) (w' := w13) rfl rfl rfl rfl rfl ?_
      refine rw_end ?_
      refine w_block ?_
      refine w_loop (fun m_ G W_ => ∃ (j : Nat) (A10_ : Option Addr) (c10_ : Nat), j + m_ = rows.length ∧ Below w.heap.size w W_ ∧ OwnK (Kd.int .u8) 5 W_ w.heap.size w9.heap.size A10_ (FC (rows.take j)).length c10_ (FC (rows.take j)) ∧ (TapeAt w W_ g8 w9.heap.size g8 TS.start) ∧ (∀ p ∈ rows.take j, p.length ≤ 2000) ∧ ((FC (rows.take j)).length ≤ 2008 * j) ∧ G = [(0, .slice A1 rows.length c1), (1, .slice A2 torn.length c2), (2, .int .i64 arm), (3, .int .i64 keep), (9, .pointer (some ⟨g8, 0, none⟩)), (10, .slice A10_ ((FC (rows.take j)).length) c10_), (34, .slice A1 rows.length c1), (35, .int .i64 ((rows.length : Nat) : Int)), (36, .int .i64 ((j : Nat) : Int))]) rows.length [(0, .slice A1 rows.length c1), (1, .slice A2 torn.length c2), (2, .int .i64 arm), (3, .int .i64 keep), (9, .pointer (some ⟨g8, 0, none⟩)), (10, .slice (some ⟨g12, 0, none⟩) ((FC (rows.take 0)).length) 0), (34, .slice A1 rows.length c1), (35, .int .i64 ((rows.length : Nat) : Int)), (36, .int .i64 0)] ⟨0, (some ⟨g12, 0, none⟩), 0, by omega, (chain hT10o.1 hb14), (OwnK.mono (d := (Kd.int .u8)) hk15r (by omega)), (TapeAt.on hT10o hb14), (by simp), (by simp [FC]), rfl⟩ ⟨rfl, rfl, rfl, rfl, rfl, rfl, rfl, rfl, rfl, trivial⟩ ?_
      rintro m_ G w_L18 ⟨j, A10_, c10_, hp19, hB_L18, hO10_, hf20, hf21, hf22, rfl⟩
      have hs_w_L18 := hB_L18.size
      have hzT_ := (hf20).size
      refine w_seq ?_
      refine w_region ?_
      refine rw_val (v := .bool (decide (((j : Nat) : Int) < ((rows.length : Nat) : Int)))) (w' := w_L18) rfl rfl rfl rfl (by simp [go_sem, sEv, sLook, nbeq, i64_w, -List.getD_eq_getElem?_getD]) ?_
      refine rw_end ?_
      refine w_seq ?_
      refine w_cond rfl rfl (fun cJ => ?_) (fun cJ => ?_)
      · have l23 : (((j : Nat) : Int) < ((rows.length : Nat) : Int)) := of_decide_eq_true cJ
        refine w_skip ?_
        refine w_seq ?_
        refine w_block ?_
        refine w_seq ?_
        refine w_region ?_
        obtain ⟨ad24, A27, c28, hA25, he29, hle30, hC31⟩ := rows_at (Kd.C_below hr hB_L18) j (by first | omega | decide)
        subst hA25
        refine rw_val (v := .pointer (some (ad24.add (j)))) (w' := w_L18) rfl rfl rfl rfl (run_as (run_at_1 (P := Try.prog) (e := 32) (by kernel_rfl) (by kernel_rfl) j (by first | omega | decide) _)) ?_
        refine rw_val (v := .slice A27 ((rows.getD j []).length) c28) (w' := w_L18) rfl rfl rfl rfl (by have e0_ := cellOn he29 (Below.refl _ _); simp [go_sem, sEv, sLook, nbeq, i64_w, -List.getD_eq_getElem?_getD, e0_, Try.underlying32]) ?_
        refine rw_val (v := .slice A27 ((rows.getD j []).length) c28) (w' := w_L18) rfl rfl rfl rfl rfl ?_
        refine rw_end ?_
        refine w_seq ?_
        refine w_region ?_
        refine rw_val (v := .slice A27 ((rows.getD j []).length) c28) (w' := w_L18) rfl rfl rfl rfl rfl ?_
        refine rw_new (cs := #[.slice A27 ((rows.getD j []).length) c28]) (t := 32) (fun g => .slice (some ⟨g, 0, none⟩) 1 1) rfl rfl rfl rfl (by kernel_rfl) ?_
        intro g32 w33 hg37 hz36 hb34 hk35
        have hs_w33 := hb34.size
        have hP38 : (Kd.slice 5 (Kd.int .u8)).C w33 (some ⟨g32, 0, none⟩) [(rows.getD j [])].length [(rows.getD j [])] := rows1 hk35 hle30 (Kd.C_below hC31 hb34)
        have hlj_ : (rows.getD j []).length ≤ 140737488355328 := hall _ (getD_mem rows j [] (by omega))
        have hfj_ := frameB_short (rows.getD j [])
        refine rw_call rfl rfl rfl rfl (f := 38) (args := #[.slice (some ⟨g32, 0, none⟩) 1 1]) (by simp [go_sem, sEv, sLook, nbeq, i64_w, -List.getD_eq_getElem?_getD]) (wrap_one w33 (some ⟨g32, 0, none⟩) 1 (rows.getD j []) (Kd.C_below hP38 (Below.refl _ _)) (by omega) (by omega)) ?_
        rintro e_ w41 ⟨A39, c40, rfl, hO42, hB43⟩
        refine ⟨_, rfl, ?_⟩
        have hs_w41 := hB43.size
        refine rw_val (v := .tuple #[.slice A39 ((frameB (rows.getD j [])).length) c40, errT (frameE (rows.getD j []))]) (w' := w41) rfl rfl rfl rfl rfl ?_
        refine rw_val (v := .slice A39 ((frameB (rows.getD j [])).length) c40) (w' := w41) rfl rfl rfl rfl (by simp [go_sem, sEv, sLook, nbeq, i64_w, -List.getD_eq_getElem?_getD]) ?_
        refine rw_val (v := errT (frameE (rows.getD j []))) (w' := w41) rfl rfl rfl rfl (by simp [go_sem, sEv, sLook, nbeq, i64_w, -List.getD_eq_getElem?_getD]) ?_
        refine rw_val (v := .slice A39 ((frameB (rows.getD j [])).length) c40) (w' := w41) rfl rfl rfl rfl rfl ?_
        refine rw_val (v := errT (frameE (rows.getD j []))) (w' := w41) rfl rfl rfl rfl rfl ?_
        refine rw_end ?_
        refine w_weaken (G' := [(0, .slice (some ad24) rows.length c1), (1, .slice A2 torn.length c2), (2, .int .i64 arm), (3, .int .i64 keep), (9, .pointer (some ⟨g8, 0, none⟩)), (10, .slice A10_ ((FC (rows.take j)).length) c10_), (12, .slice A27 ((rows.getD j []).length) c28), (13, .slice A39 ((frameB (rows.getD j [])).length) c40), (14, errT (frameE (rows.getD j []))), (34, .slice (some ad24) rows.length c1), (35, .int .i64 ((rows.length : Nat) : Int)), (36, .int .i64 ((j : Nat) : Int))]) ⟨rfl, rfl, rfl, rfl, rfl, rfl, rfl, rfl, rfl, rfl, rfl, rfl, trivial⟩ ?_
        refine w_seq ?_
        refine w_seq ?_
        refine w_region ?_
        refine rw_val (v := errT (frameE (rows.getD j []))) (w' := w41) rfl rfl rfl rfl rfl ?_
        refine rw_val (v := .bool ((frameE (rows.getD j [])).isSome)) (w' := w41) rfl rfl rfl rfl (run_as (guard_err_neq _ (frameE (rows.getD j [])) _)) ?_
        refine rw_val (v := .bool ((frameE (rows.getD j [])).isSome)) (w' := w41) rfl rfl rfl rfl rfl ?_
        rcases bcase ((frameE (rows.getD j [])).isSome) with cF | cF
        · refine rw_on (c := (frameE (rows.getD j [])).isSome) rfl rfl rfl (by first | (rw [cF]; rfl) | simp [cF]) ?_
          refine rw_val (v := .slice A27 ((rows.getD j []).length) c28) (w' := w41) rfl rfl rfl rfl rfl ?_
          refine rw_on (c := (frameE (rows.getD j [])).isSome) rfl rfl rfl (by first | (rw [cF]; rfl) | simp [cF]) ?_
          refine rw_val (v := .int .i64 (((rows.getD j []).length : Nat) : Int)) (w' := w41) rfl rfl rfl rfl (by simp [go_sem, sEv, sLook, nbeq, i64_w, -List.getD_eq_getElem?_getD]) ?_
          refine rw_on (c := (frameE (rows.getD j [])).isSome) rfl rfl rfl (by first | (rw [cF]; rfl) | simp [cF]) ?_
          refine rw_val (v := .bool (decide (2000 < (((rows.getD j []).length : Nat) : Int)))) (w' := w41) rfl rfl rfl rfl (by simp [go_sem, sEv, sLook, nbeq, i64_w, -List.getD_eq_getElem?_getD]) ?_
          refine rw_val (v := .bool (decide (2000 < (((rows.getD j []).length : Nat) : Int)))) (w' := w41) rfl rfl rfl rfl (by first | (simp [go_sem, sEv, sLook, nbeq, i64_w, -List.getD_eq_getElem?_getD, cF]; done) | (rw [cF]; simp [go_sem, sEv, sLook, nbeq, i64_w, -List.getD_eq_getElem?_getD]; done) | (simp [go_sem, sEv, sLook, nbeq, i64_w, -List.getD_eq_getElem?_getD] <;> omega) | (simp [go_sem, sEv, sLook, nbeq, i64_w, -List.getD_eq_getElem?_getD]; intro h_; exact absurd (by omega) h_)) ?_
          refine rw_end ?_
          refine w_weaken (G' := [(0, .slice (some ad24) rows.length c1), (1, .slice A2 torn.length c2), (2, .int .i64 arm), (3, .int .i64 keep), (9, .pointer (some ⟨g8, 0, none⟩)), (10, .slice A10_ ((FC (rows.take j)).length) c10_), (13, .slice A39 ((frameB (rows.getD j [])).length) c40), (34, .slice (some ad24) rows.length c1), (35, .int .i64 ((rows.length : Nat) : Int)), (36, .int .i64 ((j : Nat) : Int)), (52, .bool (decide (2000 < (((rows.getD j []).length : Nat) : Int))))]) ⟨rfl, rfl, rfl, rfl, rfl, rfl, rfl, rfl, rfl, rfl, rfl, trivial⟩ ?_
          refine w_cond rfl rfl (fun cL => ?_) (fun cL => ?_)
          · have l44 : (2000 < (((rows.getD j []).length : Nat) : Int)) := of_decide_eq_true cL
            refine w_seq ?_
            refine w_region ?_
            refine rw_val (v := .bool true) (w' := w41) rfl rfl rfl rfl rfl ?_
            refine rw_end ?_
            refine w_ret (post_ret1 rfl rfl ?_)
            exact ⟨rfl, (chain (chain hB_L18 hb34) hB43)⟩
          · have l45 : ¬ (2000 < (((rows.getD j []).length : Nat) : Int)) := of_decide_eq_false cL
            refine w_skip ?_
            refine w_region ?_
            refine rw_val (v := .slice A10_ ((FC (rows.take j)).length) c10_) (w' := w41) rfl rfl rfl rfl rfl ?_
            refine rw_val (v := .slice A39 ((frameB (rows.getD j [])).length) c40) (w' := w41) rfl rfl rfl rfl rfl ?_
            have oA52 : OwnK (Kd.int .u8) 5 w41 w.heap.size w9.heap.size A10_ ((FC (rows.take j)).length) c10_ (FC (rows.take j)) := (OwnK.on (d := (Kd.int .u8)) hO10_ (chain hb34 hB43))
            refine rw_append_kd (d := (Kd.int .u8)) w.heap.size rfl rfl rfl (.tmp 53) (.tmp 54) rfl rfl 32 5 (.int .u8 0) 1 rfl (by kernel_rfl) (by kernel_rfl) rfl (show 0 < 1 by decide) (by decide) (fun _ _ h => h) (b := w9.heap.size) rfl rfl (by omega) oA52 (OwnK.Cn (d := (Kd.int .u8)) hO42) (chain (chain hB_L18 hb34) hB43) (by omega) (by first | omega | (simp only [List.length_append, List.length_nil, List.length_cons]; omega)) ?_
            intro A46 c47 w48 hO49 hB50 hG51
            have hs_w48 := hB50.size
            have hgs_w48 := hG51.size
            have hT54 : TapeAt w w48 g8 w9.heap.size g8 TS.start := TapeAt.grown (TapeAt.on (TapeAt.on hf20 hb34) hB43) oA52 (by omega) hB50 hG51
            refine rw_val (v := .slice A46 (((FC (rows.take j)) ++ (frameB (rows.getD j []))).length) c47) (w' := w48) rfl rfl rfl rfl rfl ?_
            refine rw_end ?_
            refine w_weaken (G' := [(0, .slice (some ad24) rows.length c1), (1, .slice A2 torn.length c2), (2, .int .i64 arm), (3, .int .i64 keep), (9, .pointer (some ⟨g8, 0, none⟩)), (10, .slice A46 (((FC (rows.take j)) ++ (frameB (rows.getD j []))).length) c47), (34, .slice (some ad24) rows.length c1), (35, .int .i64 ((rows.length : Nat) : Int)), (36, .int .i64 ((j : Nat) : Int))]) ⟨rfl, rfl, rfl, rfl, rfl, rfl, rfl, rfl, rfl, trivial⟩ ?_
            refine w_blk ?_
            refine w_region ?_
            refine rw_val (v := .int .i64 ((j + 1 : Nat) : Int)) (w' := w48) rfl rfl rfl rfl (by simp [go_sem, sEv, sLook, nbeq, i64_w, -List.getD_eq_getElem?_getD]; exact wrap_id (by omega) (by omega)) ?_
            refine rw_val (v := .int .i64 ((j + 1 : Nat) : Int)) (w' := w48) rfl rfl rfl rfl rfl ?_
            refine rw_end ?_
            have e55 : ((FC (rows.take j)) ++ (frameB (rows.getD j []))) = (FC (rows.take (j + 1))) := by exact (FC_take_getD rows j (by omega)).symm
            have hO56 : OwnK (Kd.int .u8) 5 w48 w.heap.size w9.heap.size A46 (FC (rows.take (j + 1))).length c47 (FC (rows.take (j + 1))) := by rw [← e55]; exact OwnK.full hO49
            have en57 : ((FC (rows.take j)) ++ (frameB (rows.getD j []))).length = (FC (rows.take (j + 1))).length := by rw [← e55] <;> exact OwnK.len (d := (Kd.int .u8)) hO49
            exact w_back (m_ - 1) [(0, .slice (some ad24) rows.length c1), (1, .slice A2 torn.length c2), (2, .int .i64 arm), (3, .int .i64 keep), (9, .pointer (some ⟨g8, 0, none⟩)), (10, .slice A46 ((FC (rows.take (j + 1))).length) c47), (34, .slice (some ad24) rows.length c1), (35, .int .i64 ((rows.length : Nat) : Int)), (36, .int .i64 ((j + 1 : Nat) : Int))] (by omega) ⟨rfl, rfl, rfl, rfl, rfl, (by first | rfl | (rw [← en57]; rfl)), rfl, rfl, rfl, trivial⟩ ⟨(j + 1), A46, c47, by omega, hB50, (OwnK.mono (d := (Kd.int .u8)) hO56 (by omega)), hT54, (by intro p hp; rw [take_snoc rows j (by omega)] at hp; exact (List.mem_append.1 hp).elim (fun hp => hf21 p hp) (fun hp => by rw [List.mem_singleton.1 hp]; omega)), (by have h_ := FC_len_succ rows j (by omega) (by omega); omega), rfl⟩
        · refine rw_off (c := (frameE (rows.getD j [])).isSome) rfl rfl rfl (by first | (rw [cF]; rfl) | simp [cF]) rfl rfl ?_
          refine rw_off (c := (frameE (rows.getD j [])).isSome) rfl rfl rfl (by first | (rw [cF]; rfl) | simp [cF]) rfl rfl ?_
          refine rw_off (c := (frameE (rows.getD j [])).isSome) rfl rfl rfl (by first | (rw [cF]; rfl) | simp [cF]) rfl rfl ?_
          refine rw_val (v := .bool true) (w' := w41) rfl rfl rfl rfl (by first | (simp [go_sem, sEv, sLook, nbeq, i64_w, -List.getD_eq_getElem?_getD, cF]; done) | (rw [cF]; simp [go_sem, sEv, sLook, nbeq, i64_w, -List.getD_eq_getElem?_getD]; done) | (simp [go_sem, sEv, sLook, nbeq, i64_w, -List.getD_eq_getElem?_getD] <;> omega) | (simp [go_sem, sEv, sLook, nbeq, i64_w, -List.getD_eq_getElem?_getD]; intro h_; exact absurd (by omega) h_)) ?_
          refine rw_end ?_
          refine w_weaken (G' := [(0, .slice (some ad24) rows.length c1), (1, .slice A2 torn.length c2), (2, .int .i64 arm), (3, .int .i64 keep), (9, .pointer (some ⟨g8, 0, none⟩)), (10, .slice A10_ ((FC (rows.take j)).length) c10_), (13, .slice A39 ((frameB (rows.getD j [])).length) c40), (34, .slice (some ad24) rows.length c1), (35, .int .i64 ((rows.length : Nat) : Int)), (36, .int .i64 ((j : Nat) : Int)), (52, .bool true)]) ⟨rfl, rfl, rfl, rfl, rfl, rfl, rfl, rfl, rfl, rfl, rfl, trivial⟩ ?_
          refine w_cond_t rfl rfl rfl ?_
          refine w_seq ?_
          refine w_region ?_
          refine rw_val (v := .bool true) (w' := w41) rfl rfl rfl rfl rfl ?_
          refine rw_end ?_
          refine w_ret (post_ret1 rfl rfl ?_)
          exact ⟨rfl, (chain (chain hB_L18 hb34) hB43)⟩
      · have l58 : ¬ (((j : Nat) : Int) < ((rows.length : Nat) : Int)) := of_decide_eq_false cJ
        refine w_exit rfl ?_
        refine w_seq ?_
        refine w_seq ?_
        refine w_region ?_
        refine rw_val (v := .slice A2 torn.length c2) (w' := w_L18) rfl rfl rfl rfl rfl ?_
        refine rw_call rfl rfl rfl rfl (f := 36) (args := #[.slice A2 torn.length c2]) (by simp [go_sem, sEv, sLook, nbeq, i64_w, -List.getD_eq_getElem?_getD]) (split_calls w_L18 A2 c2 torn (Kd.C_below ht hB_L18) hc2 hbt (by omega)) ?_
        rintro e_ w63 ⟨out59, n60, A61, c62, rfl, hS64, hR65, hB66⟩
        refine ⟨_, rfl, ?_⟩
        have hs_w63 := hB66.size
        have hsp_ := splitR_bound hS64
        have hL67 : OwnK (Kd.slice 5 (Kd.int .u8)) 32 w63 w.heap.size w_L18.heap.size A61 out59.length c62 out59 := OwnK.lower hR65 (by omega)
        refine rw_val (v := .tuple #[.slice A61 out59.length c62, .int .i64 ((n60 : Nat) : Int)]) (w' := w63) rfl rfl rfl rfl rfl ?_
        refine rw_val (v := .slice A61 out59.length c62) (w' := w63) rfl rfl rfl rfl (by simp [go_sem, sEv, sLook, nbeq, i64_w, -List.getD_eq_getElem?_getD]) ?_
        refine rw_val (v := .int .i64 ((n60 : Nat) : Int)) (w' := w63) rfl rfl rfl rfl (by simp [go_sem, sEv, sLook, nbeq, i64_w, -List.getD_eq_getElem?_getD]) ?_
        refine rw_val (v := .slice A61 out59.length c62) (w' := w63) rfl rfl rfl rfl rfl ?_
        refine rw_val (v := .int .i64 ((n60 : Nat) : Int)) (w' := w63) rfl rfl rfl rfl rfl ?_
        refine rw_end ?_
        refine w_weaken (G' := [(0, .slice A1 rows.length c1), (1, .slice A2 torn.length c2), (2, .int .i64 arm), (3, .int .i64 keep), (9, .pointer (some ⟨g8, 0, none⟩)), (10, .slice A10_ ((FC (rows.take j)).length) c10_), (15, .slice A61 out59.length c62)]) ⟨rfl, rfl, rfl, rfl, rfl, rfl, rfl, trivial⟩ ?_
        refine w_seq ?_
        refine w_region ?_
        refine rw_val (v := .slice A61 out59.length c62) (w' := w63) rfl rfl rfl rfl rfl ?_
        refine rw_val (v := .int .i64 ((out59.length : Nat) : Int)) (w' := w63) rfl rfl rfl rfl (by simp [go_sem, sEv, sLook, nbeq, i64_w, -List.getD_eq_getElem?_getD]) ?_
        refine rw_val (v := .bool (decide (0 < ((out59.length : Nat) : Int)))) (w' := w63) rfl rfl rfl rfl (by simp [go_sem, sEv, sLook, nbeq, i64_w, -List.getD_eq_getElem?_getD]) ?_
        refine rw_val (v := .bool (decide (0 < ((out59.length : Nat) : Int)))) (w' := w63) rfl rfl rfl rfl rfl ?_
        rcases bcase (decide (0 < ((out59.length : Nat) : Int))) with c68 | c68
        · have l69 : ¬ (0 < ((out59.length : Nat) : Int)) := of_decide_eq_false c68
          refine rw_on (c := decide (0 < ((out59.length : Nat) : Int))) rfl rfl rfl (by first | (rw [c68]; rfl) | simp [c68]) ?_
          refine rw_val (v := .pointer (some ⟨g8, 0, none⟩)) (w' := w63) rfl rfl rfl rfl rfl ?_
          refine rw_on (c := decide (0 < ((out59.length : Nat) : Int))) rfl rfl rfl (by first | (rw [c68]; rfl) | simp [c68]) ?_
          refine rw_val (v := .slice A10_ ((FC (rows.take j)).length) c10_) (w' := w63) rfl rfl rfl rfl rfl ?_
          refine rw_on (c := decide (0 < ((out59.length : Nat) : Int))) rfl rfl rfl (by first | (rw [c68]; rfl) | simp [c68]) ?_
          refine rw_val (v := .slice A2 torn.length c2) (w' := w63) rfl rfl rfl rfl rfl ?_
          refine rw_on (c := decide (0 < ((out59.length : Nat) : Int))) rfl rfl rfl (by first | (rw [c68]; rfl) | simp [c68]) ?_
          refine rw_new (cs := #[.slice A10_ ((FC (rows.take j)).length) c10_, .slice A2 torn.length c2]) (t := 32) (fun g => .slice (some ⟨g, 0, none⟩) 2 2) rfl rfl rfl rfl (by kernel_rfl) ?_
          intro g70 w71 hg75 hz74 hb72 hk73
          have hs_w71 := hb72.size
          have hP76 : (Kd.slice 5 (Kd.int .u8)).C w71 (some ⟨g70, 0, none⟩) [(FC (rows.take j)), torn].length [(FC (rows.take j)), torn] := rows2 hk73 (OwnK.cap (d := (Kd.int .u8)) hO10_) (Kd.C_below (OwnK.C (d := (Kd.int .u8)) hO10_) (chain hB66 hb72)) hc2 (Kd.C_below ht (chain (chain hB_L18 hB66) hb72))
          refine rw_on (c := decide (0 < ((out59.length : Nat) : Int))) rfl rfl rfl (by first | (rw [c68]; rfl) | simp [c68]) ?_
          have ej_ : j = rows.length := by omega
          have hfc_ : (FC (rows.take j)) = FC rows := by rw [ej_, List.take_length]
          have hap_ := app_start (FC (rows.take j)) torn (by omega)
          have hXl_ : (FC rows ++ torn).length ≤ 1048576 := by rw [List.length_append, ← hfc_]; omega
          have hr_ : ∀ r ∈ rows, r.length ≤ 16376 := fun r h_ => by have h2_ := hf21 r (by rw [ej_, List.take_length]; exact h_); omega
          have hbX_ : Bytes (FC rows ++ torn) := bytes_app (FC_bytes hby) hbt
          have hout_ : out59 = [] := List.eq_nil_of_length_eq_zero (by omega)
          have hS_ : SplitR torn [] n60 := by rw [← hout_]; exact hS64
          refine rw_call rfl rfl rfl rfl (f := 39) (args := #[.pointer (some ⟨g8, 0, none⟩), .slice (some ⟨g70, 0, none⟩) 2 2]) (by simp [go_sem, sEv, sLook, nbeq, i64_w, -List.getD_eq_getElem?_getD]) (append_T w w71 g8 w9.heap.size g8 (by omega) TS.start (TapeAt.on (TapeAt.on hf20 hB66) hb72) (okB_ok (by decide +kernel)) (some ⟨g70, 0, none⟩) [(FC (rows.take j)), torn] 2 (rowsK2 (S := (fun k => k = g8 ∨ (g8 < k ∧ k < w9.heap.size ∧ k ≠ g8))) hk73 (fun h => by omega) (OwnK.cap (d := (Kd.int .u8)) hO10_) (ownK_kept (S := (fun k => k = g8 ∨ (g8 < k ∧ k < w9.heap.size ∧ k ≠ g8))) (OwnK.on (d := (Kd.int .u8)) hO10_ (chain hB66 hb72)) (fun q hq h => by omega)) hc2 (Kd.C_kept_came (Kd.heap_int _) ht (chain (chain hB_L18 hB66) hb72) (fun k hk => by omega))) (by simp) (fun p hp => (List.mem_cons.1 hp).elim (fun h_ => by rw [h_]; omega) (fun hp => by rw [List.mem_singleton.1 hp]; omega))) ?_
          rintro e_ w77 ⟨rfl, hT78, hs79, hx80⟩
          refine ⟨errT (TS.start.appE [(FC (rows.take j)), torn].flatten), rfl, ?_⟩
          rw [hap_.1]
          rw [hap_.2, hfc_] at hT78
          have hz_w77 := hT78.size
          refine rw_on (c := decide (0 < ((out59.length : Nat) : Int))) rfl rfl rfl (by first | (rw [c68]; rfl) | simp [c68]) ?_
          refine rw_val (v := .bool ((none : Option Int).isSome)) (w' := w77) rfl rfl rfl rfl (run_as (guard_err_neq _ (none : Option Int) _)) ?_
          refine rw_val (v := .bool ((none : Option Int).isSome)) (w' := w77) rfl rfl rfl rfl (by first | (simp [go_sem, sEv, sLook, nbeq, i64_w, -List.getD_eq_getElem?_getD, c68]; done) | (rw [c68]; simp [go_sem, sEv, sLook, nbeq, i64_w, -List.getD_eq_getElem?_getD]; done) | (simp [go_sem, sEv, sLook, nbeq, i64_w, -List.getD_eq_getElem?_getD] <;> omega) | (simp [go_sem, sEv, sLook, nbeq, i64_w, -List.getD_eq_getElem?_getD]; intro h_; exact absurd (by omega) h_)) ?_
          refine rw_val (v := .bool ((none : Option Int).isSome)) (w' := w77) rfl rfl rfl rfl rfl ?_
          have hq81 : ((none : Option Int).isSome) = false := by rfl
          refine rw_on (c := (none : Option Int).isSome) rfl rfl rfl (by first | (rw [hq81]; rfl) | simp [hq81]) ?_
          refine rw_val (v := .pointer (some ⟨g8, 0, none⟩)) (w' := w77) rfl rfl rfl rfl rfl ?_
          refine rw_on (c := (none : Option Int).isSome) rfl rfl rfl (by first | (rw [hq81]; rfl) | simp [hq81]) ?_
          refine rw_call rfl rfl rfl rfl (f := 40) (args := #[.pointer (some ⟨g8, 0, none⟩)]) (by simp [go_sem, sEv, sLook, nbeq, i64_w, -List.getD_eq_getElem?_getD]) (sync_T w w77 g8 w77.heap.size g8 (by omega) (pl (FC rows ++ torn) 0 1) hT78 (pl_ok (by omega) (by omega) hXl_)) ?_
          rintro e_ w82 ⟨rfl, hT83, hs84, hx85⟩
          refine ⟨_, rfl, ?_⟩
          have hz_w82 := hT83.size
          refine rw_on (c := (none : Option Int).isSome) rfl rfl rfl (by first | (rw [hq81]; rfl) | simp [hq81]) ?_
          refine rw_val (v := .bool ((none : Option Int).isSome)) (w' := w82) rfl rfl rfl rfl (run_as (guard_err_neq _ (none : Option Int) _)) ?_
          refine rw_val (v := .bool ((none : Option Int).isSome)) (w' := w82) rfl rfl rfl rfl (by first | (simp [go_sem, sEv, sLook, nbeq, i64_w, -List.getD_eq_getElem?_getD, hq81]; done) | (rw [hq81]; simp [go_sem, sEv, sLook, nbeq, i64_w, -List.getD_eq_getElem?_getD]; done) | (simp [go_sem, sEv, sLook, nbeq, i64_w, -List.getD_eq_getElem?_getD] <;> omega) | (simp [go_sem, sEv, sLook, nbeq, i64_w, -List.getD_eq_getElem?_getD]; intro h_; exact absurd (by omega) h_)) ?_
          refine rw_end ?_
          refine w_weaken (G' := [(0, .slice A1 rows.length c1), (1, .slice A2 torn.length c2), (2, .int .i64 arm), (3, .int .i64 keep), (9, .pointer (some ⟨g8, 0, none⟩)), (10, .slice A10_ ((FC (rows.take j)).length) c10_), (15, .slice A61 out59.length c62), (77, .bool ((none : Option Int).isSome))]) ⟨rfl, rfl, rfl, rfl, rfl, rfl, rfl, rfl, trivial⟩ ?_
          refine w_cond_f rfl rfl hq81 ?_
          refine w_skip ?_
          refine w_seq ?_
          refine w_seq ?_
          refine w_region ?_
          refine rw_val (v := .int .i64 arm) (w' := w82) rfl rfl rfl rfl rfl ?_
          refine rw_val (v := .int .i64 (Int.tmod arm 2)) (w' := w82) rfl rfl rfl rfl (by simp [go_sem, sEv, sLook, nbeq, i64_w, -List.getD_eq_getElem?_getD]) ?_
          refine rw_val (v := .bool ((Int.tmod arm 2) == 0)) (w' := w82) rfl rfl rfl rfl (by simp [go_sem, sEv, sLook, nbeq, i64_w, -List.getD_eq_getElem?_getD]) ?_
          refine rw_end ?_
          refine w_cond rfl rfl (fun cA => ?_) (fun cA => ?_)
          · have l86 : (Int.tmod arm 2) = 0 := by simpa using cA
            refine w_region ?_
            refine rw_val (v := .pointer (some ⟨g8, 0, none⟩)) (w' := w82) rfl rfl rfl rfl rfl ?_
            refine rw_call rfl rfl rfl rfl (f := 19) (args := #[.pointer (some ⟨g8, 0, none⟩), .int .i64 0]) (by simp [go_sem, sEv, sLook, nbeq, i64_w, -List.getD_eq_getElem?_getD]) (arm_T w w82 g8 w82.heap.size g8 (by omega) (pl (FC rows ++ torn) (((FC rows ++ torn).length : Nat) : Int) 2) hT83 (pl_ok (by omega) (by omega) hXl_) 0 (by decide)) ?_
            rintro e_ w87 ⟨rfl, hT88, hs89, hx90⟩
            refine ⟨_, rfl, ?_⟩
            have hz_w87 := hT88.size
            refine rw_end ?_
            refine w_seq ?_
            refine w_region ?_
            refine rw_val (v := .pointer (some ⟨g8, 0, none⟩)) (w' := w87) rfl rfl rfl rfl rfl ?_
            refine rw_call rfl rfl rfl rfl (f := 11) (args := #[.pointer (some ⟨g8, 0, none⟩)]) (by simp [go_sem, sEv, sLook, nbeq, i64_w, -List.getD_eq_getElem?_getD]) (open_first w w87 g8 w87.heap.size g8 (by omega) (⟨(FC rows ++ torn), (((FC rows ++ torn).length : Nat) : Int), 2, true, 0, false, 0, false⟩ : TS) hT88 ⟨by show (0 : Int) ≤ 2 ∧ (2 : Int) ≤ 1000000000; omega, by show (0 : Int) ≤ 0 ∧ (0 : Int) ≤ 9223372036854775807; omega, by show (0 : Int) ≤ 0 ∧ (0 : Int) ≤ 9223372036854775807; omega, by show 0 ≤ (((FC rows ++ torn).length : Nat) : Int) ∧ (((FC rows ++ torn).length : Nat) : Int) ≤ (((FC rows ++ torn).length : Nat) : Int); omega, hXl_⟩ rows torn n60 hS_ rfl hr_ hbX_ rfl rfl (by show (2 : Int) ≤ 10; omega) rfl) ?_
            rintro e_ w98 ⟨P91, A92, n93, c94, o95, s96, m97, rfl, ho99, hT100, hx101, hsu102, hok103, hle104, hs105⟩
            refine ⟨_, rfl, ?_⟩
            have hz_w98 := hT100.size
            refine rw_val (v := .tuple #[.pointer P91, .slice A92 n93 c94, errT o95]) (w' := w98) rfl rfl rfl rfl rfl ?_
            refine rw_val (v := .pointer P91) (w' := w98) rfl rfl rfl rfl (by simp [go_sem, sEv, sLook, nbeq, i64_w, -List.getD_eq_getElem?_getD]) ?_
            refine rw_val (v := .slice A92 n93 c94) (w' := w98) rfl rfl rfl rfl (by simp [go_sem, sEv, sLook, nbeq, i64_w, -List.getD_eq_getElem?_getD]) ?_
            refine rw_val (v := errT o95) (w' := w98) rfl rfl rfl rfl (by simp [go_sem, sEv, sLook, nbeq, i64_w, -List.getD_eq_getElem?_getD]) ?_
            refine rw_val (v := .pointer P91) (w' := w98) rfl rfl rfl rfl rfl ?_
            refine rw_val (v := .slice A92 n93 c94) (w' := w98) rfl rfl rfl rfl rfl ?_
            refine rw_val (v := errT o95) (w' := w98) rfl rfl rfl rfl rfl ?_
            refine rw_end ?_
            refine w_weaken (G' := [(0, .slice A1 rows.length c1), (1, .slice A2 torn.length c2), (3, .int .i64 keep), (9, .pointer (some ⟨g8, 0, none⟩)), (10, .slice A10_ ((FC (rows.take j)).length) c10_), (19, errT o95)]) ⟨rfl, rfl, rfl, rfl, rfl, rfl, trivial⟩ ?_
            refine w_seq ?_
            refine w_seq ?_
            refine w_region ?_
            refine rw_val (v := .slice A2 torn.length c2) (w' := w98) rfl rfl rfl rfl rfl ?_
            refine rw_val (v := .int .i64 ((torn.length : Nat) : Int)) (w' := w98) rfl rfl rfl rfl (by simp [go_sem, sEv, sLook, nbeq, i64_w, -List.getD_eq_getElem?_getD]) ?_
            refine rw_val (v := .bool (decide (0 < ((torn.length : Nat) : Int)))) (w' := w98) rfl rfl rfl rfl (by simp [go_sem, sEv, sLook, nbeq, i64_w, -List.getD_eq_getElem?_getD]) ?_
            refine rw_val (v := .bool (decide (0 < ((torn.length : Nat) : Int)))) (w' := w98) rfl rfl rfl rfl rfl ?_
            rcases bcase (decide (0 < ((torn.length : Nat) : Int))) with cT | cT
            · have l106 : ¬ (0 < ((torn.length : Nat) : Int)) := of_decide_eq_false cT
              refine rw_off (c := decide (0 < ((torn.length : Nat) : Int))) rfl rfl rfl (by first | (rw [cT]; rfl) | simp [cT]) rfl rfl ?_
              refine rw_off (c := decide (0 < ((torn.length : Nat) : Int))) rfl rfl rfl (by first | (rw [cT]; rfl) | simp [cT]) rfl rfl ?_
              refine rw_val (v := .bool false) (w' := w98) rfl rfl rfl rfl (by first | (simp [go_sem, sEv, sLook, nbeq, i64_w, -List.getD_eq_getElem?_getD, cT]; done) | (rw [cT]; simp [go_sem, sEv, sLook, nbeq, i64_w, -List.getD_eq_getElem?_getD]; done) | (simp [go_sem, sEv, sLook, nbeq, i64_w, -List.getD_eq_getElem?_getD] <;> omega) | (simp [go_sem, sEv, sLook, nbeq, i64_w, -List.getD_eq_getElem?_getD]; intro h_; exact absurd (by omega) h_)) ?_
              refine rw_val (v := .bool false) (w' := w98) rfl rfl rfl rfl rfl ?_
              refine rw_on (c := false) rfl rfl rfl rfl ?_
              refine rw_val (v := .slice A2 torn.length c2) (w' := w98) rfl rfl rfl rfl rfl ?_
              refine rw_on (c := false) rfl rfl rfl rfl ?_
              refine rw_val (v := .int .i64 ((torn.length : Nat) : Int)) (w' := w98) rfl rfl rfl rfl (by simp [go_sem, sEv, sLook, nbeq, i64_w, -List.getD_eq_getElem?_getD]) ?_
              refine rw_on (c := false) rfl rfl rfl rfl ?_
              refine rw_val (v := .bool (((torn.length : Nat) : Int) == 0)) (w' := w98) rfl rfl rfl rfl (by simp [go_sem, sEv, sLook, nbeq, i64_w, -List.getD_eq_getElem?_getD]) ?_
              refine rw_on (c := false) rfl rfl rfl rfl ?_
              refine rw_val (v := .bool (((torn.length : Nat) : Int) == 0)) (w' := w98) rfl rfl rfl rfl rfl ?_
              have hq107 : (((torn.length : Nat) : Int) == 0) = true := by rw [beq_iff_eq]; omega
              refine rw_on (c := (((torn.length : Nat) : Int) == 0)) rfl rfl rfl (by first | (rw [hq107]; rfl) | simp [hq107]) ?_
              refine rw_val (v := errT o95) (w' := w98) rfl rfl rfl rfl rfl ?_
              refine rw_on (c := (((torn.length : Nat) : Int) == 0)) rfl rfl rfl (by first | (rw [hq107]; rfl) | simp [hq107]) ?_
              refine rw_val (v := .bool o95.isSome) (w' := w98) rfl rfl rfl rfl (run_as (guard_err_neq _ o95 _)) ?_
              refine rw_on (c := false) rfl rfl rfl rfl ?_
              refine rw_val (v := .bool o95.isSome) (w' := w98) rfl rfl rfl rfl (by first | (simp [go_sem, sEv, sLook, nbeq, i64_w, -List.getD_eq_getElem?_getD, hq107]; done) | (rw [hq107]; simp [go_sem, sEv, sLook, nbeq, i64_w, -List.getD_eq_getElem?_getD]; done) | (simp [go_sem, sEv, sLook, nbeq, i64_w, -List.getD_eq_getElem?_getD] <;> omega) | (simp [go_sem, sEv, sLook, nbeq, i64_w, -List.getD_eq_getElem?_getD]; intro h_; exact absurd (by omega) h_)) ?_
              refine rw_val (v := .bool o95.isSome) (w' := w98) rfl rfl rfl rfl (by simp [go_sem, sEv, sLook, nbeq, i64_w, -List.getD_eq_getElem?_getD]) ?_
              refine rw_end ?_
              refine w_weaken (G' := [(0, .slice A1 rows.length c1), (3, .int .i64 keep), (9, .pointer (some ⟨g8, 0, none⟩)), (10, .slice A10_ ((FC (rows.take j)).length) c10_), (19, errT o95), (109, .bool o95.isSome)]) ⟨rfl, rfl, rfl, rfl, rfl, rfl, trivial⟩ ?_
              have hq108 : o95.isSome = false := by have h_ := ho99; rw [decide_eq_false (show ¬ 0 < torn.length by omega)] at h_; revert h_; cases o95 <;> simp
              refine w_cond_f rfl rfl hq108 ?_
              refine w_skip ?_
              refine w_seq ?_
              refine w_region ?_
              refine rw_val (v := .pointer (some ⟨g8, 0, none⟩)) (w' := w98) rfl rfl rfl rfl rfl ?_
              refine rw_val (v := .int .i64 keep) (w' := w98) rfl rfl rfl rfl rfl ?_
              refine rw_call rfl rfl rfl rfl (f := 22) (args := #[.pointer (some ⟨g8, 0, none⟩), .int .i64 keep]) (by simp [go_sem, sEv, sLook, nbeq, i64_w, -List.getD_eq_getElem?_getD]) (crash_T w w98 g8 m97 g8 (by omega) s96 hT100 hok103 keep) ?_
              rintro e_ w109 ⟨rfl, hT110, hs111, hx112⟩
              refine ⟨.tuple #[], rfl, ?_⟩
              rw [crash_sure s96 keep (by rw [hsu102, hx101]), hx101] at hT110
              have hz_w109 := hT110.size
              refine rw_end ?_
              refine w_seq ?_
              refine w_region ?_
              refine rw_val (v := .pointer (some ⟨g8, 0, none⟩)) (w' := w109) rfl rfl rfl rfl rfl ?_
              refine rw_call rfl rfl rfl rfl (f := 11) (args := #[.pointer (some ⟨g8, 0, none⟩)]) (by simp [go_sem, sEv, sLook, nbeq, i64_w, -List.getD_eq_getElem?_getD]) (open_second w w109 g8 w109.heap.size g8 (by omega) rows torn n60 s96.steps hT110 ⟨hok103.steps.1, hle104⟩ hS_ hXl_ hr_ hbX_) ?_
              rintro e_ w118 ⟨gd113, m114, A115, c116, s117, rfl, hD119, hO120, hx121, hok122, hs123⟩
              refine ⟨_, rfl, ?_⟩
              obtain ⟨hD119t, hD119b, hD119g, hD119z⟩ := hD119
              have hz_w118 := hD119t.size
              have hlt_w118 := hD119b.lt
              have hL124 : OwnK (Kd.slice 5 (Kd.int .u8)) 32 w118 w.heap.size w.heap.size A115 rows.length c116 rows := OwnK.mono (d := (Kd.slice 5 (Kd.int .u8))) (OwnK.lower (d := (Kd.slice 5 (Kd.int .u8))) hO120 (by omega)) (by omega)
              refine rw_val (v := .tuple #[.pointer (some ⟨gd113, 0, none⟩), .slice A115 rows.length c116, errT none]) (w' := w118) rfl rfl rfl rfl rfl ?_
              refine rw_val (v := .pointer (some ⟨gd113, 0, none⟩)) (w' := w118) rfl rfl rfl rfl (by simp [go_sem, sEv, sLook, nbeq, i64_w, -List.getD_eq_getElem?_getD]) ?_
              refine rw_val (v := .slice A115 rows.length c116) (w' := w118) rfl rfl rfl rfl (by simp [go_sem, sEv, sLook, nbeq, i64_w, -List.getD_eq_getElem?_getD]) ?_
              refine rw_val (v := errT none) (w' := w118) rfl rfl rfl rfl (by simp [go_sem, sEv, sLook, nbeq, i64_w, -List.getD_eq_getElem?_getD]) ?_
              refine rw_val (v := .pointer (some ⟨gd113, 0, none⟩)) (w' := w118) rfl rfl rfl rfl rfl ?_
              refine rw_val (v := .slice A115 rows.length c116) (w' := w118) rfl rfl rfl rfl rfl ?_
              refine rw_val (v := errT none) (w' := w118) rfl rfl rfl rfl rfl ?_
              refine rw_end ?_
              refine w_weaken (G' := [(0, .slice A1 rows.length c1), (9, .pointer (some ⟨g8, 0, none⟩)), (10, .slice A10_ ((FC (rows.take j)).length) c10_), (19, errT none), (20, .pointer (some ⟨gd113, 0, none⟩)), (21, .slice A115 rows.length c116)]) ⟨rfl, rfl, rfl, rfl, rfl, rfl, trivial⟩ ?_
              refine w_seq ?_
              refine w_region ?_
              refine rw_val (v := errT none) (w' := w118) rfl rfl rfl rfl rfl ?_
              refine rw_val (v := .bool ((none : Option Int).isNone)) (w' := w118) rfl rfl rfl rfl (run_as (guard_err_eq0 _ (none : Option Int) _)) ?_
              refine rw_val (v := .bool ((none : Option Int).isNone)) (w' := w118) rfl rfl rfl rfl rfl ?_
              have hq125 : ((none : Option Int).isNone) = true := by rfl
              refine rw_on (c := (none : Option Int).isNone) rfl rfl rfl (by first | (rw [hq125]; rfl) | simp [hq125]) ?_
              refine rw_val (v := .slice A115 rows.length c116) (w' := w118) rfl rfl rfl rfl rfl ?_
              refine rw_on (c := (none : Option Int).isNone) rfl rfl rfl (by first | (rw [hq125]; rfl) | simp [hq125]) ?_
              refine rw_val (v := .slice A1 rows.length c1) (w' := w118) rfl rfl rfl rfl rfl ?_
              refine rw_on (c := (none : Option Int).isNone) rfl rfl rfl (by first | (rw [hq125]; rfl) | simp [hq125]) ?_
              refine rw_call rfl rfl rfl rfl (f := 14) (args := #[.slice A1 rows.length c1]) (by simp [go_sem, sEv, sLook, nbeq, i64_w, -List.getD_eq_getElem?_getD]) (texts_calls w118 A1 c1 rows (Kd.C_below hr hD119t.1) hc1 (by omega)) ?_
              rintro e_ w128 ⟨A126, c127, rfl, hO129, hB130⟩
              refine ⟨_, rfl, ?_⟩
              have hs_w128 := hB130.size
              have hL131 : OwnK Kd.string 9 w128 w.heap.size w118.heap.size A126 (rows.map strOfNums).length c127 (rows.map strOfNums) := OwnK.lower hO129 (by omega)
              refine rw_on (c := (none : Option Int).isNone) rfl rfl rfl (by first | (rw [hq125]; rfl) | simp [hq125]) ?_
              refine rw_call rfl rfl rfl rfl (f := 13) (args := #[.slice A115 rows.length c116, .slice A126 ((rows.map strOfNums).length) c127]) (by simp [go_sem, sEv, sLook, nbeq, i64_w, -List.getD_eq_getElem?_getD]) (same_calls w128 A115 A126 c116 c127 rows (rows.map strOfNums) (Kd.C_below (OwnK.C (d := (Kd.slice 5 (Kd.int .u8))) hL124) hB130) (OwnK.cap (d := (Kd.slice 5 (Kd.int .u8))) hL124) (Kd.C_below (OwnK.C (d := Kd.string) hL131) (Below.refl _ _)) (OwnK.cap (d := Kd.string) hL131) (by rw [List.length_map]; omega)) ?_
              rintro e_ w132 ⟨rfl, hb133⟩
              refine ⟨_, rfl, ?_⟩
              have hs_w132 := hb133.size
              refine rw_val (v := .bool (decide (rows.map strOfNums = rows.map strOfNums))) (w' := w132) rfl rfl rfl rfl (by first | (simp [go_sem, sEv, sLook, nbeq, i64_w, -List.getD_eq_getElem?_getD, hq125]; done) | (rw [hq125]; simp [go_sem, sEv, sLook, nbeq, i64_w, -List.getD_eq_getElem?_getD]; done) | (simp [go_sem, sEv, sLook, nbeq, i64_w, -List.getD_eq_getElem?_getD] <;> omega) | (simp [go_sem, sEv, sLook, nbeq, i64_w, -List.getD_eq_getElem?_getD]; intro h_; exact absurd (by omega) h_)) ?_
              refine rw_val (v := .bool (decide (rows.map strOfNums = rows.map strOfNums))) (w' := w132) rfl rfl rfl rfl rfl ?_
              have hq134 : (decide (rows.map strOfNums = rows.map strOfNums)) = true := by simp
              refine rw_on (c := decide (rows.map strOfNums = rows.map strOfNums)) rfl rfl rfl (by first | (rw [hq134]; rfl) | simp [hq134]) ?_
              refine rw_val (v := .pointer (some ⟨gd113, 0, none⟩)) (w' := w132) rfl rfl rfl rfl rfl ?_
              refine rw_on (c := decide (rows.map strOfNums = rows.map strOfNums)) rfl rfl rfl (by first | (rw [hq134]; rfl) | simp [hq134]) ?_
              refine rw_call rfl rfl rfl rfl (f := 15) (args := #[.pointer (some ⟨gd113, 0, none⟩)]) (by simp [go_sem, sEv, sLook, nbeq, i64_w, -List.getD_eq_getElem?_getD]) (len_B w132 g8 gd113 (⟨s117, (rows.length : Int), ((FC rows).length : Int)⟩ : DS).r (⟨s117, (rows.length : Int), ((FC rows).length : Int)⟩ : DS).b ((hD119b.on hB130).on hb133)) ?_
              rintro e_ w135 ⟨rfl, hb136⟩
              refine ⟨_, rfl, ?_⟩
              have hs_w135 := hb136.size
              refine rw_on (c := decide (rows.map strOfNums = rows.map strOfNums)) rfl rfl rfl (by first | (rw [hq134]; rfl) | simp [hq134]) ?_
              refine rw_val (v := .slice A1 rows.length c1) (w' := w135) rfl rfl rfl rfl rfl ?_
              refine rw_on (c := decide (rows.map strOfNums = rows.map strOfNums)) rfl rfl rfl (by first | (rw [hq134]; rfl) | simp [hq134]) ?_
              refine rw_val (v := .int .i64 ((rows.length : Nat) : Int)) (w' := w135) rfl rfl rfl rfl (by simp [go_sem, sEv, sLook, nbeq, i64_w, -List.getD_eq_getElem?_getD]) ?_
              refine rw_on (c := decide (rows.map strOfNums = rows.map strOfNums)) rfl rfl rfl (by first | (rw [hq134]; rfl) | simp [hq134]) ?_
              refine rw_val (v := .bool (((⟨s117, (rows.length : Int), ((FC rows).length : Int)⟩ : DS).r) == ((rows.length : Nat) : Int))) (w' := w135) rfl rfl rfl rfl (by simp [go_sem, sEv, sLook, nbeq, i64_w, -List.getD_eq_getElem?_getD]) ?_
              refine rw_val (v := .bool (((⟨s117, (rows.length : Int), ((FC rows).length : Int)⟩ : DS).r) == ((rows.length : Nat) : Int))) (w' := w135) rfl rfl rfl rfl (by first | (simp [go_sem, sEv, sLook, nbeq, i64_w, -List.getD_eq_getElem?_getD, hq134]; done) | (rw [hq134]; simp [go_sem, sEv, sLook, nbeq, i64_w, -List.getD_eq_getElem?_getD]; done) | (simp [go_sem, sEv, sLook, nbeq, i64_w, -List.getD_eq_getElem?_getD] <;> omega) | (simp [go_sem, sEv, sLook, nbeq, i64_w, -List.getD_eq_getElem?_getD]; intro h_; exact absurd (by omega) h_)) ?_
              refine rw_val (v := .bool (((⟨s117, (rows.length : Int), ((FC rows).length : Int)⟩ : DS).r) == ((rows.length : Nat) : Int))) (w' := w135) rfl rfl rfl rfl rfl ?_
              have hq137 : (((⟨s117, (rows.length : Int), ((FC rows).length : Int)⟩ : DS).r) == ((rows.length : Nat) : Int)) = true := by show ((((rows.length : Nat) : Int)) == _) = true; simp
              refine rw_on (c := (((⟨s117, (rows.length : Int), ((FC rows).length : Int)⟩ : DS).r) == ((rows.length : Nat) : Int))) rfl rfl rfl (by first | (rw [hq137]; rfl) | simp [hq137]) ?_
              refine rw_val (v := .pointer (some ⟨gd113, 0, none⟩)) (w' := w135) rfl rfl rfl rfl rfl ?_
              refine rw_on (c := (((⟨s117, (rows.length : Int), ((FC rows).length : Int)⟩ : DS).r) == ((rows.length : Nat) : Int))) rfl rfl rfl (by first | (rw [hq137]; rfl) | simp [hq137]) ?_
              refine rw_call rfl rfl rfl rfl (f := 16) (args := #[.pointer (some ⟨gd113, 0, none⟩)]) (by simp [go_sem, sEv, sLook, nbeq, i64_w, -List.getD_eq_getElem?_getD]) (bytes_B w135 g8 gd113 (⟨s117, (rows.length : Int), ((FC rows).length : Int)⟩ : DS).r (⟨s117, (rows.length : Int), ((FC rows).length : Int)⟩ : DS).b (((hD119b.on hB130).on hb133).on hb136)) ?_
              rintro e_ w138 ⟨rfl, hb139⟩
              refine ⟨_, rfl, ?_⟩
              have hs_w138 := hb139.size
              refine rw_on (c := (((⟨s117, (rows.length : Int), ((FC rows).length : Int)⟩ : DS).r) == ((rows.length : Nat) : Int))) rfl rfl rfl (by first | (rw [hq137]; rfl) | simp [hq137]) ?_
              refine rw_val (v := .slice A10_ ((FC (rows.take j)).length) c10_) (w' := w138) rfl rfl rfl rfl rfl ?_
              refine rw_on (c := (((⟨s117, (rows.length : Int), ((FC rows).length : Int)⟩ : DS).r) == ((rows.length : Nat) : Int))) rfl rfl rfl (by first | (rw [hq137]; rfl) | simp [hq137]) ?_
              refine rw_val (v := .int .i64 (((FC (rows.take j)).length : Nat) : Int)) (w' := w138) rfl rfl rfl rfl (by simp [go_sem, sEv, sLook, nbeq, i64_w, -List.getD_eq_getElem?_getD]) ?_
              refine rw_on (c := (((⟨s117, (rows.length : Int), ((FC rows).length : Int)⟩ : DS).r) == ((rows.length : Nat) : Int))) rfl rfl rfl (by first | (rw [hq137]; rfl) | simp [hq137]) ?_
              refine rw_val (v := .bool (((⟨s117, (rows.length : Int), ((FC rows).length : Int)⟩ : DS).b) == (((FC (rows.take j)).length : Nat) : Int))) (w' := w138) rfl rfl rfl rfl (by simp [go_sem, sEv, sLook, nbeq, i64_w, -List.getD_eq_getElem?_getD]) ?_
              refine rw_val (v := .bool (((⟨s117, (rows.length : Int), ((FC rows).length : Int)⟩ : DS).b) == (((FC (rows.take j)).length : Nat) : Int))) (w' := w138) rfl rfl rfl rfl (by first | (simp [go_sem, sEv, sLook, nbeq, i64_w, -List.getD_eq_getElem?_getD, hq137]; done) | (rw [hq137]; simp [go_sem, sEv, sLook, nbeq, i64_w, -List.getD_eq_getElem?_getD]; done) | (simp [go_sem, sEv, sLook, nbeq, i64_w, -List.getD_eq_getElem?_getD] <;> omega) | (simp [go_sem, sEv, sLook, nbeq, i64_w, -List.getD_eq_getElem?_getD]; intro h_; exact absurd (by omega) h_)) ?_
              refine rw_val (v := .bool (((⟨s117, (rows.length : Int), ((FC rows).length : Int)⟩ : DS).b) == (((FC (rows.take j)).length : Nat) : Int))) (w' := w138) rfl rfl rfl rfl rfl ?_
              have hq140 : (((⟨s117, (rows.length : Int), ((FC rows).length : Int)⟩ : DS).b) == (((FC (rows.take j)).length : Nat) : Int)) = true := by show (((((FC rows).length : Nat) : Int)) == _) = true; rw [hfc_]; simp
              refine rw_on (c := (((⟨s117, (rows.length : Int), ((FC rows).length : Int)⟩ : DS).b) == (((FC (rows.take j)).length : Nat) : Int))) rfl rfl rfl (by first | (rw [hq140]; rfl) | simp [hq140]) ?_
              refine rw_val (v := .pointer (some ⟨g8, 0, none⟩)) (w' := w138) rfl rfl rfl rfl rfl ?_
              refine rw_on (c := (((⟨s117, (rows.length : Int), ((FC rows).length : Int)⟩ : DS).b) == (((FC (rows.take j)).length : Nat) : Int))) rfl rfl rfl (by first | (rw [hq140]; rfl) | simp [hq140]) ?_
              refine rw_call rfl rfl rfl rfl (f := 17) (args := #[.pointer (some ⟨g8, 0, none⟩)]) (by simp [go_sem, sEv, sLook, nbeq, i64_w, -List.getD_eq_getElem?_getD]) (read_T w w138 g8 m114 gd113 (by omega) s117 (TapeAt.on (TapeAt.on (TapeAt.on (TapeAt.on hD119t hB130) hb133) hb136) hb139) hok122) ?_
              rintro e_ w144 ⟨A141, n142, c143, rfl, hO145, hB146⟩
              refine ⟨_, rfl, ?_⟩
              have hl147 : n142 = (s117.xs).length := Own.len hO145
              subst hl147
              have hs_w144 := hB146.size
              have hL148 : OwnK (Kd.int .u8) 5 w144 w.heap.size w138.heap.size A141 (s117.xs).length c143 (s117.xs) := OwnK.lower (d := (Kd.int .u8)) hO145 (by omega)
              refine rw_on (c := (((⟨s117, (rows.length : Int), ((FC rows).length : Int)⟩ : DS).b) == (((FC (rows.take j)).length : Nat) : Int))) rfl rfl rfl (by first | (rw [hq140]; rfl) | simp [hq140]) ?_
              refine rw_val (v := .int .i64 (((s117.xs).length : Nat) : Int)) (w' := w144) rfl rfl rfl rfl (by simp [go_sem, sEv, sLook, nbeq, i64_w, -List.getD_eq_getElem?_getD]) ?_
              refine rw_on (c := (((⟨s117, (rows.length : Int), ((FC rows).length : Int)⟩ : DS).b) == (((FC (rows.take j)).length : Nat) : Int))) rfl rfl rfl (by first | (rw [hq140]; rfl) | simp [hq140]) ?_
              refine rw_val (v := .slice A10_ ((FC (rows.take j)).length) c10_) (w' := w144) rfl rfl rfl rfl rfl ?_
              refine rw_on (c := (((⟨s117, (rows.length : Int), ((FC rows).length : Int)⟩ : DS).b) == (((FC (rows.take j)).length : Nat) : Int))) rfl rfl rfl (by first | (rw [hq140]; rfl) | simp [hq140]) ?_
              refine rw_val (v := .int .i64 (((FC (rows.take j)).length : Nat) : Int)) (w' := w144) rfl rfl rfl rfl (by simp [go_sem, sEv, sLook, nbeq, i64_w, -List.getD_eq_getElem?_getD]) ?_
              refine rw_on (c := (((⟨s117, (rows.length : Int), ((FC rows).length : Int)⟩ : DS).b) == (((FC (rows.take j)).length : Nat) : Int))) rfl rfl rfl (by first | (rw [hq140]; rfl) | simp [hq140]) ?_
              refine rw_val (v := .bool ((((s117.xs).length : Nat) : Int) == (((FC (rows.take j)).length : Nat) : Int))) (w' := w144) rfl rfl rfl rfl (by simp [go_sem, sEv, sLook, nbeq, i64_w, -List.getD_eq_getElem?_getD]) ?_
              refine rw_val (v := .bool ((((s117.xs).length : Nat) : Int) == (((FC (rows.take j)).length : Nat) : Int))) (w' := w144) rfl rfl rfl rfl (by first | (simp [go_sem, sEv, sLook, nbeq, i64_w, -List.getD_eq_getElem?_getD, hq140]; done) | (rw [hq140]; simp [go_sem, sEv, sLook, nbeq, i64_w, -List.getD_eq_getElem?_getD]; done) | (simp [go_sem, sEv, sLook, nbeq, i64_w, -List.getD_eq_getElem?_getD] <;> omega) | (simp [go_sem, sEv, sLook, nbeq, i64_w, -List.getD_eq_getElem?_getD]; intro h_; exact absurd (by omega) h_)) ?_
              refine rw_val (v := .bool ((((s117.xs).length : Nat) : Int) == (((FC (rows.take j)).length : Nat) : Int))) (w' := w144) rfl rfl rfl rfl rfl ?_
              refine rw_end ?_
              refine w_weaken (G' := [(8, .bool ((((s117.xs).length : Nat) : Int) == (((FC (rows.take j)).length : Nat) : Int)))]) ⟨rfl, trivial⟩ ?_
              have hq149 : ((((s117.xs).length : Nat) : Int) == (((FC (rows.take j)).length : Nat) : Int)) = true := by rw [hx121, hfc_]; simp
              refine w_ret (post_ret1 rfl rfl ?_)
              exact ⟨by simp only [hq149], (chain (chain (chain (chain (chain hD119t.1 hB130) hb133) hb136) hb139) hB146)⟩
            · have l150 : (0 < ((torn.length : Nat) : Int)) := of_decide_eq_true cT
              refine rw_on (c := decide (0 < ((torn.length : Nat) : Int))) rfl rfl rfl (by first | (rw [cT]; rfl) | simp [cT]) ?_
              refine rw_val (v := errT o95) (w' := w98) rfl rfl rfl rfl rfl ?_
              refine rw_on (c := decide (0 < ((torn.length : Nat) : Int))) rfl rfl rfl (by first | (rw [cT]; rfl) | simp [cT]) ?_
              refine rw_val (v := .bool o95.isNone) (w' := w98) rfl rfl rfl rfl (run_as (guard_err_eq0 _ o95 _)) ?_
              refine rw_val (v := .bool o95.isNone) (w' := w98) rfl rfl rfl rfl (by first | (simp [go_sem, sEv, sLook, nbeq, i64_w, -List.getD_eq_getElem?_getD, cT]; done) | (rw [cT]; simp [go_sem, sEv, sLook, nbeq, i64_w, -List.getD_eq_getElem?_getD]; done) | (simp [go_sem, sEv, sLook, nbeq, i64_w, -List.getD_eq_getElem?_getD] <;> omega) | (simp [go_sem, sEv, sLook, nbeq, i64_w, -List.getD_eq_getElem?_getD]; intro h_; exact absurd (by omega) h_)) ?_
              refine rw_val (v := .bool o95.isNone) (w' := w98) rfl rfl rfl rfl rfl ?_
              have hq151 : o95.isNone = false := by have h_ := ho99; rw [decide_eq_true (show 0 < torn.length by omega)] at h_; revert h_; cases o95 <;> simp
              refine rw_on (c := o95.isNone) rfl rfl rfl (by first | (rw [hq151]; rfl) | simp [hq151]) ?_
              refine rw_val (v := .slice A2 torn.length c2) (w' := w98) rfl rfl rfl rfl rfl ?_
              refine rw_on (c := o95.isNone) rfl rfl rfl (by first | (rw [hq151]; rfl) | simp [hq151]) ?_
              refine rw_val (v := .int .i64 ((torn.length : Nat) : Int)) (w' := w98) rfl rfl rfl rfl (by simp [go_sem, sEv, sLook, nbeq, i64_w, -List.getD_eq_getElem?_getD]) ?_
              refine rw_on (c := o95.isNone) rfl rfl rfl (by first | (rw [hq151]; rfl) | simp [hq151]) ?_
              refine rw_val (v := .bool (((torn.length : Nat) : Int) == 0)) (w' := w98) rfl rfl rfl rfl (by simp [go_sem, sEv, sLook, nbeq, i64_w, -List.getD_eq_getElem?_getD]) ?_
              refine rw_on (c := o95.isNone) rfl rfl rfl (by first | (rw [hq151]; rfl) | simp [hq151]) ?_
              refine rw_val (v := .bool (((torn.length : Nat) : Int) == 0)) (w' := w98) rfl rfl rfl rfl rfl ?_
              have hq152 : (((torn.length : Nat) : Int) == 0) = false := by rw [beq_eq_false_iff_ne]; omega
              refine rw_off (c := (((torn.length : Nat) : Int) == 0)) rfl rfl rfl (by first | (rw [hq152]; rfl) | simp [hq152]) rfl rfl ?_
              refine rw_off (c := (((torn.length : Nat) : Int) == 0)) rfl rfl rfl (by first | (rw [hq152]; rfl) | simp [hq152]) rfl rfl ?_
              refine rw_on (c := o95.isNone) rfl rfl rfl (by first | (rw [hq151]; rfl) | simp [hq151]) ?_
              refine rw_val (v := .bool false) (w' := w98) rfl rfl rfl rfl (by first | (simp [go_sem, sEv, sLook, nbeq, i64_w, -List.getD_eq_getElem?_getD, hq152]; done) | (rw [hq152]; simp [go_sem, sEv, sLook, nbeq, i64_w, -List.getD_eq_getElem?_getD]; done) | (simp [go_sem, sEv, sLook, nbeq, i64_w, -List.getD_eq_getElem?_getD] <;> omega) | (simp [go_sem, sEv, sLook, nbeq, i64_w, -List.getD_eq_getElem?_getD]; intro h_; exact absurd (by omega) h_)) ?_
              refine rw_val (v := .bool false) (w' := w98) rfl rfl rfl rfl (by first | (simp [go_sem, sEv, sLook, nbeq, i64_w, -List.getD_eq_getElem?_getD, hq151]; done) | (rw [hq151]; simp [go_sem, sEv, sLook, nbeq, i64_w, -List.getD_eq_getElem?_getD]; done) | (simp [go_sem, sEv, sLook, nbeq, i64_w, -List.getD_eq_getElem?_getD] <;> omega) | (simp [go_sem, sEv, sLook, nbeq, i64_w, -List.getD_eq_getElem?_getD]; intro h_; exact absurd (by omega) h_)) ?_
              refine rw_end ?_
              refine w_weaken (G' := [(0, .slice A1 rows.length c1), (3, .int .i64 keep), (9, .pointer (some ⟨g8, 0, none⟩)), (10, .slice A10_ ((FC (rows.take j)).length) c10_), (19, errT o95), (109, .bool false)]) ⟨rfl, rfl, rfl, rfl, rfl, rfl, trivial⟩ ?_
              refine w_cond_f rfl rfl rfl ?_
              refine w_skip ?_
              refine w_seq ?_
              refine w_region ?_
              refine rw_val (v := .pointer (some ⟨g8, 0, none⟩)) (w' := w98) rfl rfl rfl rfl rfl ?_
              refine rw_val (v := .int .i64 keep) (w' := w98) rfl rfl rfl rfl rfl ?_
              refine rw_call rfl rfl rfl rfl (f := 22) (args := #[.pointer (some ⟨g8, 0, none⟩), .int .i64 keep]) (by simp [go_sem, sEv, sLook, nbeq, i64_w, -List.getD_eq_getElem?_getD]) (crash_T w w98 g8 m97 g8 (by omega) s96 hT100 hok103 keep) ?_
              rintro e_ w153 ⟨rfl, hT154, hs155, hx156⟩
              refine ⟨.tuple #[], rfl, ?_⟩
              rw [crash_sure s96 keep (by rw [hsu102, hx101]), hx101] at hT154
              have hz_w153 := hT154.size
              refine rw_end ?_
              refine w_seq ?_
              refine w_region ?_
              refine rw_val (v := .pointer (some ⟨g8, 0, none⟩)) (w' := w153) rfl rfl rfl rfl rfl ?_
              refine rw_call rfl rfl rfl rfl (f := 11) (args := #[.pointer (some ⟨g8, 0, none⟩)]) (by simp [go_sem, sEv, sLook, nbeq, i64_w, -List.getD_eq_getElem?_getD]) (open_second w w153 g8 w153.heap.size g8 (by omega) rows torn n60 s96.steps hT154 ⟨hok103.steps.1, hle104⟩ hS_ hXl_ hr_ hbX_) ?_
              rintro e_ w162 ⟨gd157, m158, A159, c160, s161, rfl, hD163, hO164, hx165, hok166, hs167⟩
              refine ⟨_, rfl, ?_⟩
              obtain ⟨hD163t, hD163b, hD163g, hD163z⟩ := hD163
              have hz_w162 := hD163t.size
              have hlt_w162 := hD163b.lt
              have hL168 : OwnK (Kd.slice 5 (Kd.int .u8)) 32 w162 w.heap.size w.heap.size A159 rows.length c160 rows := OwnK.mono (d := (Kd.slice 5 (Kd.int .u8))) (OwnK.lower (d := (Kd.slice 5 (Kd.int .u8))) hO164 (by omega)) (by omega)
              refine rw_val (v := .tuple #[.pointer (some ⟨gd157, 0, none⟩), .slice A159 rows.length c160, errT none]) (w' := w162) rfl rfl rfl rfl rfl ?_
              refine rw_val (v := .pointer (some ⟨gd157, 0, none⟩)) (w' := w162) rfl rfl rfl rfl (by simp [go_sem, sEv, sLook, nbeq, i64_w, -List.getD_eq_getElem?_getD]) ?_
              refine rw_val (v := .slice A159 rows.length c160) (w' := w162) rfl rfl rfl rfl (by simp [go_sem, sEv, sLook, nbeq, i64_w, -List.getD_eq_getElem?_getD]) ?_
              refine rw_val (v := errT none) (w' := w162) rfl rfl rfl rfl (by simp [go_sem, sEv, sLook, nbeq, i64_w, -List.getD_eq_getElem?_getD]) ?_
              refine rw_val (v := .pointer (some ⟨gd157, 0, none⟩)) (w' := w162) rfl rfl rfl rfl rfl ?_
              refine rw_val (v := .slice A159 rows.length c160) (w' := w162) rfl rfl rfl rfl rfl ?_
              refine rw_val (v := errT none) (w' := w162) rfl rfl rfl rfl rfl ?_
              refine rw_end ?_
              refine w_weaken (G' := [(0, .slice A1 rows.length c1), (9, .pointer (some ⟨g8, 0, none⟩)), (10, .slice A10_ ((FC (rows.take j)).length) c10_), (19, errT none), (20, .pointer (some ⟨gd157, 0, none⟩)), (21, .slice A159 rows.length c160)]) ⟨rfl, rfl, rfl, rfl, rfl, rfl, trivial⟩ ?_
              refine w_seq ?_
              refine w_region ?_
              refine rw_val (v := errT none) (w' := w162) rfl rfl rfl rfl rfl ?_
              refine rw_val (v := .bool ((none : Option Int).isNone)) (w' := w162) rfl rfl rfl rfl (run_as (guard_err_eq0 _ (none : Option Int) _)) ?_
              refine rw_val (v := .bool ((none : Option Int).isNone)) (w' := w162) rfl rfl rfl rfl rfl ?_
              have hq169 : ((none : Option Int).isNone) = true := by rfl
              refine rw_on (c := (none : Option Int).isNone) rfl rfl rfl (by first | (rw [hq169]; rfl) | simp [hq169]) ?_
              refine rw_val (v := .slice A159 rows.length c160) (w' := w162) rfl rfl rfl rfl rfl ?_
              refine rw_on (c := (none : Option Int).isNone) rfl rfl rfl (by first | (rw [hq169]; rfl) | simp [hq169]) ?_
              refine rw_val (v := .slice A1 rows.length c1) (w' := w162) rfl rfl rfl rfl rfl ?_
              refine rw_on (c := (none : Option Int).isNone) rfl rfl rfl (by first | (rw [hq169]; rfl) | simp [hq169]) ?_
              refine rw_call rfl rfl rfl rfl (f := 14) (args := #[.slice A1 rows.length c1]) (by simp [go_sem, sEv, sLook, nbeq, i64_w, -List.getD_eq_getElem?_getD]) (texts_calls w162 A1 c1 rows (Kd.C_below hr hD163t.1) hc1 (by omega)) ?_
              rintro e_ w172 ⟨A170, c171, rfl, hO173, hB174⟩
              refine ⟨_, rfl, ?_⟩
              have hs_w172 := hB174.size
              have hL175 : OwnK Kd.string 9 w172 w.heap.size w162.heap.size A170 (rows.map strOfNums).length c171 (rows.map strOfNums) := OwnK.lower hO173 (by omega)
              refine rw_on (c := (none : Option Int).isNone) rfl rfl rfl (by first | (rw [hq169]; rfl) | simp [hq169]) ?_
              refine rw_call rfl rfl rfl rfl (f := 13) (args := #[.slice A159 rows.length c160, .slice A170 ((rows.map strOfNums).length) c171]) (by simp [go_sem, sEv, sLook, nbeq, i64_w, -List.getD_eq_getElem?_getD]) (same_calls w172 A159 A170 c160 c171 rows (rows.map strOfNums) (Kd.C_below (OwnK.C (d := (Kd.slice 5 (Kd.int .u8))) hL168) hB174) (OwnK.cap (d := (Kd.slice 5 (Kd.int .u8))) hL168) (Kd.C_below (OwnK.C (d := Kd.string) hL175) (Below.refl _ _)) (OwnK.cap (d := Kd.string) hL175) (by rw [List.length_map]; omega)) ?_
              rintro e_ w176 ⟨rfl, hb177⟩
              refine ⟨_, rfl, ?_⟩
              have hs_w176 := hb177.size
              refine rw_val (v := .bool (decide (rows.map strOfNums = rows.map strOfNums))) (w' := w176) rfl rfl rfl rfl (by first | (simp [go_sem, sEv, sLook, nbeq, i64_w, -List.getD_eq_getElem?_getD, hq169]; done) | (rw [hq169]; simp [go_sem, sEv, sLook, nbeq, i64_w, -List.getD_eq_getElem?_getD]; done) | (simp [go_sem, sEv, sLook, nbeq, i64_w, -List.getD_eq_getElem?_getD] <;> omega) | (simp [go_sem, sEv, sLook, nbeq, i64_w, -List.getD_eq_getElem?_getD]; intro h_; exact absurd (by omega) h_)) ?_
              refine rw_val (v := .bool (decide (rows.map strOfNums = rows.map strOfNums))) (w' := w176) rfl rfl rfl rfl rfl ?_
              have hq178 : (decide (rows.map strOfNums = rows.map strOfNums)) = true := by simp
              refine rw_on (c := decide (rows.map strOfNums = rows.map strOfNums)) rfl rfl rfl (by first | (rw [hq178]; rfl) | simp [hq178]) ?_
              refine rw_val (v := .pointer (some ⟨gd157, 0, none⟩)) (w' := w176) rfl rfl rfl rfl rfl ?_
              refine rw_on (c := decide (rows.map strOfNums = rows.map strOfNums)) rfl rfl rfl (by first | (rw [hq178]; rfl) | simp [hq178]) ?_
              refine rw_call rfl rfl rfl rfl (f := 15) (args := #[.pointer (some ⟨gd157, 0, none⟩)]) (by simp [go_sem, sEv, sLook, nbeq, i64_w, -List.getD_eq_getElem?_getD]) (len_B w176 g8 gd157 (⟨s161, (rows.length : Int), ((FC rows).length : Int)⟩ : DS).r (⟨s161, (rows.length : Int), ((FC rows).length : Int)⟩ : DS).b ((hD163b.on hB174).on hb177)) ?_
              rintro e_ w179 ⟨rfl, hb180⟩
              refine ⟨_, rfl, ?_⟩
              have hs_w179 := hb180.size
              refine rw_on (c := decide (rows.map strOfNums = rows.map strOfNums)) rfl rfl rfl (by first | (rw [hq178]; rfl) | simp [hq178]) ?_
              refine rw_val (v := .slice A1 rows.length c1) (w' := w179) rfl rfl rfl rfl rfl ?_
              refine rw_on (c := decide (rows.map strOfNums = rows.map strOfNums)) rfl rfl rfl (by first | (rw [hq178]; rfl) | simp [hq178]) ?_
              refine rw_val (v := .int .i64 ((rows.length : Nat) : Int)) (w' := w179) rfl rfl rfl rfl (by simp [go_sem, sEv, sLook, nbeq, i64_w, -List.getD_eq_getElem?_getD]) ?_
              refine rw_on (c := decide (rows.map strOfNums = rows.map strOfNums)) rfl rfl rfl (by first | (rw [hq178]; rfl) | simp [hq178]) ?_
              refine rw_val (v := .bool (((⟨s161, (rows.length : Int), ((FC rows).length : Int)⟩ : DS).r) == ((rows.length : Nat) : Int))) (w' := w179) rfl rfl rfl rfl (by simp [go_sem, sEv, sLook, nbeq, i64_w, -List.getD_eq_getElem?_getD]) ?_
              refine rw_val (v := .bool (((⟨s161, (rows.length : Int), ((FC rows).length : Int)⟩ : DS).r) == ((rows.length : Nat) : Int))) (w' := w179) rfl rfl rfl rfl (by first | (simp [go_sem, sEv, sLook, nbeq, i64_w, -List.getD_eq_getElem?_getD, hq178]; done) | (rw [hq178]; simp [go_sem, sEv, sLook, nbeq, i64_w, -List.getD_eq_getElem?_getD]; done) | (simp [go_sem, sEv, sLook, nbeq, i64_w, -List.getD_eq_getElem?_getD] <;> omega) | (simp [go_sem, sEv, sLook, nbeq, i64_w, -List.getD_eq_getElem?_getD]; intro h_; exact absurd (by omega) h_)) ?_
              refine rw_val (v := .bool (((⟨s161, (rows.length : Int), ((FC rows).length : Int)⟩ : DS).r) == ((rows.length : Nat) : Int))) (w' := w179) rfl rfl rfl rfl rfl ?_
              have hq181 : (((⟨s161, (rows.length : Int), ((FC rows).length : Int)⟩ : DS).r) == ((rows.length : Nat) : Int)) = true := by show ((((rows.length : Nat) : Int)) == _) = true; simp
              refine rw_on (c := (((⟨s161, (rows.length : Int), ((FC rows).length : Int)⟩ : DS).r) == ((rows.length : Nat) : Int))) rfl rfl rfl (by first | (rw [hq181]; rfl) | simp [hq181]) ?_
              refine rw_val (v := .pointer (some ⟨gd157, 0, none⟩)) (w' := w179) rfl rfl rfl rfl rfl ?_
              refine rw_on (c := (((⟨s161, (rows.length : Int), ((FC rows).length : Int)⟩ : DS).r) == ((rows.length : Nat) : Int))) rfl rfl rfl (by first | (rw [hq181]; rfl) | simp [hq181]) ?_
              refine rw_call rfl rfl rfl rfl (f := 16) (args := #[.pointer (some ⟨gd157, 0, none⟩)]) (by simp [go_sem, sEv, sLook, nbeq, i64_w, -List.getD_eq_getElem?_getD]) (bytes_B w179 g8 gd157 (⟨s161, (rows.length : Int), ((FC rows).length : Int)⟩ : DS).r (⟨s161, (rows.length : Int), ((FC rows).length : Int)⟩ : DS).b (((hD163b.on hB174).on hb177).on hb180)) ?_
              rintro e_ w182 ⟨rfl, hb183⟩
              refine ⟨_, rfl, ?_⟩
              have hs_w182 := hb183.size
              refine rw_on (c := (((⟨s161, (rows.length : Int), ((FC rows).length : Int)⟩ : DS).r) == ((rows.length : Nat) : Int))) rfl rfl rfl (by first | (rw [hq181]; rfl) | simp [hq181]) ?_
              refine rw_val (v := .slice A10_ ((FC (rows.take j)).length) c10_) (w' := w182) rfl rfl rfl rfl rfl ?_
              refine rw_on (c := (((⟨s161, (rows.length : Int), ((FC rows).length : Int)⟩ : DS).r) == ((rows.length : Nat) : Int))) rfl rfl rfl (by first | (rw [hq181]; rfl) | simp [hq181]) ?_
              refine rw_val (v := .int .i64 (((FC (rows.take j)).length : Nat) : Int)) (w' := w182) rfl rfl rfl rfl (by simp [go_sem, sEv, sLook, nbeq, i64_w, -List.getD_eq_getElem?_getD]) ?_
              refine rw_on (c := (((⟨s161, (rows.length : Int), ((FC rows).length : Int)⟩ : DS).r) == ((rows.length : Nat) : Int))) rfl rfl rfl (by first | (rw [hq181]; rfl) | simp [hq181]) ?_
              refine rw_val (v := .bool (((⟨s161, (rows.length : Int), ((FC rows).length : Int)⟩ : DS).b) == (((FC (rows.take j)).length : Nat) : Int))) (w' := w182) rfl rfl rfl rfl (by simp [go_sem, sEv, sLook, nbeq, i64_w, -List.getD_eq_getElem?_getD]) ?_
              refine rw_val (v := .bool (((⟨s161, (rows.length : Int), ((FC rows).length : Int)⟩ : DS).b) == (((FC (rows.take j)).length : Nat) : Int))) (w' := w182) rfl rfl rfl rfl (by first | (simp [go_sem, sEv, sLook, nbeq, i64_w, -List.getD_eq_getElem?_getD, hq181]; done) | (rw [hq181]; simp [go_sem, sEv, sLook, nbeq, i64_w, -List.getD_eq_getElem?_getD]; done) | (simp [go_sem, sEv, sLook, nbeq, i64_w, -List.getD_eq_getElem?_getD] <;> omega) | (simp [go_sem, sEv, sLook, nbeq, i64_w, -List.getD_eq_getElem?_getD]; intro h_; exact absurd (by omega) h_)) ?_
              refine rw_val (v := .bool (((⟨s161, (rows.length : Int), ((FC rows).length : Int)⟩ : DS).b) == (((FC (rows.take j)).length : Nat) : Int))) (w' := w182) rfl rfl rfl rfl rfl ?_
              have hq184 : (((⟨s161, (rows.length : Int), ((FC rows).length : Int)⟩ : DS).b) == (((FC (rows.take j)).length : Nat) : Int)) = true := by show (((((FC rows).length : Nat) : Int)) == _) = true; rw [hfc_]; simp
              refine rw_on (c := (((⟨s161, (rows.length : Int), ((FC rows).length : Int)⟩ : DS).b) == (((FC (rows.take j)).length : Nat) : Int))) rfl rfl rfl (by first | (rw [hq184]; rfl) | simp [hq184]) ?_
              refine rw_val (v := .pointer (some ⟨g8, 0, none⟩)) (w' := w182) rfl rfl rfl rfl rfl ?_
              refine rw_on (c := (((⟨s161, (rows.length : Int), ((FC rows).length : Int)⟩ : DS).b) == (((FC (rows.take j)).length : Nat) : Int))) rfl rfl rfl (by first | (rw [hq184]; rfl) | simp [hq184]) ?_
              refine rw_call rfl rfl rfl rfl (f := 17) (args := #[.pointer (some ⟨g8, 0, none⟩)]) (by simp [go_sem, sEv, sLook, nbeq, i64_w, -List.getD_eq_getElem?_getD]) (read_T w w182 g8 m158 gd157 (by omega) s161 (TapeAt.on (TapeAt.on (TapeAt.on (TapeAt.on hD163t hB174) hb177) hb180) hb183) hok166) ?_
              rintro e_ w188 ⟨A185, n186, c187, rfl, hO189, hB190⟩
              refine ⟨_, rfl, ?_⟩
              have hl191 : n186 = (s161.xs).length := Own.len hO189
              subst hl191
              have hs_w188 := hB190.size
              have hL192 : OwnK (Kd.int .u8) 5 w188 w.heap.size w182.heap.size A185 (s161.xs).length c187 (s161.xs) := OwnK.lower (d := (Kd.int .u8)) hO189 (by omega)
              refine rw_on (c := (((⟨s161, (rows.length : Int), ((FC rows).length : Int)⟩ : DS).b) == (((FC (rows.take j)).length : Nat) : Int))) rfl rfl rfl (by first | (rw [hq184]; rfl) | simp [hq184]) ?_
              refine rw_val (v := .int .i64 (((s161.xs).length : Nat) : Int)) (w' := w188) rfl rfl rfl rfl (by simp [go_sem, sEv, sLook, nbeq, i64_w, -List.getD_eq_getElem?_getD]) ?_
              refine rw_on (c := (((⟨s161, (rows.length : Int), ((FC rows).length : Int)⟩ : DS).b) == (((FC (rows.take j)).length : Nat) : Int))) rfl rfl rfl (by first | (rw [hq184]; rfl) | simp [hq184]) ?_
              refine rw_val (v := .slice A10_ ((FC (rows.take j)).length) c10_) (w' := w188) rfl rfl rfl rfl rfl ?_
              refine rw_on (c := (((⟨s161, (rows.length : Int), ((FC rows).length : Int)⟩ : DS).b) == (((FC (rows.take j)).length : Nat) : Int))) rfl rfl rfl (by first | (rw [hq184]; rfl) | simp [hq184]) ?_
              refine rw_val (v := .int .i64 (((FC (rows.take j)).length : Nat) : Int)) (w' := w188) rfl rfl rfl rfl (by simp [go_sem, sEv, sLook, nbeq, i64_w, -List.getD_eq_getElem?_getD]) ?_
              refine rw_on (c := (((⟨s161, (rows.length : Int), ((FC rows).length : Int)⟩ : DS).b) == (((FC (rows.take j)).length : Nat) : Int))) rfl rfl rfl (by first | (rw [hq184]; rfl) | simp [hq184]) ?_
              refine rw_val (v := .bool ((((s161.xs).length : Nat) : Int) == (((FC (rows.take j)).length : Nat) : Int))) (w' := w188) rfl rfl rfl rfl (by simp [go_sem, sEv, sLook, nbeq, i64_w, -List.getD_eq_getElem?_getD]) ?_
              refine rw_val (v := .bool ((((s161.xs).length : Nat) : Int) == (((FC (rows.take j)).length : Nat) : Int))) (w' := w188) rfl rfl rfl rfl (by first | (simp [go_sem, sEv, sLook, nbeq, i64_w, -List.getD_eq_getElem?_getD, hq184]; done) | (rw [hq184]; simp [go_sem, sEv, sLook, nbeq, i64_w, -List.getD_eq_getElem?_getD]; done) | (simp [go_sem, sEv, sLook, nbeq, i64_w, -List.getD_eq_getElem?_getD] <;> omega) | (simp [go_sem, sEv, sLook, nbeq, i64_w, -List.getD_eq_getElem?_getD]; intro h_; exact absurd (by omega) h_)) ?_
              refine rw_val (v := .bool ((((s161.xs).length : Nat) : Int) == (((FC (rows.take j)).length : Nat) : Int))) (w' := w188) rfl rfl rfl rfl rfl ?_
              refine rw_end ?_
              refine w_weaken (G' := [(8, .bool ((((s161.xs).length : Nat) : Int) == (((FC (rows.take j)).length : Nat) : Int)))]) ⟨rfl, trivial⟩ ?_
              have hq193 : ((((s161.xs).length : Nat) : Int) == (((FC (rows.take j)).length : Nat) : Int)) = true := by rw [hx165, hfc_]; simp
              refine w_ret (post_ret1 rfl rfl ?_)
              exact ⟨by simp only [hq193], (chain (chain (chain (chain (chain hD163t.1 hB174) hb177) hb180) hb183) hB190)⟩
          · have l194 : ¬ (Int.tmod arm 2) = 0 := by simpa using cA
            refine w_region ?_
            refine rw_val (v := .pointer (some ⟨g8, 0, none⟩)) (w' := w82) rfl rfl rfl rfl rfl ?_
            refine rw_call rfl rfl rfl rfl (f := 20) (args := #[.pointer (some ⟨g8, 0, none⟩), .int .i64 0]) (by simp [go_sem, sEv, sLook, nbeq, i64_w, -List.getD_eq_getElem?_getD]) (fail_T w w82 g8 w82.heap.size g8 (by omega) (pl (FC rows ++ torn) (((FC rows ++ torn).length : Nat) : Int) 2) hT83 (pl_ok (by omega) (by omega) hXl_) 0 (by decide)) ?_
            rintro e_ w195 ⟨rfl, hT196, hs197, hx198⟩
            refine ⟨_, rfl, ?_⟩
            have hz_w195 := hT196.size
            refine rw_end ?_
            refine w_seq ?_
            refine w_region ?_
            refine rw_val (v := .pointer (some ⟨g8, 0, none⟩)) (w' := w195) rfl rfl rfl rfl rfl ?_
            refine rw_call rfl rfl rfl rfl (f := 11) (args := #[.pointer (some ⟨g8, 0, none⟩)]) (by simp [go_sem, sEv, sLook, nbeq, i64_w, -List.getD_eq_getElem?_getD]) (open_first w w195 g8 w195.heap.size g8 (by omega) (⟨(FC rows ++ torn), (((FC rows ++ torn).length : Nat) : Int), 2, false, 0, true, 0, false⟩ : TS) hT196 ⟨by show (0 : Int) ≤ 2 ∧ (2 : Int) ≤ 1000000000; omega, by show (0 : Int) ≤ 0 ∧ (0 : Int) ≤ 9223372036854775807; omega, by show (0 : Int) ≤ 0 ∧ (0 : Int) ≤ 9223372036854775807; omega, by show 0 ≤ (((FC rows ++ torn).length : Nat) : Int) ∧ (((FC rows ++ torn).length : Nat) : Int) ≤ (((FC rows ++ torn).length : Nat) : Int); omega, hXl_⟩ rows torn n60 hS_ rfl hr_ hbX_ rfl rfl (by show (2 : Int) ≤ 10; omega) rfl) ?_
            rintro e_ w206 ⟨P199, A200, n201, c202, o203, s204, m205, rfl, ho207, hT208, hx209, hsu210, hok211, hle212, hs213⟩
            refine ⟨_, rfl, ?_⟩
            have hz_w206 := hT208.size
            refine rw_val (v := .tuple #[.pointer P199, .slice A200 n201 c202, errT o203]) (w' := w206) rfl rfl rfl rfl rfl ?_
            refine rw_val (v := .pointer P199) (w' := w206) rfl rfl rfl rfl (by simp [go_sem, sEv, sLook, nbeq, i64_w, -List.getD_eq_getElem?_getD]) ?_
            refine rw_val (v := .slice A200 n201 c202) (w' := w206) rfl rfl rfl rfl (by simp [go_sem, sEv, sLook, nbeq, i64_w, -List.getD_eq_getElem?_getD]) ?_
            refine rw_val (v := errT o203) (w' := w206) rfl rfl rfl rfl (by simp [go_sem, sEv, sLook, nbeq, i64_w, -List.getD_eq_getElem?_getD]) ?_
            refine rw_val (v := .pointer P199) (w' := w206) rfl rfl rfl rfl rfl ?_
            refine rw_val (v := .slice A200 n201 c202) (w' := w206) rfl rfl rfl rfl rfl ?_
            refine rw_val (v := errT o203) (w' := w206) rfl rfl rfl rfl rfl ?_
            refine rw_end ?_
            refine w_weaken (G' := [(0, .slice A1 rows.length c1), (1, .slice A2 torn.length c2), (3, .int .i64 keep), (9, .pointer (some ⟨g8, 0, none⟩)), (10, .slice A10_ ((FC (rows.take j)).length) c10_), (19, errT o203)]) ⟨rfl, rfl, rfl, rfl, rfl, rfl, trivial⟩ ?_
            refine w_seq ?_
            refine w_seq ?_
            refine w_region ?_
            refine rw_val (v := .slice A2 torn.length c2) (w' := w206) rfl rfl rfl rfl rfl ?_
            refine rw_val (v := .int .i64 ((torn.length : Nat) : Int)) (w' := w206) rfl rfl rfl rfl (by simp [go_sem, sEv, sLook, nbeq, i64_w, -List.getD_eq_getElem?_getD]) ?_
            refine rw_val (v := .bool (decide (0 < ((torn.length : Nat) : Int)))) (w' := w206) rfl rfl rfl rfl (by simp [go_sem, sEv, sLook, nbeq, i64_w, -List.getD_eq_getElem?_getD]) ?_
            refine rw_val (v := .bool (decide (0 < ((torn.length : Nat) : Int)))) (w' := w206) rfl rfl rfl rfl rfl ?_
            rcases bcase (decide (0 < ((torn.length : Nat) : Int))) with cT | cT
            · have l214 : ¬ (0 < ((torn.length : Nat) : Int)) := of_decide_eq_false cT
              refine rw_off (c := decide (0 < ((torn.length : Nat) : Int))) rfl rfl rfl (by first | (rw [cT]; rfl) | simp [cT]) rfl rfl ?_
              refine rw_off (c := decide (0 < ((torn.length : Nat) : Int))) rfl rfl rfl (by first | (rw [cT]; rfl) | simp [cT]) rfl rfl ?_
              refine rw_val (v := .bool false) (w' := w206) rfl rfl rfl rfl (by first | (simp [go_sem, sEv, sLook, nbeq, i64_w, -List.getD_eq_getElem?_getD, cT]; done) | (rw [cT]; simp [go_sem, sEv, sLook, nbeq, i64_w, -List.getD_eq_getElem?_getD]; done) | (simp [go_sem, sEv, sLook, nbeq, i64_w, -List.getD_eq_getElem?_getD] <;> omega) | (simp [go_sem, sEv, sLook, nbeq, i64_w, -List.getD_eq_getElem?_getD]; intro h_; exact absurd (by omega) h_)) ?_
              refine rw_val (v := .bool false) (w' := w206) rfl rfl rfl rfl rfl ?_
              refine rw_on (c := false) rfl rfl rfl rfl ?_
              refine rw_val (v := .slice A2 torn.length c2) (w' := w206) rfl rfl rfl rfl rfl ?_
              refine rw_on (c := false) rfl rfl rfl rfl ?_
              refine rw_val (v := .int .i64 ((torn.length : Nat) : Int)) (w' := w206) rfl rfl rfl rfl (by simp [go_sem, sEv, sLook, nbeq, i64_w, -List.getD_eq_getElem?_getD]) ?_
              refine rw_on (c := false) rfl rfl rfl rfl ?_
              refine rw_val (v := .bool (((torn.length : Nat) : Int) == 0)) (w' := w206) rfl rfl rfl rfl (by simp [go_sem, sEv, sLook, nbeq, i64_w, -List.getD_eq_getElem?_getD]) ?_
              refine rw_on (c := false) rfl rfl rfl rfl ?_
              refine rw_val (v := .bool (((torn.length : Nat) : Int) == 0)) (w' := w206) rfl rfl rfl rfl rfl ?_
              have hq215 : (((torn.length : Nat) : Int) == 0) = true := by rw [beq_iff_eq]; omega
              refine rw_on (c := (((torn.length : Nat) : Int) == 0)) rfl rfl rfl (by first | (rw [hq215]; rfl) | simp [hq215]) ?_
              refine rw_val (v := errT o203) (w' := w206) rfl rfl rfl rfl rfl ?_
              refine rw_on (c := (((torn.length : Nat) : Int) == 0)) rfl rfl rfl (by first | (rw [hq215]; rfl) | simp [hq215]) ?_
              refine rw_val (v := .bool o203.isSome) (w' := w206) rfl rfl rfl rfl (run_as (guard_err_neq _ o203 _)) ?_
              refine rw_on (c := false) rfl rfl rfl rfl ?_
              refine rw_val (v := .bool o203.isSome) (w' := w206) rfl rfl rfl rfl (by first | (simp [go_sem, sEv, sLook, nbeq, i64_w, -List.getD_eq_getElem?_getD, hq215]; done) | (rw [hq215]; simp [go_sem, sEv, sLook, nbeq, i64_w, -List.getD_eq_getElem?_getD]; done) | (simp [go_sem, sEv, sLook, nbeq, i64_w, -List.getD_eq_getElem?_getD] <;> omega) | (simp [go_sem, sEv, sLook, nbeq, i64_w, -List.getD_eq_getElem?_getD]; intro h_; exact absurd (by omega) h_)) ?_
              refine rw_val (v := .bool o203.isSome) (w' := w206) rfl rfl rfl rfl (by simp [go_sem, sEv, sLook, nbeq, i64_w, -List.getD_eq_getElem?_getD]) ?_
              refine rw_end ?_
              refine w_weaken (G' := [(0, .slice A1 rows.length c1), (3, .int .i64 keep), (9, .pointer (some ⟨g8, 0, none⟩)), (10, .slice A10_ ((FC (rows.take j)).length) c10_), (19, errT o203), (109, .bool o203.isSome)]) ⟨rfl, rfl, rfl, rfl, rfl, rfl, trivial⟩ ?_
              have hq216 : o203.isSome = false := by have h_ := ho207; rw [decide_eq_false (show ¬ 0 < torn.length by omega)] at h_; revert h_; cases o203 <;> simp
              refine w_cond_f rfl rfl hq216 ?_
              refine w_skip ?_
              refine w_seq ?_
              refine w_region ?_
              refine rw_val (v := .pointer (some ⟨g8, 0, none⟩)) (w' := w206) rfl rfl rfl rfl rfl ?_
              refine rw_val (v := .int .i64 keep) (w' := w206) rfl rfl rfl rfl rfl ?_
              refine rw_call rfl rfl rfl rfl (f := 22) (args := #[.pointer (some ⟨g8, 0, none⟩), .int .i64 keep]) (by simp [go_sem, sEv, sLook, nbeq, i64_w, -List.getD_eq_getElem?_getD]) (crash_T w w206 g8 m205 g8 (by omega) s204 hT208 hok211 keep) ?_
              rintro e_ w217 ⟨rfl, hT218, hs219, hx220⟩
              refine ⟨.tuple #[], rfl, ?_⟩
              rw [crash_sure s204 keep (by rw [hsu210, hx209]), hx209] at hT218
              have hz_w217 := hT218.size
              refine rw_end ?_
              refine w_seq ?_
              refine w_region ?_
              refine rw_val (v := .pointer (some ⟨g8, 0, none⟩)) (w' := w217) rfl rfl rfl rfl rfl ?_
              refine rw_call rfl rfl rfl rfl (f := 11) (args := #[.pointer (some ⟨g8, 0, none⟩)]) (by simp [go_sem, sEv, sLook, nbeq, i64_w, -List.getD_eq_getElem?_getD]) (open_second w w217 g8 w217.heap.size g8 (by omega) rows torn n60 s204.steps hT218 ⟨hok211.steps.1, hle212⟩ hS_ hXl_ hr_ hbX_) ?_
              rintro e_ w226 ⟨gd221, m222, A223, c224, s225, rfl, hD227, hO228, hx229, hok230, hs231⟩
              refine ⟨_, rfl, ?_⟩
              obtain ⟨hD227t, hD227b, hD227g, hD227z⟩ := hD227
              have hz_w226 := hD227t.size
              have hlt_w226 := hD227b.lt
              have hL232 : OwnK (Kd.slice 5 (Kd.int .u8)) 32 w226 w.heap.size w.heap.size A223 rows.length c224 rows := OwnK.mono (d := (Kd.slice 5 (Kd.int .u8))) (OwnK.lower (d := (Kd.slice 5 (Kd.int .u8))) hO228 (by omega)) (by omega)
              refine rw_val (v := .tuple #[.pointer (some ⟨gd221, 0, none⟩), .slice A223 rows.length c224, errT none]) (w' := w226) rfl rfl rfl rfl rfl ?_
              refine rw_val (v := .pointer (some ⟨gd221, 0, none⟩)) (w' := w226) rfl rfl rfl rfl (by simp [go_sem, sEv, sLook, nbeq, i64_w, -List.getD_eq_getElem?_getD]) ?_
              refine rw_val (v := .slice A223 rows.length c224) (w' := w226) rfl rfl rfl rfl (by simp [go_sem, sEv, sLook, nbeq, i64_w, -List.getD_eq_getElem?_getD]) ?_
              refine rw_val (v := errT none) (w' := w226) rfl rfl rfl rfl (by simp [go_sem, sEv, sLook, nbeq, i64_w, -List.getD_eq_getElem?_getD]) ?_
              refine rw_val (v := .pointer (some ⟨gd221, 0, none⟩)) (w' := w226) rfl rfl rfl rfl rfl ?_
              refine rw_val (v := .slice A223 rows.length c224) (w' := w226) rfl rfl rfl rfl rfl ?_
              refine rw_val (v := errT none) (w' := w226) rfl rfl rfl rfl rfl ?_
              refine rw_end ?_
              refine w_weaken (G' := [(0, .slice A1 rows.length c1), (9, .pointer (some ⟨g8, 0, none⟩)), (10, .slice A10_ ((FC (rows.take j)).length) c10_), (19, errT none), (20, .pointer (some ⟨gd221, 0, none⟩)), (21, .slice A223 rows.length c224)]) ⟨rfl, rfl, rfl, rfl, rfl, rfl, trivial⟩ ?_
              refine w_seq ?_
              refine w_region ?_
              refine rw_val (v := errT none) (w' := w226) rfl rfl rfl rfl rfl ?_
              refine rw_val (v := .bool ((none : Option Int).isNone)) (w' := w226) rfl rfl rfl rfl (run_as (guard_err_eq0 _ (none : Option Int) _)) ?_
              refine rw_val (v := .bool ((none : Option Int).isNone)) (w' := w226) rfl rfl rfl rfl rfl ?_
              have hq233 : ((none : Option Int).isNone) = true := by rfl
              refine rw_on (c := (none : Option Int).isNone) rfl rfl rfl (by first | (rw [hq233]; rfl) | simp [hq233]) ?_
              refine rw_val (v := .slice A223 rows.length c224) (w' := w226) rfl rfl rfl rfl rfl ?_
              refine rw_on (c := (none : Option Int).isNone) rfl rfl rfl (by first | (rw [hq233]; rfl) | simp [hq233]) ?_
              refine rw_val (v := .slice A1 rows.length c1) (w' := w226) rfl rfl rfl rfl rfl ?_
              refine rw_on (c := (none : Option Int).isNone) rfl rfl rfl (by first | (rw [hq233]; rfl) | simp [hq233]) ?_
              refine rw_call rfl rfl rfl rfl (f := 14) (args := #[.slice A1 rows.length c1]) (by simp [go_sem, sEv, sLook, nbeq, i64_w, -List.getD_eq_getElem?_getD]) (texts_calls w226 A1 c1 rows (Kd.C_below hr hD227t.1) hc1 (by omega)) ?_
              rintro e_ w236 ⟨A234, c235, rfl, hO237, hB238⟩
              refine ⟨_, rfl, ?_⟩
              have hs_w236 := hB238.size
              have hL239 : OwnK Kd.string 9 w236 w.heap.size w226.heap.size A234 (rows.map strOfNums).length c235 (rows.map strOfNums) := OwnK.lower hO237 (by omega)
              refine rw_on (c := (none : Option Int).isNone) rfl rfl rfl (by first | (rw [hq233]; rfl) | simp [hq233]) ?_
              refine rw_call rfl rfl rfl rfl (f := 13) (args := #[.slice A223 rows.length c224, .slice A234 ((rows.map strOfNums).length) c235]) (by simp [go_sem, sEv, sLook, nbeq, i64_w, -List.getD_eq_getElem?_getD]) (same_calls w236 A223 A234 c224 c235 rows (rows.map strOfNums) (Kd.C_below (OwnK.C (d := (Kd.slice 5 (Kd.int .u8))) hL232) hB238) (OwnK.cap (d := (Kd.slice 5 (Kd.int .u8))) hL232) (Kd.C_below (OwnK.C (d := Kd.string) hL239) (Below.refl _ _)) (OwnK.cap (d := Kd.string) hL239) (by rw [List.length_map]; omega)) ?_
              rintro e_ w240 ⟨rfl, hb241⟩
              refine ⟨_, rfl, ?_⟩
              have hs_w240 := hb241.size
              refine rw_val (v := .bool (decide (rows.map strOfNums = rows.map strOfNums))) (w' := w240) rfl rfl rfl rfl (by first | (simp [go_sem, sEv, sLook, nbeq, i64_w, -List.getD_eq_getElem?_getD, hq233]; done) | (rw [hq233]; simp [go_sem, sEv, sLook, nbeq, i64_w, -List.getD_eq_getElem?_getD]; done) | (simp [go_sem, sEv, sLook, nbeq, i64_w, -List.getD_eq_getElem?_getD] <;> omega) | (simp [go_sem, sEv, sLook, nbeq, i64_w, -List.getD_eq_getElem?_getD]; intro h_; exact absurd (by omega) h_)) ?_
              refine rw_val (v := .bool (decide (rows.map strOfNums = rows.map strOfNums))) (w' := w240) rfl rfl rfl rfl rfl ?_
              have hq242 : (decide (rows.map strOfNums = rows.map strOfNums)) = true := by simp
              refine rw_on (c := decide (rows.map strOfNums = rows.map strOfNums)) rfl rfl rfl (by first | (rw [hq242]; rfl) | simp [hq242]) ?_
              refine rw_val (v := .pointer (some ⟨gd221, 0, none⟩)) (w' := w240) rfl rfl rfl rfl rfl ?_
              refine rw_on (c := decide (rows.map strOfNums = rows.map strOfNums)) rfl rfl rfl (by first | (rw [hq242]; rfl) | simp [hq242]) ?_
              refine rw_call rfl rfl rfl rfl (f := 15) (args := #[.pointer (some ⟨gd221, 0, none⟩)]) (by simp [go_sem, sEv, sLook, nbeq, i64_w, -List.getD_eq_getElem?_getD]) (len_B w240 g8 gd221 (⟨s225, (rows.length : Int), ((FC rows).length : Int)⟩ : DS).r (⟨s225, (rows.length : Int), ((FC rows).length : Int)⟩ : DS).b ((hD227b.on hB238).on hb241)) ?_
              rintro e_ w243 ⟨rfl, hb244⟩
              refine ⟨_, rfl, ?_⟩
              have hs_w243 := hb244.size
              refine rw_on (c := decide (rows.map strOfNums = rows.map strOfNums)) rfl rfl rfl (by first | (rw [hq242]; rfl) | simp [hq242]) ?_
              refine rw_val (v := .slice A1 rows.length c1) (w' := w243) rfl rfl rfl rfl rfl ?_
              refine rw_on (c := decide (rows.map strOfNums = rows.map strOfNums)) rfl rfl rfl (by first | (rw [hq242]; rfl) | simp [hq242]) ?_
              refine rw_val (v := .int .i64 ((rows.length : Nat) : Int)) (w' := w243) rfl rfl rfl rfl (by simp [go_sem, sEv, sLook, nbeq, i64_w, -List.getD_eq_getElem?_getD]) ?_
              refine rw_on (c := decide (rows.map strOfNums = rows.map strOfNums)) rfl rfl rfl (by first | (rw [hq242]; rfl) | simp [hq242]) ?_
              refine rw_val (v := .bool (((⟨s225, (rows.length : Int), ((FC rows).length : Int)⟩ : DS).r) == ((rows.length : Nat) : Int))) (w' := w243) rfl rfl rfl rfl (by simp [go_sem, sEv, sLook, nbeq, i64_w, -List.getD_eq_getElem?_getD]) ?_
              refine rw_val (v := .bool (((⟨s225, (rows.length : Int), ((FC rows).length : Int)⟩ : DS).r) == ((rows.length : Nat) : Int))) (w' := w243) rfl rfl rfl rfl (by first | (simp [go_sem, sEv, sLook, nbeq, i64_w, -List.getD_eq_getElem?_getD, hq242]; done) | (rw [hq242]; simp [go_sem, sEv, sLook, nbeq, i64_w, -List.getD_eq_getElem?_getD]; done) | (simp [go_sem, sEv, sLook, nbeq, i64_w, -List.getD_eq_getElem?_getD] <;> omega) | (simp [go_sem, sEv, sLook, nbeq, i64_w, -List.getD_eq_getElem?_getD]; intro h_; exact absurd (by omega) h_)) ?_
              refine rw_val (v := .bool (((⟨s225, (rows.length : Int), ((FC rows).length : Int)⟩ : DS).r) == ((rows.length : Nat) : Int))) (w' := w243) rfl rfl rfl rfl rfl ?_
              have hq245 : (((⟨s225, (rows.length : Int), ((FC rows).length : Int)⟩ : DS).r) == ((rows.length : Nat) : Int)) = true := by show ((((rows.length : Nat) : Int)) == _) = true; simp
              refine rw_on (c := (((⟨s225, (rows.length : Int), ((FC rows).length : Int)⟩ : DS).r) == ((rows.length : Nat) : Int))) rfl rfl rfl (by first | (rw [hq245]; rfl) | simp [hq245]) ?_
              refine rw_val (v := .pointer (some ⟨gd221, 0, none⟩)) (w' := w243) rfl rfl rfl rfl rfl ?_
              refine rw_on (c := (((⟨s225, (rows.length : Int), ((FC rows).length : Int)⟩ : DS).r) == ((rows.length : Nat) : Int))) rfl rfl rfl (by first | (rw [hq245]; rfl) | simp [hq245]) ?_
              refine rw_call rfl rfl rfl rfl (f := 16) (args := #[.pointer (some ⟨gd221, 0, none⟩)]) (by simp [go_sem, sEv, sLook, nbeq, i64_w, -List.getD_eq_getElem?_getD]) (bytes_B w243 g8 gd221 (⟨s225, (rows.length : Int), ((FC rows).length : Int)⟩ : DS).r (⟨s225, (rows.length : Int), ((FC rows).length : Int)⟩ : DS).b (((hD227b.on hB238).on hb241).on hb244)) ?_
              rintro e_ w246 ⟨rfl, hb247⟩
              refine ⟨_, rfl, ?_⟩
              have hs_w246 := hb247.size
              refine rw_on (c := (((⟨s225, (rows.length : Int), ((FC rows).length : Int)⟩ : DS).r) == ((rows.length : Nat) : Int))) rfl rfl rfl (by first | (rw [hq245]; rfl) | simp [hq245]) ?_
              refine rw_val (v := .slice A10_ ((FC (rows.take j)).length) c10_) (w' := w246) rfl rfl rfl rfl rfl ?_
              refine rw_on (c := (((⟨s225, (rows.length : Int), ((FC rows).length : Int)⟩ : DS).r) == ((rows.length : Nat) : Int))) rfl rfl rfl (by first | (rw [hq245]; rfl) | simp [hq245]) ?_
              refine rw_val (v := .int .i64 (((FC (rows.take j)).length : Nat) : Int)) (w' := w246) rfl rfl rfl rfl (by simp [go_sem, sEv, sLook, nbeq, i64_w, -List.getD_eq_getElem?_getD]) ?_
              refine rw_on (c := (((⟨s225, (rows.length : Int), ((FC rows).length : Int)⟩ : DS).r) == ((rows.length : Nat) : Int))) rfl rfl rfl (by first | (rw [hq245]; rfl) | simp [hq245]) ?_
              refine rw_val (v := .bool (((⟨s225, (rows.length : Int), ((FC rows).length : Int)⟩ : DS).b) == (((FC (rows.take j)).length : Nat) : Int))) (w' := w246) rfl rfl rfl rfl (by simp [go_sem, sEv, sLook, nbeq, i64_w, -List.getD_eq_getElem?_getD]) ?_
              refine rw_val (v := .bool (((⟨s225, (rows.length : Int), ((FC rows).length : Int)⟩ : DS).b) == (((FC (rows.take j)).length : Nat) : Int))) (w' := w246) rfl rfl rfl rfl (by first | (simp [go_sem, sEv, sLook, nbeq, i64_w, -List.getD_eq_getElem?_getD, hq245]; done) | (rw [hq245]; simp [go_sem, sEv, sLook, nbeq, i64_w, -List.getD_eq_getElem?_getD]; done) | (simp [go_sem, sEv, sLook, nbeq, i64_w, -List.getD_eq_getElem?_getD] <;> omega) | (simp [go_sem, sEv, sLook, nbeq, i64_w, -List.getD_eq_getElem?_getD]; intro h_; exact absurd (by omega) h_)) ?_
              refine rw_val (v := .bool (((⟨s225, (rows.length : Int), ((FC rows).length : Int)⟩ : DS).b) == (((FC (rows.take j)).length : Nat) : Int))) (w' := w246) rfl rfl rfl rfl rfl ?_
              have hq248 : (((⟨s225, (rows.length : Int), ((FC rows).length : Int)⟩ : DS).b) == (((FC (rows.take j)).length : Nat) : Int)) = true := by show (((((FC rows).length : Nat) : Int)) == _) = true; rw [hfc_]; simp
              refine rw_on (c := (((⟨s225, (rows.length : Int), ((FC rows).length : Int)⟩ : DS).b) == (((FC (rows.take j)).length : Nat) : Int))) rfl rfl rfl (by first | (rw [hq248]; rfl) | simp [hq248]) ?_
              refine rw_val (v := .pointer (some ⟨g8, 0, none⟩)) (w' := w246) rfl rfl rfl rfl rfl ?_
              refine rw_on (c := (((⟨s225, (rows.length : Int), ((FC rows).length : Int)⟩ : DS).b) == (((FC (rows.take j)).length : Nat) : Int))) rfl rfl rfl (by first | (rw [hq248]; rfl) | simp [hq248]) ?_
              refine rw_call rfl rfl rfl rfl (f := 17) (args := #[.pointer (some ⟨g8, 0, none⟩)]) (by simp [go_sem, sEv, sLook, nbeq, i64_w, -List.getD_eq_getElem?_getD]) (read_T w w246 g8 m222 gd221 (by omega) s225 (TapeAt.on (TapeAt.on (TapeAt.on (TapeAt.on hD227t hB238) hb241) hb244) hb247) hok230) ?_
              rintro e_ w252 ⟨A249, n250, c251, rfl, hO253, hB254⟩
              refine ⟨_, rfl, ?_⟩
              have hl255 : n250 = (s225.xs).length := Own.len hO253
              subst hl255
              have hs_w252 := hB254.size
              have hL256 : OwnK (Kd.int .u8) 5 w252 w.heap.size w246.heap.size A249 (s225.xs).length c251 (s225.xs) := OwnK.lower (d := (Kd.int .u8)) hO253 (by omega)
              refine rw_on (c := (((⟨s225, (rows.length : Int), ((FC rows).length : Int)⟩ : DS).b) == (((FC (rows.take j)).length : Nat) : Int))) rfl rfl rfl (by first | (rw [hq248]; rfl) | simp [hq248]) ?_
              refine rw_val (v := .int .i64 (((s225.xs).length : Nat) : Int)) (w' := w252) rfl rfl rfl rfl (by simp [go_sem, sEv, sLook, nbeq, i64_w, -List.getD_eq_getElem?_getD]) ?_
              refine rw_on (c := (((⟨s225, (rows.length : Int), ((FC rows).length : Int)⟩ : DS).b) == (((FC (rows.take j)).length : Nat) : Int))) rfl rfl rfl (by first | (rw [hq248]; rfl) | simp [hq248]) ?_
              refine rw_val (v := .slice A10_ ((FC (rows.take j)).length) c10_) (w' := w252) rfl rfl rfl rfl rfl ?_
              refine rw_on (c := (((⟨s225, (rows.length : Int), ((FC rows).length : Int)⟩ : DS).b) == (((FC (rows.take j)).length : Nat) : Int))) rfl rfl rfl (by first | (rw [hq248]; rfl) | simp [hq248]) ?_
              refine rw_val (v := .int .i64 (((FC (rows.take j)).length : Nat) : Int)) (w' := w252) rfl rfl rfl rfl (by simp [go_sem, sEv, sLook, nbeq, i64_w, -List.getD_eq_getElem?_getD]) ?_
              refine rw_on (c := (((⟨s225, (rows.length : Int), ((FC rows).length : Int)⟩ : DS).b) == (((FC (rows.take j)).length : Nat) : Int))) rfl rfl rfl (by first | (rw [hq248]; rfl) | simp [hq248]) ?_
              refine rw_val (v := .bool ((((s225.xs).length : Nat) : Int) == (((FC (rows.take j)).length : Nat) : Int))) (w' := w252) rfl rfl rfl rfl (by simp [go_sem, sEv, sLook, nbeq, i64_w, -List.getD_eq_getElem?_getD]) ?_
              refine rw_val (v := .bool ((((s225.xs).length : Nat) : Int) == (((FC (rows.take j)).length : Nat) : Int))) (w' := w252) rfl rfl rfl rfl (by first | (simp [go_sem, sEv, sLook, nbeq, i64_w, -List.getD_eq_getElem?_getD, hq248]; done) | (rw [hq248]; simp [go_sem, sEv, sLook, nbeq, i64_w, -List.getD_eq_getElem?_getD]; done) | (simp [go_sem, sEv, sLook, nbeq, i64_w, -List.getD_eq_getElem?_getD] <;> omega) | (simp [go_sem, sEv, sLook, nbeq, i64_w, -List.getD_eq_getElem?_getD]; intro h_; exact absurd (by omega) h_)) ?_
              refine rw_val (v := .bool ((((s225.xs).length : Nat) : Int) == (((FC (rows.take j)).length : Nat) : Int))) (w' := w252) rfl rfl rfl rfl rfl ?_
              refine rw_end ?_
              refine w_weaken (G' := [(8, .bool ((((s225.xs).length : Nat) : Int) == (((FC (rows.take j)).length : Nat) : Int)))]) ⟨rfl, trivial⟩ ?_
              have hq257 : ((((s225.xs).length : Nat) : Int) == (((FC (rows.take j)).length : Nat) : Int)) = true := by rw [hx229, hfc_]; simp
              refine w_ret (post_ret1 rfl rfl ?_)
              exact ⟨by simp only [hq257], (chain (chain (chain (chain (chain hD227t.1 hB238) hb241) hb244) hb247) hB254)⟩
            · have l258 : (0 < ((torn.length : Nat) : Int)) := of_decide_eq_true cT
              refine rw_on (c := decide (0 < ((torn.length : Nat) : Int))) rfl rfl rfl (by first | (rw [cT]; rfl) | simp [cT]) ?_
              refine rw_val (v := errT o203) (w' := w206) rfl rfl rfl rfl rfl ?_
              refine rw_on (c := decide (0 < ((torn.length : Nat) : Int))) rfl rfl rfl (by first | (rw [cT]; rfl) | simp [cT]) ?_
              refine rw_val (v := .bool o203.isNone) (w' := w206) rfl rfl rfl rfl (run_as (guard_err_eq0 _ o203 _)) ?_
              refine rw_val (v := .bool o203.isNone) (w' := w206) rfl rfl rfl rfl (by first | (simp [go_sem, sEv, sLook, nbeq, i64_w, -List.getD_eq_getElem?_getD, cT]; done) | (rw [cT]; simp [go_sem, sEv, sLook, nbeq, i64_w, -List.getD_eq_getElem?_getD]; done) | (simp [go_sem, sEv, sLook, nbeq, i64_w, -List.getD_eq_getElem?_getD] <;> omega) | (simp [go_sem, sEv, sLook, nbeq, i64_w, -List.getD_eq_getElem?_getD]; intro h_; exact absurd (by omega) h_)) ?_
              refine rw_val (v := .bool o203.isNone) (w' := w206) rfl rfl rfl rfl rfl ?_
              have hq259 : o203.isNone = false := by have h_ := ho207; rw [decide_eq_true (show 0 < torn.length by omega)] at h_; revert h_; cases o203 <;> simp
              refine rw_on (c := o203.isNone) rfl rfl rfl (by first | (rw [hq259]; rfl) | simp [hq259]) ?_
              refine rw_val (v := .slice A2 torn.length c2) (w' := w206) rfl rfl rfl rfl rfl ?_
              refine rw_on (c := o203.isNone) rfl rfl rfl (by first | (rw [hq259]; rfl) | simp [hq259]) ?_
              refine rw_val (v := .int .i64 ((torn.length : Nat) : Int)) (w' := w206) rfl rfl rfl rfl (by simp [go_sem, sEv, sLook, nbeq, i64_w, -List.getD_eq_getElem?_getD]) ?_
              refine rw_on (c := o203.isNone) rfl rfl rfl (by first | (rw [hq259]; rfl) | simp [hq259]) ?_
              refine rw_val (v := .bool (((torn.length : Nat) : Int) == 0)) (w' := w206) rfl rfl rfl rfl (by simp [go_sem, sEv, sLook, nbeq, i64_w, -List.getD_eq_getElem?_getD]) ?_
              refine rw_on (c := o203.isNone) rfl rfl rfl (by first | (rw [hq259]; rfl) | simp [hq259]) ?_
              refine rw_val (v := .bool (((torn.length : Nat) : Int) == 0)) (w' := w206) rfl rfl rfl rfl rfl ?_
              have hq260 : (((torn.length : Nat) : Int) == 0) = false := by rw [beq_eq_false_iff_ne]; omega
              refine rw_off (c := (((torn.length : Nat) : Int) == 0)) rfl rfl rfl (by first | (rw [hq260]; rfl) | simp [hq260]) rfl rfl ?_
              refine rw_off (c := (((torn.length : Nat) : Int) == 0)) rfl rfl rfl (by first | (rw [hq260]; rfl) | simp [hq260]) rfl rfl ?_
              refine rw_on (c := o203.isNone) rfl rfl rfl (by first | (rw [hq259]; rfl) | simp [hq259]) ?_
              refine rw_val (v := .bool false) (w' := w206) rfl rfl rfl rfl (by first | (simp [go_sem, sEv, sLook, nbeq, i64_w, -List.getD_eq_getElem?_getD, hq260]; done) | (rw [hq260]; simp [go_sem, sEv, sLook, nbeq, i64_w, -List.getD_eq_getElem?_getD]; done) | (simp [go_sem, sEv, sLook, nbeq, i64_w, -List.getD_eq_getElem?_getD] <;> omega) | (simp [go_sem, sEv, sLook, nbeq, i64_w, -List.getD_eq_getElem?_getD]; intro h_; exact absurd (by omega) h_)) ?_
              refine rw_val (v := .bool false) (w' := w206) rfl rfl rfl rfl (by first | (simp [go_sem, sEv, sLook, nbeq, i64_w, -List.getD_eq_getElem?_getD, hq259]; done) | (rw [hq259]; simp [go_sem, sEv, sLook, nbeq, i64_w, -List.getD_eq_getElem?_getD]; done) | (simp [go_sem, sEv, sLook, nbeq, i64_w, -List.getD_eq_getElem?_getD] <;> omega) | (simp [go_sem, sEv, sLook, nbeq, i64_w, -List.getD_eq_getElem?_getD]; intro h_; exact absurd (by omega) h_)) ?_
              refine rw_end ?_
              refine w_weaken (G' := [(0, .slice A1 rows.length c1), (3, .int .i64 keep), (9, .pointer (some ⟨g8, 0, none⟩)), (10, .slice A10_ ((FC (rows.take j)).length) c10_), (19, errT o203), (109, .bool false)]) ⟨rfl, rfl, rfl, rfl, rfl, rfl, trivial⟩ ?_
              refine w_cond_f rfl rfl rfl ?_
              refine w_skip ?_
              refine w_seq ?_
              refine w_region ?_
              refine rw_val (v := .pointer (some ⟨g8, 0, none⟩)) (w' := w206) rfl rfl rfl rfl rfl ?_
              refine rw_val (v := .int .i64 keep) (w' := w206) rfl rfl rfl rfl rfl ?_
              refine rw_call rfl rfl rfl rfl (f := 22) (args := #[.pointer (some ⟨g8, 0, none⟩), .int .i64 keep]) (by simp [go_sem, sEv, sLook, nbeq, i64_w, -List.getD_eq_getElem?_getD]) (crash_T w w206 g8 m205 g8 (by omega) s204 hT208 hok211 keep) ?_
              rintro e_ w261 ⟨rfl, hT262, hs263, hx264⟩
              refine ⟨.tuple #[], rfl, ?_⟩
              rw [crash_sure s204 keep (by rw [hsu210, hx209]), hx209] at hT262
              have hz_w261 := hT262.size
              refine rw_end ?_
              refine w_seq ?_
              refine w_region ?_
              refine rw_val (v := .pointer (some ⟨g8, 0, none⟩)) (w' := w261) rfl rfl rfl rfl rfl ?_
              refine rw_call rfl rfl rfl rfl (f := 11) (args := #[.pointer (some ⟨g8, 0, none⟩)]) (by simp [go_sem, sEv, sLook, nbeq, i64_w, -List.getD_eq_getElem?_getD]) (open_second w w261 g8 w261.heap.size g8 (by omega) rows torn n60 s204.steps hT262 ⟨hok211.steps.1, hle212⟩ hS_ hXl_ hr_ hbX_) ?_
              rintro e_ w270 ⟨gd265, m266, A267, c268, s269, rfl, hD271, hO272, hx273, hok274, hs275⟩
              refine ⟨_, rfl, ?_⟩
              obtain ⟨hD271t, hD271b, hD271g, hD271z⟩ := hD271
              have hz_w270 := hD271t.size
              have hlt_w270 := hD271b.lt
              have hL276 : OwnK (Kd.slice 5 (Kd.int .u8)) 32 w270 w.heap.size w.heap.size A267 rows.length c268 rows := OwnK.mono (d := (Kd.slice 5 (Kd.int .u8))) (OwnK.lower (d := (Kd.slice 5 (Kd.int .u8))) hO272 (by omega)) (by omega)
              refine rw_val (v := .tuple #[.pointer (some ⟨gd265, 0, none⟩), .slice A267 rows.length c268, errT none]) (w' := w270) rfl rfl rfl rfl rfl ?_
              refine rw_val (v := .pointer (some ⟨gd265, 0, none⟩)) (w' := w270) rfl rfl rfl rfl (by simp [go_sem, sEv, sLook, nbeq, i64_w, -List.getD_eq_getElem?_getD]) ?_
              refine rw_val (v := .slice A267 rows.length c268) (w' := w270) rfl rfl rfl rfl (by simp [go_sem, sEv, sLook, nbeq, i64_w, -List.getD_eq_getElem?_getD]) ?_
              refine rw_val (v := errT none) (w' := w270) rfl rfl rfl rfl (by simp [go_sem, sEv, sLook, nbeq, i64_w, -List.getD_eq_getElem?_getD]) ?_
              refine rw_val (v := .pointer (some ⟨gd265, 0, none⟩)) (w' := w270) rfl rfl rfl rfl rfl ?_
              refine rw_val (v := .slice A267 rows.length c268) (w' := w270) rfl rfl rfl rfl rfl ?_
              refine rw_val (v := errT none) (w' := w270) rfl rfl rfl rfl rfl ?_
              refine rw_end ?_
              refine w_weaken (G' := [(0, .slice A1 rows.length c1), (9, .pointer (some ⟨g8, 0, none⟩)), (10, .slice A10_ ((FC (rows.take j)).length) c10_), (19, errT none), (20, .pointer (some ⟨gd265, 0, none⟩)), (21, .slice A267 rows.length c268)]) ⟨rfl, rfl, rfl, rfl, rfl, rfl, trivial⟩ ?_
              refine w_seq ?_
              refine w_region ?_
              refine rw_val (v := errT none) (w' := w270) rfl rfl rfl rfl rfl ?_
              refine rw_val (v := .bool ((none : Option Int).isNone)) (w' := w270) rfl rfl rfl rfl (run_as (guard_err_eq0 _ (none : Option Int) _)) ?_
              refine rw_val (v := .bool ((none : Option Int).isNone)) (w' := w270) rfl rfl rfl rfl rfl ?_
              have hq277 : ((none : Option Int).isNone) = true := by rfl
              refine rw_on (c := (none : Option Int).isNone) rfl rfl rfl (by first | (rw [hq277]; rfl) | simp [hq277]) ?_
              refine rw_val (v := .slice A267 rows.length c268) (w' := w270) rfl rfl rfl rfl rfl ?_
              refine rw_on (c := (none : Option Int).isNone) rfl rfl rfl (by first | (rw [hq277]; rfl) | simp [hq277]) ?_
              refine rw_val (v := .slice A1 rows.length c1) (w' := w270) rfl rfl rfl rfl rfl ?_
              refine rw_on (c := (none : Option Int).isNone) rfl rfl rfl (by first | (rw [hq277]; rfl) | simp [hq277]) ?_
              refine rw_call rfl rfl rfl rfl (f := 14) (args := #[.slice A1 rows.length c1]) (by simp [go_sem, sEv, sLook, nbeq, i64_w, -List.getD_eq_getElem?_getD]) (texts_calls w270 A1 c1 rows (Kd.C_below hr hD271t.1) hc1 (by omega)) ?_
              rintro e_ w280 ⟨A278, c279, rfl, hO281, hB282⟩
              refine ⟨_, rfl, ?_⟩
              have hs_w280 := hB282.size
              have hL283 : OwnK Kd.string 9 w280 w.heap.size w270.heap.size A278 (rows.map strOfNums).length c279 (rows.map strOfNums) := OwnK.lower hO281 (by omega)
              refine rw_on (c := (none : Option Int).isNone) rfl rfl rfl (by first | (rw [hq277]; rfl) | simp [hq277]) ?_
              refine rw_call rfl rfl rfl rfl (f := 13) (args := #[.slice A267 rows.length c268, .slice A278 ((rows.map strOfNums).length) c279]) (by simp [go_sem, sEv, sLook, nbeq, i64_w, -List.getD_eq_getElem?_getD]) (same_calls w280 A267 A278 c268 c279 rows (rows.map strOfNums) (Kd.C_below (OwnK.C (d := (Kd.slice 5 (Kd.int .u8))) hL276) hB282) (OwnK.cap (d := (Kd.slice 5 (Kd.int .u8))) hL276) (Kd.C_below (OwnK.C (d := Kd.string) hL283) (Below.refl _ _)) (OwnK.cap (d := Kd.string) hL283) (by rw [List.length_map]; omega)) ?_
              rintro e_ w284 ⟨rfl, hb285⟩
              refine ⟨_, rfl, ?_⟩
              have hs_w284 := hb285.size
              refine rw_val (v := .bool (decide (rows.map strOfNums = rows.map strOfNums))) (w' := w284) rfl rfl rfl rfl (by first | (simp [go_sem, sEv, sLook, nbeq, i64_w, -List.getD_eq_getElem?_getD, hq277]; done) | (rw [hq277]; simp [go_sem, sEv, sLook, nbeq, i64_w, -List.getD_eq_getElem?_getD]; done) | (simp [go_sem, sEv, sLook, nbeq, i64_w, -List.getD_eq_getElem?_getD] <;> omega) | (simp [go_sem, sEv, sLook, nbeq, i64_w, -List.getD_eq_getElem?_getD]; intro h_; exact absurd (by omega) h_)) ?_
              refine rw_val (v := .bool (decide (rows.map strOfNums = rows.map strOfNums))) (w' := w284) rfl rfl rfl rfl rfl ?_
              have hq286 : (decide (rows.map strOfNums = rows.map strOfNums)) = true := by simp
              refine rw_on (c := decide (rows.map strOfNums = rows.map strOfNums)) rfl rfl rfl (by first | (rw [hq286]; rfl) | simp [hq286]) ?_
              refine rw_val (v := .pointer (some ⟨gd265, 0, none⟩)) (w' := w284) rfl rfl rfl rfl rfl ?_
              refine rw_on (c := decide (rows.map strOfNums = rows.map strOfNums)) rfl rfl rfl (by first | (rw [hq286]; rfl) | simp [hq286]) ?_
              refine rw_call rfl rfl rfl rfl (f := 15) (args := #[.pointer (some ⟨gd265, 0, none⟩)]) (by simp [go_sem, sEv, sLook, nbeq, i64_w, -List.getD_eq_getElem?_getD]) (len_B w284 g8 gd265 (⟨s269, (rows.length : Int), ((FC rows).length : Int)⟩ : DS).r (⟨s269, (rows.length : Int), ((FC rows).length : Int)⟩ : DS).b ((hD271b.on hB282).on hb285)) ?_
              rintro e_ w287 ⟨rfl, hb288⟩
              refine ⟨_, rfl, ?_⟩
              have hs_w287 := hb288.size
              refine rw_on (c := decide (rows.map strOfNums = rows.map strOfNums)) rfl rfl rfl (by first | (rw [hq286]; rfl) | simp [hq286]) ?_
              refine rw_val (v := .slice A1 rows.length c1) (w' := w287) rfl rfl rfl rfl rfl ?_
              refine rw_on (c := decide (rows.map strOfNums = rows.map strOfNums)) rfl rfl rfl (by first | (rw [hq286]; rfl) | simp [hq286]) ?_
              refine rw_val (v := .int .i64 ((rows.length : Nat) : Int)) (w' := w287) rfl rfl rfl rfl (by simp [go_sem, sEv, sLook, nbeq, i64_w, -List.getD_eq_getElem?_getD]) ?_
              refine rw_on (c := decide (rows.map strOfNums = rows.map strOfNums)) rfl rfl rfl (by first | (rw [hq286]; rfl) | simp [hq286]) ?_
              refine rw_val (v := .bool (((⟨s269, (rows.length : Int), ((FC rows).length : Int)⟩ : DS).r) == ((rows.length : Nat) : Int))) (w' := w287) rfl rfl rfl rfl (by simp [go_sem, sEv, sLook, nbeq, i64_w, -List.getD_eq_getElem?_getD]) ?_
              refine rw_val (v := .bool (((⟨s269, (rows.length : Int), ((FC rows).length : Int)⟩ : DS).r) == ((rows.length : Nat) : Int))) (w' := w287) rfl rfl rfl rfl (by first | (simp [go_sem, sEv, sLook, nbeq, i64_w, -List.getD_eq_getElem?_getD, hq286]; done) | (rw [hq286]; simp [go_sem, sEv, sLook, nbeq, i64_w, -List.getD_eq_getElem?_getD]; done) | (simp [go_sem, sEv, sLook, nbeq, i64_w, -List.getD_eq_getElem?_getD] <;> omega) | (simp [go_sem, sEv, sLook, nbeq, i64_w, -List.getD_eq_getElem?_getD]; intro h_; exact absurd (by omega) h_)) ?_
              refine rw_val (v := .bool (((⟨s269, (rows.length : Int), ((FC rows).length : Int)⟩ : DS).r) == ((rows.length : Nat) : Int))) (w' := w287) rfl rfl rfl rfl rfl ?_
              have hq289 : (((⟨s269, (rows.length : Int), ((FC rows).length : Int)⟩ : DS).r) == ((rows.length : Nat) : Int)) = true := by show ((((rows.length : Nat) : Int)) == _) = true; simp
              refine rw_on (c := (((⟨s269, (rows.length : Int), ((FC rows).length : Int)⟩ : DS).r) == ((rows.length : Nat) : Int))) rfl rfl rfl (by first | (rw [hq289]; rfl) | simp [hq289]) ?_
              refine rw_val (v := .pointer (some ⟨gd265, 0, none⟩)) (w' := w287) rfl rfl rfl rfl rfl ?_
              refine rw_on (c := (((⟨s269, (rows.length : Int), ((FC rows).length : Int)⟩ : DS).r) == ((rows.length : Nat) : Int))) rfl rfl rfl (by first | (rw [hq289]; rfl) | simp [hq289]) ?_
              refine rw_call rfl rfl rfl rfl (f := 16) (args := #[.pointer (some ⟨gd265, 0, none⟩)]) (by simp [go_sem, sEv, sLook, nbeq, i64_w, -List.getD_eq_getElem?_getD]) (bytes_B w287 g8 gd265 (⟨s269, (rows.length : Int), ((FC rows).length : Int)⟩ : DS).r (⟨s269, (rows.length : Int), ((FC rows).length : Int)⟩ : DS).b (((hD271b.on hB282).on hb285).on hb288)) ?_
              rintro e_ w290 ⟨rfl, hb291⟩
              refine ⟨_, rfl, ?_⟩
              have hs_w290 := hb291.size
              refine rw_on (c := (((⟨s269, (rows.length : Int), ((FC rows).length : Int)⟩ : DS).r) == ((rows.length : Nat) : Int))) rfl rfl rfl (by first | (rw [hq289]; rfl) | simp [hq289]) ?_
              refine rw_val (v := .slice A10_ ((FC (rows.take j)).length) c10_) (w' := w290) rfl rfl rfl rfl rfl ?_
              refine rw_on (c := (((⟨s269, (rows.length : Int), ((FC rows).length : Int)⟩ : DS).r) == ((rows.length : Nat) : Int))) rfl rfl rfl (by first | (rw [hq289]; rfl) | simp [hq289]) ?_
              refine rw_val (v := .int .i64 (((FC (rows.take j)).length : Nat) : Int)) (w' := w290) rfl rfl rfl rfl (by simp [go_sem, sEv, sLook, nbeq, i64_w, -List.getD_eq_getElem?_getD]) ?_
              refine rw_on (c := (((⟨s269, (rows.length : Int), ((FC rows).length : Int)⟩ : DS).r) == ((rows.length : Nat) : Int))) rfl rfl rfl (by first | (rw [hq289]; rfl) | simp [hq289]) ?_
              refine rw_val (v := .bool (((⟨s269, (rows.length : Int), ((FC rows).length : Int)⟩ : DS).b) == (((FC (rows.take j)).length : Nat) : Int))) (w' := w290) rfl rfl rfl rfl (by simp [go_sem, sEv, sLook, nbeq, i64_w, -List.getD_eq_getElem?_getD]) ?_
              refine rw_val (v := .bool (((⟨s269, (rows.length : Int), ((FC rows).length : Int)⟩ : DS).b) == (((FC (rows.take j)).length : Nat) : Int))) (w' := w290) rfl rfl rfl rfl (by first | (simp [go_sem, sEv, sLook, nbeq, i64_w, -List.getD_eq_getElem?_getD, hq289]; done) | (rw [hq289]; simp [go_sem, sEv, sLook, nbeq, i64_w, -List.getD_eq_getElem?_getD]; done) | (simp [go_sem, sEv, sLook, nbeq, i64_w, -List.getD_eq_getElem?_getD] <;> omega) | (simp [go_sem, sEv, sLook, nbeq, i64_w, -List.getD_eq_getElem?_getD]; intro h_; exact absurd (by omega) h_)) ?_
              refine rw_val (v := .bool (((⟨s269, (rows.length : Int), ((FC rows).length : Int)⟩ : DS).b) == (((FC (rows.take j)).length : Nat) : Int))) (w' := w290) rfl rfl rfl rfl rfl ?_
              have hq292 : (((⟨s269, (rows.length : Int), ((FC rows).length : Int)⟩ : DS).b) == (((FC (rows.take j)).length : Nat) : Int)) = true := by show (((((FC rows).length : Nat) : Int)) == _) = true; rw [hfc_]; simp
              refine rw_on (c := (((⟨s269, (rows.length : Int), ((FC rows).length : Int)⟩ : DS).b) == (((FC (rows.take j)).length : Nat) : Int))) rfl rfl rfl (by first | (rw [hq292]; rfl) | simp [hq292]) ?_
              refine rw_val (v := .pointer (some ⟨g8, 0, none⟩)) (w' := w290) rfl rfl rfl rfl rfl ?_
              refine rw_on (c := (((⟨s269, (rows.length : Int), ((FC rows).length : Int)⟩ : DS).b) == (((FC (rows.take j)).length : Nat) : Int))) rfl rfl rfl (by first | (rw [hq292]; rfl) | simp [hq292]) ?_
              refine rw_call rfl rfl rfl rfl (f := 17) (args := #[.pointer (some ⟨g8, 0, none⟩)]) (by simp [go_sem, sEv, sLook, nbeq, i64_w, -List.getD_eq_getElem?_getD]) (read_T w w290 g8 m266 gd265 (by omega) s269 (TapeAt.on (TapeAt.on (TapeAt.on (TapeAt.on hD271t hB282) hb285) hb288) hb291) hok274) ?_
              rintro e_ w296 ⟨A293, n294, c295, rfl, hO297, hB298⟩
              refine ⟨_, rfl, ?_⟩
              have hl299 : n294 = (s269.xs).length := Own.len hO297
              subst hl299
              have hs_w296 := hB298.size
              have hL300 : OwnK (Kd.int .u8) 5 w296 w.heap.size w290.heap.size A293 (s269.xs).length c295 (s269.xs) := OwnK.lower (d := (Kd.int .u8)) hO297 (by omega)
              refine rw_on (c := (((⟨s269, (rows.length : Int), ((FC rows).length : Int)⟩ : DS).b) == (((FC (rows.take j)).length : Nat) : Int))) rfl rfl rfl (by first | (rw [hq292]; rfl) | simp [hq292]) ?_
              refine rw_val (v := .int .i64 (((s269.xs).length : Nat) : Int)) (w' := w296) rfl rfl rfl rfl (by simp [go_sem, sEv, sLook, nbeq, i64_w, -List.getD_eq_getElem?_getD]) ?_
              refine rw_on (c := (((⟨s269, (rows.length : Int), ((FC rows).length : Int)⟩ : DS).b) == (((FC (rows.take j)).length : Nat) : Int))) rfl rfl rfl (by first | (rw [hq292]; rfl) | simp [hq292]) ?_
              refine rw_val (v := .slice A10_ ((FC (rows.take j)).length) c10_) (w' := w296) rfl rfl rfl rfl rfl ?_
              refine rw_on (c := (((⟨s269, (rows.length : Int), ((FC rows).length : Int)⟩ : DS).b) == (((FC (rows.take j)).length : Nat) : Int))) rfl rfl rfl (by first | (rw [hq292]; rfl) | simp [hq292]) ?_
              refine rw_val (v := .int .i64 (((FC (rows.take j)).length : Nat) : Int)) (w' := w296) rfl rfl rfl rfl (by simp [go_sem, sEv, sLook, nbeq, i64_w, -List.getD_eq_getElem?_getD]) ?_
              refine rw_on (c := (((⟨s269, (rows.length : Int), ((FC rows).length : Int)⟩ : DS).b) == (((FC (rows.take j)).length : Nat) : Int))) rfl rfl rfl (by first | (rw [hq292]; rfl) | simp [hq292]) ?_
              refine rw_val (v := .bool ((((s269.xs).length : Nat) : Int) == (((FC (rows.take j)).length : Nat) : Int))) (w' := w296) rfl rfl rfl rfl (by simp [go_sem, sEv, sLook, nbeq, i64_w, -List.getD_eq_getElem?_getD]) ?_
              refine rw_val (v := .bool ((((s269.xs).length : Nat) : Int) == (((FC (rows.take j)).length : Nat) : Int))) (w' := w296) rfl rfl rfl rfl (by first | (simp [go_sem, sEv, sLook, nbeq, i64_w, -List.getD_eq_getElem?_getD, hq292]; done) | (rw [hq292]; simp [go_sem, sEv, sLook, nbeq, i64_w, -List.getD_eq_getElem?_getD]; done) | (simp [go_sem, sEv, sLook, nbeq, i64_w, -List.getD_eq_getElem?_getD] <;> omega) | (simp [go_sem, sEv, sLook, nbeq, i64_w, -List.getD_eq_getElem?_getD]; intro h_; exact absurd (by omega) h_)) ?_
              refine rw_val (v := .bool ((((s269.xs).length : Nat) : Int) == (((FC (rows.take j)).length : Nat) : Int))) (w' := w296) rfl rfl rfl rfl rfl ?_
              refine rw_end ?_
              refine w_weaken (G' := [(8, .bool ((((s269.xs).length : Nat) : Int) == (((FC (rows.take j)).length : Nat) : Int)))]) ⟨rfl, trivial⟩ ?_
              have hq301 : ((((s269.xs).length : Nat) : Int) == (((FC (rows.take j)).length : Nat) : Int)) = true := by rw [hx273, hfc_]; simp
              refine w_ret (post_ret1 rfl rfl ?_)
              exact ⟨by simp only [hq301], (chain (chain (chain (chain (chain hD271t.1 hB282) hb285) hb288) hb291) hB298)⟩
        · have l302 : (0 < ((out59.length : Nat) : Int)) := of_decide_eq_true c68
          refine rw_off (c := decide (0 < ((out59.length : Nat) : Int))) rfl rfl rfl (by first | (rw [c68]; rfl) | simp [c68]) rfl rfl ?_
          refine rw_off (c := decide (0 < ((out59.length : Nat) : Int))) rfl rfl rfl (by first | (rw [c68]; rfl) | simp [c68]) rfl rfl ?_
          refine rw_off (c := decide (0 < ((out59.length : Nat) : Int))) rfl rfl rfl (by first | (rw [c68]; rfl) | simp [c68]) rfl rfl ?_
          refine rw_off (c := decide (0 < ((out59.length : Nat) : Int))) rfl rfl rfl (by first | (rw [c68]; rfl) | simp [c68]) rfl rfl ?_
          refine rw_off (c := decide (0 < ((out59.length : Nat) : Int))) rfl rfl rfl (by first | (rw [c68]; rfl) | simp [c68]) rfl rfl ?_
          refine rw_off (c := decide (0 < ((out59.length : Nat) : Int))) rfl rfl rfl (by first | (rw [c68]; rfl) | simp [c68]) rfl rfl ?_
          refine rw_val (v := .bool true) (w' := w63) rfl rfl rfl rfl (by first | (simp [go_sem, sEv, sLook, nbeq, i64_w, -List.getD_eq_getElem?_getD, c68]; done) | (rw [c68]; simp [go_sem, sEv, sLook, nbeq, i64_w, -List.getD_eq_getElem?_getD]; done) | (simp [go_sem, sEv, sLook, nbeq, i64_w, -List.getD_eq_getElem?_getD] <;> omega) | (simp [go_sem, sEv, sLook, nbeq, i64_w, -List.getD_eq_getElem?_getD]; intro h_; exact absurd (by omega) h_)) ?_
          refine rw_val (v := .bool true) (w' := w63) rfl rfl rfl rfl rfl ?_
          refine rw_off (c := true) rfl rfl rfl rfl rfl rfl ?_
          refine rw_off (c := true) rfl rfl rfl rfl rfl rfl ?_
          refine rw_off (c := true) rfl rfl rfl rfl rfl rfl ?_
          refine rw_val (v := .bool true) (w' := w63) rfl rfl rfl rfl (by simp [go_sem, sEv, sLook, nbeq, i64_w, -List.getD_eq_getElem?_getD]) ?_
          refine rw_end ?_
          refine w_weaken (G' := [(0, .slice A1 rows.length c1), (1, .slice A2 torn.length c2), (2, .int .i64 arm), (3, .int .i64 keep), (9, .pointer (some ⟨g8, 0, none⟩)), (10, .slice A10_ ((FC (rows.take j)).length) c10_), (15, .slice A61 out59.length c62), (77, .bool true)]) ⟨rfl, rfl, rfl, rfl, rfl, rfl, rfl, rfl, trivial⟩ ?_
          refine w_cond_t rfl rfl rfl ?_
          refine w_seq ?_
          refine w_region ?_
          refine rw_val (v := .slice A61 out59.length c62) (w' := w63) rfl rfl rfl rfl rfl ?_
          refine rw_val (v := .int .i64 ((out59.length : Nat) : Int)) (w' := w63) rfl rfl rfl rfl (by simp [go_sem, sEv, sLook, nbeq, i64_w, -List.getD_eq_getElem?_getD]) ?_
          refine rw_val (v := .bool (decide (0 < ((out59.length : Nat) : Int)))) (w' := w63) rfl rfl rfl rfl (by simp [go_sem, sEv, sLook, nbeq, i64_w, -List.getD_eq_getElem?_getD]) ?_
          refine rw_val (v := .bool (decide (0 < ((out59.length : Nat) : Int)))) (w' := w63) rfl rfl rfl rfl rfl ?_
          refine rw_end ?_
          refine w_weaken (G' := [(0, .slice A1 rows.length c1), (1, .slice A2 torn.length c2), (2, .int .i64 arm), (3, .int .i64 keep), (8, .bool (decide (0 < ((out59.length : Nat) : Int)))), (9, .pointer (some ⟨g8, 0, none⟩)), (10, .slice A10_ ((FC (rows.take j)).length) c10_)]) ⟨rfl, rfl, rfl, rfl, rfl, rfl, rfl, trivial⟩ ?_
          refine w_ret (post_ret1 rfl rfl ?_)
          exact ⟨by simp only [c68], (chain hB_L18 hB66)⟩
  · have l303 : (60 < ((rows.length : Nat) : Int)) := of_decide_eq_true c3
    refine rw_off (c := decide (60 < ((rows.length : Nat) : Int))) rfl rfl rfl (by first | (rw [c3]; rfl) | simp [c3]) rfl rfl ?_
    refine rw_off (c := decide (60 < ((rows.length : Nat) : Int))) rfl rfl rfl (by first | (rw [c3]; rfl) | simp [c3]) rfl rfl ?_
    refine rw_off (c := decide (60 < ((rows.length : Nat) : Int))) rfl rfl rfl (by first | (rw [c3]; rfl) | simp [c3]) rfl rfl ?_
    refine rw_val (v := .bool true) (w' := w1) rfl rfl rfl rfl (by first | (simp [go_sem, sEv, sLook, nbeq, i64_w, -List.getD_eq_getElem?_getD, c3]; done) | (rw [c3]; simp [go_sem, sEv, sLook, nbeq, i64_w, -List.getD_eq_getElem?_getD]; done) | (simp [go_sem, sEv, sLook, nbeq, i64_w, -List.getD_eq_getElem?_getD] <;> omega) | (simp [go_sem, sEv, sLook, nbeq, i64_w, -List.getD_eq_getElem?_getD]; intro h_; exact absurd (by omega) h_)) ?_
    refine rw_end ?_
    refine w_weaken (G' := [(0, .slice A1 rows.length c1), (1, .slice A2 torn.length c2), (2, .int .i64 arm), (3, .int .i64 keep), (8, .bool false), (31, .bool true)]) ⟨rfl, rfl, rfl, rfl, rfl, rfl, trivial⟩ ?_
    refine w_cond_t rfl rfl rfl ?_
    refine w_seq ?_
    refine w_region ?_
    refine rw_val (v := .bool true) (w' := w1) rfl rfl rfl rfl rfl ?_
    refine rw_end ?_
    refine w_ret (post_ret1 rfl rfl ?_)
    exact ⟨rfl, hb2⟩
set_option maxHeartbeats 4000000 in
theorem walkOpens (w : World) (A1 A2 : Option Addr) (c1 c2 : Nat) (rows : List (List Int)) (torn : List Int) (arm keep : Int) (hr : (Kd.slice 5 (Kd.int .u8)).C w A1 rows.length rows) (hc1 : rows.length ≤ c1) (ht : (Kd.int .u8).C w A2 torn.length torn) (hc2 : torn.length ≤ c2) (hby : ∀ r ∈ rows, Bytes r) (hbt : Bytes torn) (hall : ∀ r ∈ rows, r.length ≤ 140737488355328) :
    Calls Try.prog 4 #[.agg #[.slice A1 rows.length c1, .slice A2 torn.length c2, .int .i64 arm, .int .i64 keep]] w fun e w' => e = .returned (.bool true) ∧ Below w.heap.size w w' := by
  refine calls_flow Try.func4 rfl 12 rfl (Nat.le_of_ble_eq_true rfl) [(0, .agg #[.slice A1 rows.length c1, .slice A2 torn.length c2, .int .i64 arm, .int .i64 keep])] ?_ ?_
  · intro t v h; exact args_look rfl t v h
  refine w_seq ?_
  refine w_region ?_
  refine rw_new (cs := #[.slice A1 rows.length c1, .slice A2 torn.length c2, .int .i64 arm, .int .i64 keep]) (t := 41) (fun g => .pointer (some ⟨g, 0, none⟩)) rfl rfl rfl rfl (by simp [go_sem, sEv, sLook, nbeq, i64_w]) ?_
  intro g1 w2 hg6 hz5 hb3 hk4
  have hs_w2 := hb3.size
  refine rw_val (v := .bool false) (w' := w2) rfl rfl rfl rfl rfl ?_
  refine rw_end ?_
  refine w_seq ?_
  refine w_region ?_
  refine rw_val (v := .pointer (some ⟨g1, 0, none⟩)) (w' := w2) rfl rfl rfl rfl (by simp [go_sem, sEv, sLook, nbeq, i64_w, Try.underlying41]) ?_
  refine rw_val (v := .slice A1 rows.length c1) (w' := w2) rfl rfl rfl rfl (by have eb_ := hk4; have e0_ := eb_.cellv (i := 0) (v := (.slice A1 rows.length c1 : Value)) rfl; simp [go_sem, sEv, sLook, nbeq, i64_w, e0_, Try.underlying22]) ?_
  refine rw_val (v := .pointer (some ⟨g1, 1, none⟩)) (w' := w2) rfl rfl rfl rfl (by simp [go_sem, sEv, sLook, nbeq, i64_w, Try.underlying41]) ?_
  refine rw_val (v := .slice A2 torn.length c2) (w' := w2) rfl rfl rfl rfl (by have eb_ := hk4; have e0_ := eb_.cellv (i := 1) (v := (.slice A2 torn.length c2 : Value)) rfl; simp [go_sem, sEv, sLook, nbeq, i64_w, e0_, Try.underlying32]) ?_
  refine rw_val (v := .pointer (some ⟨g1, 2, none⟩)) (w' := w2) rfl rfl rfl rfl (by simp [go_sem, sEv, sLook, nbeq, i64_w, Try.underlying41]) ?_
  refine rw_val (v := .int .i64 arm) (w' := w2) rfl rfl rfl rfl (by have eb_ := hk4; have e0_ := eb_.cellv (i := 2) (v := (.int .i64 arm : Value)) rfl; simp [go_sem, sEv, sLook, nbeq, i64_w, e0_]) ?_
  refine rw_val (v := .pointer (some ⟨g1, 3, none⟩)) (w' := w2) rfl rfl rfl rfl (by simp [go_sem, sEv, sLook, nbeq, i64_w, Try.underlying41]) ?_
  refine rw_val (v := .int .i64 keep) (w' := w2) rfl rfl rfl rfl (by have eb_ := hk4; have e0_ := eb_.cellv (i := 3) (v := (.int .i64 keep : Value)) rfl; simp [go_sem, sEv, sLook, nbeq, i64_w, e0_]) ?_
  refine rw_call rfl rfl rfl rfl (f := 18) (args := #[.slice A1 rows.length c1, .slice A2 torn.length c2, .int .i64 arm, .int .i64 keep]) (by simp [go_sem, sEv, sLook, nbeq, i64_w]) (opens_calls w2 A1 A2 c1 c2 rows torn arm keep (Kd.C_below hr hb3) hc1 (Kd.C_below ht hb3) hc2 hby hbt hall) ?_
  rintro e_ w7 ⟨rfl, hb8⟩
  refine ⟨_, rfl, ?_⟩
  have hs_w7 := hb8.size
  refine rw_val (v := .bool true) (w' := w7) rfl rfl rfl rfl rfl ?_
  refine rw_end ?_
  refine w_weaken (G' := [(2, .bool true)]) ⟨rfl, trivial⟩ ?_
  refine w_ret (post_ret1 rfl rfl ?_)
  exact ⟨rfl, (chain hb3 hb8)⟩
end Go.Proofs.Ytiiljpaedelhlaa.Tp
