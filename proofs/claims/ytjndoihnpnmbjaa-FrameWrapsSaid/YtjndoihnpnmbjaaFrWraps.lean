/- What frames there are: the walk. -/
import Derived.Test.YtjndoihnpnmbjaaFrUnw
namespace Go.Proofs.Ytjndoihnpnmbjaa.PFrameSums
open Go.RowKit Go.Proofs.YtjndoihnpnmbjaaW.PrintWords Go.Proofs.YtjndoihnpnmbjaaW.PrintLast Go.Proofs.YtjndoihnpnmbjaaW.PrintMore
open Go.Proofs.Ytjndoihnpnmbjaa.Flow
set_option linter.unusedVariables false
set_option linter.unusedSimpArgs false


theorem guard_errW_eq0 (t : Nat) (o : Option Int) (w : World) : (do eqGuard .eql 35 (.tmp t) (.const .nilIface) (errW o) .nilIface; binOp .eql 35 (errW o) .nilIface : Sem Value).run Try.prog w = .ok (.bool o.isNone) w := by
  cases o with
  | none =>
    have h : (binOp .eql 35 .nilIface .nilIface).run Try.prog w = .ok (.bool true) w := by kernel_rfl
    simpa [eqGuard, errW_none] using h
  | some c =>
    have h : (binOp .eql 35 (.iface 47 (.int .i64 c)) .nilIface).run Try.prog w = .ok (.bool false) w := by kernel_rfl
    simpa [eqGuard, errW_some] using h
/-- What is left behind the frame, and the error. -/
def UR (b : List Int) : List Int := if wholeP b = 0 then [] else b.drop (wholeP b)
def UE (b : List Int) : Option Int := if wholeP b = 0 then some 3 else none
theorem UN_len (b : List Int) : (UN b).length ≤ b.length := by
  unfold UN
  split
  · simp
  · rw [List.length_drop, List.length_take]; omega
theorem UR_len (b : List Int) : (UR b).length ≤ b.length := by
  unfold UR
  split
  · simp
  · rw [List.length_drop]; omega
theorem num_errN (b : List Int) : numR (frameE b) = errN b := by
  unfold numR frameE errN
  by_cases h : 16376 < b.length
  · rw [if_pos h, if_pos h]; rfl
  · rw [if_neg h, if_neg h]; rfl
theorem frameB_le (r : List Int) : (frameB r).length ≤ 16384 := by
  by_cases h : r.length ≤ 16376
  · rw [frameB_len r h]; omega
  · unfold frameB
    rw [if_pos (by omega)]
    simp
theorem shape_lt {s : Sh} {A : Option Addr} {n c t : Nat} (hV : V s = .slice A n c) (hu : ∀ q, (Value.slice A n c).ownBlock = some q → q < t) (hn : s.nil = false) : s.g < t := hu s.g (by rw [← hV]; unfold V; rw [adrS_some hn]; rfl)
theorem shape_ne {s : Sh} {w : World} {g : Nat} {ys : List Int} {cs : Array Value} (h : LR 5 w s ys) (hb : Blk w g 22 cs) (hn : s.nil = false) : s.g ≠ g := fun e => by
  obtain ⟨cur, h1, _⟩ := h.2.2 hn
  rw [e] at h1
  have h2 : w.heap[g]? = some (.cells cur 5 (0, 0)) := h1
  have h3 : w.heap[g]? = some (.cells cs 22 (0, 0)) := hb
  rw [h2] at h3
  injection h3 with h3
  injection h3 with _ h3
  cases h3
/-- Five rows made one behind the other are told apart. -/
theorem apart_five {w0 w : World} {g t1 t2 t3 t4 : Nat} {A0 A1 A2 A3 A4 : Option Addr} {n0 n1 n2 n3 n4 c0 c1 c2 c3 c4 : Nat} {x0 x1 x2 x3 x4 : List Int} (hB : Below w0.heap.size w0 w) (hb : Blk w g 22 #[.slice A0 n0 c0, .slice A1 n1 c1, .slice A2 n2 c2, .slice A3 n3 c3, .slice A4 n4 c4])
    (h3 : Own .u8 5 w w0.heap.size w0.heap.size A3 n3 c3 x3) (u3 : ∀ q, (Value.slice A3 n3 c3).ownBlock = some q → q < t1) (h4 : Own .u8 5 w w0.heap.size t1 A4 n4 c4 x4) (u4 : ∀ q, (Value.slice A4 n4 c4).ownBlock = some q → q < t2)
    (h0 : Own .u8 5 w w0.heap.size t2 A0 n0 c0 x0) (u0 : ∀ q, (Value.slice A0 n0 c0).ownBlock = some q → q < t3) (h1 : Own .u8 5 w w0.heap.size t3 A1 n1 c1 x1) (u1 : ∀ q, (Value.slice A1 n1 c1).ownBlock = some q → q < t4) (h2 : Own .u8 5 w w0.heap.size t4 A2 n2 c2 x2)
    (k0 : n0 ≤ 1000000) (k1 : n1 ≤ 1000000) (k2 : n2 ≤ 1000000) (k3 : n3 ≤ 1000000) (k4 : n4 ≤ 1000000) (o1 : t1 ≤ t2) (o2 : t2 ≤ t3) (o3 : t3 ≤ t4) :
    Calls Try.prog 18 #[.slice (some ⟨g, 0, none⟩) 5 5] w fun e w' => e = .returned (.bool true) ∧ Below w0.heap.size w0 w' := by
  obtain ⟨s0, v0, l0, g0⟩ := own_shape h0
  obtain ⟨s1, v1, l1, g1⟩ := own_shape h1
  obtain ⟨s2, v2, l2, g2⟩ := own_shape h2
  obtain ⟨s3, v3, l3, g3⟩ := own_shape h3
  obtain ⟨s4, v4, l4, g4⟩ := own_shape h4
  have b0 := fun hn => shape_lt v0 u0 hn
  have b1 := fun hn => shape_lt v1 u1 hn
  have b3 := fun hn => shape_lt v3 u3 hn
  have b4 := fun hn => shape_lt v4 u4 hn
  have d0 := fun hn => shape_ne l0 hb hn
  have d1 := fun hn => shape_ne l1 hb hn
  have d2 := fun hn => shape_ne l2 hb hn
  have d3 := fun hn => shape_ne l3 hb hn
  have d4 := fun hn => shape_ne l4 hb hn
  have e0 : s0.n = n0 := by injection v0
  have e1 : s1.n = n1 := by injection v1
  have e2 : s2.n = n2 := by injection v2
  have e3 : s3.n = n3 := by injection v3
  have e4 : s4.n = n4 := by injection v4
  refine apart_calls w0 w hB g 5 5 (fun i => match i with | 0 => s0 | 1 => s1 | 2 => s2 | 3 => s3 | _ => s4) (fun i => match i with | 0 => x0 | 1 => x1 | 2 => x2 | 3 => x3 | _ => x4) (fun k hk => ?_) hb.lt (fun i hi hn => ?_) (fun i j hi hj hni hnj e => ?_) (fun i hi => ?_) (fun i hi hn => ?_) (by omega) (fun i hi => ?_)
  · match k, hk with
    | 0, _ => exact (hb.cellv (i := 0) (v := .slice A0 n0 c0) rfl).trans (congrArg some v0.symm)
    | 1, _ => exact (hb.cellv (i := 1) (v := .slice A1 n1 c1) rfl).trans (congrArg some v1.symm)
    | 2, _ => exact (hb.cellv (i := 2) (v := .slice A2 n2 c2) rfl).trans (congrArg some v2.symm)
    | 3, _ => exact (hb.cellv (i := 3) (v := .slice A3 n3 c3) rfl).trans (congrArg some v3.symm)
    | 4, _ => exact (hb.cellv (i := 4) (v := .slice A4 n4 c4) rfl).trans (congrArg some v4.symm)
    | k + 5, hk => omega
  · match i, hi with
    | 0, _ => exact d0 hn
    | 1, _ => exact d1 hn
    | 2, _ => exact d2 hn
    | 3, _ => exact d3 hn
    | 4, _ => exact d4 hn
    | i + 5, hi => omega
  · match i, j, hi, hj with
    | i + 5, _, hi, _ => omega
    | _, j + 5, _, hj => omega
    | 0, 0, _, _ => rfl
    | 1, 1, _, _ => rfl
    | 2, 2, _, _ => rfl
    | 3, 3, _, _ => rfl
    | 4, 4, _, _ => rfl
    | 0, 1, _, _ =>
      exfalso
      replace hni : s0.nil = false := hni
      replace hnj : s1.nil = false := hnj
      replace e : s0.g = s1.g := e
      have p1 := (g0 hni).1
      have p2 := (g1 hnj).1
      have p3 := b0 hni
      have p4 := b1 hnj
      omega
    | 0, 2, _, _ =>
      exfalso
      replace hni : s0.nil = false := hni
      replace hnj : s2.nil = false := hnj
      replace e : s0.g = s2.g := e
      have p1 := (g0 hni).1
      have p2 := (g2 hnj).1
      have p3 := b0 hni
      omega
    | 0, 3, _, _ =>
      exfalso
      replace hni : s0.nil = false := hni
      replace hnj : s3.nil = false := hnj
      replace e : s0.g = s3.g := e
      have p1 := (g0 hni).1
      have p2 := (g3 hnj).1
      have p3 := b0 hni
      have p4 := b3 hnj
      omega
    | 0, 4, _, _ =>
      exfalso
      replace hni : s0.nil = false := hni
      replace hnj : s4.nil = false := hnj
      replace e : s0.g = s4.g := e
      have p1 := (g0 hni).1
      have p2 := (g4 hnj).1
      have p3 := b0 hni
      have p4 := b4 hnj
      omega
    | 1, 0, _, _ =>
      exfalso
      replace hni : s1.nil = false := hni
      replace hnj : s0.nil = false := hnj
      replace e : s1.g = s0.g := e
      have p1 := (g1 hni).1
      have p2 := (g0 hnj).1
      have p3 := b1 hni
      have p4 := b0 hnj
      omega
    | 1, 2, _, _ =>
      exfalso
      replace hni : s1.nil = false := hni
      replace hnj : s2.nil = false := hnj
      replace e : s1.g = s2.g := e
      have p1 := (g1 hni).1
      have p2 := (g2 hnj).1
      have p3 := b1 hni
      omega
    | 1, 3, _, _ =>
      exfalso
      replace hni : s1.nil = false := hni
      replace hnj : s3.nil = false := hnj
      replace e : s1.g = s3.g := e
      have p1 := (g1 hni).1
      have p2 := (g3 hnj).1
      have p3 := b1 hni
      have p4 := b3 hnj
      omega
    | 1, 4, _, _ =>
      exfalso
      replace hni : s1.nil = false := hni
      replace hnj : s4.nil = false := hnj
      replace e : s1.g = s4.g := e
      have p1 := (g1 hni).1
      have p2 := (g4 hnj).1
      have p3 := b1 hni
      have p4 := b4 hnj
      omega
    | 2, 0, _, _ =>
      exfalso
      replace hni : s2.nil = false := hni
      replace hnj : s0.nil = false := hnj
      replace e : s2.g = s0.g := e
      have p1 := (g2 hni).1
      have p2 := (g0 hnj).1
      have p4 := b0 hnj
      omega
    | 2, 1, _, _ =>
      exfalso
      replace hni : s2.nil = false := hni
      replace hnj : s1.nil = false := hnj
      replace e : s2.g = s1.g := e
      have p1 := (g2 hni).1
      have p2 := (g1 hnj).1
      have p4 := b1 hnj
      omega
    | 2, 3, _, _ =>
      exfalso
      replace hni : s2.nil = false := hni
      replace hnj : s3.nil = false := hnj
      replace e : s2.g = s3.g := e
      have p1 := (g2 hni).1
      have p2 := (g3 hnj).1
      have p4 := b3 hnj
      omega
    | 2, 4, _, _ =>
      exfalso
      replace hni : s2.nil = false := hni
      replace hnj : s4.nil = false := hnj
      replace e : s2.g = s4.g := e
      have p1 := (g2 hni).1
      have p2 := (g4 hnj).1
      have p4 := b4 hnj
      omega
    | 3, 0, _, _ =>
      exfalso
      replace hni : s3.nil = false := hni
      replace hnj : s0.nil = false := hnj
      replace e : s3.g = s0.g := e
      have p1 := (g3 hni).1
      have p2 := (g0 hnj).1
      have p3 := b3 hni
      have p4 := b0 hnj
      omega
    | 3, 1, _, _ =>
      exfalso
      replace hni : s3.nil = false := hni
      replace hnj : s1.nil = false := hnj
      replace e : s3.g = s1.g := e
      have p1 := (g3 hni).1
      have p2 := (g1 hnj).1
      have p3 := b3 hni
      have p4 := b1 hnj
      omega
    | 3, 2, _, _ =>
      exfalso
      replace hni : s3.nil = false := hni
      replace hnj : s2.nil = false := hnj
      replace e : s3.g = s2.g := e
      have p1 := (g3 hni).1
      have p2 := (g2 hnj).1
      have p3 := b3 hni
      omega
    | 3, 4, _, _ =>
      exfalso
      replace hni : s3.nil = false := hni
      replace hnj : s4.nil = false := hnj
      replace e : s3.g = s4.g := e
      have p1 := (g3 hni).1
      have p2 := (g4 hnj).1
      have p3 := b3 hni
      have p4 := b4 hnj
      omega
    | 4, 0, _, _ =>
      exfalso
      replace hni : s4.nil = false := hni
      replace hnj : s0.nil = false := hnj
      replace e : s4.g = s0.g := e
      have p1 := (g4 hni).1
      have p2 := (g0 hnj).1
      have p3 := b4 hni
      have p4 := b0 hnj
      omega
    | 4, 1, _, _ =>
      exfalso
      replace hni : s4.nil = false := hni
      replace hnj : s1.nil = false := hnj
      replace e : s4.g = s1.g := e
      have p1 := (g4 hni).1
      have p2 := (g1 hnj).1
      have p3 := b4 hni
      have p4 := b1 hnj
      omega
    | 4, 2, _, _ =>
      exfalso
      replace hni : s4.nil = false := hni
      replace hnj : s2.nil = false := hnj
      replace e : s4.g = s2.g := e
      have p1 := (g4 hni).1
      have p2 := (g2 hnj).1
      have p3 := b4 hni
      omega
    | 4, 3, _, _ =>
      exfalso
      replace hni : s4.nil = false := hni
      replace hnj : s3.nil = false := hnj
      replace e : s4.g = s3.g := e
      have p1 := (g4 hni).1
      have p2 := (g3 hnj).1
      have p3 := b4 hni
      have p4 := b3 hnj
      omega
  · match i, hi with
    | 0, _ => exact l0
    | 1, _ => exact l1
    | 2, _ => exact l2
    | 3, _ => exact l3
    | 4, _ => exact l4
    | i + 5, hi => omega
  · match i, hi with
    | 0, _ => exact (g0 hn).2
    | 1, _ => exact (g1 hn).2
    | 2, _ => exact (g2 hn).2
    | 3, _ => exact (g3 hn).2
    | 4, _ => exact (g4 hn).2
    | i + 5, hi => omega
  · match i, hi with
    | 0, _ => show s0.n ≤ 1000000; omega
    | 1, _ => show s1.n ≤ 1000000; omega
    | 2, _ => show s2.n ≤ 1000000; omega
    | 3, _ => show s3.n ≤ 1000000; omega
    | 4, _ => show s4.n ≤ 1000000; omega
    | i + 5, hi => omega
set_option maxHeartbeats 4000000 in
theorem unwrap_calls (w : World) (A0 : Option Addr) (c0 : Nat) (b : List Int) (hC : (Kd.int .u8).C w A0 b.length b) (hc : b.length ≤ c0) (hb : Bytes b) (hl : b.length ≤ 1000000) :
    Calls Try.prog 24 #[.slice A0 b.length c0] w fun e w' => ∃ A1 n1 c1 A2 n2 c2 m, e = .returned (.tuple #[.slice A1 n1 c1, .slice A2 n2 c2, errW (UE b)]) ∧ Own .u8 5 w' w.heap.size w.heap.size A1 n1 c1 (UN b) ∧ Own .u8 5 w' w.heap.size m A2 n2 c2 (UR b) ∧ (∀ q, (Value.slice A1 n1 c1).ownBlock = some q → q < m) ∧ w.heap.size ≤ m ∧ m ≤ w'.heap.size ∧ Below w.heap.size w w' := by
  refine calls_flow Try.func24 rfl 19 rfl (Nat.le_of_ble_eq_true rfl) [(0, .slice A0 b.length c0)] ?_ ?_
  · intro t v h; exact args_look rfl t v h
  refine w_seq ?_
  refine w_region ?_
  refine rw_val (v := .slice none 0 0) (w' := w) rfl rfl rfl rfl rfl ?_
  refine rw_val (v := .slice none 0 0) (w' := w) rfl rfl rfl rfl rfl ?_
  refine rw_val (v := .nilIface) (w' := w) rfl rfl rfl rfl rfl ?_
  refine rw_end ?_
  refine w_seq ?_
  refine w_region ?_
  refine rw_val (v := .slice A0 b.length c0) (w' := w) rfl rfl rfl rfl rfl ?_
  refine rw_call rfl rfl rfl rfl (f := 37) (args := #[.slice A0 b.length c0]) (by simp [go_sem, sEv, sLook, nbeq, i64_w, -List.length_flatten]) (whole_calls w A0 c0 b hC hc hb (by omega)) ?_
  rintro e_ w1 ⟨rfl, hb2⟩
  refine ⟨_, rfl, ?_⟩
  have hs_w1 := hb2.size
  refine rw_val (v := .int .i64 ((wholeP b : Nat) : Int)) (w' := w1) rfl rfl rfl rfl rfl ?_
  refine rw_end ?_
  refine w_seq ?_
  refine w_seq ?_
  refine w_region ?_
  refine rw_val (v := .int .i64 ((wholeP b : Nat) : Int)) (w' := w1) rfl rfl rfl rfl rfl ?_
  refine rw_val (v := .bool (((wholeP b : Nat) : Int) == 0)) (w' := w1) rfl rfl rfl rfl (by simp [go_sem, sEv, sLook, nbeq, i64_w, -List.length_flatten]) ?_
  refine rw_end ?_
  refine w_cond rfl rfl (fun cZ => ?_) (fun cZ => ?_)
  · refine w_seq ?_
    refine w_region ?_
    refine rw_val (v := errW (some 3)) (w' := w1) rfl rfl rfl rfl (by simp [go_sem, sEv, sLook, nbeq, i64_w, -List.length_flatten, errW_some]) ?_
    refine rw_val (v := .slice none 0 0) (w' := w1) rfl rfl rfl rfl rfl ?_
    refine rw_val (v := .slice none 0 0) (w' := w1) rfl rfl rfl rfl rfl ?_
    refine rw_val (v := errW (some 3)) (w' := w1) rfl rfl rfl rfl rfl ?_
    refine rw_end ?_
    refine w_weaken (G' := [(0, .slice A0 b.length c0), (2, .slice none 0 0), (3, .slice none 0 0), (4, errW (some 3)), (5, .int .i64 ((wholeP b : Nat) : Int))]) ⟨rfl, rfl, rfl, rfl, rfl, trivial⟩ ?_
    refine w_ret (post_ret3 rfl rfl rfl rfl ?_)
    have cZ_ : wholeP b = 0 := by simpa using cZ
    have e1_ : UN b = [] := by unfold UN; rw [if_pos cZ_]
    have e2_ : UR b = [] := by unfold UR; rw [if_pos cZ_]
    have e3_ : UE b = some 3 := by unfold UE; rw [if_pos cZ_]
    rw [e1_, e2_, e3_]
    exact ⟨none, 0, 0, none, 0, 0, w.heap.size, rfl, Own.nil _ _ _ _ _, Own.nil _ _ _ _ _, (fun q hq => by cases hq), Nat.le_refl _, by omega, hb2⟩
  · refine w_skip ?_
    refine w_seq ?_
    have cZ_ : wholeP b ≠ 0 := by simpa using cZ
    have hwl_ := wholeP_le b
    refine w_drawk (M := [0, 0, 3, 7, 0, 0, 48, 127, 255, 511, 1023]) (ss := [Is (.slice A0 b.length c0), Is (.int .i64 ((wholeP b : Nat) : Int)), Is (.slice (adr A0 c0 8) (((b.take (wholeP b)).drop 8).length) (c0 - 8)), OwnSpec w.heap.size w1.heap.size ((b.take (wholeP b)).drop 8), Is (.slice A0 b.length c0), Is (.int .i64 ((wholeP b : Nat) : Int)), Is (.slice (adr A0 c0 (wholeP b)) ((b.drop (wholeP b)).length) (c0 - (wholeP b)))]) 7 rfl (by decide +kernel) ?_
    refine t_is (.slice A0 b.length c0) rfl rfl rfl rfl (fun W_ hW_ F_ => rfl) ?_
    refine t_is (.int .i64 ((wholeP b : Nat) : Int)) rfl rfl rfl rfl (fun W_ hW_ F_ => rfl) ?_
    have hP3 := (mid_C hC 8 (wholeP b) (by omega) (by omega) (show b.length ≤ c0 by have q_ := hc; have q2_ : b.length = b.length := rfl; omega))
    have hc4 : ((b.take (wholeP b)).drop 8).length ≤ (c0 - 8) := by have q_ := hc; have q2_ : b.length = b.length := rfl; simp only [List.length_take, List.length_drop]; omega
    refine t_is (.slice (adr A0 c0 8) (((b.take (wholeP b)).drop 8).length) (c0 - 8)) rfl rfl rfl rfl (fun W_ hW_ F_ => (run_as (run_mid (e := 5) (by kernel_rfl) (fun _ => by kernel_rfl) 8 (wholeP b) _ _ (by first | rfl | (simp; done) | omega) (by first | rfl | (simp; done) | omega) rfl (by omega) (by omega) hc _))) ?_
    refine t_call (f := 33) (args := #[.slice (adr A0 c0 8) (((b.take (wholeP b)).drop 8).length) (c0 - 8)]) (OwnSpec w.heap.size w1.heap.size ((b.take (wholeP b)).drop 8)) rfl rfl rfl rfl (fun W_ => by simp [go_sem, sEv, sLook, nbeq, i64_w, -List.length_flatten]) (fun W_ hW_ F_ => ?_) ?_
    · have hs_ := (below_of_drew hW_).size
      refine (clone_calls W_ _ _ _ ((b.take (wholeP b)).drop 8) (Kd.C_below hP3 (chain hb2 (below_of_drew hW_))) (by simp only [List.length_drop, List.length_take]; omega)).mono ?_
      rintro e_ w_ ⟨A_, n_, c_, rfl, hO_, hb_⟩
      exact ⟨_, rfl, ⟨A_, n_, c_, rfl, hO_.lower (by omega) |>.mono hs_⟩, hb_⟩
    rintro _ ⟨A5, n6, c7, rfl⟩
    refine t_is (.slice A0 b.length c0) rfl rfl rfl rfl (fun W_ hW_ F_ => rfl) ?_
    refine t_is (.int .i64 ((wholeP b : Nat) : Int)) rfl rfl rfl rfl (fun W_ hW_ F_ => rfl) ?_
    have hP9 := (from_C hC (wholeP b) (by omega) (show b.length ≤ c0 by have q_ := hc; have q2_ : b.length = b.length := rfl; omega))
    have hc10 : (b.drop (wholeP b)).length ≤ (c0 - (wholeP b)) := by have q_ := hc; have q2_ : b.length = b.length := rfl; simp only [List.length_take, List.length_drop]; omega
    refine t_is (.slice (adr A0 c0 (wholeP b)) ((b.drop (wholeP b)).length) (c0 - (wholeP b))) rfl rfl rfl rfl (fun W_ hW_ F_ => (run_as (run_from (e := 5) (by kernel_rfl) (fun _ => by kernel_rfl) (wholeP b) _ (by first | rfl | (simp; done) | omega) rfl (by omega) hc _))) ?_
    refine t_tail ?_
    intro w11 hb12_ F13
    have hb12 := below_of_drew hb12_
    have hs_w11 := hb12.size
    have hO8 := ownspec_fact (F13 3 _ _ rfl)
    refine rw_call rfl rfl rfl rfl (f := 33) (args := #[.slice (adr A0 c0 (wholeP b)) ((b.drop (wholeP b)).length) (c0 - (wholeP b))]) (by simp [go_sem, sEv, sLook, nbeq, i64_w, -List.length_flatten]) (clone_calls w11 _ _ _ (b.drop (wholeP b)) (Kd.C_below hP9 (chain hb2 hb12)) (by simp only [List.length_drop, List.length_take]; omega)) ?_
    rintro e_ w17 ⟨A14, n15, c16, rfl, hO18, hB19⟩
    refine ⟨_, rfl, ?_⟩
    have hs_w17 := hB19.size
    have hL20 : Own .u8 5 w17 w.heap.size w11.heap.size A14 n15 c16 (b.drop (wholeP b)) := Own.lower hO18 (by omega)
    refine rw_val (v := .slice A5 n6 c7) (w' := w17) rfl rfl rfl rfl rfl ?_
    refine rw_val (v := .slice A14 n15 c16) (w' := w17) rfl rfl rfl rfl rfl ?_
    refine rw_val (v := .nilIface) (w' := w17) rfl rfl rfl rfl rfl ?_
    refine rw_end ?_
    refine w_weaken (G' := [(2, .slice A5 n6 c7), (3, .slice A14 n15 c16), (4, .nilIface)]) ⟨rfl, rfl, rfl, trivial⟩ ?_
    refine w_ret (post_ret3 rfl rfl rfl rfl ?_)
    have e1_ : UN b = ((b.take (wholeP b)).drop 8) := by unfold UN; rw [if_neg cZ_]
    have e2_ : UR b = b.drop (wholeP b) := by unfold UR; rw [if_neg cZ_]
    have e3_ : UE b = none := by unfold UE; rw [if_neg cZ_]
    rw [e1_, e2_, e3_]
    exact ⟨_, _, _, _, _, _, w11.heap.size, rfl, Own.mono (hO8.on hB19) (by omega), (hL20.on (Below.refl _ _)), (fun q hq => (Kd.R_bound (Own.on hO8 (Below.refl _ _))).1 q hq |>.2.2.1), by omega, by omega, (chain (chain hb2 hb12) hB19)⟩

theorem wrap_two (w : World) (A0 : Option Addr) (c0 : Nat) (l0 l1 : List Int) (hP : (Kd.slice 5 (Kd.int .u8)).C w A0 [l0, l1].length [l0, l1]) (hc0 : 2 ≤ c0) (h0 : l0.length ≤ 65536) (h1 : l1.length ≤ 65536) :
    Calls Try.prog 19 #[.slice A0 2 c0] w fun e w' => ∃ A' n' c', e = .returned (.tuple #[.slice A' n' c', errW (frameE (l0 ++ l1))]) ∧ Own .u8 5 w' w.heap.size w.heap.size A' n' c' (frameB (l0 ++ l1)) ∧ Below w.heap.size w w' := by
  have h := wrap_calls w A0 c0 [l0, l1] hP hc0 (by simp) (by simp only [List.mem_cons, List.not_mem_nil, or_false, forall_eq_or_imp, forall_eq]; omega)
  have e1 : ([l0, l1] : List (List Int)).flatten = l0 ++ l1 := by simp
  rw [e1] at h
  exact h
theorem sum_two (w : World) (A0 : Option Addr) (c0 : Nat) (l0 l1 : List Int) (hP : (Kd.slice 5 (Kd.int .u8)).C w A0 [l0, l1].length [l0, l1]) (hc0 : 2 ≤ c0) (h0 : l0.length ≤ 65536) (h1 : l1.length ≤ 65536) :
    Calls Try.prog 20 #[.slice A0 2 c0] w fun e w' => e = .returned (.int .u32 (fnv 2166136261 (l0 ++ l1))) ∧ Drawn0 w w' := by
  have h := frame_Sum.calls (2 * [l0, l1].length + 1 + [l0, l1].flatten.length) A0 c0 [l0, l1] _ w hP hc0 (sum_f _ (by simp) (by simp only [List.mem_cons, List.not_mem_nil, or_false, forall_eq_or_imp, forall_eq]; omega) _ (Nat.le_refl _))
  have e1 : ([l0, l1] : List (List Int)).flatten = l0 ++ l1 := by simp
  rw [e1] at h
  exact h
set_option maxHeartbeats 4000000 in
theorem walkWraps (w : World) (X0 : Option Addr) (d0 : Nat) (l0 : List Int) (h0 : (Kd.int .u8).C w X0 l0.length l0) (e0 : l0.length ≤ d0) (hb0 : Bytes l0) (X1 : Option Addr) (d1 : Nat) (l1 : List Int) (h1 : (Kd.int .u8).C w X1 l1.length l1) (e1 : l1.length ≤ d1) (hb1 : Bytes l1) :
    Calls Try.prog 5 #[.slice X0 l0.length d0, .slice X1 l1.length d1] w fun e w' => e = .returned (.bool true) ∧ Below w.heap.size w w' := by
  refine calls_flow Try.func5 rfl 135 rfl (Nat.le_of_ble_eq_true rfl) [(0, .slice X0 l0.length d0), (1, .slice X1 l1.length d1)] ?_ ?_
  · intro t v h; exact args_look rfl t v h
  refine w_seq ?_
  refine w_region ?_
  refine rw_val (v := .bool false) (w' := w) rfl rfl rfl rfl rfl ?_
  refine rw_end ?_
  refine w_seq ?_
  refine w_seq ?_
  refine w_region ?_
  refine rw_call rfl rfl rfl rfl (f := 11) (args := #[]) (by simp [go_sem, sEv, sLook, nbeq, i64_w, -List.length_flatten]) (alive_calls w) ?_
  rintro e_ w1 ⟨rfl, hb2⟩
  refine ⟨_, rfl, ?_⟩
  have hs_w1 := hb2.size
  refine rw_val (v := .bool false) (w' := w1) rfl rfl rfl rfl (by simp [go_sem, sEv, sLook, nbeq, i64_w, -List.length_flatten]) ?_
  refine rw_end ?_
  refine w_cond_f rfl rfl rfl ?_
  refine w_skip ?_
  refine w_seq ?_
  refine w_seq ?_
  refine w_region ?_
  refine rw_val (v := .slice X0 l0.length d0) (w' := w1) rfl rfl rfl rfl rfl ?_
  refine rw_val (v := .slice X1 l1.length d1) (w' := w1) rfl rfl rfl rfl rfl ?_
  refine rw_new (cs := #[.slice X0 l0.length d0, .slice X1 l1.length d1]) (t := 22) (fun g => .slice (some ⟨g, 0, none⟩) 2 2) rfl rfl rfl rfl (by kernel_rfl) ?_
  intro g3 w4 hg8 hz7 hb5 hk6
  have hs_w4 := hb5.size
  have hP9 : (Kd.slice 5 (Kd.int .u8)).C w4 (some ⟨g3, 0, none⟩) [l0, l1].length [l0, l1] := rows2 hk6 e0 (Kd.C_below h0 (chain hb2 hb5)) e1 (Kd.C_below h1 (chain hb2 hb5))
  refine rw_call rfl rfl rfl rfl (f := 12) (args := #[.slice (some ⟨g3, 0, none⟩) 2 2]) (by simp [go_sem, sEv, sLook, nbeq, i64_w, -List.length_flatten]) (estuarylaw04_large.calls 10 _ 2 [l0, l1] _ w4 (Kd.C_below hP9 (Below.refl _ _)) (by simp) (large_f _ (by simp) _ (by simp))) ?_
  rintro e_ w10 ⟨rfl, hb11_⟩
  refine ⟨_, rfl, ?_⟩
  have hb11 := hb11_.below
  have hs_w10 := hb11.size
  refine rw_end ?_
  refine w_weaken (G' := [(0, .slice X0 l0.length d0), (1, .slice X1 l1.length d1), (4, .bool false), (21, .bool (lg [l0, l1]))]) ⟨rfl, rfl, rfl, rfl, trivial⟩ ?_
  refine w_cond rfl rfl (fun cG => ?_) (fun cG => ?_)
  · refine w_seq ?_
    refine w_region ?_
    refine rw_val (v := .bool true) (w' := w10) rfl rfl rfl rfl rfl ?_
    refine rw_end ?_
    refine w_ret (post_ret1 rfl rfl ?_)
    exact ⟨rfl, (chain (chain hb2 hb5) hb11)⟩
  · refine w_skip ?_
    refine w_seq ?_
    refine w_region ?_
    refine rw_val (v := .slice X0 l0.length d0) (w' := w10) rfl rfl rfl rfl rfl ?_
    obtain ⟨hlg1_, _, _⟩ := lg_no cG
    have hl0_ := hlg1_ l0 (by simp)
    have hl1_ := hlg1_ l1 (by simp)
    refine rw_call rfl rfl rfl rfl (f := 13) (args := #[.slice X0 l0.length d0]) (by simp [go_sem, sEv, sLook, nbeq, i64_w, -List.length_flatten]) (copy_calls w10 _ _ l0 (Kd.C_below h0 (chain (chain hb2 hb5) hb11)) e0 (by omega)) ?_
    rintro e_ w14 ⟨A12, c13, rfl, hO15, hB16⟩
    refine ⟨_, rfl, ?_⟩
    have hs_w14 := hB16.size
    have hL17 : Own .u8 5 w14 w.heap.size w10.heap.size A12 (l0.length + 2) c13 (l0 ++ [165, 90]) := Own.lower hO15 (by omega)
    have hcp18 := hL17.cap
    refine rw_val (v := .slice X1 l1.length d1) (w' := w14) rfl rfl rfl rfl rfl ?_
    refine rw_call rfl rfl rfl rfl (f := 13) (args := #[.slice X1 l1.length d1]) (by simp [go_sem, sEv, sLook, nbeq, i64_w, -List.length_flatten]) (copy_calls w14 _ _ l1 (Kd.C_below h1 (chain (chain (chain hb2 hb5) hb11) hB16)) e1 (by omega)) ?_
    rintro e_ w21 ⟨A19, c20, rfl, hO22, hB23⟩
    refine ⟨_, rfl, ?_⟩
    have hs_w21 := hB23.size
    have hL24 : Own .u8 5 w21 w.heap.size w14.heap.size A19 (l1.length + 2) c20 (l1 ++ [165, 90]) := Own.lower hO22 (by omega)
    have hcp25 := hL24.cap
    refine rw_val (v := .slice A12 l0.length c13) (w' := w21) rfl rfl rfl rfl rfl ?_
    refine rw_val (v := .slice A19 l1.length c20) (w' := w21) rfl rfl rfl rfl rfl ?_
    refine rw_end ?_
    refine w_weaken (G' := [(0, .slice X0 l0.length d0), (1, .slice X1 l1.length d1), (4, .bool false), (5, .slice A12 l0.length c13), (6, .slice A19 l1.length c20)]) ⟨rfl, rfl, rfl, rfl, rfl, trivial⟩ ?_
    refine w_seq ?_
    refine w_region ?_
    refine rw_val (v := .slice A12 l0.length c13) (w' := w21) rfl rfl rfl rfl rfl ?_
    refine rw_val (v := .slice A19 l1.length c20) (w' := w21) rfl rfl rfl rfl rfl ?_
    refine rw_new (cs := #[.slice A12 l0.length c13, .slice A19 l1.length c20]) (t := 22) (fun g => .slice (some ⟨g, 0, none⟩) 2 2) rfl rfl rfl rfl (by kernel_rfl) ?_
    intro g26 w27 hg31 hz30 hb28 hk29
    have hs_w27 := hb28.size
    have hP32 : (Kd.slice 5 (Kd.int .u8)).C w27 (some ⟨g26, 0, none⟩) [l0, l1].length [l0, l1] := rows2 hk29 (by have q_ := hL17.cap; omega) (Kd.C_below (own_front hL17) (chain hB23 hb28)) (by have q_ := hL24.cap; omega) (Kd.C_below (own_front hL24) hb28)
    refine rw_call rfl rfl rfl rfl (f := 19) (args := #[.slice (some ⟨g26, 0, none⟩) 2 2]) (by simp [go_sem, sEv, sLook, nbeq, i64_w, -List.length_flatten]) (wrap_two w27 _ 2 l0 l1 (Kd.C_below hP32 (Below.refl _ _)) (by omega) hl0_ hl1_) ?_
    rintro e_ w36 ⟨A33, n34, c35, rfl, hO37, hB38⟩
    refine ⟨_, rfl, ?_⟩
    have hs_w36 := hB38.size
    have hL39 : Own .u8 5 w36 w.heap.size w27.heap.size A33 n34 c35 (frameB (l0 ++ l1)) := Own.lower hO37 (by omega)
    refine rw_val (v := .tuple #[.slice A33 n34 c35, errW (frameE (l0 ++ l1))]) (w' := w36) rfl rfl rfl rfl rfl ?_
    refine rw_val (v := .slice A33 n34 c35) (w' := w36) rfl rfl rfl rfl (by simp [go_sem, sEv, sLook, nbeq, i64_w, -List.length_flatten]) ?_
    refine rw_val (v := errW (frameE (l0 ++ l1))) (w' := w36) rfl rfl rfl rfl (by simp [go_sem, sEv, sLook, nbeq, i64_w, -List.length_flatten]) ?_
    refine rw_val (v := .slice A33 n34 c35) (w' := w36) rfl rfl rfl rfl rfl ?_
    refine rw_val (v := errW (frameE (l0 ++ l1))) (w' := w36) rfl rfl rfl rfl rfl ?_
    refine rw_end ?_
    refine w_weaken (G' := [(0, .slice X0 l0.length d0), (1, .slice X1 l1.length d1), (4, .bool false), (5, .slice A12 l0.length c13), (6, .slice A19 l1.length c20), (7, .slice A33 n34 c35), (8, errW (frameE (l0 ++ l1)))]) ⟨rfl, rfl, rfl, rfl, rfl, rfl, rfl, trivial⟩ ?_
    refine w_seq ?_
    refine w_region ?_
    refine rw_new (cs := #[]) (t := 5) (fun g => .slice (some ⟨g, 0, none⟩) 0 0) rfl rfl rfl rfl (by kernel_rfl) ?_
    intro g40 w41 hg45 hz44 hb42 hk43
    have hs_w41 := hb42.size
    have hO46 : Own .u8 5 w41 w36.heap.size w36.heap.size (some ⟨g40, 0, none⟩) 0 0 [] := Own.mono (own_blk w36.heap.size hk43 (by omega) rfl (by simp) (by omega) (Nums.nil _ _)) (by omega)
    refine rw_val (v := .slice X0 l0.length d0) (w' := w41) rfl rfl rfl rfl rfl ?_
    refine rw_append_row .u8 w36.heap.size rfl rfl rfl (.tmp 34) (.tmp 35) rfl rfl 22 5 1 rfl (by kernel_rfl) info5 (by decide) (b := w36.heap.size) rfl rfl (by omega) (hO46.on (Below.refl _ _)) (Kd.C_below h0 (chain (chain (chain (chain (chain (chain (chain hb2 hb5) hb11) hB16) hB23) hb28) hB38) hb42)) hb42 (by omega) (by first | omega | (simp only [List.length_append, List.length_nil]; omega)) ?_
    intro A47 n48 c49 w50 hn51 hO52 hB53 hG54
    rw [List.nil_append] at hn51 hO52
    subst hn51
    have hs_w50 := hB53.size
    have hgs_w50 := hG54.size
    refine rw_val (v := .slice X1 l1.length d1) (w' := w50) rfl rfl rfl rfl rfl ?_
    refine rw_append_row .u8 w36.heap.size rfl rfl rfl (.tmp 36) (.tmp 37) rfl rfl 22 5 1 rfl (by kernel_rfl) info5 (by decide) (b := w36.heap.size) rfl rfl (by omega) (hO52.on (Below.refl _ _)) (Kd.C_below h1 (chain (chain (chain (chain (chain (chain (chain hb2 hb5) hb11) hB16) hB23) hb28) hB38) hB53)) hB53 (by omega) (by first | omega | (simp only [List.length_append, List.length_nil]; omega)) ?_
    intro A55 n56 c57 w58 hn59 hO60 hB61 hG62
    subst hn59
    have hs_w58 := hB61.size
    have hgs_w58 := hG62.size
    refine rw_call rfl rfl rfl rfl (f := 22) (args := #[.slice A55 ((l0 ++ l1).length) c57]) (by simp [go_sem, sEv, sLook, nbeq, i64_w, -List.length_flatten]) (refwrap_calls w58 _ _ (l0 ++ l1) (Own.C (hO60.on (Below.refl _ _))) (hO60.cap) (hb0.append hb1) (by rw [List.length_append]; omega)) ?_
    rintro e_ w66 ⟨A63, n64, c65, rfl, hO67, hB68⟩
    refine ⟨_, rfl, ?_⟩
    have hs_w66 := hB68.size
    have hL69 : Own .u8 5 w66 w.heap.size w58.heap.size A63 n64 c65 (frameB (l0 ++ l1)) := Own.lower hO67 (by omega)
    refine rw_val (v := .tuple #[.slice A63 n64 c65, .int .i64 (errN (l0 ++ l1))]) (w' := w66) rfl rfl rfl rfl rfl ?_
    refine rw_val (v := .slice A63 n64 c65) (w' := w66) rfl rfl rfl rfl (by simp [go_sem, sEv, sLook, nbeq, i64_w, -List.length_flatten]) ?_
    refine rw_val (v := .int .i64 (errN (l0 ++ l1))) (w' := w66) rfl rfl rfl rfl (by simp [go_sem, sEv, sLook, nbeq, i64_w, -List.length_flatten]) ?_
    refine rw_val (v := .slice A63 n64 c65) (w' := w66) rfl rfl rfl rfl rfl ?_
    refine rw_val (v := .int .i64 (errN (l0 ++ l1))) (w' := w66) rfl rfl rfl rfl rfl ?_
    refine rw_end ?_
    refine w_weaken (G' := [(0, .slice X0 l0.length d0), (1, .slice X1 l1.length d1), (4, .bool false), (5, .slice A12 l0.length c13), (6, .slice A19 l1.length c20), (7, .slice A33 n34 c35), (8, errW (frameE (l0 ++ l1))), (9, .slice A63 n64 c65), (10, .int .i64 (errN (l0 ++ l1)))]) ⟨rfl, rfl, rfl, rfl, rfl, rfl, rfl, rfl, rfl, trivial⟩ ?_
    refine w_seq ?_
    refine w_seq ?_
    refine w_region ?_
    refine rw_val (v := .slice A33 n34 c35) (w' := w66) rfl rfl rfl rfl rfl ?_
    refine rw_val (v := .string (strOfNums (frameB (l0 ++ l1)))) (w' := w66) rfl rfl rfl rfl (run_as (run_str_of (P := Try.prog) (e := 5) (by kernel_rfl) (by kernel_rfl) (by kernel_rfl) (show (Kd.int .u8).C _ A33 n34 _ by rw [hL39.len]; exact (Kd.C_below (Own.C hL39) (chain hB61 hB68))))) ?_
    refine rw_val (v := .slice A63 n64 c65) (w' := w66) rfl rfl rfl rfl rfl ?_
    refine rw_val (v := .string (strOfNums (frameB (l0 ++ l1)))) (w' := w66) rfl rfl rfl rfl (run_as (run_str_of (P := Try.prog) (e := 5) (by kernel_rfl) (by kernel_rfl) (by kernel_rfl) (show (Kd.int .u8).C _ A63 n64 _ by rw [hL69.len]; exact (Kd.C_below (Own.C hL69) (Below.refl _ _))))) ?_
    refine rw_val (v := .bool false) (w' := w66) rfl rfl rfl rfl (run_bool (run_as (run_str_neq 9 _ _ _)) (by simp)) ?_
    refine rw_val (v := .bool false) (w' := w66) rfl rfl rfl rfl rfl ?_
    refine rw_on (c := false) rfl rfl rfl rfl ?_
    refine rw_val (v := errW (frameE (l0 ++ l1))) (w' := w66) rfl rfl rfl rfl rfl ?_
    refine rw_on (c := false) rfl rfl rfl rfl ?_
    refine rw_call rfl rfl rfl rfl (f := 21) (args := #[errW (frameE (l0 ++ l1))]) (by simp [go_sem, sEv, sLook, nbeq, i64_w, -List.length_flatten]) (num_calls (frameE (l0 ++ l1)) w66) ?_
    rintro e_ w70 ⟨rfl, hb71_⟩
    refine ⟨_, rfl, ?_⟩
    have hb71 := hb71_.below
    have hs_w70 := hb71.size
    refine rw_on (c := false) rfl rfl rfl rfl ?_
    refine rw_val (v := .int .i64 (errN (l0 ++ l1))) (w' := w70) rfl rfl rfl rfl rfl ?_
    refine rw_on (c := false) rfl rfl rfl rfl ?_
    refine rw_val (v := .bool false) (w' := w70) rfl rfl rfl rfl (by have e_ := num_errN (l0 ++ l1); simp [go_sem, sEv, sLook, nbeq, i64_w, -List.length_flatten, e_]) ?_
    refine rw_val (v := .bool false) (w' := w70) rfl rfl rfl rfl (by simp [go_sem, sEv, sLook, nbeq, i64_w, -List.length_flatten]) ?_
    refine rw_val (v := .bool false) (w' := w70) rfl rfl rfl rfl rfl ?_
    refine rw_on (c := false) rfl rfl rfl rfl ?_
    refine rw_val (v := .slice A12 l0.length c13) (w' := w70) rfl rfl rfl rfl rfl ?_
    refine rw_on (c := false) rfl rfl rfl rfl ?_
    refine rw_val (v := .slice A19 l1.length c20) (w' := w70) rfl rfl rfl rfl rfl ?_
    refine rw_on (c := false) rfl rfl rfl rfl ?_
    refine rw_new (cs := #[.slice A12 l0.length c13, .slice A19 l1.length c20]) (t := 22) (fun g => .slice (some ⟨g, 0, none⟩) 2 2) rfl rfl rfl rfl (by kernel_rfl) ?_
    intro g72 w73 hg77 hz76 hb74 hk75
    have hs_w73 := hb74.size
    have hP78 : (Kd.slice 5 (Kd.int .u8)).C w73 (some ⟨g72, 0, none⟩) [l0, l1].length [l0, l1] := rows2 hk75 (by have q_ := hL17.cap; omega) (Kd.C_below (own_front hL17) (chain (chain (chain (chain (chain (chain hB23 hb28) hB38) hB61) hB68) hb71) hb74)) (by have q_ := hL24.cap; omega) (Kd.C_below (own_front hL24) (chain (chain (chain (chain (chain hb28 hB38) hB61) hB68) hb71) hb74))
    refine rw_on (c := false) rfl rfl rfl rfl ?_
    refine rw_call rfl rfl rfl rfl (f := 20) (args := #[.slice (some ⟨g72, 0, none⟩) 2 2]) (by simp [go_sem, sEv, sLook, nbeq, i64_w, -List.length_flatten]) (sum_two w73 _ 2 l0 l1 (Kd.C_below hP78 (Below.refl _ _)) (by omega) hl0_ hl1_) ?_
    rintro e_ w79 ⟨rfl, hb80_⟩
    refine ⟨_, rfl, ?_⟩
    have hb80 := hb80_.below
    have hs_w79 := hb80.size
    refine rw_on (c := false) rfl rfl rfl rfl ?_
    refine rw_new (cs := #[]) (t := 5) (fun g => .slice (some ⟨g, 0, none⟩) 0 0) rfl rfl rfl rfl (by kernel_rfl) ?_
    intro g81 w82 hg86 hz85 hb83 hk84
    have hs_w82 := hb83.size
    have hO87 : Own .u8 5 w82 w79.heap.size w79.heap.size (some ⟨g81, 0, none⟩) 0 0 [] := Own.mono (own_blk w79.heap.size hk84 (by omega) rfl (by simp) (by omega) (Nums.nil _ _)) (by omega)
    refine rw_on (c := false) rfl rfl rfl rfl ?_
    refine rw_val (v := .slice X0 l0.length d0) (w' := w82) rfl rfl rfl rfl rfl ?_
    refine rw_on (c := false) rfl rfl rfl rfl ?_
    refine rw_append_row .u8 w79.heap.size rfl rfl rfl (.tmp 58) (.tmp 59) rfl rfl 22 5 1 rfl (by kernel_rfl) info5 (by decide) (b := w79.heap.size) rfl rfl (by omega) (hO87.on (Below.refl _ _)) (Kd.C_below h0 (chain (chain (chain (chain (chain (chain (chain (chain (chain (chain (chain (chain hb2 hb5) hb11) hB16) hB23) hb28) hB38) hB61) hB68) hb71) hb74) hb80) hb83)) hb83 (by omega) (by first | omega | (simp only [List.length_append, List.length_nil]; omega)) ?_
    intro A88 n89 c90 w91 hn92 hO93 hB94 hG95
    rw [List.nil_append] at hn92 hO93
    subst hn92
    have hs_w91 := hB94.size
    have hgs_w91 := hG95.size
    refine rw_on (c := false) rfl rfl rfl rfl ?_
    refine rw_val (v := .slice X1 l1.length d1) (w' := w91) rfl rfl rfl rfl rfl ?_
    refine rw_on (c := false) rfl rfl rfl rfl ?_
    refine rw_append_row .u8 w79.heap.size rfl rfl rfl (.tmp 60) (.tmp 61) rfl rfl 22 5 1 rfl (by kernel_rfl) info5 (by decide) (b := w79.heap.size) rfl rfl (by omega) (hO93.on (Below.refl _ _)) (Kd.C_below h1 (chain (chain (chain (chain (chain (chain (chain (chain (chain (chain (chain (chain hb2 hb5) hb11) hB16) hB23) hb28) hB38) hB61) hB68) hb71) hb74) hb80) hB94)) hB94 (by omega) (by first | omega | (simp only [List.length_append, List.length_nil]; omega)) ?_
    intro A96 n97 c98 w99 hn100 hO101 hB102 hG103
    subst hn100
    have hs_w99 := hB102.size
    have hgs_w99 := hG103.size
    refine rw_on (c := false) rfl rfl rfl rfl ?_
    refine rw_call rfl rfl rfl rfl (f := 23) (args := #[.slice A96 ((l0 ++ l1).length) c98]) (by simp [go_sem, sEv, sLook, nbeq, i64_w, -List.length_flatten]) (estuaryref04_Sum.calls (10 * (l0 ++ l1).length + 1) _ _ (l0 ++ l1) _ w99 (Own.C (hO101.on (Below.refl _ _))) (hO101.cap) (refsum_f (l0 ++ l1) (hb0.append hb1) (by rw [List.length_append]; omega) _ (Nat.le_refl _))) ?_
    rintro e_ w104 ⟨rfl, hb105_⟩
    refine ⟨_, rfl, ?_⟩
    have hb105 := hb105_.below
    have hs_w104 := hb105.size
    refine rw_on (c := false) rfl rfl rfl rfl ?_
    refine rw_val (v := .bool false) (w' := w104) rfl rfl rfl rfl (by simp [go_sem, sEv, sLook, nbeq, i64_w, -List.length_flatten]) ?_
    refine rw_val (v := .bool false) (w' := w104) rfl rfl rfl rfl (by simp [go_sem, sEv, sLook, nbeq, i64_w, -List.length_flatten]) ?_
    refine rw_end ?_
    refine w_weaken (G' := [(0, .slice X0 l0.length d0), (1, .slice X1 l1.length d1), (4, .bool false), (5, .slice A12 l0.length c13), (6, .slice A19 l1.length c20), (7, .slice A33 n34 c35), (65, .bool false)]) ⟨rfl, rfl, rfl, rfl, rfl, rfl, rfl, trivial⟩ ?_
    refine w_cond_f rfl rfl rfl ?_
    refine w_skip ?_
    refine w_seq ?_
    refine w_region ?_
    refine rw_val (v := .slice A12 l0.length c13) (w' := w104) rfl rfl rfl rfl rfl ?_
    refine rw_call rfl rfl rfl rfl (f := 24) (args := #[.slice A12 l0.length c13]) (by simp [go_sem, sEv, sLook, nbeq, i64_w, -List.length_flatten]) (unwrap_calls w104 _ _ l0 (Kd.C_below (own_front hL17) (chain (chain (chain (chain (chain (chain (chain (chain (chain hB23 hb28) hB38) hB61) hB68) hb71) hb74) hb80) hB102) hb105)) (by omega) hb0 (by omega)) ?_
    rintro e_ w113 ⟨A106, n107, c108, A109, n110, c111, m112, rfl, hO114, hO115, hu116, hm117, hm118, hB119⟩
    refine ⟨_, rfl, ?_⟩
    have hs_w113 := hB119.size
    have hL120 : Own .u8 5 w113 w.heap.size w104.heap.size A106 n107 c108 (UN l0) := Own.lower hO114 (by omega)
    have hL121 : Own .u8 5 w113 w.heap.size m112 A109 n110 c111 (UR l0) := Own.lower hO115 (by omega)
    refine rw_val (v := .tuple #[.slice A106 n107 c108, .slice A109 n110 c111, errW (UE l0)]) (w' := w113) rfl rfl rfl rfl rfl ?_
    refine rw_val (v := .slice A106 n107 c108) (w' := w113) rfl rfl rfl rfl (by simp [go_sem, sEv, sLook, nbeq, i64_w, -List.length_flatten]) ?_
    refine rw_val (v := .slice A109 n110 c111) (w' := w113) rfl rfl rfl rfl (by simp [go_sem, sEv, sLook, nbeq, i64_w, -List.length_flatten]) ?_
    refine rw_val (v := errW (UE l0)) (w' := w113) rfl rfl rfl rfl (by simp [go_sem, sEv, sLook, nbeq, i64_w, -List.length_flatten]) ?_
    refine rw_val (v := .slice A106 n107 c108) (w' := w113) rfl rfl rfl rfl rfl ?_
    refine rw_val (v := .slice A109 n110 c111) (w' := w113) rfl rfl rfl rfl rfl ?_
    refine rw_val (v := errW (UE l0)) (w' := w113) rfl rfl rfl rfl rfl ?_
    refine rw_end ?_
    refine w_weaken (G' := [(0, .slice X0 l0.length d0), (1, .slice X1 l1.length d1), (4, .bool false), (5, .slice A12 l0.length c13), (6, .slice A19 l1.length c20), (7, .slice A33 n34 c35), (11, .slice A106 n107 c108), (12, .slice A109 n110 c111), (13, errW (UE l0))]) ⟨rfl, rfl, rfl, rfl, rfl, rfl, rfl, rfl, rfl, trivial⟩ ?_
    refine w_seq ?_
    refine w_region ?_
    refine rw_val (v := .slice X0 l0.length d0) (w' := w113) rfl rfl rfl rfl rfl ?_
    refine rw_call rfl rfl rfl rfl (f := 25) (args := #[.slice X0 l0.length d0]) (by simp [go_sem, sEv, sLook, nbeq, i64_w, -List.length_flatten]) (refunwrap_calls w113 _ _ l0 (Kd.C_below h0 (chain (chain (chain (chain (chain (chain (chain (chain (chain (chain (chain (chain (chain (chain hb2 hb5) hb11) hB16) hB23) hb28) hB38) hB61) hB68) hb71) hb74) hb80) hB102) hb105) hB119)) e0 hb0 (by omega)) ?_
    rintro e_ w125 ⟨A122, n123, c124, rfl, hO126, hB127⟩
    refine ⟨_, rfl, ?_⟩
    have hs_w125 := hB127.size
    have hL128 : Own .u8 5 w125 w.heap.size w113.heap.size A122 n123 c124 (UN l0) := Own.lower hO126 (by omega)
    refine rw_val (v := .tuple #[.slice A122 n123 c124, .int .i64 ((wholeP l0 : Nat) : Int)]) (w' := w125) rfl rfl rfl rfl rfl ?_
    refine rw_val (v := .slice A122 n123 c124) (w' := w125) rfl rfl rfl rfl (by simp [go_sem, sEv, sLook, nbeq, i64_w, -List.length_flatten]) ?_
    refine rw_val (v := .int .i64 ((wholeP l0 : Nat) : Int)) (w' := w125) rfl rfl rfl rfl (by simp [go_sem, sEv, sLook, nbeq, i64_w, -List.length_flatten]) ?_
    refine rw_val (v := .slice A122 n123 c124) (w' := w125) rfl rfl rfl rfl rfl ?_
    refine rw_val (v := .int .i64 ((wholeP l0 : Nat) : Int)) (w' := w125) rfl rfl rfl rfl rfl ?_
    refine rw_end ?_
    refine w_weaken (G' := [(0, .slice X0 l0.length d0), (1, .slice X1 l1.length d1), (4, .bool false), (5, .slice A12 l0.length c13), (6, .slice A19 l1.length c20), (7, .slice A33 n34 c35), (11, .slice A106 n107 c108), (12, .slice A109 n110 c111), (13, errW (UE l0)), (14, .slice A122 n123 c124), (15, .int .i64 ((wholeP l0 : Nat) : Int))]) ⟨rfl, rfl, rfl, rfl, rfl, rfl, rfl, rfl, rfl, rfl, rfl, trivial⟩ ?_
    refine w_seq ?_
    refine w_seq ?_
    rcases bcase (((wholeP l0 : Nat) : Int) == 0) with cZ | cZ
    · refine w_drawk (M := [0, 1, 3, 7, 7, 31, 63, 127, 255, 511, 1023, 2047, 4095, 8191, 16383, 32767, 65535, 131071, 262143, 524287, 1048575, 2097151, 4194303, 8388607, 16777215, 33554431, 16777215, 83886079, 268435455, 536870911, 1073741823, 2147483647, 4294967295, 2147483647, 2147483647, 27917287423, 62277025791, 137438953471, 274877906943, 549755813887, 1099511627775]) (ss := [Is (.int .i64 ((wholeP l0 : Nat) : Int)), Is (.bool (((wholeP l0 : Nat) : Int) == 0)), Is (.bool (((wholeP l0 : Nat) : Int) == 0)), Is undef, Is undef, Is undef, Is undef, Is undef, Is undef, Is undef, Is undef, Is undef, Is undef, Is undef, Is undef, Is undef, Is (.bool false), Is (.bool false), Is (.int .i64 ((wholeP l0 : Nat) : Int)), Is (.bool true), Is (.bool true), Is (errW none), Is (.bool false), Is (.bool false), Is (.slice A106 n107 c108), Is (.string (strOfNums (UN l0))), Is (.slice A122 n123 c124), Is (.string (strOfNums (UN l0))), Is (.bool false), Is (.bool false), Is (.bool false), Is (.slice A109 n110 c111), Is (.string (strOfNums (UR l0))), Is (.slice X0 l0.length d0), Is (.int .i64 ((wholeP l0 : Nat) : Int)), Is (.slice (adr X0 d0 (wholeP l0)) ((l0.drop (wholeP l0)).length) (d0 - (wholeP l0))), Is (.string (strOfNums (l0.drop (wholeP l0))))]) 37 rfl (by decide +kernel) ?_
      refine t_is (.int .i64 ((wholeP l0 : Nat) : Int)) rfl rfl rfl rfl (fun W_ hW_ F_ => rfl) ?_
      refine t_is (.bool (((wholeP l0 : Nat) : Int) == 0)) rfl rfl rfl rfl (fun W_ hW_ F_ => by simp [go_sem, sEv, sLook, nbeq, i64_w, -List.length_flatten]) ?_
      refine t_is (.bool (((wholeP l0 : Nat) : Int) == 0)) rfl rfl rfl rfl (fun W_ hW_ F_ => rfl) ?_
      refine t_off (c := (((wholeP l0 : Nat) : Int) == 0)) rfl rfl rfl (by first | (rw [cZ]; rfl) | simp [cZ]) rfl rfl ?_
      refine t_off (c := (((wholeP l0 : Nat) : Int) == 0)) rfl rfl rfl (by first | (rw [cZ]; rfl) | simp [cZ]) rfl rfl ?_
      refine t_off (c := (((wholeP l0 : Nat) : Int) == 0)) rfl rfl rfl (by first | (rw [cZ]; rfl) | simp [cZ]) rfl rfl ?_
      refine t_off (c := (((wholeP l0 : Nat) : Int) == 0)) rfl rfl rfl (by first | (rw [cZ]; rfl) | simp [cZ]) rfl rfl ?_
      refine t_offu rfl rfl rfl rfl rfl ?_
      refine t_offu rfl rfl rfl rfl rfl ?_
      refine t_offu rfl rfl rfl rfl rfl ?_
      refine t_off (c := (((wholeP l0 : Nat) : Int) == 0)) rfl rfl rfl (by first | (rw [cZ]; rfl) | simp [cZ]) rfl rfl ?_
      refine t_off (c := (((wholeP l0 : Nat) : Int) == 0)) rfl rfl rfl (by first | (rw [cZ]; rfl) | simp [cZ]) rfl rfl ?_
      refine t_offu rfl rfl rfl rfl rfl ?_
      refine t_offu rfl rfl rfl rfl rfl ?_
      refine t_offu rfl rfl rfl rfl rfl ?_
      refine t_off (c := (((wholeP l0 : Nat) : Int) == 0)) rfl rfl rfl (by first | (rw [cZ]; rfl) | simp [cZ]) rfl rfl ?_
      refine t_is (.bool false) rfl rfl rfl rfl (fun W_ hW_ F_ => by first | (simp [go_sem, sEv, sLook, nbeq, i64_w, -List.length_flatten, cZ]; done) | (simp [go_sem, sEv, sLook, nbeq, i64_w, -List.length_flatten] <;> omega) | (simp [go_sem, sEv, sLook, nbeq, i64_w, -List.length_flatten]; intro h_; exact absurd (by omega) h_) | (rw [cZ]; simp [go_sem, sEv, sLook, nbeq, i64_w, -List.length_flatten]; done)) ?_
      refine t_is (.bool false) rfl rfl rfl rfl (fun W_ hW_ F_ => rfl) ?_
      refine t_gis (c := false) (.int .i64 ((wholeP l0 : Nat) : Int)) rfl rfl rfl rfl rfl rfl rfl (fun W_ hW_ F_ => rfl) ?_
      refine t_gis (c := false) (.bool true) rfl rfl rfl rfl rfl rfl rfl (fun W_ hW_ F_ => (by have cZ_ : ¬ (wholeP l0) = 0 := (by simpa using cZ); simp [go_sem, sEv, sLook, nbeq, i64_w, -List.length_flatten]; omega)) ?_
      refine t_gis (c := false) (.bool true) rfl rfl rfl rfl rfl rfl rfl (fun W_ hW_ F_ => rfl) ?_
      refine t_gis (c := true) (errW none) rfl rfl rfl rfl rfl rfl rfl (fun W_ hW_ F_ => (by have cZ_ : ¬ (wholeP l0) = 0 := (by simpa using cZ); have e_ : UE l0 = none := (by rw [UE, if_neg cZ_]); rw [← e_]; simp [go_sem, sEv, sLook, nbeq, i64_w, -List.length_flatten])) ?_
      refine t_gis (c := true) (.bool false) rfl rfl rfl rfl rfl rfl rfl (fun W_ hW_ F_ => (run_as (guard_errW_neq _ none _))) ?_
      refine t_gis (c := true) (.bool false) rfl rfl rfl rfl rfl rfl rfl (fun W_ hW_ F_ => rfl) ?_
      refine t_gis (c := false) (.slice A106 n107 c108) rfl rfl rfl rfl rfl rfl rfl (fun W_ hW_ F_ => rfl) ?_
      refine t_gis (c := false) (.string (strOfNums (UN l0))) rfl rfl rfl rfl rfl rfl rfl (fun W_ hW_ F_ => (run_as (run_str_of (P := Try.prog) (e := 5) (by kernel_rfl) (by kernel_rfl) (by kernel_rfl) (show (Kd.int .u8).C W_ A106 n107 _ by rw [hL120.len]; exact (Kd.C_below (Own.C hL120) (chain hB127 (below_of_drew hW_))))))) ?_
      refine t_gis (c := false) (.slice A122 n123 c124) rfl rfl rfl rfl rfl rfl rfl (fun W_ hW_ F_ => rfl) ?_
      refine t_gis (c := false) (.string (strOfNums (UN l0))) rfl rfl rfl rfl rfl rfl rfl (fun W_ hW_ F_ => (run_as (run_str_of (P := Try.prog) (e := 5) (by kernel_rfl) (by kernel_rfl) (by kernel_rfl) (show (Kd.int .u8).C W_ A122 n123 _ by rw [hL128.len]; exact (Kd.C_below (Own.C hL128) (chain (Below.refl _ _) (below_of_drew hW_))))))) ?_
      refine t_gis (c := false) (.bool false) rfl rfl rfl rfl rfl rfl rfl (fun W_ hW_ F_ => (run_bool (run_as (run_str_neq 9 _ _ _)) (by simp))) ?_
      refine t_gis (c := true) (.bool false) rfl rfl rfl rfl rfl rfl rfl (fun W_ hW_ F_ => by simp [go_sem, sEv, sLook, nbeq, i64_w, -List.length_flatten]) ?_
      refine t_gis (c := true) (.bool false) rfl rfl rfl rfl rfl rfl rfl (fun W_ hW_ F_ => rfl) ?_
      refine t_gis (c := false) (.slice A109 n110 c111) rfl rfl rfl rfl rfl rfl rfl (fun W_ hW_ F_ => rfl) ?_
      refine t_gis (c := false) (.string (strOfNums (UR l0))) rfl rfl rfl rfl rfl rfl rfl (fun W_ hW_ F_ => (run_as (run_str_of (P := Try.prog) (e := 5) (by kernel_rfl) (by kernel_rfl) (by kernel_rfl) (show (Kd.int .u8).C W_ A109 n110 _ by rw [hL121.len]; exact (Kd.C_below (Own.C hL121) (chain hB127 (below_of_drew hW_))))))) ?_
      refine t_gis (c := false) (.slice X0 l0.length d0) rfl rfl rfl rfl rfl rfl rfl (fun W_ hW_ F_ => rfl) ?_
      refine t_gis (c := false) (.int .i64 ((wholeP l0 : Nat) : Int)) rfl rfl rfl rfl rfl rfl rfl (fun W_ hW_ F_ => rfl) ?_
      have cZ_ : ¬ (wholeP l0) = 0 := (by simpa using cZ)
      have hwl_ := wholeP_le l0
      have hP129 := (from_C h0 (wholeP l0) (by omega) (show l0.length ≤ d0 by have q_ := e0; have q2_ : l0.length = l0.length := rfl; omega))
      have hc130 : (l0.drop (wholeP l0)).length ≤ (d0 - (wholeP l0)) := by have q_ := e0; have q2_ : l0.length = l0.length := rfl; simp only [List.length_take, List.length_drop]; omega
      refine t_gis (c := false) (.slice (adr X0 d0 (wholeP l0)) ((l0.drop (wholeP l0)).length) (d0 - (wholeP l0))) rfl rfl rfl rfl rfl rfl rfl (fun W_ hW_ F_ => (run_as (run_from (e := 5) (by kernel_rfl) (fun _ => by kernel_rfl) (wholeP l0) _ (by first | rfl | (simp; done) | omega) rfl (by omega) e0 _))) ?_
      refine t_gis (c := false) (.string (strOfNums (l0.drop (wholeP l0)))) rfl rfl rfl rfl rfl rfl rfl (fun W_ hW_ F_ => (run_as (run_str_of (P := Try.prog) (e := 5) (by kernel_rfl) (by kernel_rfl) (by kernel_rfl) (Kd.C_below hP129 (chain (chain (chain (chain (chain (chain (chain (chain (chain (chain (chain (chain (chain (chain (chain (chain hb2 hb5) hb11) hB16) hB23) hb28) hB38) hB61) hB68) hb71) hb74) hb80) hB102) hb105) hB119) hB127) (below_of_drew hW_)))))) ?_
      refine t_tail ?_
      intro w131 hb132_ F133
      have hb132 := below_of_drew hb132_
      have hs_w131 := hb132.size
      refine rw_on (c := false) rfl rfl rfl rfl ?_
      refine rw_val (v := .bool false) (w' := w131) rfl rfl rfl rfl (run_bool (run_as (run_str_neq 9 _ _ _)) (by rw [UR, if_neg cZ_]; simp)) ?_
      refine rw_on (c := true) rfl rfl rfl rfl ?_
      refine rw_val (v := .bool false) (w' := w131) rfl rfl rfl rfl (by simp [go_sem, sEv, sLook, nbeq, i64_w, -List.length_flatten]) ?_
      refine rw_on (c := false) rfl rfl rfl rfl ?_
      refine rw_val (v := .bool false) (w' := w131) rfl rfl rfl rfl (by simp [go_sem, sEv, sLook, nbeq, i64_w, -List.length_flatten]) ?_
      refine rw_val (v := .bool false) (w' := w131) rfl rfl rfl rfl (by simp [go_sem, sEv, sLook, nbeq, i64_w, -List.length_flatten]) ?_
      refine rw_end ?_
      refine w_weaken (G' := [(0, .slice X0 l0.length d0), (1, .slice X1 l1.length d1), (4, .bool false), (5, .slice A12 l0.length c13), (6, .slice A19 l1.length c20), (7, .slice A33 n34 c35), (11, .slice A106 n107 c108), (12, .slice A109 n110 c111), (117, .bool false)]) ⟨rfl, rfl, rfl, rfl, rfl, rfl, rfl, rfl, rfl, trivial⟩ ?_
      refine w_cond_f rfl rfl rfl ?_
      refine w_skip ?_
      refine w_seq ?_
      refine w_region ?_
      refine rw_val (v := .slice A12 l0.length c13) (w' := w131) rfl rfl rfl rfl rfl ?_
      refine rw_val (v := .slice X0 l0.length d0) (w' := w131) rfl rfl rfl rfl rfl ?_
      refine rw_call rfl rfl rfl rfl (f := 16) (args := #[.slice A12 l0.length c13, .slice X0 l0.length d0]) (by simp [go_sem, sEv, sLook, nbeq, i64_w, -List.length_flatten]) (kept_calls w131 _ _ _ _ l0 (Kd.C_below (show (Kd.int .u8).C _ _ (l0.length + 2) (l0 ++ [165, 90]) by have h_ := Own.C hL17; simpa using h_) (chain (chain (chain (chain (chain (chain (chain (chain (chain (chain (chain (chain hB23 hb28) hB38) hB61) hB68) hb71) hb74) hb80) hB102) hb105) hB119) hB127) hb132)) (Kd.C_below (own_front hL17) (chain (chain (chain (chain (chain (chain (chain (chain (chain (chain (chain (chain hB23 hb28) hB38) hB61) hB68) hb71) hb74) hb80) hB102) hb105) hB119) hB127) hb132)) (by omega) (by omega) (Kd.C_below h0 (chain (chain (chain (chain (chain (chain (chain (chain (chain (chain (chain (chain (chain (chain (chain (chain hb2 hb5) hb11) hB16) hB23) hb28) hB38) hB61) hB68) hb71) hb74) hb80) hB102) hb105) hB119) hB127) hb132)) e0 (by omega)) ?_
      rintro e_ w134 ⟨rfl, hb135⟩
      refine ⟨_, rfl, ?_⟩
      have hs_w134 := hb135.size
      refine rw_val (v := .bool true) (w' := w134) rfl rfl rfl rfl rfl ?_
      refine rw_on (c := true) rfl rfl rfl rfl ?_
      refine rw_val (v := .slice A19 l1.length c20) (w' := w134) rfl rfl rfl rfl rfl ?_
      refine rw_on (c := true) rfl rfl rfl rfl ?_
      refine rw_val (v := .slice X1 l1.length d1) (w' := w134) rfl rfl rfl rfl rfl ?_
      refine rw_on (c := true) rfl rfl rfl rfl ?_
      refine rw_call rfl rfl rfl rfl (f := 16) (args := #[.slice A19 l1.length c20, .slice X1 l1.length d1]) (by simp [go_sem, sEv, sLook, nbeq, i64_w, -List.length_flatten]) (kept_calls w134 _ _ _ _ l1 (Kd.C_below (show (Kd.int .u8).C _ _ (l1.length + 2) (l1 ++ [165, 90]) by have h_ := Own.C hL24; simpa using h_) (chain (chain (chain (chain (chain (chain (chain (chain (chain (chain (chain (chain hb28 hB38) hB61) hB68) hb71) hb74) hb80) hB102) hb105) hB119) hB127) hb132) hb135)) (Kd.C_below (own_front hL24) (chain (chain (chain (chain (chain (chain (chain (chain (chain (chain (chain (chain hb28 hB38) hB61) hB68) hb71) hb74) hb80) hB102) hb105) hB119) hB127) hb132) hb135)) (by omega) (by omega) (Kd.C_below h1 (chain (chain (chain (chain (chain (chain (chain (chain (chain (chain (chain (chain (chain (chain (chain (chain (chain hb2 hb5) hb11) hB16) hB23) hb28) hB38) hB61) hB68) hb71) hb74) hb80) hB102) hb105) hB119) hB127) hb132) hb135)) e1 (by omega)) ?_
      rintro e_ w136 ⟨rfl, hb137⟩
      refine ⟨_, rfl, ?_⟩
      have hs_w136 := hb137.size
      refine rw_val (v := .bool true) (w' := w136) rfl rfl rfl rfl (by simp [go_sem, sEv, sLook, nbeq, i64_w, -List.length_flatten]) ?_
      refine rw_val (v := .bool true) (w' := w136) rfl rfl rfl rfl rfl ?_
      refine rw_on (c := true) rfl rfl rfl rfl ?_
      refine rw_val (v := .slice A33 n34 c35) (w' := w136) rfl rfl rfl rfl rfl ?_
      refine rw_on (c := true) rfl rfl rfl rfl ?_
      refine rw_val (v := .slice A106 n107 c108) (w' := w136) rfl rfl rfl rfl rfl ?_
      refine rw_on (c := true) rfl rfl rfl rfl ?_
      refine rw_val (v := .slice A109 n110 c111) (w' := w136) rfl rfl rfl rfl rfl ?_
      refine rw_on (c := true) rfl rfl rfl rfl ?_
      refine rw_val (v := .slice A12 l0.length c13) (w' := w136) rfl rfl rfl rfl rfl ?_
      refine rw_on (c := true) rfl rfl rfl rfl ?_
      refine rw_val (v := .slice A19 l1.length c20) (w' := w136) rfl rfl rfl rfl rfl ?_
      refine rw_on (c := true) rfl rfl rfl rfl ?_
      refine rw_new (cs := #[.slice A33 n34 c35, .slice A106 n107 c108, .slice A109 n110 c111, .slice A12 l0.length c13, .slice A19 l1.length c20]) (t := 22) (fun g => .slice (some ⟨g, 0, none⟩) 5 5) rfl rfl rfl rfl (by kernel_rfl) ?_
      intro g138 w139 hg143 hz142 hb140 hk141
      have hs_w139 := hb140.size
      refine rw_on (c := true) rfl rfl rfl rfl ?_
      have hfn_ := hL39.len
      have hfb_ := frameB_le (l0 ++ l1)
      have hun_ := hL120.len
      have hur_ := hL121.len
      have hul_ := UN_len l0
      have hrl_ := UR_len l0
      refine rw_call rfl rfl rfl rfl (f := 18) (args := #[.slice (some ⟨g138, 0, none⟩) 5 5]) (by simp [go_sem, sEv, sLook, nbeq, i64_w, -List.length_flatten]) (apart_five (t1 := w14.heap.size) (t2 := w21.heap.size) (t3 := w36.heap.size) (t4 := m112) (chain (chain (chain (chain (chain (chain (chain (chain (chain (chain (chain (chain (chain (chain (chain (chain (chain (chain (chain hb2 hb5) hb11) hB16) hB23) hb28) hB38) hB61) hB68) hb71) hb74) hb80) hB102) hb105) hB119) hB127) hb132) hb135) hb137) hb140) hk141 (own_head (Own.mono (hL17.on (chain (chain (chain (chain (chain (chain (chain (chain (chain (chain (chain (chain (chain (chain (chain hB23 hb28) hB38) hB61) hB68) hb71) hb74) hb80) hB102) hb105) hB119) hB127) hb132) hb135) hb137) hb140)) (by omega))) (fun q hq => (Kd.R_bound (own_head hL17)).1 q hq |>.2.2.1) (own_head (Own.mono (hL24.on (chain (chain (chain (chain (chain (chain (chain (chain (chain (chain (chain (chain (chain (chain hb28 hB38) hB61) hB68) hb71) hb74) hb80) hB102) hb105) hB119) hB127) hb132) hb135) hb137) hb140)) (by omega))) (fun q hq => (Kd.R_bound (own_head hL24)).1 q hq |>.2.2.1) (Own.mono (hL39.on (chain (chain (chain (chain (chain (chain (chain (chain (chain (chain (chain (chain hB61 hB68) hb71) hb74) hb80) hB102) hb105) hB119) hB127) hb132) hb135) hb137) hb140)) (by omega)) (fun q hq => (Kd.R_bound hL39).1 q hq |>.2.2.1) (Own.mono (hL120.on (chain (chain (chain (chain hB127 hb132) hb135) hb137) hb140)) (by omega)) hu116 (hL121.on (chain (chain (chain (chain hB127 hb132) hb135) hb137) hb140)) (by omega) (by omega) (by omega) (by omega) (by omega) (by omega) (by omega) (by omega)) ?_
      rintro e_ w144 ⟨rfl, hB145⟩
      refine ⟨_, rfl, ?_⟩
      refine rw_val (v := .bool true) (w' := w144) rfl rfl rfl rfl (by simp [go_sem, sEv, sLook, nbeq, i64_w, -List.length_flatten]) ?_
      refine rw_val (v := .bool true) (w' := w144) rfl rfl rfl rfl rfl ?_
      refine rw_end ?_
      refine w_weaken (G' := [(4, .bool true)]) ⟨rfl, trivial⟩ ?_
      refine w_ret (post_ret1 rfl rfl ?_)
      exact ⟨rfl, hB145⟩
    · refine w_drawk (M := [0, 1, 3, 7, 7, 31, 63, 127, 255, 511, 1023, 2047, 4095, 8191, 16383, 32767, 65535, 131071, 262143, 524287, 1048575, 2097151, 4194303, 8388607, 16777215, 33554431, 16777215, 83886079, 268435455, 536870911, 1073741823, 2147483647, 4294967295, 2147483647, 2147483647, 27917287423, 62277025791, 137438953471, 274877906943, 549755813887, 1099511627775]) (ss := [Is (.int .i64 ((wholeP l0 : Nat) : Int)), Is (.bool (((wholeP l0 : Nat) : Int) == 0)), Is (.bool (((wholeP l0 : Nat) : Int) == 0)), Is (errW (some 3)), Is (errW (some 3)), Is (.bool false), Is (.bool false), Is (.slice A106 n107 c108), Is (.int .i64 0), Is (.bool false), Is (.bool false), Is (.bool false), Is (.slice A109 n110 c111), Is (.int .i64 0), Is (.bool false), Is (.bool false), Is (.bool false), Is (.bool false), Is (.int .i64 ((wholeP l0 : Nat) : Int)), Is (.bool false), Is (.bool false), Is undef, Is undef, Is undef, Is undef, Is undef, Is undef, Is undef, Is undef, Is undef, Is undef, Is undef, Is undef, Is undef, Is undef, Is undef, Is undef]) 37 rfl (by decide +kernel) ?_
      refine t_is (.int .i64 ((wholeP l0 : Nat) : Int)) rfl rfl rfl rfl (fun W_ hW_ F_ => rfl) ?_
      refine t_is (.bool (((wholeP l0 : Nat) : Int) == 0)) rfl rfl rfl rfl (fun W_ hW_ F_ => by simp [go_sem, sEv, sLook, nbeq, i64_w, -List.length_flatten]) ?_
      refine t_is (.bool (((wholeP l0 : Nat) : Int) == 0)) rfl rfl rfl rfl (fun W_ hW_ F_ => rfl) ?_
      refine t_gis (c := (((wholeP l0 : Nat) : Int) == 0)) (errW (some 3)) rfl rfl rfl (by first | (rw [cZ]; rfl) | simp [cZ]) rfl rfl rfl (fun W_ hW_ F_ => (by have cZ_ : (wholeP l0) = 0 := (by simpa using cZ); have e_ : UE l0 = some 3 := (by rw [UE, if_pos cZ_]); rw [← e_]; simp [go_sem, sEv, sLook, nbeq, i64_w, -List.length_flatten])) ?_
      refine t_gis (c := (((wholeP l0 : Nat) : Int) == 0)) (errW (some 3)) rfl rfl rfl (by first | (rw [cZ]; rfl) | simp [cZ]) rfl rfl rfl (fun W_ hW_ F_ => (by simp [go_sem, sEv, sLook, nbeq, i64_w, -List.length_flatten, errW_some])) ?_
      refine t_gis (c := (((wholeP l0 : Nat) : Int) == 0)) (.bool false) rfl rfl rfl (by first | (rw [cZ]; rfl) | simp [cZ]) rfl rfl rfl (fun W_ hW_ F_ => (run_bool (run_as (guard_errW_neqs _ _ (some 3) 3 _)) (by decide))) ?_
      refine t_gis (c := (((wholeP l0 : Nat) : Int) == 0)) (.bool false) rfl rfl rfl (by first | (rw [cZ]; rfl) | simp [cZ]) rfl rfl rfl (fun W_ hW_ F_ => rfl) ?_
      refine t_gis (c := false) (.slice A106 n107 c108) rfl rfl rfl rfl rfl rfl rfl (fun W_ hW_ F_ => rfl) ?_
      refine t_gis (c := false) (.int .i64 0) rfl rfl rfl rfl rfl rfl rfl (fun W_ hW_ F_ => (by have cZ_ : (wholeP l0) = 0 := (by simpa using cZ); have e_ := hL120.len; rw [UN, if_pos cZ_] at e_; simp [go_sem, sEv, sLook, nbeq, i64_w, -List.length_flatten, e_])) ?_
      refine t_gis (c := false) (.bool false) rfl rfl rfl rfl rfl rfl rfl (fun W_ hW_ F_ => by simp [go_sem, sEv, sLook, nbeq, i64_w, -List.length_flatten]) ?_
      refine t_gis (c := (((wholeP l0 : Nat) : Int) == 0)) (.bool false) rfl rfl rfl (by first | (rw [cZ]; rfl) | simp [cZ]) rfl rfl rfl (fun W_ hW_ F_ => by simp [go_sem, sEv, sLook, nbeq, i64_w, -List.length_flatten]) ?_
      refine t_gis (c := (((wholeP l0 : Nat) : Int) == 0)) (.bool false) rfl rfl rfl (by first | (rw [cZ]; rfl) | simp [cZ]) rfl rfl rfl (fun W_ hW_ F_ => rfl) ?_
      refine t_gis (c := false) (.slice A109 n110 c111) rfl rfl rfl rfl rfl rfl rfl (fun W_ hW_ F_ => rfl) ?_
      refine t_gis (c := false) (.int .i64 0) rfl rfl rfl rfl rfl rfl rfl (fun W_ hW_ F_ => (by have cZ_ : (wholeP l0) = 0 := (by simpa using cZ); have e_ := hL121.len; rw [UR, if_pos cZ_] at e_; simp [go_sem, sEv, sLook, nbeq, i64_w, -List.length_flatten, e_])) ?_
      refine t_gis (c := false) (.bool false) rfl rfl rfl rfl rfl rfl rfl (fun W_ hW_ F_ => by simp [go_sem, sEv, sLook, nbeq, i64_w, -List.length_flatten]) ?_
      refine t_gis (c := (((wholeP l0 : Nat) : Int) == 0)) (.bool false) rfl rfl rfl (by first | (rw [cZ]; rfl) | simp [cZ]) rfl rfl rfl (fun W_ hW_ F_ => by simp [go_sem, sEv, sLook, nbeq, i64_w, -List.length_flatten]) ?_
      refine t_is (.bool false) rfl rfl rfl rfl (fun W_ hW_ F_ => by first | (simp [go_sem, sEv, sLook, nbeq, i64_w, -List.length_flatten, cZ]; done) | (simp [go_sem, sEv, sLook, nbeq, i64_w, -List.length_flatten] <;> omega) | (simp [go_sem, sEv, sLook, nbeq, i64_w, -List.length_flatten]; intro h_; exact absurd (by omega) h_) | (rw [cZ]; simp [go_sem, sEv, sLook, nbeq, i64_w, -List.length_flatten]; done)) ?_
      refine t_is (.bool false) rfl rfl rfl rfl (fun W_ hW_ F_ => rfl) ?_
      refine t_gis (c := false) (.int .i64 ((wholeP l0 : Nat) : Int)) rfl rfl rfl rfl rfl rfl rfl (fun W_ hW_ F_ => rfl) ?_
      refine t_gis (c := false) (.bool false) rfl rfl rfl rfl rfl rfl rfl (fun W_ hW_ F_ => (by have cZ_ : (wholeP l0) = 0 := (by simpa using cZ); simp [go_sem, sEv, sLook, nbeq, i64_w, -List.length_flatten, cZ_])) ?_
      refine t_gis (c := false) (.bool false) rfl rfl rfl rfl rfl rfl rfl (fun W_ hW_ F_ => rfl) ?_
      refine t_off (c := false) rfl rfl rfl rfl rfl rfl ?_
      refine t_off (c := false) rfl rfl rfl rfl rfl rfl ?_
      refine t_off (c := false) rfl rfl rfl rfl rfl rfl ?_
      refine t_offu rfl rfl rfl rfl rfl ?_
      refine t_offu rfl rfl rfl rfl rfl ?_
      refine t_offu rfl rfl rfl rfl rfl ?_
      refine t_offu rfl rfl rfl rfl rfl ?_
      refine t_offu rfl rfl rfl rfl rfl ?_
      refine t_off (c := false) rfl rfl rfl rfl rfl rfl ?_
      refine t_off (c := false) rfl rfl rfl rfl rfl rfl ?_
      refine t_offu rfl rfl rfl rfl rfl ?_
      refine t_offu rfl rfl rfl rfl rfl ?_
      refine t_offu rfl rfl rfl rfl rfl ?_
      refine t_offu rfl rfl rfl rfl rfl ?_
      refine t_offu rfl rfl rfl rfl rfl ?_
      refine t_offu rfl rfl rfl rfl rfl ?_
      refine t_tail ?_
      intro w146 hb147_ F148
      have hb147 := below_of_drew hb147_
      have hs_w146 := hb147.size
      refine rw_offu rfl rfl rfl rfl rfl ?_
      refine rw_off (c := false) rfl rfl rfl rfl rfl rfl ?_
      refine rw_on (c := false) rfl rfl rfl rfl ?_
      refine rw_val (v := .bool false) (w' := w146) rfl rfl rfl rfl (by simp [go_sem, sEv, sLook, nbeq, i64_w, -List.length_flatten]) ?_
      refine rw_val (v := .bool false) (w' := w146) rfl rfl rfl rfl (by simp [go_sem, sEv, sLook, nbeq, i64_w, -List.length_flatten]) ?_
      refine rw_end ?_
      refine w_weaken (G' := [(0, .slice X0 l0.length d0), (1, .slice X1 l1.length d1), (4, .bool false), (5, .slice A12 l0.length c13), (6, .slice A19 l1.length c20), (7, .slice A33 n34 c35), (11, .slice A106 n107 c108), (12, .slice A109 n110 c111), (117, .bool false)]) ⟨rfl, rfl, rfl, rfl, rfl, rfl, rfl, rfl, rfl, trivial⟩ ?_
      refine w_cond_f rfl rfl rfl ?_
      refine w_skip ?_
      refine w_seq ?_
      refine w_region ?_
      refine rw_val (v := .slice A12 l0.length c13) (w' := w146) rfl rfl rfl rfl rfl ?_
      refine rw_val (v := .slice X0 l0.length d0) (w' := w146) rfl rfl rfl rfl rfl ?_
      refine rw_call rfl rfl rfl rfl (f := 16) (args := #[.slice A12 l0.length c13, .slice X0 l0.length d0]) (by simp [go_sem, sEv, sLook, nbeq, i64_w, -List.length_flatten]) (kept_calls w146 _ _ _ _ l0 (Kd.C_below (show (Kd.int .u8).C _ _ (l0.length + 2) (l0 ++ [165, 90]) by have h_ := Own.C hL17; simpa using h_) (chain (chain (chain (chain (chain (chain (chain (chain (chain (chain (chain (chain hB23 hb28) hB38) hB61) hB68) hb71) hb74) hb80) hB102) hb105) hB119) hB127) hb147)) (Kd.C_below (own_front hL17) (chain (chain (chain (chain (chain (chain (chain (chain (chain (chain (chain (chain hB23 hb28) hB38) hB61) hB68) hb71) hb74) hb80) hB102) hb105) hB119) hB127) hb147)) (by omega) (by omega) (Kd.C_below h0 (chain (chain (chain (chain (chain (chain (chain (chain (chain (chain (chain (chain (chain (chain (chain (chain hb2 hb5) hb11) hB16) hB23) hb28) hB38) hB61) hB68) hb71) hb74) hb80) hB102) hb105) hB119) hB127) hb147)) e0 (by omega)) ?_
      rintro e_ w149 ⟨rfl, hb150⟩
      refine ⟨_, rfl, ?_⟩
      have hs_w149 := hb150.size
      refine rw_val (v := .bool true) (w' := w149) rfl rfl rfl rfl rfl ?_
      refine rw_on (c := true) rfl rfl rfl rfl ?_
      refine rw_val (v := .slice A19 l1.length c20) (w' := w149) rfl rfl rfl rfl rfl ?_
      refine rw_on (c := true) rfl rfl rfl rfl ?_
      refine rw_val (v := .slice X1 l1.length d1) (w' := w149) rfl rfl rfl rfl rfl ?_
      refine rw_on (c := true) rfl rfl rfl rfl ?_
      refine rw_call rfl rfl rfl rfl (f := 16) (args := #[.slice A19 l1.length c20, .slice X1 l1.length d1]) (by simp [go_sem, sEv, sLook, nbeq, i64_w, -List.length_flatten]) (kept_calls w149 _ _ _ _ l1 (Kd.C_below (show (Kd.int .u8).C _ _ (l1.length + 2) (l1 ++ [165, 90]) by have h_ := Own.C hL24; simpa using h_) (chain (chain (chain (chain (chain (chain (chain (chain (chain (chain (chain (chain hb28 hB38) hB61) hB68) hb71) hb74) hb80) hB102) hb105) hB119) hB127) hb147) hb150)) (Kd.C_below (own_front hL24) (chain (chain (chain (chain (chain (chain (chain (chain (chain (chain (chain (chain hb28 hB38) hB61) hB68) hb71) hb74) hb80) hB102) hb105) hB119) hB127) hb147) hb150)) (by omega) (by omega) (Kd.C_below h1 (chain (chain (chain (chain (chain (chain (chain (chain (chain (chain (chain (chain (chain (chain (chain (chain (chain hb2 hb5) hb11) hB16) hB23) hb28) hB38) hB61) hB68) hb71) hb74) hb80) hB102) hb105) hB119) hB127) hb147) hb150)) e1 (by omega)) ?_
      rintro e_ w151 ⟨rfl, hb152⟩
      refine ⟨_, rfl, ?_⟩
      have hs_w151 := hb152.size
      refine rw_val (v := .bool true) (w' := w151) rfl rfl rfl rfl (by simp [go_sem, sEv, sLook, nbeq, i64_w, -List.length_flatten]) ?_
      refine rw_val (v := .bool true) (w' := w151) rfl rfl rfl rfl rfl ?_
      refine rw_on (c := true) rfl rfl rfl rfl ?_
      refine rw_val (v := .slice A33 n34 c35) (w' := w151) rfl rfl rfl rfl rfl ?_
      refine rw_on (c := true) rfl rfl rfl rfl ?_
      refine rw_val (v := .slice A106 n107 c108) (w' := w151) rfl rfl rfl rfl rfl ?_
      refine rw_on (c := true) rfl rfl rfl rfl ?_
      refine rw_val (v := .slice A109 n110 c111) (w' := w151) rfl rfl rfl rfl rfl ?_
      refine rw_on (c := true) rfl rfl rfl rfl ?_
      refine rw_val (v := .slice A12 l0.length c13) (w' := w151) rfl rfl rfl rfl rfl ?_
      refine rw_on (c := true) rfl rfl rfl rfl ?_
      refine rw_val (v := .slice A19 l1.length c20) (w' := w151) rfl rfl rfl rfl rfl ?_
      refine rw_on (c := true) rfl rfl rfl rfl ?_
      refine rw_new (cs := #[.slice A33 n34 c35, .slice A106 n107 c108, .slice A109 n110 c111, .slice A12 l0.length c13, .slice A19 l1.length c20]) (t := 22) (fun g => .slice (some ⟨g, 0, none⟩) 5 5) rfl rfl rfl rfl (by kernel_rfl) ?_
      intro g153 w154 hg158 hz157 hb155 hk156
      have hs_w154 := hb155.size
      refine rw_on (c := true) rfl rfl rfl rfl ?_
      have hfn_ := hL39.len
      have hfb_ := frameB_le (l0 ++ l1)
      have hun_ := hL120.len
      have hur_ := hL121.len
      have hul_ := UN_len l0
      have hrl_ := UR_len l0
      refine rw_call rfl rfl rfl rfl (f := 18) (args := #[.slice (some ⟨g153, 0, none⟩) 5 5]) (by simp [go_sem, sEv, sLook, nbeq, i64_w, -List.length_flatten]) (apart_five (t1 := w14.heap.size) (t2 := w21.heap.size) (t3 := w36.heap.size) (t4 := m112) (chain (chain (chain (chain (chain (chain (chain (chain (chain (chain (chain (chain (chain (chain (chain (chain (chain (chain (chain hb2 hb5) hb11) hB16) hB23) hb28) hB38) hB61) hB68) hb71) hb74) hb80) hB102) hb105) hB119) hB127) hb147) hb150) hb152) hb155) hk156 (own_head (Own.mono (hL17.on (chain (chain (chain (chain (chain (chain (chain (chain (chain (chain (chain (chain (chain (chain (chain hB23 hb28) hB38) hB61) hB68) hb71) hb74) hb80) hB102) hb105) hB119) hB127) hb147) hb150) hb152) hb155)) (by omega))) (fun q hq => (Kd.R_bound (own_head hL17)).1 q hq |>.2.2.1) (own_head (Own.mono (hL24.on (chain (chain (chain (chain (chain (chain (chain (chain (chain (chain (chain (chain (chain (chain hb28 hB38) hB61) hB68) hb71) hb74) hb80) hB102) hb105) hB119) hB127) hb147) hb150) hb152) hb155)) (by omega))) (fun q hq => (Kd.R_bound (own_head hL24)).1 q hq |>.2.2.1) (Own.mono (hL39.on (chain (chain (chain (chain (chain (chain (chain (chain (chain (chain (chain (chain hB61 hB68) hb71) hb74) hb80) hB102) hb105) hB119) hB127) hb147) hb150) hb152) hb155)) (by omega)) (fun q hq => (Kd.R_bound hL39).1 q hq |>.2.2.1) (Own.mono (hL120.on (chain (chain (chain (chain hB127 hb147) hb150) hb152) hb155)) (by omega)) hu116 (hL121.on (chain (chain (chain (chain hB127 hb147) hb150) hb152) hb155)) (by omega) (by omega) (by omega) (by omega) (by omega) (by omega) (by omega) (by omega)) ?_
      rintro e_ w159 ⟨rfl, hB160⟩
      refine ⟨_, rfl, ?_⟩
      refine rw_val (v := .bool true) (w' := w159) rfl rfl rfl rfl (by simp [go_sem, sEv, sLook, nbeq, i64_w, -List.length_flatten]) ?_
      refine rw_val (v := .bool true) (w' := w159) rfl rfl rfl rfl rfl ?_
      refine rw_end ?_
      refine w_weaken (G' := [(4, .bool true)]) ⟨rfl, trivial⟩ ?_
      refine w_ret (post_ret1 rfl rfl ?_)
      exact ⟨rfl, hB160⟩
end Go.Proofs.Ytjndoihnpnmbjaa.PFrameSums
