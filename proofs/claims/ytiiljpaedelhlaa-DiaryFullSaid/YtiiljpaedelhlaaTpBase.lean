/- A tape's state, and what lies in memory of it. -/
import Derived.Test.YtiiljpaedelhlaaFlowK
import Derived.Test.YtiiljpaedelhlaaProg
namespace Go.Proofs.Ytiiljpaedelhlaa.Tp
open Go.RowKit Go.Proofs.YtiiljpaedelhlaaW.PrintWords Go.Proofs.YtiiljpaedelhlaaW.PrintLast Go.Proofs.YtiiljpaedelhlaaW.PrintMore
open Go.Proofs.Ytiiljpaedelhlaa.Flow
set_option linter.unusedVariables false
set_option linter.unusedSimpArgs false
theorem u64_wrap (x : Int) : IntKind.u64.wrap x = x % 18446744073709551616 := by simp [IntKind.wrap, IntKind.bits, IntKind.signed] <;> omega
theorem u8_wrap (x : Int) (h0 : 0 ≤ x) (h1 : x < 256) : IntKind.u8.wrap x = x := by simp [IntKind.wrap, IntKind.bits, IntKind.signed] <;> omega
theorem wrap_id {x : Int} (h1 : -9223372036854775808 ≤ x) (h2 : x ≤ 9223372036854775807) : wrap64 x = x := by unfold wrap64; omega
theorem info5 : (Try.prog.info? 5).map (fun i => (i.zero, i.size, i.bytes)) = some (some (.int .u8 0), 1, 1) := by kernel_rfl
/-- An error as a number. -/
def errT : Option Int → Value
  | none => .nilIface
  | some c => .iface 50 (.int .i64 c)
theorem run_err_neq (o : Option Int) (w : World) : (binOp .neq 29 (errT o) .nilIface).run Try.prog w = .ok (.bool o.isSome) w := by
  cases o with
  | none => kernel_rfl
  | some c => kernel_rfl
theorem int_step (d : Nat) (a b : Int) (w : World) : (Op.equalIn (d + 1) 50 (.int .i64 a) (.int .i64 b)).run Try.prog w = .ok (a == b) w := by
  simp [Op.equalIn, run_underlying Try.underlying50]
theorem run_err_eql (o : Option Int) (c : Int) (w : World) : (binOp .eql 29 (errT o) (.iface 50 (.int .i64 c))).run Try.prog w = .ok (.bool (decide (o = some c))) w := by
  cases o with
  | none =>
    have h : (binOp .eql 29 .nilIface (.iface 50 (.int .i64 c))).run Try.prog w = .ok (.bool false) w := by kernel_rfl
    have e : decide ((none : Option Int) = some c) = false := by simp
    rw [e]
    exact h
  | some d =>
    have e : decide (some d = some c) = (d == c) := by
      rw [Bool.eq_iff_iff]
      simp
    rw [e]
    have h1 := int_step 9998 d c w
    have h2 : (Op.equalIn Op.maxDepth 29 (errT (some d)) (.iface 50 (.int .i64 c))).run Try.prog w = .ok (d == c) w := h1
    simp only [errT] at h2 ⊢
    simp [binOp, Op.equal, h2]
theorem guard_err_neq (t : Nat) (o : Option Int) (w : World) : (do eqGuard .neq 29 (.tmp t) (.const .nilIface) (errT o) .nilIface; binOp .neq 29 (errT o) .nilIface : Sem Value).run Try.prog w = .ok (.bool o.isSome) w := by
  have h := run_err_neq o w
  cases o with
  | none => simpa [eqGuard, errT] using h
  | some c => simpa [eqGuard, errT] using h
theorem guard_err_eql (t u : Nat) (o : Option Int) (c : Int) (w : World) : (do eqGuard .eql 29 (.tmp t) (.tmp u) (errT o) (.iface 50 (.int .i64 c)); binOp .eql 29 (errT o) (.iface 50 (.int .i64 c)) : Sem Value).run Try.prog w = .ok (.bool (decide (o = some c))) w := by
  have h := run_err_eql o c w
  cases o with
  | none => simpa [eqGuard, errT] using h
  | some c => simpa [eqGuard, errT] using h
theorem ptr_step {t e : TypeId} (ht : Try.prog.underlying t = some (.pointer e)) (d : Nat) (a : Option Addr) (w : World) : (Op.equalIn (d + 1) t (.pointer a) (.pointer none)).run Try.prog w = .ok a.isNone w := by
  cases a with
  | none => simp [Op.equalIn, run_underlying ht]
  | some a => simp [Op.equalIn, run_underlying ht]
theorem run_ptr_eql {t e : TypeId} (ht : Try.prog.underlying t = some (.pointer e)) (a : Option Addr) (w : World) : (binOp .eql t (.pointer a) (.pointer none)).run Try.prog w = .ok (.bool a.isNone) w := by
  have h2 : (Op.equalIn Op.maxDepth t (.pointer a) (.pointer none)).run Try.prog w = .ok a.isNone w := ptr_step ht 9999 a w
  simp [binOp, Op.equal, h2]
theorem run_ptr_neq {t e : TypeId} (ht : Try.prog.underlying t = some (.pointer e)) (a : Option Addr) (w : World) : (binOp .neq t (.pointer a) (.pointer none)).run Try.prog w = .ok (.bool (!a.isNone)) w := by
  have h2 : (Op.equalIn Op.maxDepth t (.pointer a) (.pointer none)).run Try.prog w = .ok a.isNone w := ptr_step ht 9999 a w
  simp [binOp, Op.equal, h2]
/-- The state. -/
structure TS where
  xs : List Int
  sure : Int
  steps : Int
  ps : Bool
  pl : Int
  fs : Bool
  fl : Int
  dn : Bool
def TS.start : TS := ⟨[], 0, 0, false, 0, false, 0, false⟩
/-- A trap one step nearer. -/
def duel (s : Bool) (l : Int) : Int := if s && !(l == 0) then l - 1 else l
def TS.err (s : TS) : Option Int := if s.dn then some 5 else if s.ps && (s.pl == 0) then some 5 else if s.fs && (s.fl == 0) then some 6 else none
def TS.next (s : TS) : TS :=
  if s.dn then s else if s.ps && (s.pl == 0) then { s with dn := true }
  else if s.fs && (s.fl == 0) then { s with pl := duel s.ps s.pl, steps := s.steps + 1, fs := false, fl := 0 }
  else { s with pl := duel s.ps s.pl, steps := s.steps + 1, fl := duel s.fs s.fl }
structure TS.Ok (s : TS) : Prop where
  steps : 0 ≤ s.steps ∧ s.steps ≤ 1000000000
  pl : 0 ≤ s.pl ∧ s.pl ≤ 9223372036854775807
  fl : 0 ≤ s.fl ∧ s.fl ≤ 9223372036854775807
  sure : 0 ≤ s.sure ∧ s.sure ≤ s.xs.length
  len : s.xs.length ≤ 1048576
def tcells (A : Option Addr) (n c : Nat) (s : TS) : Array Value := #[.slice A n c, .int .i64 s.sure, .int .i64 s.steps, .bool s.ps, .int .i64 s.pl, .bool s.fs, .int .i64 s.fl, .bool s.dn]
/-- The tape lies in the block g of a world behind w0; its bytes' block is younger than it, older than m. -/
def TapeAt (w0 w : World) (g m : Nat) (x : Nat → Prop) (s : TS) : Prop :=
  Below w0.heap.size w0 w ∧ w0.heap.size ≤ g ∧ (g < m ∧ m ≤ w.heap.size) ∧ ∃ A n c, Blk w g 76 (tcells A n c s) ∧ BR .u8 5 w w0.heap.size (fun q => g < q ∧ q < m ∧ ¬ x q) A n c s.xs
theorem TapeAt.mk {w0 w : World} {g : Nat} {x : Nat → Prop} {s : TS} {A : Option Addr} {n c : Nat} {ok : Nat → Prop} (hB : Below w0.heap.size w0 w) (hg : w0.heap.size ≤ g) (hb : Blk w g 76 (tcells A n c s)) (hR : BR .u8 5 w w0.heap.size ok A n c s.xs) (hok : ∀ q, ok q → g < q ∧ ¬ x q) : TapeAt w0 w g w.heap.size x s :=
  ⟨hB, hg, ⟨hb.lt, Nat.le_refl _⟩, A, n, c, hb, BR.mono (BR.bound hR) (fun q hq => ⟨(hok q hq.1).1, hq.2.2, (hok q hq.1).2⟩)⟩
theorem TapeAt.mkm {w0 w : World} {g m : Nat} {x : Nat → Prop} {s : TS} {A : Option Addr} {n c : Nat} {ok : Nat → Prop} (hB : Below w0.heap.size w0 w) (hg : w0.heap.size ≤ g) (hb : Blk w g 76 (tcells A n c s)) (hR : BR .u8 5 w w0.heap.size ok A n c s.xs) (hok : ∀ q, ok q → g < q ∧ q < m ∧ ¬ x q) (hm : g < m ∧ m ≤ w.heap.size) : TapeAt w0 w g m x s :=
  ⟨hB, hg, hm, A, n, c, hb, BR.mono hR (fun q hq => hok q hq)⟩
theorem TapeAt.on {w0 w w' : World} {g m : Nat} {x : Nat → Prop} {s : TS} (h : TapeAt w0 w g m x s) (hb : Below w.heap.size w w') : TapeAt w0 w' g m x s := by
  obtain ⟨h1, h2, h3, A, n, c, h4, h5⟩ := h
  exact ⟨h1.trans (hb.mono h1.size), h2, ⟨h3.1, Nat.le_trans h3.2 hb.size⟩, A, n, c, h4.on hb, BR.below h5 hb⟩
theorem duel_ok (s : Bool) (l : Int) (h : 0 ≤ l ∧ l ≤ 9223372036854775807) : 0 ≤ duel s l ∧ duel s l ≤ 9223372036854775807 := by
  unfold duel
  split
  · rename_i h2
    simp at h2
    omega
  · exact h
theorem TS.next_xs (s : TS) : s.next.xs = s.xs := by
  unfold TS.next
  split
  · rfl
  · split
    · rfl
    · split <;> rfl
theorem TS.next_sure (s : TS) : s.next.sure = s.sure := by
  unfold TS.next
  split
  · rfl
  · split
    · rfl
    · split <;> rfl
def TS.repE (s : TS) (ys : List Int) : Option Int := if 1048576 < ys.length then some 7 else s.err
def TS.rep (s : TS) (ys : List Int) : TS := if 1048576 < ys.length then s else if s.err.isSome then s.next else { s.next with xs := ys, sure := (ys.length : Int) }
def TS.appE (s : TS) (ys : List Int) : Option Int := if 1048576 < s.xs.length + ys.length then some 7 else s.err
def TS.app (s : TS) (ys : List Int) : TS := if 1048576 < s.xs.length + ys.length then s else if s.err.isSome then s.next else { s.next with xs := s.xs ++ ys }
def TS.left (s : TS) (k : Int) : Int := min (max k 0) ((s.xs.length : Int) - s.sure)
def TS.crash (s : TS) (k : Int) : TS := ⟨s.xs.take (s.sure + s.left k).toNat, ((s.xs.take (s.sure + s.left k).toNat).length : Int), s.steps, false, 0, false, 0, false⟩
def rd_L2 (xs : List (List Int)) (i : Int) : (List Int) := xs.getD i.toNat ([] : List Int)
theorem at_L2 {w : World} {A : Option Addr} {n : Nat} {xs : List (List Int)} (h : Kd.C (Kd.slice 5 (Kd.int .u8)) w A n xs) (i : Int) (h0 : 0 ≤ i) (h1 : i < n) : ∃ ad A0 c0, A = some ad ∧ w.cell? (ad.add i.toNat) = some (.slice A0 (rd_L2 xs i).length c0) ∧ (rd_L2 xs i).length ≤ c0 ∧ (Kd.int .u8).C w A0 (rd_L2 xs i).length (rd_L2 xs i) := by
  obtain ⟨ad, c, e, _, hK, hc0⟩ := Kd.C_get h ([] : List Int) i h0 h1
  have hc : ∀ j u, c[j]? = some u → w.cell? (ad.add (i.toNat * 1 + j)) = some u := hc0
  obtain ⟨A0, c0, rfl, l0, g0⟩ := hK
  exact ⟨ad, A0, c0, e, by have hq := hc 0 _ rfl; rwa [Nat.mul_one, Nat.add_zero] at hq, l0, g0⟩
theorem rd_L2_at (ps : List (List Int)) (j : Nat) (h : j < ps.length) : rd_L2 ps (j : Int) = ps[j] := by
  unfold rd_L2
  rw [List.getD_eq_getElem?_getD, show ((j : Int)).toNat = j by omega, List.getElem?_eq_getElem h]
  rfl
theorem take_flat (ps : List (List Int)) (i : Nat) (h : i < ps.length) : (ps.take (i + 1)).flatten = (ps.take i).flatten ++ rd_L2 ps (i : Int) := by
  rw [List.take_succ_eq_append_getElem h, rd_L2_at ps i h, List.flatten_append]
  simp only [List.flatten_cons, List.flatten_nil, List.append_nil]
theorem take_len (ps : List (List Int)) (i : Nat) (h : i < ps.length) : ((ps.take (i + 1)).flatten).length = ((ps.take i).flatten).length + (rd_L2 ps (i : Int)).length := by
  rw [take_flat ps i h, List.length_append]
theorem take_le (ps : List (List Int)) (i : Nat) : ((ps.take i).flatten).length ≤ ps.flatten.length := by
  have h : ps.flatten = (ps.take i).flatten ++ (ps.drop i).flatten := by rw [← List.flatten_append, List.take_append_drop]
  rw [h]
  simp
theorem rd_L2_mem (ps : List (List Int)) (i : Nat) (h : i < ps.length) : rd_L2 ps (i : Int) ∈ ps := by
  rw [rd_L2_at ps i h]
  exact List.getElem_mem h
end Go.Proofs.Ytiiljpaedelhlaa.Tp
