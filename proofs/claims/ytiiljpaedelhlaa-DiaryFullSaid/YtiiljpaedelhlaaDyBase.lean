/- A diary's state, and what lies in memory of it. -/
import Derived.Test.YtiiljpaedelhlaaTpOps5
import Derived.Test.YtiiljpaedelhlaaFrSplit
import Derived.Test.YtiiljpaedelhlaaFlowT
namespace Go.Proofs.Ytiiljpaedelhlaa.Tp
open Go.RowKit Go.Proofs.YtiiljpaedelhlaaW.PrintWords Go.Proofs.YtiiljpaedelhlaaW.PrintLast Go.Proofs.YtiiljpaedelhlaaW.PrintMore
open Go.Proofs.Ytiiljpaedelhlaa.Flow
open Go.Proofs.Ytiiljpaedelhlaa.PDiaryPlays (SplitR Bytes frameB frameE FC wholeP errW wrap_calls split_calls frameB_len frameB_bytes)
set_option linter.unusedVariables false
set_option linter.unusedSimpArgs false
theorem errW_T (o : Option Int) : errW o = errT o := by cases o <;> rfl
theorem run_err_eq0 (o : Option Int) (w : World) : (binOp .eql 29 (errT o) .nilIface).run Try.prog w = .ok (.bool o.isNone) w := by
  cases o with
  | none => kernel_rfl
  | some c => kernel_rfl
theorem guard_err_eq0 (t : Nat) (o : Option Int) (w : World) : (do eqGuard .eql 29 (.tmp t) (.const .nilIface) (errT o) .nilIface; binOp .eql 29 (errT o) .nilIface : Sem Value).run Try.prog w = .ok (.bool o.isNone) w := by
  have h := run_err_eq0 o w
  cases o with
  | none => simpa [eqGuard, errT] using h
  | some c => simpa [eqGuard, errT] using h
theorem crash_T (w0 w : World) (g m : Nat) (x : Nat → Prop) (hx : ∀ q, x q → q < w.heap.size) (s : TS) (hT : TapeAt w0 w g m x s) (hok : s.Ok) (k : Int) : Calls Try.prog 22 #[.pointer (some ⟨g, 0, none⟩), .int .i64 k] w fun e w' => e = .returned (.tuple #[]) ∧ TapeAt w0 w' g w'.heap.size x (s.crash k) ∧ w.heap.size ≤ w'.heap.size ∧ (∀ q, x q → q ≠ g → w'.heap[q]? = w.heap[q]?) := by
  obtain ⟨hB, hg0, hm, A, n, c, hb, hR⟩ := hT
  exact crash_raw w0 w g m x hx s A n c hB hg0 hm hb hR hok k
/-- Another hole. -/
theorem TapeAt.hole {w0 w : World} {g m : Nat} {x : Nat → Prop} {s : TS} (h : TapeAt w0 w g m x s) (y : Nat → Prop) (hy : ∀ q, g < q → q < m → ¬ x q → ¬ y q) : TapeAt w0 w g m y s := by
  obtain ⟨h1, h2, h3, A, n, c, h4, h5⟩ := h
  exact ⟨h1, h2, h3, A, n, c, h4, BR.mono h5 (fun q hq => ⟨hq.1, hq.2.1, hy q hq.1 hq.2.1 hq.2.2⟩)⟩
/-- One hole more, and those that were. -/
def HX (gd : Nat) (x : Nat → Prop) : Nat → Prop := fun q => q = gd ∨ x q
/-- A hole and an interval. -/
def HI (gd lo hi : Nat) : Nat → Prop := fun q => q = gd ∨ (lo ≤ q ∧ q < hi)
theorem HX.lt {gd n : Nat} {x : Nat → Prop} (h1 : gd < n) (h2 : ∀ q, x q → q < n) : ∀ q, HX gd x q → q < n := fun q h => h.elim (fun e => e ▸ h1) (h2 q)
theorem HI.lt {gd lo hi n : Nat} (h1 : gd < n) (h2 : hi ≤ n) : ∀ q, HI gd lo hi q → q < n := fun q h => h.elim (fun e => e ▸ h1) (fun h => Nat.lt_of_lt_of_le h.2 h2)
theorem TapeAt.holeX {w0 w : World} {g m : Nat} {x : Nat → Prop} {s : TS} (h : TapeAt w0 w g m x s) {gd : Nat} (hgd : m ≤ gd) : TapeAt w0 w g m (HX gd x) s := h.hole _ (fun q h1 h2 h3 h4 => h4.elim (fun e => by omega) h3)
/-- The block in the hole is written. -/
theorem TapeAt.beside {w0 w w' : World} {g m z : Nat} {x : Nat → Prop} {s : TS} (h : TapeAt w0 w g m x s) (k : Keep z w w') (hxz : x z) (hxg : z ≠ g) (hx : w0.heap.size ≤ z) : TapeAt w0 w' g m x s := by
  obtain ⟨h1, h2, h3, A, n, c, h4, h5⟩ := h
  exact ⟨k.below hx h1, h2, ⟨h3.1, by rw [k.size]; exact h3.2⟩, A, n, c, h4.keep k (Ne.symm hxg), BR.step h5 (fun q hq _ => k.block q (fun e => hq.2.2 (e ▸ hxz)))⟩
theorem TapeAt.size {w0 w : World} {g m : Nat} {x : Nat → Prop} {s : TS} (h : TapeAt w0 w g m x s) : w0.heap.size ≤ g ∧ g < m ∧ m ≤ w.heap.size := ⟨h.2.1, h.2.2.1.1, h.2.2.1.2⟩
theorem ownK_kept {α : Type} {d : Kd α} {e : TypeId} {w : World} {base b : Nat} {A : Option Addr} {n c : Nat} {xs : List α} {S : Nat → Prop} (h : OwnK d e w base b A n c xs) (hS : ∀ q, b ≤ q → ¬ S q) : ∀ W_, Kept w W_ S → d.C W_ A xs.length xs := fun W_ hk => OwnK.C (h.step (fun q hq hlt => hk.2 q hlt (hS q hq)) : OwnK d e W_ base b A n c xs)
theorem Blk.keptT {w w' : World} {g t : Nat} {cs : Array Value} {S : Nat → Prop} (h : Blk w g t cs) (hk : Kept w w' S) (hS : ¬ S g) : Blk w' g t cs := (hk.2 g h.lt hS).trans h
theorem rowsK1 {k : IntKind} {e t : TypeId} {w : World} {g : Nat} {A1 : Option Addr} {c1 : Nat} {x1 : List Int} {S : Nat → Prop} (hb : Blk w g t #[.slice A1 x1.length c1]) (hS : ¬ S g) (h1 : x1.length ≤ c1) (f1 : ∀ W_, Kept w W_ S → (Kd.int k).C W_ A1 x1.length x1) : ∀ W_, Kept w W_ S → (Kd.slice e (Kd.int k)).C W_ (some ⟨g, 0, none⟩) [x1].length [x1] := fun W_ hk => rows1 (Blk.keptT hb hk hS) h1 (f1 W_ hk)
/-- The diary: its tape's state, its rows, their bytes. -/
structure DS where
  s : TS
  r : Int
  b : Int
def dcells (g : Nat) (r b : Int) : Array Value := #[.pointer (some ⟨g, 0, none⟩), .int .i64 r, .int .i64 b]
def DiaryAt (w0 w : World) (g gd m : Nat) (x : Nat → Prop) (D : DS) : Prop := TapeAt w0 w g m x D.s ∧ Blk w gd 80 (dcells g D.r D.b) ∧ gd ≠ g ∧ w0.heap.size ≤ gd ∧ x gd
theorem DiaryAt.on {w0 w w' : World} {g gd m : Nat} {x : Nat → Prop} {D : DS} (h : DiaryAt w0 w g gd m x D) (hb : Below w.heap.size w w') : DiaryAt w0 w' g gd m x D := ⟨h.1.on hb, h.2.1.on hb, h.2.2⟩
/-- What Add answers, and what is there behind it. -/
def DS.add1E (D : DS) (row : List Int) : Option Int := if (D.s.appE (frameB row)).isNone then (D.s.app (frameB row)).err else D.s.appE (frameB row)
def DS.add1S (D : DS) (row : List Int) : TS := if (D.s.appE (frameB row)).isNone then (D.s.app (frameB row)).sync else D.s.app (frameB row)
def DS.addE (D : DS) (row : List Int) : Option Int := if (frameE row).isSome then frameE row else D.add1E row
def DS.add (D : DS) (row : List Int) : DS := if (frameE row).isSome then D else if (D.add1E row).isSome then { D with s := (D.add1S row).cut } else ⟨D.add1S row, D.r + 1, D.b + ((frameB row).length : Int)⟩
def rwFull (rows : List (List Int)) : Bool := rows.any (fun r => decide (16376 < r.length)) || decide (1048576 < (FC rows).length)
def DS.rwE (D : DS) (rows : List (List Int)) : Option Int := if rwFull rows then some 7 else D.s.repE (FC rows)
def DS.rw (D : DS) (rows : List (List Int)) : DS := if rwFull rows then D else if (D.s.repE (FC rows)).isSome then { D with s := D.s.rep (FC rows) } else ⟨D.s.rep (FC rows), (rows.length : Int), ((FC rows).length : Int)⟩
def openE (s : TS) (n : Nat) : Option Int := if s.dn then some 5 else if n < s.xs.length then s.repE (s.xs.take n) else none
def openS (s : TS) (n : Nat) : TS := if s.dn then s else if n < s.xs.length then s.rep (s.xs.take n) else s
theorem wrap_one (w : World) (A0 : Option Addr) (c0 : Nat) (row : List Int) (hP : (Kd.slice 5 (Kd.int .u8)).C w A0 [row].length [row]) (hc0 : 1 ≤ c0) (hl : row.length ≤ 140737488355328) :
    Calls Try.prog 38 #[.slice A0 1 c0] w fun e w' => ∃ A' c', e = .returned (.tuple #[.slice A' (frameB row).length c', errT (frameE row)]) ∧ OwnK (Kd.int .u8) 5 w' w.heap.size w.heap.size A' (frameB row).length c' (frameB row) ∧ Below w.heap.size w w' := by
  have h := wrap_calls w A0 c0 [row] hP hc0 (by simp) (by simpa using hl)
  have e1 : ([row] : List (List Int)).flatten = row := by simp
  rw [e1, errW_T] at h
  refine h.mono fun e w' he => ?_
  obtain ⟨A', n', c', h1, h2, h3⟩ := he
  have h4 := h2.len
  subst h4
  exact ⟨A', c', h1, h2, h3⟩
end Go.Proofs.Ytiiljpaedelhlaa.Tp
