/- The document's tape in a block of its own, beside the tape: what both hold, in lists. -/
import Derived.Test.YtpbpeklbmmbigaaTpSide
namespace Go.Proofs.Ytpbpeklbmmbigaa.Tp
open Go.RowKit Go.Proofs.YtpbpeklbmmbigaaW.PrintWords Go.Proofs.YtpbpeklbmmbigaaW.PrintLast Go.Proofs.YtpbpeklbmmbigaaW.PrintMore
open Go.Proofs.Ytpbpeklbmmbigaa.Flow
set_option linter.unusedVariables false
set_option linter.unusedSimpArgs false
/-! ### Blocks that a call may write -/
/-- The blocks of a tape: its own, and those in its interval but the holes. -/
def SX (g m : Nat) (x : Nat → Prop) : Nat → Prop := fun q => q = g ∨ (g < q ∧ q < m ∧ ¬ x q)
/-- All others. -/
def XX (g m : Nat) (x : Nat → Prop) (n : Nat) : Nat → Prop := fun q => q < n ∧ ¬ SX g m x q
theorem TapeAt.toX {w0 w : World} {g m : Nat} {x : Nat → Prop} {s : TS} (h : TapeAt w0 w g m x s) (n : Nat) : TapeAt w0 w g m (XX g m x n) s := h.hole _ (fun q h1 h2 h3 h4 => h4.2 (.inr ⟨h1, h2, h3⟩))
theorem TapeAt.fromX {w0 w : World} {g m m' n : Nat} {x y : Nat → Prop} {s : TS} (h : TapeAt w0 w g m' (XX g m x n) s) (hy : ∀ q, y q → q < n ∧ q ≠ g ∧ (x q ∨ m ≤ q)) : TapeAt w0 w g m' y s := h.hole _ (fun q h1 h2 h3 h4 => h3 ⟨(hy q h4).1, fun hs => hs.elim (hy q h4).2.1 (fun hs => (hy q h4).2.2.elim hs.2.2 (fun hm => by omega))⟩)
theorem kept_X {w w' : World} {g m : Nat} {x : Nat → Prop} (hs : w.heap.size ≤ w'.heap.size) (hx : ∀ q, XX g m x w.heap.size q → q ≠ g → w'.heap[q]? = w.heap[q]?) : Kept w w' (SX g m x) := ⟨hs, fun i hi hn => hx i ⟨hi, hn⟩ (fun e => hn (.inl e))⟩
/-- One block has been written, others made. -/
structure Grow (u : Nat) (w w' : World) : Prop where
  os : w'.os = w.os
  tape : w'.tape = w.tape
  output : w'.output = w.output
  size : w.heap.size ≤ w'.heap.size
  block : ∀ k, k < w.heap.size → k ≠ u → w'.heap[k]? = w.heap[k]?
theorem Grow.refl (u : Nat) (w : World) : Grow u w w := ⟨rfl, rfl, rfl, Nat.le_refl _, fun _ _ _ => rfl⟩
theorem Grow.trans {u : Nat} {w w' w'' : World} (h : Grow u w w') (k : Grow u w' w'') : Grow u w w'' := ⟨k.os.trans h.os, k.tape.trans h.tape, k.output.trans h.output, Nat.le_trans h.size k.size, fun i hi hn => (k.block i (Nat.lt_of_lt_of_le hi h.size) hn).trans (h.block i hi hn)⟩
theorem Grow.ofB {u : Nat} {w w' : World} (h : Below w.heap.size w w') : Grow u w w' := ⟨h.os, h.tape, h.output, h.size, fun k hk _ => h.block k hk⟩
theorem Grow.ofK {u : Nat} {w w' : World} (h : Keep u w w') : Grow u w w' := ⟨h.os, h.tape, h.output, by rw [h.size]; exact Nat.le_refl _, fun k _ hn => h.block k hn⟩
theorem Grow.below {u : Nat} {w0 w w' : World} (h : Grow u w w') (hu : w0.heap.size ≤ u) (hb : Below w0.heap.size w0 w) : Below w0.heap.size w0 w' := ⟨h.os.trans hb.os, h.tape.trans hb.tape, h.output.trans hb.output, Nat.le_trans hb.size h.size, fun k hk => (h.block k (Nat.lt_of_lt_of_le hk hb.size) (by omega)).trans (hb.block k hk)⟩
theorem Blk.grow {w w' : World} {g u t : Nat} {cs : Array Value} (h : Blk w g t cs) (k : Grow u w w') (hne : g ≠ u) : Blk w' g t cs := (k.block g h.lt hne).trans h
theorem TapeAt.grow {w0 w w' : World} {g m u : Nat} {x : Nat → Prop} {s : TS} (h : TapeAt w0 w g m x s) (k : Grow u w w') (hxu : x u) (hug : u ≠ g) (hu : w0.heap.size ≤ u) : TapeAt w0 w' g m x s := by
  obtain ⟨h1, h2, h3, A, n, c, h4, h5⟩ := h
  exact ⟨k.below hu h1, h2, ⟨h3.1, Nat.le_trans h3.2 k.size⟩, A, n, c, Blk.grow h4 k (Ne.symm hug), BR.step h5 (fun q hq hlt => k.block q hlt (fun e => hq.2.2 (e ▸ hxu)))⟩
theorem TapeAt.kept {w0 w w' : World} {g m : Nat} {x : Nat → Prop} {s : TS} (h : TapeAt w0 w g m x s) : Below w0.heap.size w0 w := h.1
/-! ### Strings -/
theorem rd_at (l : List Int) (i : Nat) (h : i < l.length) : rd l (i : Int) = l[i] := by
  unfold rd
  rw [List.getD_eq_getElem?_getD, show ((i : Int)).toNat = i by omega, List.getElem?_eq_getElem h]
  rfl
theorem strOfNums_app (xs ys : List Int) : strOfNums (xs ++ ys) = strOfNums xs ++ strOfNums ys := by
  apply ByteArray.ext
  simp [strOfNums]
theorem run_str_add {t : TypeId} (a b : List Int) (h : a.length + b.length ≤ 9223372036854775807) (w : World) : (binOp .add t (.string (strOfNums a)) (.string (strOfNums b))).run Try.prog w = .ok (.string (strOfNums (a ++ b))) w := by
  have h1 : (strOfNums a).size + (strOfNums b).size ≤ 9223372036854775807 := by rw [strOfNums_size, strOfNums_size]; exact h
  rw [strOfNums_app]
  simp [go_sem]
  omega
theorem str_extract (xs : List Int) (k : Nat) : (strOfNums xs).extract 0 k = strOfNums (xs.take k) := by
  apply ByteArray.ext
  simp [strOfNums, ByteArray.data_extract, List.map_take, List.extract_toArray, List.extract_eq_take_drop]
theorem str_to {t : TypeId} (hu : Try.prog.underlying t = some .string) (xs : List Int) (x : Int) (h0 : 0 ≤ x) (h1 : x ≤ xs.length) (w : World) : (Instr.sliceAt t (.string (strOfNums xs)) none (some (.int .i64 x)) none).run Try.prog w = .ok (.string (strOfNums (xs.take x.toNat))) w := by
  have h2 : x ≤ ((strOfNums xs).size : Int) := by rw [strOfNums_size]; exact h1
  rw [← str_extract]
  simp [go_sem, hu, h0, h2]
/-! ### The document's tape -/
structure RS where
  S : List Int
  R : List Int
  st : Int
  a : Bool
  b : Bool
  l : Int
  u : Int
  d : Bool
structure RS.Ok (r : RS) : Prop where
  st : 0 ≤ r.st ∧ r.st ≤ 1000000000
  l : 0 ≤ r.l ∧ r.l ≤ 9223372036854775807
  u : 0 ≤ r.u ∧ r.u ≤ 9223372036854775807
  len : r.S.length + r.R.length ≤ 1048576
def rcells (r : RS) : Array Value := #[.string (strOfNums r.S), .string (strOfNums r.R), .int .i64 r.st, .bool r.a, .bool r.b, .int .i64 r.l, .int .i64 r.u, .bool r.d]
def RS.err (r : RS) : Int := if r.d then 5 else if r.a && (r.l == 0) then 5 else if r.b && (r.u == 0) then 6 else 0
def RS.next (r : RS) : RS :=
  if r.d then r else if r.a && (r.l == 0) then { r with d := true }
  else if r.b && (r.u == 0) then { r with l := duel r.a r.l, st := r.st + 1, b := false }
  else { r with l := duel r.a r.l, st := r.st + 1, u := duel r.b r.u }
def RS.appE (r : RS) (ys : List Int) : Int := if 1048576 < r.S.length + r.R.length + ys.length then 7 else r.err
def RS.app (r : RS) (ys : List Int) : RS := if 1048576 < r.S.length + r.R.length + ys.length then r else if r.err == 0 then { r.next with R := r.next.R ++ ys } else r.next
def RS.sync (r : RS) : RS := if r.err == 0 then { r.next with S := r.next.S ++ r.next.R, R := [] } else r.next
def RS.repE (r : RS) (ys : List Int) : Int := if 1048576 < ys.length then 7 else r.err
def RS.rep (r : RS) (ys : List Int) : RS := if 1048576 < ys.length then r else if r.err == 0 then { r.next with S := ys, R := [] } else r.next
def RS.cut (r : RS) : RS := if r.d then r else { r with R := [] }
def RS.left (r : RS) (k : Int) : Nat := min k.toNat r.R.length
def RS.crash (r : RS) (k : Int) : RS := { r with S := r.S ++ r.R.take (r.left k), R := [], a := false, b := false, d := false }
theorem RS.next_SR (r : RS) : r.next.S = r.S ∧ r.next.R = r.R := by
  unfold RS.next
  split
  · exact ⟨rfl, rfl⟩
  · split
    · exact ⟨rfl, rfl⟩
    · split <;> exact ⟨rfl, rfl⟩
theorem RS.next_ok {r : RS} (h : r.Ok) (h9 : r.st ≤ 999999999) : r.next.Ok := by
  obtain ⟨a, b, c, e⟩ := h
  have p1 := duel_ok r.a r.l b
  have p2 := duel_ok r.b r.u c
  unfold RS.next
  split <;> (try split) <;> (try split) <;> exact ⟨⟨by (try simp only); omega, by (try simp only); omega⟩, by first | exact b | exact p1, by first | exact c | exact p2, e⟩
/-- Both hold the same. -/
structure Rel (s : TS) (r : RS) : Prop where
  S : r.S = s.xs.take s.sure.toNat
  R : r.R = s.xs.drop s.sure.toNat
  st : r.st = s.steps
  a : r.a = s.ps
  b : r.b = s.fs
  d : r.d = s.dn
  l : s.ps = true → r.l = s.pl
  u : s.fs = true → r.u = s.fl
theorem Rel.err {s : TS} {r : RS} (h : Rel s r) : r.err = numT s.err := by
  obtain ⟨hS, hR, h1, h2, h3, h4, h5, h6⟩ := h
  unfold RS.err TS.err
  rw [h2, h3, h4]
  cases hd : s.dn
  · cases hp : s.ps
    · cases hf : s.fs
      · rfl
      · rw [h6 hf]
        cases hz : (s.fl == 0) <;> simp [numT]
    · rw [h5 hp]
      cases hz : (s.pl == 0)
      · cases hf : s.fs
        · simp [numT]
        · rw [h6 hf]
          cases hz2 : (s.fl == 0) <;> simp [numT]
      · simp [numT]
  · simp [numT]
theorem Rel.next {s : TS} {r : RS} (h : Rel s r) : Rel s.next r.next := by
  obtain ⟨hS, hR, h1, h2, h3, h4, h5, h6⟩ := h
  have e1 := s.next_xs
  have e2 := s.next_sure
  have e3 := r.next_SR
  refine ⟨by rw [e3.1, e1, e2, hS], by rw [e3.2, e1, e2, hR], ?_, ?_, ?_, ?_, ?_, ?_⟩ <;> unfold RS.next TS.next <;> rw [h4, h2, h3] <;> cases hd : s.dn <;> cases hp : s.ps <;> cases hf : s.fs <;> simp only [Bool.false_and, Bool.true_and, if_true, if_false, Bool.false_eq_true, duel] <;> (try rw [h5 hp]) <;> (try rw [h6 hf]) <;> (try (split <;> (try split))) <;> simp_all
theorem Rel.app {s : TS} {r : RS} (h : Rel s r) (hok : s.Ok) (ys : List Int) : Rel (s.app ys) (r.app ys) ∧ r.appE ys = numT (s.appE ys) := by
  have hl : r.S.length + r.R.length = s.xs.length := by
    rw [h.S, h.R, ← List.length_append, List.take_append_drop]
  have he := h.err
  have hn := h.next
  have h0 := hok.sure
  unfold TS.app RS.app RS.appE TS.appE
  rw [hl]
  by_cases hc : 1048576 < s.xs.length + ys.length
  · simp only [if_pos hc]
    exact ⟨h, rfl⟩
  · simp only [if_neg hc]
    refine ⟨?_, he⟩
    cases hs : s.err with
    | some c =>
      have hc0 : ¬ (r.err == 0) = true := by
        rw [he, hs]
        unfold TS.err at hs
        split at hs
        · cases hs; decide
        · split at hs
          · cases hs; decide
          · split at hs
            · cases hs; decide
            · cases hs
      rw [if_neg hc0]
      exact hn
    | none =>
      have hc0 : (r.err == 0) = true := by rw [he, hs]; rfl
      rw [if_pos hc0]
      have e1 := s.next_xs
      have e2 := s.next_sure
      refine ⟨?_, ?_, hn.st, hn.a, hn.b, hn.d, hn.l, hn.u⟩
      · show r.next.S = (s.xs ++ ys).take s.next.sure.toNat
        rw [hn.S, e1, e2, List.take_append_of_le_length (by omega)]
      · show r.next.R ++ ys = (s.xs ++ ys).drop s.next.sure.toNat
        rw [hn.R, e1, e2, List.drop_append_of_le_length (by omega)]
theorem err_zero {s : TS} {r : RS} (h : Rel s r) : (r.err == 0) = s.err.isNone := by
  rw [h.err]
  unfold TS.err
  split
  · rfl
  · split
    · rfl
    · split <;> rfl
theorem Rel.sync {s : TS} {r : RS} (h : Rel s r) (hok : s.Ok) : Rel s.sync r.sync := by
  have hn := h.next
  have hz := err_zero h
  have e1 := s.next_xs
  have e2 := s.next_sure
  unfold TS.sync RS.sync
  rw [hz]
  cases hs : s.err with
  | some c => exact hn
  | none =>
    refine ⟨?_, ?_, hn.st, hn.a, hn.b, hn.d, hn.l, hn.u⟩
    · show r.next.S ++ r.next.R = s.next.xs.take (s.xs.length : Int).toNat
      rw [hn.S, hn.R, List.take_append_drop, e1]
      simp
    · show [] = s.next.xs.drop (s.xs.length : Int).toNat
      rw [e1]
      simp
theorem Rel.rep {s : TS} {r : RS} (h : Rel s r) (hok : s.Ok) (ys : List Int) : Rel (s.rep ys) (r.rep ys) ∧ r.repE ys = numT (s.repE ys) := by
  have hn := h.next
  have hz := err_zero h
  unfold TS.rep RS.rep RS.repE TS.repE
  by_cases hc : 1048576 < ys.length
  · simp only [if_pos hc]
    exact ⟨h, rfl⟩
  · simp only [if_neg hc]
    refine ⟨?_, h.err⟩
    rw [hz]
    cases hs : s.err with
    | some c => exact hn
    | none =>
      refine ⟨?_, ?_, hn.st, hn.a, hn.b, hn.d, hn.l, hn.u⟩
      · show ys = ys.take (ys.length : Int).toNat
        simp
      · show [] = ys.drop (ys.length : Int).toNat
        simp
theorem Rel.cut {s : TS} {r : RS} (h : Rel s r) (hok : s.Ok) : Rel s.cut r.cut := by
  unfold TS.cut RS.cut
  rw [h.d]
  by_cases hd : s.dn = true
  · rw [if_pos hd, if_pos hd]
    exact h
  · rw [if_neg hd, if_neg hd]
    have h0 := hok.sure
    refine ⟨?_, ?_, h.st, h.a, h.b, (by first | exact h.d | rfl), h.l, h.u⟩
    · show r.S = (s.xs.take s.sure.toNat).take s.sure.toNat
      rw [List.take_take, Nat.min_self, h.S]
    · show [] = (s.xs.take s.sure.toNat).drop s.sure.toNat
      rw [List.drop_take]
      simp
theorem Rel.crash {s : TS} {r : RS} (h : Rel s r) (hok : s.Ok) (k : Int) : Rel (s.crash k) (r.crash k) := by
  have h0 := hok.sure
  have e : (s.sure + s.left k).toNat = s.sure.toNat + r.left k := by
    have h1 : r.R.length = s.xs.length - s.sure.toNat := by rw [h.R, List.length_drop]
    unfold TS.left RS.left
    rw [h1]
    omega
  refine ⟨?_, ?_, h.st, rfl, rfl, rfl, (fun h2 => by cases h2), (fun h2 => by cases h2)⟩
  · show r.S ++ r.R.take (r.left k) = (s.xs.take (s.sure + s.left k).toNat).take (((s.xs.take (s.sure + s.left k).toNat).length : Nat) : Int).toNat
    rw [Int.toNat_natCast, List.take_length, e, h.S, h.R, List.take_add]
  · show [] = (s.xs.take (s.sure + s.left k).toNat).drop (((s.xs.take (s.sure + s.left k).toNat).length : Nat) : Int).toNat
    rw [Int.toNat_natCast, List.drop_length]
/-- Both behind a call: still alike, and in order. -/
theorem RS.ok_of {s : TS} {r : RS} (h : Rel s r) (hok : s.Ok) (hl : 0 ≤ r.l ∧ r.l ≤ 9223372036854775807) (hu : 0 ≤ r.u ∧ r.u ≤ 9223372036854775807) : r.Ok :=
  ⟨by rw [h.st]; exact hok.steps, hl, hu, by rw [h.S, h.R, ← List.length_append, List.take_append_drop]; exact hok.len⟩
end Go.Proofs.Ytpbpeklbmmbigaa.Tp
