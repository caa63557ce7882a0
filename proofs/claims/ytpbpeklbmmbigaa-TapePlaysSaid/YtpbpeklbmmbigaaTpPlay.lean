/- A tape and the document's tape under any call: plain. -/
import Derived.Test.YtpbpeklbmmbigaaTpCopy2
import Derived.Test.YtpbpeklbmmbigaaTpRef6
namespace Go.Proofs.Ytpbpeklbmmbigaa.Tp
open Go.RowKit Go.Proofs.YtpbpeklbmmbigaaW.PrintWords Go.Proofs.YtpbpeklbmmbigaaW.PrintLast Go.Proofs.YtpbpeklbmmbigaaW.PrintMore
open Go.Proofs.Ytpbpeklbmmbigaa.Flow
set_option linter.unusedVariables false
set_option linter.unusedSimpArgs false
/-- A call of a tape, with all blocks but the tape's in holes. -/
theorem wrapK {w0 w : World} {g m : Nat} {x : Nat → Prop} {s' : TS} {f : FuncId} {args : Array Value} {E : Value} (hx : ∀ q, x q → q < w.heap.size ∧ q ≠ g)
    (h : Calls Try.prog f args w fun e w' => e = .returned E ∧ TapeAt w0 w' g w'.heap.size (XX g m x w.heap.size) s' ∧ w.heap.size ≤ w'.heap.size ∧ (∀ q, XX g m x w.heap.size q → q ≠ g → w'.heap[q]? = w.heap[q]?)) :
    Calls Try.prog f args w fun e w' => e = .returned E ∧ Kept w w' (SX g m x) ∧ TapeAt w0 w' g w'.heap.size x s' := by
  refine h.mono fun e w' h => ?_
  obtain ⟨h1, h2, h3, h4⟩ := h
  exact ⟨h1, kept_X h3 h4, h2.fromX (fun q hq => ⟨(hx q hq).1, (hx q hq).2, .inl hq⟩)⟩
theorem sx_of {g m n : Nat} {x : Nat → Prop} (hm : m ≤ n) (hg : g < n) : ∀ k, k < n → (k = g ∨ (g < k ∧ k < m ∧ ¬ XX g m x n k)) → SX g m x k := fun k hk h => by
  rcases h with h | ⟨h1, h2, h3⟩
  · exact .inl h
  · exact Classical.byContradiction fun h4 => h3 ⟨hk, h4⟩
theorem Kept.mono' {w w' : World} {S S' : Nat → Prop} (h : Kept w w' S) (hs : ∀ k, k < w.heap.size → S k → S' k) : Kept w w' S' := ⟨h.1, fun i hi hn => h.2 i hi (fun hS => hn (hs i hi hS))⟩
theorem SX.hole {g m : Nat} {x y : Nat → Prop} (h : ∀ q, x q → y q) {k : Nat} (hk : SX g m y k) : SX g m x k := hk.imp id (fun h1 => ⟨h1.1, h1.2.1, fun hx => h1.2.2 (h k hx)⟩)
theorem Grow.keptS {u : Nat} {w w1 w2 : World} {S : Nat → Prop} (h : Kept w w1 S) (k : Grow u w1 w2) (hu : S u ∨ w.heap.size ≤ u) : Kept w w2 S := ⟨Nat.le_trans h.1 k.size, fun i hi hn => (k.block i (Nat.lt_of_lt_of_le hi h.1) (fun e => hu.elim (fun hs => hn (e ▸ hs)) (fun hs => by omega))).trans (h.2 i hi hn)⟩
theorem TapeAt.growFar {w0 w w' : World} {g m u : Nat} {x : Nat → Prop} {s : TS} (h : TapeAt w0 w g m x s) (k : Grow u w w') (hu : m ≤ u) : TapeAt w0 w' g m x s := by
  obtain ⟨h1, h2, h3, A, n, c, h4, h5⟩ := h
  exact ⟨k.below (by omega) h1, h2, ⟨h3.1, Nat.le_trans h3.2 k.size⟩, A, n, c, Blk.grow h4 k (by omega), BR.step h5 (fun q hq hlt => k.block q hlt (fun e => by have := hq.2.1; omega))⟩
theorem TapeAt.after {w0 w w' : World} {g m : Nat} {x : Nat → Prop} {s : TS} (h : TapeAt w0 w g m x s) (hb : Below w.heap.size w w') : TapeAt w0 w' g m x s := h.on hb
theorem below_drew (w : World) : Below w.heap.size w w.drew := ⟨rfl, rfl, rfl, Nat.le_refl _, fun _ _ => rfl⟩
theorem sx_old {n g m : Nat} {x : Nat → Prop} (hg : n ≤ g) : ∀ k, SX g m x k → n ≤ k := fun k h => Or.elim h (fun e => by omega) (fun e => by have := e.1; omega)
theorem sx_young {g m n : Nat} {x : Nat → Prop} (hm : m ≤ n) (hg : g < n) : ∀ q, n ≤ q → ¬ SX g m x q := fun q hq h => Or.elim h (fun e => by omega) (fun e => by have := e.2.1; omega)
theorem sx_hole {g m u : Nat} {x : Nat → Prop} (hu : u ≠ g) (hx : x u) : ¬ SX g m x u := fun h => Or.elim h hu (fun e => e.2.2 hx)
/-- An append of one text in two parts. -/
theorem append2_K (w0 w : World) (g m : Nat) (x : Nat → Prop) (hx : ∀ q, x q → q < w.heap.size ∧ q ≠ g) (s : TS) (hT : TapeAt w0 w g m x s) (hok : s.Ok) (P0 : Option Addr) (a b ys : List Int) (pc : Nat) (hP : ∀ W_, Kept w W_ (SX g m x) → (Kd.slice 5 (Kd.int .u8)).C W_ P0 [a, b].length [a, b]) (hys : a ++ b = ys) (hl : ys.length ≤ 140737488355328) :
    Calls Try.prog 12 #[.pointer (some ⟨g, 0, none⟩), .slice P0 2 pc] w fun e w' => e = .returned (errT (s.appE ys)) ∧ Kept w w' (SX g m x) ∧ TapeAt w0 w' g w'.heap.size x (s.app ys) := by
  have hz := hT.size
  have hlen : a.length + b.length = ys.length := by rw [← hys, List.length_append]
  have e1 : [a, b].flatten = ys := by simpa using hys
  refine wrapK hx ?_
  have h := append_T w0 w g m (XX g m x w.heap.size) (fun q h => h.1) s (hT.toX _) hok P0 [a, b] pc (fun W_ hk => hP W_ (Kept.mono' hk (sx_of (by omega) (by omega)))) (by simp) (by intro p hp; simp only [List.mem_cons, List.not_mem_nil, or_false] at hp; rcases hp with rfl | rfl <;> omega)
  rw [e1] at h
  exact h
theorem replace_K (w0 w : World) (g m : Nat) (x : Nat → Prop) (hx : ∀ q, x q → q < w.heap.size ∧ q ≠ g) (s : TS) (hT : TapeAt w0 w g m x s) (hok : s.Ok) (P0 : Option Addr) (ys : List Int) (pc : Nat) (hP : ∀ W_, Kept w W_ (fun k => k = g) → (Kd.int .u8).C W_ P0 ys.length ys) :
    Calls Try.prog 18 #[.pointer (some ⟨g, 0, none⟩), .slice P0 ys.length pc] w fun e w' => e = .returned (errT (s.repE ys)) ∧ Kept w w' (SX g m x) ∧ TapeAt w0 w' g w'.heap.size x (s.rep ys) :=
  wrapK hx ((replace_T w0 w g m (XX g m x w.heap.size) (fun q h => h.1) s (hT.toX _) hok P0 ys pc hP).mono fun e w' h => ⟨h.1, h.2.1, h.2.2.1, h.2.2.2.1⟩)
theorem TS.crash_ok {s : TS} (h : s.Ok) (k : Int) : (s.crash k).Ok := by
  have h1 := h.len
  refine ⟨h.steps, by simp [TS.crash], by simp [TS.crash], by simp [TS.crash], ?_⟩
  show (s.xs.take (s.sure + s.left k).toNat).length ≤ 1048576
  rw [List.length_take]
  omega
theorem arm_ok {s : TS} (h : s.Ok) (k : Int) (h0 : 0 ≤ k) (h1 : k ≤ 9223372036854775807) : ({ s with ps := true, pl := k } : TS).Ok := ⟨h.steps, ⟨h0, h1⟩, h.fl, h.sure, h.len⟩
theorem fail_ok {s : TS} (h : s.Ok) (k : Int) (h0 : 0 ≤ k) (h1 : k ≤ 9223372036854775807) : ({ s with fs := true, fl := k } : TS).Ok := ⟨h.steps, h.pl, ⟨h0, h1⟩, h.sure, h.len⟩
/-! ### A call -/
def TS.play (s : TS) (kd : Int) (bs : List Int) (k : Int) : TS :=
  if kd == 0 then s.app bs else if kd == 1 then s.sync else if kd == 2 then s.rep bs else if kd == 3 then s.cut
  else if kd == 4 then (if k < 0 then s else { s with ps := true, pl := k }) else if kd == 5 then (if k < 0 then s else { s with fs := true, fl := k }) else s.crash k
def RS.play (r : RS) (kd : Int) (bs : List Int) (k : Int) : RS :=
  if kd == 0 then r.app bs else if kd == 1 then r.sync else if kd == 2 then r.rep bs else if kd == 3 then r.cut
  else if kd == 4 then (if k < 0 then r else { r with a := true, l := k }) else if kd == 5 then (if k < 0 then r else { r with b := true, u := k }) else r.crash k
theorem Rel.play {s : TS} {r : RS} (h : Rel s r) (hok : s.Ok) (kd : Int) (bs : List Int) (k : Int) : Rel (s.play kd bs k) (r.play kd bs k) := by
  unfold TS.play RS.play
  split
  · exact (h.app hok bs).1
  split
  · exact h.sync hok
  split
  · exact (h.rep hok bs).1
  split
  · exact h.cut hok
  split
  · split
    · exact h
    · exact ⟨h.S, h.R, h.st, rfl, h.b, h.d, fun _ => rfl, h.u⟩
  split
  · split
    · exact h
    · exact ⟨h.S, h.R, h.st, h.a, rfl, h.d, h.l, fun _ => rfl⟩
  · exact h.crash hok k
theorem TS.play_ok {s : TS} (hok : s.Ok) (h9 : s.steps ≤ 999999999) (kd : Int) (bs : List Int) (k : Int) (hk : k ≤ 9223372036854775807) : (s.play kd bs k).Ok ∧ (s.play kd bs k).steps ≤ s.steps + 1 := by
  unfold TS.play
  split
  · exact app_ok bs hok h9
  split
  · exact sync_ok hok h9
  split
  · exact rep_ok bs hok h9
  split
  · refine ⟨TS.cut_ok hok, ?_⟩
    unfold TS.cut
    split <;> (try simp only) <;> omega
  split
  · by_cases h0 : k < 0
    · rw [if_pos h0]
      exact ⟨hok, by omega⟩
    · rw [if_neg h0]
      exact ⟨arm_ok hok k (by omega) hk, by show s.steps ≤ s.steps + 1; omega⟩
  split
  · by_cases h0 : k < 0
    · rw [if_pos h0]
      exact ⟨hok, by omega⟩
    · rw [if_neg h0]
      exact ⟨fail_ok hok k (by omega) hk, by show s.steps ≤ s.steps + 1; omega⟩
  · exact ⟨TS.crash_ok hok k, by show s.steps ≤ s.steps + 1; omega⟩
theorem RS.next_b {r : RS} (h : r.Ok) : (0 ≤ r.next.l ∧ r.next.l ≤ 9223372036854775807) ∧ (0 ≤ r.next.u ∧ r.next.u ≤ 9223372036854775807) := by
  have p1 := duel_ok r.a r.l h.l
  have p2 := duel_ok r.b r.u h.u
  unfold RS.next
  split
  · exact ⟨h.l, h.u⟩
  split
  · exact ⟨h.l, h.u⟩
  split
  · exact ⟨p1, h.u⟩
  · exact ⟨p1, p2⟩
theorem RS.play_ok {s : TS} {r : RS} (h : Rel s r) (hok : s.Ok) (h9 : s.steps ≤ 999999999) (hr : r.Ok) (kd : Int) (bs : List Int) (k : Int) (hk : k ≤ 9223372036854775807) : (r.play kd bs k).Ok := by
  have h1 := h.play hok kd bs k
  have h2 := (TS.play_ok hok h9 kd bs k hk).1
  have hb : (0 ≤ (r.play kd bs k).l ∧ (r.play kd bs k).l ≤ 9223372036854775807) ∧ (0 ≤ (r.play kd bs k).u ∧ (r.play kd bs k).u ≤ 9223372036854775807) := by
    have p := RS.next_b hr
    unfold RS.play
    split
    · unfold RS.app
      split
      · exact ⟨hr.l, hr.u⟩
      split <;> exact p
    split
    · unfold RS.sync
      split <;> exact p
    split
    · unfold RS.rep
      split
      · exact ⟨hr.l, hr.u⟩
      split <;> exact p
    split
    · unfold RS.cut
      split <;> exact ⟨hr.l, hr.u⟩
    split
    · by_cases h0 : k < 0
      · rw [if_pos h0]
        exact ⟨hr.l, hr.u⟩
      · rw [if_neg h0]
        exact ⟨⟨by show 0 ≤ k; omega, hk⟩, hr.u⟩
    split
    · by_cases h0 : k < 0
      · rw [if_pos h0]
        exact ⟨hr.l, hr.u⟩
      · rw [if_neg h0]
        exact ⟨hr.l, ⟨by show 0 ≤ k; omega, hk⟩⟩
    · exact ⟨hr.l, hr.u⟩
  exact RS.ok_of h1 h2 hb.1 hb.2
theorem appE_ne (s : TS) (ys : List Int) : s.appE ys ≠ some 0 := by
  unfold TS.appE TS.err
  split
  · simp
  split
  · simp
  split
  · simp
  split <;> simp
theorem repE_ne (s : TS) (ys : List Int) : s.repE ys ≠ some 0 := by
  unfold TS.repE TS.err
  split
  · simp
  split
  · simp
  split
  · simp
  split <;> simp
theorem err_ne (s : TS) : s.err ≠ some 0 := by
  unfold TS.err
  split
  · simp
  split
  · simp
  split <;> simp
theorem Rel.all {s : TS} {r : RS} (h : Rel s r) : r.S ++ r.R = s.xs := by rw [h.S, h.R, List.take_append_drop]
theorem Rel.len {s : TS} {r : RS} (h : Rel s r) (hok : s.Ok) : ((r.S.length : Nat) : Int) = s.sure := by
  have := hok.sure
  rw [h.S, List.length_take]
  omega
theorem readO (w0 w : World) (g m : Nat) (x : Nat → Prop) (hx : ∀ q, x q → q < w.heap.size) (s : TS) (hT : TapeAt w0 w g m x s) (hok : s.Ok) : Calls Try.prog 15 #[.pointer (some ⟨g, 0, none⟩)] w fun e w' => ∃ A c, e = .returned (.slice A s.xs.length c) ∧ OwnK (Kd.int .u8) 5 w' w.heap.size w.heap.size A s.xs.length c s.xs ∧ Below w.heap.size w w' := by
  refine (read_T w0 w g m x hx s hT hok).mono fun e w' h => ?_
  obtain ⟨A, n, c, h1, h2, h3⟩ := h
  have h4 : n = s.xs.length := OwnK.len (d := (Kd.int .u8)) h2
  subst h4
  exact ⟨A, c, h1, h2, h3⟩
end Go.Proofs.Ytpbpeklbmmbigaa.Tp
