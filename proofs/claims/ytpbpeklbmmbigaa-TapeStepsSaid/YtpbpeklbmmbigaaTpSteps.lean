/- An armed tape's steps: what its Append comes to. -/
import Derived.Test.YtpbpeklbmmbigaaTpFull
import Derived.Test.YtpbpeklbmmbigaaTpNum
namespace Go.Proofs.Ytpbpeklbmmbigaa.Tp
open Go.RowKit Go.Proofs.YtpbpeklbmmbigaaW.PrintWords Go.Proofs.YtpbpeklbmmbigaaW.PrintLast Go.Proofs.YtpbpeklbmmbigaaW.PrintMore
open Go.Proofs.Ytpbpeklbmmbigaa.Flow
set_option linter.unusedVariables false
set_option linter.unusedSimpArgs false
set_option linter.unusedSectionVars false
theorem num_T (o : Option Int) (ho : o ≠ some 0) (w : World) : Calls Try.prog 22 #[errT o] w fun e w' => e = .returned (.int .i64 (o.getD 0)) ∧ Below w.heap.size w w' := by
  cases o with
  | none => exact num_none w
  | some c => exact num_some c (by simpa using fun h => ho (by rw [h])) w
/-- The tape of TapeSteps behind i calls. -/
structure Inv (a f i : Nat) (s : TS) : Prop where
  ok : s.Ok
  steps : s.steps = ((min a i : Nat) : Int)
  dn : s.dn = decide (a < i)
  len : s.xs.length + (if f < min a i then 1 else 0) = min a i
  arm : i ≤ a → s.ps = true ∧ s.pl = (a : Int) - i ∧ s.fs = decide (i ≤ f) ∧ (i ≤ f → s.fl = (f : Int) - i)
def want (a f i : Nat) : Option Int := if a ≤ i then some 5 else if i = f then some 6 else none
theorem inv_next {a f i : Nat} {s : TS} (h : Inv a f i s) (ha : a ≤ 100) (b : Int) : s.appE [b] = want a f i ∧ Inv a f (i + 1) (s.app [b]) := by
  have hl := h.len
  have hl2 : s.xs.length ≤ 100 := by omega
  have hok := h.ok
  have hst := h.steps
  have e0 : s.appE [b] = s.err := by unfold TS.appE; rw [if_neg (by simp; omega)]
  have e1 : s.app [b] = if s.err.isSome then s.next else { s.next with xs := s.xs ++ [b] } := by unfold TS.app; rw [if_neg (by simp; omega)]
  rw [e0, e1]
  rcases Nat.lt_trichotomy i a with hia | hia | hia
  · obtain ⟨a1, a2, a3, a4⟩ := h.arm (by omega)
    have hd : s.dn = false := by rw [h.dn]; simp; omega
    have hp : (s.ps && (s.pl == 0)) = false := by rw [a2]; simp; intro _; omega
    have hpl : duel s.ps s.pl = (a : Int) - (i + 1) := by unfold duel; rw [a1, a2]; simp; omega
    have hw : want a f i = if i = f then some 6 else none := by unfold want; rw [if_neg (by omega)]
    by_cases hif : i = f
    · have hfl := a4 (by omega)
      have hf : (s.fs && (s.fl == 0)) = true := by rw [a3, hfl]; simp; omega
      have he : s.err = some 6 := by unfold TS.err; simp [hd, hp, hf]
      have hn : s.next = { s with pl := (a : Int) - (i + 1), steps := s.steps + 1, fs := false, fl := 0 } := by unfold TS.next; rw [if_neg (by simp [hd]), if_neg (by rw [hp]; decide), if_pos hf, hpl]
      rw [he, hw, if_pos hif, hn]
      refine ⟨rfl, ?_⟩
      simp only [Option.isSome_some, if_true]
      refine ⟨⟨⟨?_, ?_⟩, ⟨?_, ?_⟩, ⟨?_, ?_⟩, hok.sure, hok.len⟩, ?_, ?_, ?_, ?_⟩
      all_goals try (simp only; omega)
      · simp only; rw [hd]; simp; omega
      · simp only
        rw [if_neg (by omega)] at hl
        rw [if_pos (by omega)]
        omega
      · intro _
        refine ⟨a1, by simp only; omega, by simp; omega, fun h => by omega⟩
    · have hf : (s.fs && (s.fl == 0)) = false := by
        rw [a3]
        by_cases h6 : i ≤ f
        · rw [a4 h6]; simp; intro _; omega
        · simp [h6]
      have he : s.err = none := by unfold TS.err; simp [hd, hp, hf]
      have hn : s.next = { s with pl := (a : Int) - (i + 1), steps := s.steps + 1, fl := duel s.fs s.fl } := by unfold TS.next; rw [if_neg (by simp [hd]), if_neg (by rw [hp]; decide), if_neg (by rw [hf]; decide), hpl]
      have hfd := duel_ok s.fs s.fl hok.fl
      rw [he, hw, if_neg hif, hn]
      refine ⟨rfl, ?_⟩
      simp only [Option.isSome_none, Bool.false_eq_true, if_false]
      have hlx : (s.xs ++ [b]).length = s.xs.length + 1 := by simp
      have hsu := hok.sure
      refine ⟨⟨⟨?_, ?_⟩, ⟨?_, ?_⟩, hfd, ⟨hsu.1, ?_⟩, ?_⟩, ?_, ?_, ?_, ?_⟩
      all_goals try (simp only [hlx]; omega)
      · simp only; rw [hd]; simp; omega
      · simp only [hlx]
        by_cases h6 : f < i
        · rw [if_pos (by omega)] at hl ⊢
          omega
        · rw [if_neg (by omega)] at hl ⊢
          omega
      · intro _
        refine ⟨a1, by simp only; omega, ?_, fun h => ?_⟩
        · simp only
          rw [a3]
          have : (i ≤ f) ↔ (i + 1 ≤ f) := by omega
          exact decide_eq_decide.2 this
        · simp only
          unfold duel
          rw [a3, a4 (by omega)]
          rw [if_pos (by simp; omega)]
          omega
  · subst hia
    obtain ⟨a1, a2, a3, a4⟩ := h.arm (by omega)
    have hd : s.dn = false := by rw [h.dn]; simp
    have hp : (s.ps && (s.pl == 0)) = true := by rw [a1, a2]; simp
    have he : s.err = some 5 := by unfold TS.err; simp [hd, hp]
    have hn : s.next = { s with dn := true } := by unfold TS.next; rw [if_neg (by simp [hd]), if_pos hp]
    have hw : want i f i = some 5 := by unfold want; rw [if_pos (by omega)]
    rw [he, hw, hn]
    refine ⟨rfl, ?_⟩
    simp only [Option.isSome_some, if_true]
    refine ⟨⟨hok.steps, hok.pl, hok.fl, hok.sure, hok.len⟩, ?_, ?_, ?_, ?_⟩
    · simp only; omega
    · simp
    · simp only
      rw [show min i (i + 1) = min i i by omega]
      exact hl
    · intro h
      omega
  · have hd : s.dn = true := by rw [h.dn]; simp; omega
    have he : s.err = some 5 := by unfold TS.err; simp [hd]
    have hn : s.next = s := by unfold TS.next; rw [if_pos hd]
    have hw : want a f i = some 5 := by unfold want; rw [if_pos (by omega)]
    rw [he, hw, hn]
    refine ⟨rfl, ?_⟩
    simp only [Option.isSome_some, if_true]
    refine ⟨hok, by rw [hst]; omega, by rw [hd]; simp; omega, ?_, fun h => by omega⟩
    rw [show min a (i + 1) = min a i by omega]
    exact hl
theorem inv_start (a f : Nat) (ha : a ≤ 100) (hf : f ≤ 100) : Inv a f 0 ⟨[], 0, 0, true, a, true, f, false⟩ := by
  refine ⟨⟨by simp, ⟨by simp, by simp; omega⟩, ⟨by simp, by simp; omega⟩, by simp, by simp⟩, ?_, ?_, ?_, ?_⟩
  · simp
  · simp
  · simp
  · intro _
    simp
section
variable (w0 w : World) (g m a f i : Nat) (s : TS) (hT : TapeAt w0 w g m s) (hI : Inv a f i s) (ha : a ≤ 100)
include hT hI ha
theorem append_inv (P0 : Option Addr) (b : Int) (pc : Nat) (hP : ∀ W_, Kept w W_ (fun k => g ≤ k ∧ k < m) → (Kd.slice 5 (Kd.int .u8)).C W_ P0 [[b]].length [[b]]) :
    Calls Try.prog 12 #[.pointer (some ⟨g, 0, none⟩), .slice P0 1 pc] w fun e w' => e = .returned (errT (want a f i)) ∧ (∃ s', TapeAt w0 w' g w'.heap.size s' ∧ Inv a f (i + 1) s') ∧ w.heap.size ≤ w'.heap.size := by
  have h := append_T w0 w g m s hT hI.ok P0 [[b]] pc hP (by simp) (by simp)
  have e0 : ([[b]] : List (List Int)).flatten = [b] := rfl
  obtain ⟨h1, h2⟩ := inv_next hI ha b
  rw [e0, h1] at h
  exact h.mono fun e w' ⟨q1, q2, q3⟩ => ⟨q1, ⟨_, q2, h2⟩, q3⟩
theorem steps_inv : Calls Try.prog 19 #[.pointer (some ⟨g, 0, none⟩)] w fun e w' => e = .returned (.int .i64 ((min a i : Nat) : Int)) ∧ w = w' := by
  have h := steps_T w0 w g m s hT hI.ok
  rw [hI.steps] at h
  exact h
theorem down_inv : Calls Try.prog 23 #[.pointer (some ⟨g, 0, none⟩)] w fun e w' => e = .returned (.bool (decide ((a : Int) < (i : Int)))) ∧ w = w' := by
  have h := down_T w0 w g m s hT hI.ok
  rw [hI.dn] at h
  have e : decide (a < i) = decide ((a : Int) < (i : Int)) := decide_eq_decide.2 (by omega)
  rw [e] at h
  exact h
end
theorem want5 {a f i : Nat} (h : decide ((a : Int) ≤ (i : Int)) = true) : ((want a f i).getD 0 != 5) = false := by
  have h' := of_decide_eq_true h
  unfold want
  rw [if_pos (by omega)]
  rfl
theorem want6 {a f i : Nat} (h : decide ((a : Int) ≤ (i : Int)) = false) (h2 : ((i : Int) == (f : Int)) = true) : ((want a f i).getD 0 != 6) = false := by
  have h' := of_decide_eq_false h
  have h2' : (i : Int) = f := by simpa using h2
  unfold want
  rw [if_neg (by omega), if_pos (by omega)]
  rfl
theorem want0 {a f i : Nat} (h : decide ((a : Int) ≤ (i : Int)) = false) (h2 : ((i : Int) == (f : Int)) = false) : ((want a f i).getD 0 != 0) = false := by
  have h' := of_decide_eq_false h
  have h2' : ¬ (i : Int) = f := by simpa using h2
  unfold want
  rw [if_neg (by omega), if_neg (by omega)]
  rfl
theorem want_ne {a f i : Nat} : want a f i ≠ some 0 := by
  unfold want
  split
  · simp
  · split <;> simp
end Go.Proofs.Ytpbpeklbmmbigaa.Tp
