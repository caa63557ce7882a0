/- An armed tape's Replace, and a crash behind it: what they come to. -/
import Derived.Test.YtpbpeklbmmbigaaTpFull
namespace Go.Proofs.Ytpbpeklbmmbigaa.Tp
open Go.RowKit Go.Proofs.YtpbpeklbmmbigaaW.PrintWords Go.Proofs.YtpbpeklbmmbigaaW.PrintLast Go.Proofs.YtpbpeklbmmbigaaW.PrintMore
open Go.Proofs.Ytpbpeklbmmbigaa.Flow
set_option linter.unusedVariables false
set_option linter.unusedSimpArgs false
set_option linter.unusedSectionVars false
theorem strOfNums_app (xs ys : List Int) : strOfNums (xs ++ ys) = strOfNums xs ++ strOfNums ys := by
  apply ByteArray.ext
  simp [strOfNums]
def afE (arm fail : Int) : Option Int := if arm = 0 then some 5 else if fail = 0 then some 6 else none
def AF (arm fail : Int) (xs : List Int) (sure steps : Int) : TS := ⟨xs, sure, steps, decide (0 ≤ arm), if decide (0 ≤ arm) = true then arm else 0, decide (0 ≤ fail), if decide (0 ≤ fail) = true then fail else 0, false⟩
theorem armed_zero (k : Int) : (decide (0 ≤ k) && ((if decide (0 ≤ k) = true then k else 0) == 0)) = decide (k = 0) := by
  by_cases h : 0 ≤ k
  · simp [h]
    by_cases h2 : k = 0 <;> simp [h2]
  · have h2 : ¬ k = 0 := by omega
    simp [h, h2]
theorem af_err (arm fail : Int) (xs : List Int) (sure steps : Int) : (AF arm fail xs sure steps).err = afE arm fail := by
  unfold TS.err afE AF
  simp only
  rw [armed_zero, armed_zero]
  simp only [decide_eq_true_eq, Bool.false_eq_true, if_false]
theorem af_ok {arm fail : Int} {xs : List Int} {sure steps : Int} (h1 : -9223372036854775808 ≤ arm ∧ arm ≤ 9223372036854775807) (h2 : -9223372036854775808 ≤ fail ∧ fail ≤ 9223372036854775807) (h3 : 0 ≤ steps ∧ steps ≤ 1000000000) (h4 : 0 ≤ sure ∧ sure ≤ xs.length) (h5 : xs.length ≤ 1048576) : (AF arm fail xs sure steps).Ok := by
  refine ⟨h3, ?_, ?_, h4, h5⟩
  · unfold AF
    simp only
    split
    · rename_i h
      have := of_decide_eq_true h
      omega
    · omega
  · unfold AF
    simp only
    split
    · rename_i h
      have := of_decide_eq_true h
      omega
    · omega
theorem next_ok {s : TS} (h : s.Ok) (h9 : s.steps ≤ 999999999) : s.next.Ok := by
  have h1 := h.steps
  have h2 := duel_ok s.ps s.pl h.pl
  have h3 := duel_ok s.fs s.fl h.fl
  unfold TS.next
  split
  · exact h
  · split
    · exact ⟨h.steps, h.pl, h.fl, h.sure, h.len⟩
    · split
      · exact ⟨by simp only; omega, h2, by simp, h.sure, h.len⟩
      · exact ⟨by simp only; omega, h2, h3, h.sure, h.len⟩
section
variable (w0 w : World) (g m : Nat) (arm fail : Int) (xs : List Int) (sure steps : Int) (hT : TapeAt w0 w g m (AF arm fail xs sure steps)) (h1 : -9223372036854775808 ≤ arm ∧ arm ≤ 9223372036854775807) (h2 : -9223372036854775808 ≤ fail ∧ fail ≤ 9223372036854775807) (h3 : 0 ≤ steps ∧ steps ≤ 1000) (h4 : 0 ≤ sure ∧ sure ≤ xs.length) (h5 : xs.length ≤ 1048576)
include hT h1 h2 h3 h4 h5
theorem replace_af (P : Option Addr) (ys : List Int) (pc : Nat) (hP : ∀ W_, Kept w W_ (fun k => k = g) → (Kd.int .u8).C W_ P ys.length ys) (hl : ys.length ≤ 1048576) :
    Calls Try.prog 18 #[.pointer (some ⟨g, 0, none⟩), .slice P ys.length pc] w fun e w' => e = .returned (errT (afE arm fail)) ∧ (∃ s', TapeAt w0 w' g w'.heap.size s' ∧ s'.Ok ∧ s'.xs = (if (afE arm fail).isSome = true then xs else ys) ∧ s'.sure = (if (afE arm fail).isSome = true then sure else (ys.length : Int))) ∧ w.heap.size ≤ w'.heap.size := by
  have hok : (AF arm fail xs sure steps).Ok := af_ok h1 h2 (by omega) h4 h5
  have h := replace_T w0 w g m _ hT hok P ys pc hP
  have e1 : (AF arm fail xs sure steps).repE ys = afE arm fail := by
    unfold TS.repE
    rw [if_neg (by omega), af_err]
  have hn := next_ok hok (by show steps ≤ 999999999; omega)
  have e2 : ((AF arm fail xs sure steps).rep ys).Ok ∧ ((AF arm fail xs sure steps).rep ys).xs = (if (afE arm fail).isSome = true then xs else ys) ∧ ((AF arm fail xs sure steps).rep ys).sure = (if (afE arm fail).isSome = true then sure else (ys.length : Int)) := by
    unfold TS.rep
    rw [if_neg (by omega), af_err]
    by_cases hE : (afE arm fail).isSome = true
    · rw [if_pos hE, if_pos hE, if_pos hE]
      exact ⟨hn, by rw [TS.next_xs]; rfl, by rw [TS.next_sure]; rfl⟩
    · rw [if_neg hE, if_neg hE, if_neg hE]
      exact ⟨⟨hn.steps, hn.pl, hn.fl, by simp, hl⟩, rfl, rfl⟩
  rw [e1] at h
  exact h.mono fun e w' ⟨q1, q2, q3⟩ => ⟨q1, ⟨_, q2, e2⟩, q3⟩
end
theorem crash_af (w0 w : World) (g m : Nat) (s : TS) (hT : TapeAt w0 w g m s) (hok : s.Ok) (X Y : List Int) (hX : s.xs = X) (hY : s.sure = (Y.length : Int)) (hXY : X.take Y.length = Y) :
    Calls Try.prog 14 #[.pointer (some ⟨g, 0, none⟩), .int .i64 0] w fun e w' => e = .returned (.tuple #[]) ∧ TapeAt w0 w' g w'.heap.size (pl Y (Y.length : Int) s.steps) ∧ w.heap.size ≤ w'.heap.size := by
  obtain ⟨hB, hg0, hm, A, n, c, hb, hR⟩ := hT
  have h := crash_raw w0 w g m _ A n c hB hg0 hm hb hR hok 0
  have hs := hok.sure
  have e0 : (s.sure + s.left 0).toNat = Y.length := by
    unfold TS.left
    omega
  have e1 : s.crash 0 = pl Y (Y.length : Int) s.steps := by
    unfold TS.crash pl
    rw [e0, hX, hXY]
  rw [e1] at h
  exact h
theorem af_eq5 (arm fail : Int) : (decide (afE arm fail = some 5) == (arm == 0)) = true := by
  unfold afE
  by_cases h : arm = 0
  · simp [h]
  · rw [if_neg h]
    split <;> simp [h]
theorem af_eq6 {arm fail : Int} (h : (arm != 0) = true) : (decide (afE arm fail = some 6) == (fail == 0)) = true := by
  have h' : ¬ arm = 0 := by simpa using h
  unfold afE
  rw [if_neg h']
  by_cases h2 : fail = 0 <;> simp [h2]
theorem af_eq6' {arm fail : Int} (h : (arm != 0) = false) : (decide (afE arm fail = some 6) == false) = true := by
  have h' : arm = 0 := by simpa using h
  unfold afE
  rw [if_pos h']
  simp
theorem af_some {arm fail : Int} (h : decide (afE arm fail = some 6) = true) : (afE arm fail).isSome = true := by
  have := of_decide_eq_true h
  rw [this]
  rfl
end Go.Proofs.Ytpbpeklbmmbigaa.Tp
