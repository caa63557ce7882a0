/- What was sure is there behind a crash: plain facts. -/
import Derived.Test.YtpbpeklbmmbigaaTpReplaces
namespace Go.Proofs.Ytpbpeklbmmbigaa.Tp
open Go.RowKit Go.Proofs.YtpbpeklbmmbigaaW.PrintWords Go.Proofs.YtpbpeklbmmbigaaW.PrintLast Go.Proofs.YtpbpeklbmmbigaaW.PrintMore
open Go.Proofs.Ytpbpeklbmmbigaa.Flow
set_option linter.unusedVariables false
set_option linter.unusedSimpArgs false
set_option linter.unusedSectionVars false
theorem run_str_add (a b : List Int) (h : a.length + b.length ≤ 1000000) (w : World) : (binOp .add 9 (.string (strOfNums a)) (.string (strOfNums b))).run Try.prog w = .ok (.string (strOfNums (a ++ b))) w := by
  have h1 : (strOfNums a).size + (strOfNums b).size ≤ 9223372036854775807 := by rw [strOfNums_size, strOfNums_size]; omega
  rw [strOfNums_app]
  simp [go_sem]
  omega
theorem nums_cut (xs : List Int) (n : Nat) : (strOfNums xs).extract 0 n = strOfNums (xs.take n) := by
  apply ByteArray.ext
  rw [ByteArray.data_extract]
  simp [strOfNums, List.map_take]
theorem run_str_cut (xs : List Int) (x : Int) (h0 : 0 ≤ x) (h1 : x ≤ xs.length) (w : World) : (Instr.sliceAt 9 (.string (strOfNums xs)) none (some (.int .i64 x)) none).run Try.prog w = .ok (.string (strOfNums (xs.take x.toNat))) w := by
  have h2 : x ≤ (strOfNums xs).size := by rw [strOfNums_size]; exact h1
  rw [← nums_cut]
  simp [go_sem, run_underlying Try.underlying9, h0, h2]
theorem flat_pre (ps : List (List Int)) (i k : Nat) : ∃ r, (ps.take i).flatten = (ps.take (min i k)).flatten ++ r := by
  refine ⟨((ps.take i).drop (min i k)).flatten, ?_⟩
  have h : ps.take (min i k) = (ps.take i).take (min i k) := by rw [List.take_take]; congr 1; omega
  rw [h, ← List.flatten_append, List.take_append_drop]
theorem flat_le (ps : List (List Int)) (i k : Nat) : (ps.take (min i k)).flatten.length ≤ (ps.take i).flatten.length := by
  obtain ⟨r, h⟩ := flat_pre ps i k
  rw [h, List.length_append]
  omega
theorem flat_cut (ps : List (List Int)) (i k m : Nat) (h : (ps.take (min i k)).flatten.length ≤ m) : ((ps.take i).flatten.take m).take (ps.take (min i k)).flatten.length = (ps.take (min i k)).flatten := by
  obtain ⟨r, h1⟩ := flat_pre ps i k
  rw [List.take_take, Nat.min_eq_left h, h1]
  simp
end Go.Proofs.Ytpbpeklbmmbigaa.Tp
