/- Any cells joined, as the document joins them: plain; cells as arguments. -/
import Derived.Test.YtheaipbnbnjlgaaCeEq
import Derived.Test.YtheaipbnbnjlgaaFlowU
namespace Go.Proofs.Ytheaipbnbnjlgaa.Ce
open Go.RowKit Go.Proofs.YtheaipbnbnjlgaaW.PrintWords Go.Proofs.YtheaipbnbnjlgaaW.PrintLast Go.Proofs.YtheaipbnbnjlgaaW.PrintMore
open Go.Proofs.Ytheaipbnbnjlgaa.Flow
set_option linter.unusedVariables false
set_option linter.unusedSimpArgs false
abbrev kHist : Kd (Fin 65 → Int) := flat 65 encH encH_len encH_one
theorem opn_hist {H : Type} {enc : TypeId × Value → H} {W : World} : Opn enc Try.prog W 29 kHist (fun _ => True) := fun m cs y h => by
  obtain ⟨xs, n, _, _, hcl, hxl, hg⟩ := DataW.trod_array Try.underlying29 h
  have hc3 : Try.prog.cellsOf 3 = 1 := by kernel_rfl
  have hcH : Try.prog.cellsOf 29 = 65 := by kernel_rfl
  have each : ∀ i : Fin 65, ∃ x : Int, cs[i.val]? = some (.int .i64 x) := fun i => by
    have h1 := hg i.val i.isLt
    have hi : i.val < xs.length := by rw [hxl]; exact i.isLt
    rw [List.getElem?_eq_getElem hi] at h1
    obtain ⟨x, hx, _⟩ := opn_int (enc := enc) (W := W) Try.underlying3 _ _ _ h1
    have hx' : (cs.drop (i.val * 1)).take 1 = [.int .i64 x] := by rw [hc3] at hx; exact hx
    refine ⟨x, ?_⟩
    have h2 : ((cs.drop (i.val * 1)).take 1)[0]? = some (.int .i64 x) := by rw [hx']; rfl
    rw [List.getElem?_take_of_lt (by omega), List.getElem?_drop, Nat.mul_one, Nat.add_zero] at h2
    exact h2
  obtain ⟨f, hf⟩ := Classical.skolem.1 each
  refine ⟨f, ?_, trivial⟩
  show cs = encH f
  apply List.ext_getElem?
  intro j
  by_cases hj : j < 65
  · rw [encH_get f j hj]
    exact hf ⟨j, hj⟩
  · rw [List.getElem?_eq_none (by rw [hcl, hcH]; omega), List.getElem?_eq_none (by rw [encH_len]; omega)]
def HiOk (c : CL) : Prop := -9223372036854775808 ≤ c.hi ∧ c.hi ≤ 9223372036854775807
end Go.Proofs.Ytheaipbnbnjlgaa.Ce
