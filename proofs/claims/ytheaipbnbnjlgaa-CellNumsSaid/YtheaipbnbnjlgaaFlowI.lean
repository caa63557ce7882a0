/- Flow, ninth part: guarded operations that run. Own work; plain theorems. -/
import Derived.Test.YtheaipbnbnjlgaaFlowH
namespace Go.Proofs.Ytheaipbnbnjlgaa.Flow
open Go.RowKit Go.Proofs.YtheaipbnbnjlgaaW.PrintWords Go.Proofs.YtheaipbnbnjlgaaW.PrintLast Go.Proofs.YtheaipbnbnjlgaaW.PrintMore
set_option linter.unusedVariables false
set_option linter.unusedSimpArgs false
section
variable {P : Program} {cx : Cx} {n : Nat} {Q : Exit → Act → World → Prop} {G : Env} {w : World} {ops : Array Oper} {o : Oper} {rest : List Oper}
/-- A guarded operation that runs is walked as one without a guard. -/
theorem rw_on {g t : Nat} {b c : Bool} (hgd : o.guard = some (g, b)) (ht : (ops[g]?).bind (·.dst) = some t) (hl : sLook G t = some (.bool c)) (he : (c == b) = true)
    (k : RW P ops cx n Q ({ o with guard := none } :: rest) G w) : RW P ops cx n Q (o :: rest) G w := fun a ha => by
  have hw := wanted_some (ops := ops) ha hgd ht hl
  have h1 := k a ha
  unfold wpList at h1 ⊢
  rw [if_pos (by simp [Region.wanted])] at h1
  rw [if_pos (by rw [hw]; simpa using he)]
  exact h1
end
end Go.Proofs.Ytheaipbnbnjlgaa.Flow
