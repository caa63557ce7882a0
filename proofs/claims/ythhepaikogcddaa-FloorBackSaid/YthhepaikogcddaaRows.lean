/-
  No cell of these rows narrows 'for every input' (looked for: loops, veiled, ifaces, maps, wideKeys, modest, calm, conditions, laid).
  DERIVED. THE GIVEN ROWS OF THIS SEAT. 10 by the template 'for every input the law returns true; each argument reads behind the call as it read before'; 0 by the template 'total and deterministic' (their statements: YthhepaikogcddaaTotals.lean).
  GIVEN WITH THE SEED: the statements are not yours to turn. If you find one false, say at which input.
  Laid BY PROGRAM, IN A SANDBOX (cutbox-rows.mjs): the forced cells as the released guide's own fill.sh prints them over the translation d1f6d8d709b2cea2… (all of the seat's roots in one cut). By AI agents, Wed Nov 11 2026. No macro, syntax, notation, axiom, sorry.
-/
import Derived.Test.YthhepaikogcddaaChecked
import GoSem.Claim
import GoSem.ClaimJoined
import GoSem.ClaimMapViews
import Derived.JoinedTies
import Derived.KernelRfl
namespace Go.Proofs.Ythhepaikogcddaa
/- THE CELL 'sum', in the pinned program and in every row, IS THE sha256 OF THE DUMP (.gsa) THAT YthhepaikogcddaaProg.lean LOADS. Nothing in Lean hashes anything: it is a label: what it is worth is what the hold of that sum in a sandbox is worth. -/
noncomputable def Try.pinned : Pinned := { name := "ythhepaikogcddaa", sum := "d1f6d8d709b2cea2df223fa3d538770e68e687b844c3901dcb7f95b6dc559da1", checked := Try.checked }
namespace Rows
def none {H : Type} : Left H := { results := [], args := [] }

/-- 'estuarylaw01.FloorGroup': WHATEVER THE INPUT: true; the input reads as it did. -/
def floorGroupSpec : ChangeSpec := { name := "floorGroup", fn := fun _ => fun
  | [d1, d2, d3] => { results := [.lit (.bool true)], args := [d1, d2, d3] }
  | _ => none }
def floorGroupRow : OpenClaim := { program := "ythhepaikogcddaa", sum := "d1f6d8d709b2cea2df223fa3d538770e68e687b844c3901dcb7f95b6dc559da1", func := "estuary/estuarylaw01.FloorGroup", spec := "floorGroup", inPlace := ["math/bits.Add64"], named := ["math/bits.divideError", "math/bits.overflowError"], apart := false }
def FloorGroupSaid : Prop := floorGroupRow.holds Try.pinned (OpenSpec.ofChange floorGroupSpec)

/-- ITS FALSE NEIGHBOUR: 'it returns false'. Refute it at one input. -/
def floorGroupWrong : ChangeSpec := { name := "floorGroup", fn := fun _ => fun
  | [d1, d2, d3] => { results := [.lit (.bool false)], args := [d1, d2, d3] }
  | _ => none }
def FloorGroupWrongFalsely : Prop := floorGroupRow.holds Try.pinned (OpenSpec.ofChange floorGroupWrong)

/-- 'estuarylaw01.FloorShifts': WHATEVER THE INPUT: true; the input reads as it did. -/
def floorShiftsSpec : ChangeSpec := { name := "floorShifts", fn := fun _ => fun
  | [d1, d2] => { results := [.lit (.bool true)], args := [d1, d2] }
  | _ => none }
def floorShiftsRow : OpenClaim := { program := "ythhepaikogcddaa", sum := "d1f6d8d709b2cea2df223fa3d538770e68e687b844c3901dcb7f95b6dc559da1", func := "estuary/estuarylaw01.FloorShifts", spec := "floorShifts", inPlace := ["math/bits.Add64"], named := ["math/bits.divideError", "math/bits.overflowError"], apart := false }
def FloorShiftsSaid : Prop := floorShiftsRow.holds Try.pinned (OpenSpec.ofChange floorShiftsSpec)

/-- ITS FALSE NEIGHBOUR: 'it returns false'. Refute it at one input. -/
def floorShiftsWrong : ChangeSpec := { name := "floorShifts", fn := fun _ => fun
  | [d1, d2] => { results := [.lit (.bool false)], args := [d1, d2] }
  | _ => none }
def FloorShiftsWrongFalsely : Prop := floorShiftsRow.holds Try.pinned (OpenSpec.ofChange floorShiftsWrong)

/-- 'estuarylaw01.FloorNests': WHATEVER THE INPUT: true; the input reads as it did. -/
def floorNestsSpec : ChangeSpec := { name := "floorNests", fn := fun _ => fun
  | [d1, d2, d3] => { results := [.lit (.bool true)], args := [d1, d2, d3] }
  | _ => none }
def floorNestsRow : OpenClaim := { program := "ythhepaikogcddaa", sum := "d1f6d8d709b2cea2df223fa3d538770e68e687b844c3901dcb7f95b6dc559da1", func := "estuary/estuarylaw01.FloorNests", spec := "floorNests", inPlace := ["math/bits.Add64"], named := ["math/bits.divideError", "math/bits.overflowError"], apart := false }
def FloorNestsSaid : Prop := floorNestsRow.holds Try.pinned (OpenSpec.ofChange floorNestsSpec)

/-- ITS FALSE NEIGHBOUR: 'it returns false'. Refute it at one input. -/
def floorNestsWrong : ChangeSpec := { name := "floorNests", fn := fun _ => fun
  | [d1, d2, d3] => { results := [.lit (.bool false)], args := [d1, d2, d3] }
  | _ => none }
def FloorNestsWrongFalsely : Prop := floorNestsRow.holds Try.pinned (OpenSpec.ofChange floorNestsWrong)

/-- 'estuarylaw01.FloorDivides': WHATEVER THE INPUT: true; the input reads as it did. -/
def floorDividesSpec : ChangeSpec := { name := "floorDivides", fn := fun _ => fun
  | [d1, d2] => { results := [.lit (.bool true)], args := [d1, d2] }
  | _ => none }
def floorDividesRow : OpenClaim := { program := "ythhepaikogcddaa", sum := "d1f6d8d709b2cea2df223fa3d538770e68e687b844c3901dcb7f95b6dc559da1", func := "estuary/estuarylaw01.FloorDivides", spec := "floorDivides", inPlace := ["math/bits.Add64"], named := ["math/bits.divideError", "math/bits.overflowError"], apart := false }
def FloorDividesSaid : Prop := floorDividesRow.holds Try.pinned (OpenSpec.ofChange floorDividesSpec)

/-- ITS FALSE NEIGHBOUR: 'it returns false'. Refute it at one input. -/
def floorDividesWrong : ChangeSpec := { name := "floorDivides", fn := fun _ => fun
  | [d1, d2] => { results := [.lit (.bool false)], args := [d1, d2] }
  | _ => none }
def FloorDividesWrongFalsely : Prop := floorDividesRow.holds Try.pinned (OpenSpec.ofChange floorDividesWrong)

/-- 'estuarylaw01.FloorRises': WHATEVER THE INPUT: true; the input reads as it did. -/
def floorRisesSpec : ChangeSpec := { name := "floorRises", fn := fun _ => fun
  | [d] => { results := [.lit (.bool true)], args := [d] }
  | _ => none }
def floorRisesRow : OpenClaim := { program := "ythhepaikogcddaa", sum := "d1f6d8d709b2cea2df223fa3d538770e68e687b844c3901dcb7f95b6dc559da1", func := "estuary/estuarylaw01.FloorRises", spec := "floorRises", inPlace := ["math/bits.Add64"], named := ["math/bits.divideError", "math/bits.overflowError"], apart := false }
def FloorRisesSaid : Prop := floorRisesRow.holds Try.pinned (OpenSpec.ofChange floorRisesSpec)

/-- ITS FALSE NEIGHBOUR: 'it returns false'. Refute it at one input. -/
def floorRisesWrong : ChangeSpec := { name := "floorRises", fn := fun _ => fun
  | [d] => { results := [.lit (.bool false)], args := [d] }
  | _ => none }
def FloorRisesWrongFalsely : Prop := floorRisesRow.holds Try.pinned (OpenSpec.ofChange floorRisesWrong)

/-- 'estuarylaw01.FloorSums': WHATEVER THE INPUT: true; the input reads as it did. -/
def floorSumsSpec : ChangeSpec := { name := "floorSums", fn := fun _ => fun
  | [d1, d2] => { results := [.lit (.bool true)], args := [d1, d2] }
  | _ => none }
def floorSumsRow : OpenClaim := { program := "ythhepaikogcddaa", sum := "d1f6d8d709b2cea2df223fa3d538770e68e687b844c3901dcb7f95b6dc559da1", func := "estuary/estuarylaw01.FloorSums", spec := "floorSums", inPlace := ["math/bits.Add64"], named := ["math/bits.divideError", "math/bits.overflowError"], apart := false }
def FloorSumsSaid : Prop := floorSumsRow.holds Try.pinned (OpenSpec.ofChange floorSumsSpec)

/-- ITS FALSE NEIGHBOUR: 'it returns false'. Refute it at one input. -/
def floorSumsWrong : ChangeSpec := { name := "floorSums", fn := fun _ => fun
  | [d1, d2] => { results := [.lit (.bool false)], args := [d1, d2] }
  | _ => none }
def FloorSumsWrongFalsely : Prop := floorSumsRow.holds Try.pinned (OpenSpec.ofChange floorSumsWrong)

/-- 'estuarylaw01.FloorKeeps': WHATEVER THE INPUT: true; the input reads as it did. -/
def floorKeepsSpec : ChangeSpec := { name := "floorKeeps", fn := fun _ => fun
  | [d1, d2] => { results := [.lit (.bool true)], args := [d1, d2] }
  | _ => none }
def floorKeepsRow : OpenClaim := { program := "ythhepaikogcddaa", sum := "d1f6d8d709b2cea2df223fa3d538770e68e687b844c3901dcb7f95b6dc559da1", func := "estuary/estuarylaw01.FloorKeeps", spec := "floorKeeps", inPlace := ["math/bits.Add64"], named := ["math/bits.divideError", "math/bits.overflowError"], apart := false }
def FloorKeepsSaid : Prop := floorKeepsRow.holds Try.pinned (OpenSpec.ofChange floorKeepsSpec)

/-- ITS FALSE NEIGHBOUR: 'it returns false'. Refute it at one input. -/
def floorKeepsWrong : ChangeSpec := { name := "floorKeeps", fn := fun _ => fun
  | [d1, d2] => { results := [.lit (.bool false)], args := [d1, d2] }
  | _ => none }
def FloorKeepsWrongFalsely : Prop := floorKeepsRow.holds Try.pinned (OpenSpec.ofChange floorKeepsWrong)

/-- 'estuarylaw01.FloorBits': WHATEVER THE INPUT: true; the input reads as it did. -/
def floorBitsSpec : ChangeSpec := { name := "floorBits", fn := fun _ => fun
  | [d] => { results := [.lit (.bool true)], args := [d] }
  | _ => none }
def floorBitsRow : OpenClaim := { program := "ythhepaikogcddaa", sum := "d1f6d8d709b2cea2df223fa3d538770e68e687b844c3901dcb7f95b6dc559da1", func := "estuary/estuarylaw01.FloorBits", spec := "floorBits", inPlace := ["math/bits.Add64"], named := ["math/bits.divideError", "math/bits.overflowError"], apart := false }
def FloorBitsSaid : Prop := floorBitsRow.holds Try.pinned (OpenSpec.ofChange floorBitsSpec)

/-- ITS FALSE NEIGHBOUR: 'it returns false'. Refute it at one input. -/
def floorBitsWrong : ChangeSpec := { name := "floorBits", fn := fun _ => fun
  | [d] => { results := [.lit (.bool false)], args := [d] }
  | _ => none }
def FloorBitsWrongFalsely : Prop := floorBitsRow.holds Try.pinned (OpenSpec.ofChange floorBitsWrong)

/-- 'estuarylaw01.FloorTexts': WHATEVER THE INPUT: true; the input reads as it did. -/
def floorTextsSpec : ChangeSpec := { name := "floorTexts", fn := fun _ => fun
  | [d1, d2] => { results := [.lit (.bool true)], args := [d1, d2] }
  | _ => none }
def floorTextsRow : OpenClaim := { program := "ythhepaikogcddaa", sum := "d1f6d8d709b2cea2df223fa3d538770e68e687b844c3901dcb7f95b6dc559da1", func := "estuary/estuarylaw01.FloorTexts", spec := "floorTexts", inPlace := ["math/bits.Add64"], named := ["math/bits.divideError", "math/bits.overflowError"], apart := false }
def FloorTextsSaid : Prop := floorTextsRow.holds Try.pinned (OpenSpec.ofChange floorTextsSpec)

/-- ITS FALSE NEIGHBOUR: 'it returns false'. Refute it at one input. -/
def floorTextsWrong : ChangeSpec := { name := "floorTexts", fn := fun _ => fun
  | [d1, d2] => { results := [.lit (.bool false)], args := [d1, d2] }
  | _ => none }
def FloorTextsWrongFalsely : Prop := floorTextsRow.holds Try.pinned (OpenSpec.ofChange floorTextsWrong)

/-- 'estuarylaw01.FloorBack': WHATEVER THE INPUT: true; the input reads as it did. -/
def floorBackSpec : ChangeSpec := { name := "floorBack", fn := fun _ => fun
  | [d1, d2] => { results := [.lit (.bool true)], args := [d1, d2] }
  | _ => none }
def floorBackRow : OpenClaim := { program := "ythhepaikogcddaa", sum := "d1f6d8d709b2cea2df223fa3d538770e68e687b844c3901dcb7f95b6dc559da1", func := "estuary/estuarylaw01.FloorBack", spec := "floorBack", inPlace := ["math/bits.Add64"], named := ["math/bits.divideError", "math/bits.overflowError"], apart := false }
def FloorBackSaid : Prop := floorBackRow.holds Try.pinned (OpenSpec.ofChange floorBackSpec)

/-- ITS FALSE NEIGHBOUR: 'it returns false'. Refute it at one input. -/
def floorBackWrong : ChangeSpec := { name := "floorBack", fn := fun _ => fun
  | [d1, d2] => { results := [.lit (.bool false)], args := [d1, d2] }
  | _ => none }
def FloorBackWrongFalsely : Prop := floorBackRow.holds Try.pinned (OpenSpec.ofChange floorBackWrong)

/- THE SECOND FORM. 'bulk': how many values and letters a reading holds, each counted each time it is reached (what is shared counts as often as it is met; a slice's spare places count too). A statement '..UptoSaid' is the law's where the arguments, and the package variables that the reading takes, are together of bulk at most 1048576: NARROWER than '..Said'. Prove '..Said' where nothing that the law and all that it calls make is longer than what came in: it says more and counts as full. Else prove '..UptoSaid'. A law counts once. -/
mutual
def uptoBulk {H : Type} : DataW H → Nat
  | .lit (.string bytes) => bytes.length + 1
  | .lit _ => 1
  | .nil => 1
  | .ptr d => uptoBulk d + 1
  | .slice elems spare => uptoBulkAll elems + uptoBulkAll spare + 1
  | .agg parts => uptoBulkAll parts + 1
  | .iface _ d => uptoBulk d + 1
  | .map entries => uptoBulkEntries entries + 1
  | .held _ => 1
def uptoBulkAll {H : Type} : List (DataW H) → Nat
  | [] => 0
  | d :: r => uptoBulk d + uptoBulkAll r
def uptoBulkEntries {H : Type} : List (Lit × DataW H) → Nat
  | [] => 0
  | x :: r => uptoBulkEntry x + uptoBulkEntries r
def uptoBulkEntry {H : Type} : Lit × DataW H → Nat
  | (.string bytes, d) => bytes.length + uptoBulk d + 1
  | (_, d) => uptoBulk d + 1
 end
def uptoSmall : (H : Type) → List (DataW H) → Bool := fun _ ds => decide (uptoBulkAll ds ≤ 1048576)
def OpenSpec.upto (s : _root_.Go.ChangeSpec) : _root_.Go.OpenSpec := { _root_.Go.OpenSpec.ofChange s with cond := some uptoSmall }

/-- 'estuarylaw01.FloorGroup', WHERE WHAT IT READS IS OF BULK AT MOST 1048576: true; the input reads as it did. -/
def floorGroupUptoRow : OpenClaim := { program := "ythhepaikogcddaa", sum := "d1f6d8d709b2cea2df223fa3d538770e68e687b844c3901dcb7f95b6dc559da1", func := "estuary/estuarylaw01.FloorGroup", spec := "floorGroup", inPlace := ["math/bits.Add64"], named := ["math/bits.divideError", "math/bits.overflowError"], apart := false, narrowed := true }
def FloorGroupUptoSaid : Prop := floorGroupUptoRow.holds Try.pinned (OpenSpec.upto floorGroupSpec)

/-- 'estuarylaw01.FloorShifts', WHERE WHAT IT READS IS OF BULK AT MOST 1048576: true; the input reads as it did. -/
def floorShiftsUptoRow : OpenClaim := { program := "ythhepaikogcddaa", sum := "d1f6d8d709b2cea2df223fa3d538770e68e687b844c3901dcb7f95b6dc559da1", func := "estuary/estuarylaw01.FloorShifts", spec := "floorShifts", inPlace := ["math/bits.Add64"], named := ["math/bits.divideError", "math/bits.overflowError"], apart := false, narrowed := true }
def FloorShiftsUptoSaid : Prop := floorShiftsUptoRow.holds Try.pinned (OpenSpec.upto floorShiftsSpec)

/-- 'estuarylaw01.FloorNests', WHERE WHAT IT READS IS OF BULK AT MOST 1048576: true; the input reads as it did. -/
def floorNestsUptoRow : OpenClaim := { program := "ythhepaikogcddaa", sum := "d1f6d8d709b2cea2df223fa3d538770e68e687b844c3901dcb7f95b6dc559da1", func := "estuary/estuarylaw01.FloorNests", spec := "floorNests", inPlace := ["math/bits.Add64"], named := ["math/bits.divideError", "math/bits.overflowError"], apart := false, narrowed := true }
def FloorNestsUptoSaid : Prop := floorNestsUptoRow.holds Try.pinned (OpenSpec.upto floorNestsSpec)

/-- 'estuarylaw01.FloorDivides', WHERE WHAT IT READS IS OF BULK AT MOST 1048576: true; the input reads as it did. -/
def floorDividesUptoRow : OpenClaim := { program := "ythhepaikogcddaa", sum := "d1f6d8d709b2cea2df223fa3d538770e68e687b844c3901dcb7f95b6dc559da1", func := "estuary/estuarylaw01.FloorDivides", spec := "floorDivides", inPlace := ["math/bits.Add64"], named := ["math/bits.divideError", "math/bits.overflowError"], apart := false, narrowed := true }
def FloorDividesUptoSaid : Prop := floorDividesUptoRow.holds Try.pinned (OpenSpec.upto floorDividesSpec)

/-- 'estuarylaw01.FloorRises', WHERE WHAT IT READS IS OF BULK AT MOST 1048576: true; the input reads as it did. -/
def floorRisesUptoRow : OpenClaim := { program := "ythhepaikogcddaa", sum := "d1f6d8d709b2cea2df223fa3d538770e68e687b844c3901dcb7f95b6dc559da1", func := "estuary/estuarylaw01.FloorRises", spec := "floorRises", inPlace := ["math/bits.Add64"], named := ["math/bits.divideError", "math/bits.overflowError"], apart := false, narrowed := true }
def FloorRisesUptoSaid : Prop := floorRisesUptoRow.holds Try.pinned (OpenSpec.upto floorRisesSpec)

/-- 'estuarylaw01.FloorSums', WHERE WHAT IT READS IS OF BULK AT MOST 1048576: true; the input reads as it did. -/
def floorSumsUptoRow : OpenClaim := { program := "ythhepaikogcddaa", sum := "d1f6d8d709b2cea2df223fa3d538770e68e687b844c3901dcb7f95b6dc559da1", func := "estuary/estuarylaw01.FloorSums", spec := "floorSums", inPlace := ["math/bits.Add64"], named := ["math/bits.divideError", "math/bits.overflowError"], apart := false, narrowed := true }
def FloorSumsUptoSaid : Prop := floorSumsUptoRow.holds Try.pinned (OpenSpec.upto floorSumsSpec)

/-- 'estuarylaw01.FloorKeeps', WHERE WHAT IT READS IS OF BULK AT MOST 1048576: true; the input reads as it did. -/
def floorKeepsUptoRow : OpenClaim := { program := "ythhepaikogcddaa", sum := "d1f6d8d709b2cea2df223fa3d538770e68e687b844c3901dcb7f95b6dc559da1", func := "estuary/estuarylaw01.FloorKeeps", spec := "floorKeeps", inPlace := ["math/bits.Add64"], named := ["math/bits.divideError", "math/bits.overflowError"], apart := false, narrowed := true }
def FloorKeepsUptoSaid : Prop := floorKeepsUptoRow.holds Try.pinned (OpenSpec.upto floorKeepsSpec)

/-- 'estuarylaw01.FloorBits', WHERE WHAT IT READS IS OF BULK AT MOST 1048576: true; the input reads as it did. -/
def floorBitsUptoRow : OpenClaim := { program := "ythhepaikogcddaa", sum := "d1f6d8d709b2cea2df223fa3d538770e68e687b844c3901dcb7f95b6dc559da1", func := "estuary/estuarylaw01.FloorBits", spec := "floorBits", inPlace := ["math/bits.Add64"], named := ["math/bits.divideError", "math/bits.overflowError"], apart := false, narrowed := true }
def FloorBitsUptoSaid : Prop := floorBitsUptoRow.holds Try.pinned (OpenSpec.upto floorBitsSpec)

/-- 'estuarylaw01.FloorTexts', WHERE WHAT IT READS IS OF BULK AT MOST 1048576: true; the input reads as it did. -/
def floorTextsUptoRow : OpenClaim := { program := "ythhepaikogcddaa", sum := "d1f6d8d709b2cea2df223fa3d538770e68e687b844c3901dcb7f95b6dc559da1", func := "estuary/estuarylaw01.FloorTexts", spec := "floorTexts", inPlace := ["math/bits.Add64"], named := ["math/bits.divideError", "math/bits.overflowError"], apart := false, narrowed := true }
def FloorTextsUptoSaid : Prop := floorTextsUptoRow.holds Try.pinned (OpenSpec.upto floorTextsSpec)

/-- 'estuarylaw01.FloorBack', WHERE WHAT IT READS IS OF BULK AT MOST 1048576: true; the input reads as it did. -/
def floorBackUptoRow : OpenClaim := { program := "ythhepaikogcddaa", sum := "d1f6d8d709b2cea2df223fa3d538770e68e687b844c3901dcb7f95b6dc559da1", func := "estuary/estuarylaw01.FloorBack", spec := "floorBack", inPlace := ["math/bits.Add64"], named := ["math/bits.divideError", "math/bits.overflowError"], apart := false, narrowed := true }
def FloorBackUptoSaid : Prop := floorBackUptoRow.holds Try.pinned (OpenSpec.upto floorBackSpec)

end Rows
end Go.Proofs.Ythhepaikogcddaa
