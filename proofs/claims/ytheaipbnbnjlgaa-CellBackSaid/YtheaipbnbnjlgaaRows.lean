/-
  No cell of these rows narrows 'for every input' (looked for: loops, veiled, ifaces, maps, wideKeys, modest, calm, conditions, laid).
  DERIVED. THE GIVEN ROWS OF THIS SEAT. 7 by the template 'for every input the law returns true; each argument reads behind the call as it read before'; 0 by the template 'total and deterministic' (their statements: YtheaipbnbnjlgaaTotals.lean).
  GIVEN WITH THE SEED: the statements are not yours to turn. If you find one false, say at which input.
  Laid BY PROGRAM, IN A SANDBOX (cutbox-rows.mjs): the forced cells as the released guide's own fill.sh prints them over the translation f56e3d7806b4871b… (all of the seat's roots in one cut). By AI agents, Wed Nov 11 2026. No macro, syntax, notation, axiom, sorry.
-/
import Derived.Test.YtheaipbnbnjlgaaChecked
import GoSem.Claim
import GoSem.ClaimJoined
import GoSem.ClaimMapViews
import Derived.JoinedTies
import Derived.KernelRfl
namespace Go.Proofs.Ytheaipbnbnjlgaa
/- THE CELL 'sum', in the pinned program and in every row, IS THE sha256 OF THE DUMP (.gsa) THAT YtheaipbnbnjlgaaProg.lean LOADS. Nothing in Lean hashes anything: it is a label: what it is worth is what the hold of that sum in a sandbox is worth. -/
noncomputable def Try.pinned : Pinned := { name := "ytheaipbnbnjlgaa", sum := "f56e3d7806b4871bce6551324e61bb4234832596b69a1e910ee825dd763869a7", checked := Try.checked }
namespace Rows
def none {H : Type} : Left H := { results := [], args := [] }

/-- 'estuarylaw02.CellOf': WHATEVER THE INPUT: true; the input reads as it did. -/
def cellOfSpec : ChangeSpec := { name := "cellOf", fn := fun _ => fun
  | [d] => { results := [.lit (.bool true)], args := [d] }
  | _ => none }
def cellOfRow : OpenClaim := { program := "ytheaipbnbnjlgaa", sum := "f56e3d7806b4871bce6551324e61bb4234832596b69a1e910ee825dd763869a7", func := "estuary/estuarylaw02.CellOf", spec := "cellOf", inPlace := ["math/bits.Add64"], apart := false }
def CellOfSaid : Prop := cellOfRow.holds Try.pinned (OpenSpec.ofChange cellOfSpec)

/-- ITS FALSE NEIGHBOUR: 'it returns false'. Refute it at one input. -/
def cellOfWrong : ChangeSpec := { name := "cellOf", fn := fun _ => fun
  | [d] => { results := [.lit (.bool false)], args := [d] }
  | _ => none }
def CellOfWrongFalsely : Prop := cellOfRow.holds Try.pinned (OpenSpec.ofChange cellOfWrong)

/-- 'estuarylaw02.CellGroups': WHATEVER THE INPUT: true; the input reads as it did. -/
def cellGroupsSpec : ChangeSpec := { name := "cellGroups", fn := fun _ => fun
  | [d1, d2] => { results := [.lit (.bool true)], args := [d1, d2] }
  | _ => none }
def cellGroupsRow : OpenClaim := { program := "ytheaipbnbnjlgaa", sum := "f56e3d7806b4871bce6551324e61bb4234832596b69a1e910ee825dd763869a7", func := "estuary/estuarylaw02.CellGroups", spec := "cellGroups", inPlace := ["math/bits.Add64"], apart := false }
def CellGroupsSaid : Prop := cellGroupsRow.holds Try.pinned (OpenSpec.ofChange cellGroupsSpec)

/-- ITS FALSE NEIGHBOUR: 'it returns false'. Refute it at one input. -/
def cellGroupsWrong : ChangeSpec := { name := "cellGroups", fn := fun _ => fun
  | [d1, d2] => { results := [.lit (.bool false)], args := [d1, d2] }
  | _ => none }
def CellGroupsWrongFalsely : Prop := cellGroupsRow.holds Try.pinned (OpenSpec.ofChange cellGroupsWrong)

/-- 'estuarylaw02.CellJoins': WHATEVER THE INPUT: true; the input reads as it did. -/
def cellJoinsSpec : ChangeSpec := { name := "cellJoins", fn := fun _ => fun
  | [d] => { results := [.lit (.bool true)], args := [d] }
  | _ => none }
def cellJoinsRow : OpenClaim := { program := "ytheaipbnbnjlgaa", sum := "f56e3d7806b4871bce6551324e61bb4234832596b69a1e910ee825dd763869a7", func := "estuary/estuarylaw02.CellJoins", spec := "cellJoins", inPlace := ["math/bits.Add64"], apart := false }
def CellJoinsSaid : Prop := cellJoinsRow.holds Try.pinned (OpenSpec.ofChange cellJoinsSpec)

/-- ITS FALSE NEIGHBOUR: 'it returns false'. Refute it at one input. -/
def cellJoinsWrong : ChangeSpec := { name := "cellJoins", fn := fun _ => fun
  | [d] => { results := [.lit (.bool false)], args := [d] }
  | _ => none }
def CellJoinsWrongFalsely : Prop := cellJoinsRow.holds Try.pinned (OpenSpec.ofChange cellJoinsWrong)

/-- 'estuarylaw02.CellLater': WHATEVER THE INPUT: true; the input reads as it did. -/
def cellLaterSpec : ChangeSpec := { name := "cellLater", fn := fun _ => fun
  | [d1, d2] => { results := [.lit (.bool true)], args := [d1, d2] }
  | _ => none }
def cellLaterRow : OpenClaim := { program := "ytheaipbnbnjlgaa", sum := "f56e3d7806b4871bce6551324e61bb4234832596b69a1e910ee825dd763869a7", func := "estuary/estuarylaw02.CellLater", spec := "cellLater", inPlace := ["math/bits.Add64"], apart := false }
def CellLaterSaid : Prop := cellLaterRow.holds Try.pinned (OpenSpec.ofChange cellLaterSpec)

/-- ITS FALSE NEIGHBOUR: 'it returns false'. Refute it at one input. -/
def cellLaterWrong : ChangeSpec := { name := "cellLater", fn := fun _ => fun
  | [d1, d2] => { results := [.lit (.bool false)], args := [d1, d2] }
  | _ => none }
def CellLaterWrongFalsely : Prop := cellLaterRow.holds Try.pinned (OpenSpec.ofChange cellLaterWrong)

/-- 'estuarylaw02.CellBounds': WHATEVER THE INPUT: true; the input reads as it did. -/
def cellBoundsSpec : ChangeSpec := { name := "cellBounds", fn := fun _ => fun
  | [d] => { results := [.lit (.bool true)], args := [d] }
  | _ => none }
def cellBoundsRow : OpenClaim := { program := "ytheaipbnbnjlgaa", sum := "f56e3d7806b4871bce6551324e61bb4234832596b69a1e910ee825dd763869a7", func := "estuary/estuarylaw02.CellBounds", spec := "cellBounds", inPlace := ["math/bits.Add64"], apart := false }
def CellBoundsSaid : Prop := cellBoundsRow.holds Try.pinned (OpenSpec.ofChange cellBoundsSpec)

/-- ITS FALSE NEIGHBOUR: 'it returns false'. Refute it at one input. -/
def cellBoundsWrong : ChangeSpec := { name := "cellBounds", fn := fun _ => fun
  | [d] => { results := [.lit (.bool false)], args := [d] }
  | _ => none }
def CellBoundsWrongFalsely : Prop := cellBoundsRow.holds Try.pinned (OpenSpec.ofChange cellBoundsWrong)

/-- 'estuarylaw02.CellNums': WHATEVER THE INPUT: true; the input reads as it did. -/
def cellNumsSpec : ChangeSpec := { name := "cellNums", fn := fun _ => fun
  | [d1, d2] => { results := [.lit (.bool true)], args := [d1, d2] }
  | _ => none }
def cellNumsRow : OpenClaim := { program := "ytheaipbnbnjlgaa", sum := "f56e3d7806b4871bce6551324e61bb4234832596b69a1e910ee825dd763869a7", func := "estuary/estuarylaw02.CellNums", spec := "cellNums", inPlace := ["math/bits.Add64"], unfollowed := true, recurses := true, apart := false }
def CellNumsSaid : Prop := cellNumsRow.holds Try.pinned (OpenSpec.ofChange cellNumsSpec)

/-- ITS FALSE NEIGHBOUR: 'it returns false'. Refute it at one input. -/
def cellNumsWrong : ChangeSpec := { name := "cellNums", fn := fun _ => fun
  | [d1, d2] => { results := [.lit (.bool false)], args := [d1, d2] }
  | _ => none }
def CellNumsWrongFalsely : Prop := cellNumsRow.holds Try.pinned (OpenSpec.ofChange cellNumsWrong)

/-- 'estuarylaw02.CellBack': WHATEVER THE INPUT: true; the input reads as it did. -/
def cellBackSpec : ChangeSpec := { name := "cellBack", fn := fun _ => fun
  | [d1, d2] => { results := [.lit (.bool true)], args := [d1, d2] }
  | _ => none }
def cellBackRow : OpenClaim := { program := "ytheaipbnbnjlgaa", sum := "f56e3d7806b4871bce6551324e61bb4234832596b69a1e910ee825dd763869a7", func := "estuary/estuarylaw02.CellBack", spec := "cellBack", inPlace := ["math/bits.Add64"], unfollowed := true, recurses := true, apart := false }
def CellBackSaid : Prop := cellBackRow.holds Try.pinned (OpenSpec.ofChange cellBackSpec)

/-- ITS FALSE NEIGHBOUR: 'it returns false'. Refute it at one input. -/
def cellBackWrong : ChangeSpec := { name := "cellBack", fn := fun _ => fun
  | [d1, d2] => { results := [.lit (.bool false)], args := [d1, d2] }
  | _ => none }
def CellBackWrongFalsely : Prop := cellBackRow.holds Try.pinned (OpenSpec.ofChange cellBackWrong)

/- THE SECOND FORM. 'bulk': how many values and letters a reading holds, each counted each time it is reached (what is shared counts as often as it is met; a slice's spare places count too). A statement '..UptoSaid' is the law's where the arguments, and the package variables that the reading takes, are together of bulk at most 1048576: NARROWER than '..Said'. Prove '..Said' where nothing that the law and all that it calls make is longer than what came in: it says more and counts as full. Else prove '..UptoSaid'. A law counts once. -/
mutual
def uptoBulk {H : Type} : DataW H → Nat
  | .lit (.string bytes) => bytes.length + 1
  | .lit _ => 1
  | .nil => 1
  | .ptr d => uptoBulk d + 1
  | .slice elems spare => uptoBulkAll elems + uptoBulkAll spare + 1
  | .agg parts => uptoBulkAll parts + 1
  | .iface _ d => uptoBulk d + 1
  | .map entries => uptoBulkEntries entries + 1
  | .held _ => 1
def uptoBulkAll {H : Type} : List (DataW H) → Nat
  | [] => 0
  | d :: r => uptoBulk d + uptoBulkAll r
def uptoBulkEntries {H : Type} : List (Lit × DataW H) → Nat
  | [] => 0
  | x :: r => uptoBulkEntry x + uptoBulkEntries r
def uptoBulkEntry {H : Type} : Lit × DataW H → Nat
  | (.string bytes, d) => bytes.length + uptoBulk d + 1
  | (_, d) => uptoBulk d + 1
 end
def uptoSmall : (H : Type) → List (DataW H) → Bool := fun _ ds => decide (uptoBulkAll ds ≤ 1048576)
def OpenSpec.upto (s : _root_.Go.ChangeSpec) : _root_.Go.OpenSpec := { _root_.Go.OpenSpec.ofChange s with cond := some uptoSmall }

/-- 'estuarylaw02.CellOf', WHERE WHAT IT READS IS OF BULK AT MOST 1048576: true; the input reads as it did. -/
def cellOfUptoRow : OpenClaim := { program := "ytheaipbnbnjlgaa", sum := "f56e3d7806b4871bce6551324e61bb4234832596b69a1e910ee825dd763869a7", func := "estuary/estuarylaw02.CellOf", spec := "cellOf", inPlace := ["math/bits.Add64"], apart := false, narrowed := true }
def CellOfUptoSaid : Prop := cellOfUptoRow.holds Try.pinned (OpenSpec.upto cellOfSpec)

/-- 'estuarylaw02.CellGroups', WHERE WHAT IT READS IS OF BULK AT MOST 1048576: true; the input reads as it did. -/
def cellGroupsUptoRow : OpenClaim := { program := "ytheaipbnbnjlgaa", sum := "f56e3d7806b4871bce6551324e61bb4234832596b69a1e910ee825dd763869a7", func := "estuary/estuarylaw02.CellGroups", spec := "cellGroups", inPlace := ["math/bits.Add64"], apart := false, narrowed := true }
def CellGroupsUptoSaid : Prop := cellGroupsUptoRow.holds Try.pinned (OpenSpec.upto cellGroupsSpec)

/-- 'estuarylaw02.CellJoins', WHERE WHAT IT READS IS OF BULK AT MOST 1048576: true; the input reads as it did. -/
def cellJoinsUptoRow : OpenClaim := { program := "ytheaipbnbnjlgaa", sum := "f56e3d7806b4871bce6551324e61bb4234832596b69a1e910ee825dd763869a7", func := "estuary/estuarylaw02.CellJoins", spec := "cellJoins", inPlace := ["math/bits.Add64"], apart := false, narrowed := true }
def CellJoinsUptoSaid : Prop := cellJoinsUptoRow.holds Try.pinned (OpenSpec.upto cellJoinsSpec)

/-- 'estuarylaw02.CellLater', WHERE WHAT IT READS IS OF BULK AT MOST 1048576: true; the input reads as it did. -/
def cellLaterUptoRow : OpenClaim := { program := "ytheaipbnbnjlgaa", sum := "f56e3d7806b4871bce6551324e61bb4234832596b69a1e910ee825dd763869a7", func := "estuary/estuarylaw02.CellLater", spec := "cellLater", inPlace := ["math/bits.Add64"], apart := false, narrowed := true }
def CellLaterUptoSaid : Prop := cellLaterUptoRow.holds Try.pinned (OpenSpec.upto cellLaterSpec)

/-- 'estuarylaw02.CellBounds', WHERE WHAT IT READS IS OF BULK AT MOST 1048576: true; the input reads as it did. -/
def cellBoundsUptoRow : OpenClaim := { program := "ytheaipbnbnjlgaa", sum := "f56e3d7806b4871bce6551324e61bb4234832596b69a1e910ee825dd763869a7", func := "estuary/estuarylaw02.CellBounds", spec := "cellBounds", inPlace := ["math/bits.Add64"], apart := false, narrowed := true }
def CellBoundsUptoSaid : Prop := cellBoundsUptoRow.holds Try.pinned (OpenSpec.upto cellBoundsSpec)

/-- 'estuarylaw02.CellNums', WHERE WHAT IT READS IS OF BULK AT MOST 1048576: true; the input reads as it did. -/
def cellNumsUptoRow : OpenClaim := { program := "ytheaipbnbnjlgaa", sum := "f56e3d7806b4871bce6551324e61bb4234832596b69a1e910ee825dd763869a7", func := "estuary/estuarylaw02.CellNums", spec := "cellNums", inPlace := ["math/bits.Add64"], unfollowed := true, recurses := true, apart := false, narrowed := true }
def CellNumsUptoSaid : Prop := cellNumsUptoRow.holds Try.pinned (OpenSpec.upto cellNumsSpec)

/-- 'estuarylaw02.CellBack', WHERE WHAT IT READS IS OF BULK AT MOST 1048576: true; the input reads as it did. -/
def cellBackUptoRow : OpenClaim := { program := "ytheaipbnbnjlgaa", sum := "f56e3d7806b4871bce6551324e61bb4234832596b69a1e910ee825dd763869a7", func := "estuary/estuarylaw02.CellBack", spec := "cellBack", inPlace := ["math/bits.Add64"], unfollowed := true, recurses := true, apart := false, narrowed := true }
def CellBackUptoSaid : Prop := cellBackUptoRow.holds Try.pinned (OpenSpec.upto cellBackSpec)

end Rows
end Go.Proofs.Ytheaipbnbnjlgaa
