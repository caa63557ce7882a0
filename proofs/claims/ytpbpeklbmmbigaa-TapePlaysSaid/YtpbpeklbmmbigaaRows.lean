/-
  No cell of these rows narrows 'for every input' (looked for: loops, veiled, ifaces, maps, wideKeys, modest, calm, conditions, laid).
  DERIVED. THE GIVEN ROWS OF THIS SEAT. 7 by the template 'for every input the law returns true; each argument reads behind the call as it read before'; 0 by the template 'total and deterministic' (their statements: YtpbpeklbmmbigaaTotals.lean).
  GIVEN WITH THE SEED: the statements are not yours to turn. If you find one false, say at which input.
  Laid BY PROGRAM, IN A SANDBOX (cutbox-rows.mjs): the forced cells as the released guide's own fill.sh prints them over the translation df32574a49499701… (all of the seat's roots in one cut). By AI agents, Wed Nov 11 2026. No macro, syntax, notation, axiom, sorry.
-/
import Derived.Test.YtpbpeklbmmbigaaChecked
import GoSem.Claim
import GoSem.ClaimJoined
import GoSem.ClaimMapViews
import Derived.JoinedTies
import Derived.KernelRfl
namespace Go.Proofs.Ytpbpeklbmmbigaa
/- THE CELL 'sum', in the pinned program and in every row, IS THE sha256 OF THE DUMP (.gsa) THAT YtpbpeklbmmbigaaProg.lean LOADS. Nothing in Lean hashes anything: it is a label: what it is worth is what the hold of that sum in a sandbox is worth. -/
noncomputable def Try.pinned : Pinned := { name := "ytpbpeklbmmbigaa", sum := "df32574a4949970181f1512f1ad02742be32d0d00102e167336596683d49c306", checked := Try.checked }
namespace Rows
def none {H : Type} : Left H := { results := [], args := [] }

/-- 'estuarylaw06.TapeSure': WHATEVER THE INPUT: true; the input reads as it did. -/
def tapeSureSpec : ChangeSpec := { name := "tapeSure", fn := fun _ => fun
  | [d1, d2, d3] => { results := [.lit (.bool true)], args := [d1, d2, d3] }
  | _ => none }
def tapeSureRow : OpenClaim := { program := "ytpbpeklbmmbigaa", sum := "df32574a4949970181f1512f1ad02742be32d0d00102e167336596683d49c306", func := "estuary/estuarylaw06.TapeSure", spec := "tapeSure", apart := false }
def TapeSureSaid : Prop := tapeSureRow.holds Try.pinned (OpenSpec.ofChange tapeSureSpec)

/-- ITS FALSE NEIGHBOUR: 'it returns false'. Refute it at one input. -/
def tapeSureWrong : ChangeSpec := { name := "tapeSure", fn := fun _ => fun
  | [d1, d2, d3] => { results := [.lit (.bool false)], args := [d1, d2, d3] }
  | _ => none }
def TapeSureWrongFalsely : Prop := tapeSureRow.holds Try.pinned (OpenSpec.ofChange tapeSureWrong)

/-- 'estuarylaw06.TapeAgain': WHATEVER THE INPUT: true; the input reads as it did. -/
def tapeAgainSpec : ChangeSpec := { name := "tapeAgain", fn := fun _ => fun
  | [d1, d2, d3] => { results := [.lit (.bool true)], args := [d1, d2, d3] }
  | _ => none }
def tapeAgainRow : OpenClaim := { program := "ytpbpeklbmmbigaa", sum := "df32574a4949970181f1512f1ad02742be32d0d00102e167336596683d49c306", func := "estuary/estuarylaw06.TapeAgain", spec := "tapeAgain", apart := false }
def TapeAgainSaid : Prop := tapeAgainRow.holds Try.pinned (OpenSpec.ofChange tapeAgainSpec)

/-- ITS FALSE NEIGHBOUR: 'it returns false'. Refute it at one input. -/
def tapeAgainWrong : ChangeSpec := { name := "tapeAgain", fn := fun _ => fun
  | [d1, d2, d3] => { results := [.lit (.bool false)], args := [d1, d2, d3] }
  | _ => none }
def TapeAgainWrongFalsely : Prop := tapeAgainRow.holds Try.pinned (OpenSpec.ofChange tapeAgainWrong)

/-- 'estuarylaw06.TapeFull': WHATEVER THE INPUT: true; the input reads as it did. -/
def tapeFullSpec : ChangeSpec := { name := "tapeFull", fn := fun _ => fun
  | [d] => { results := [.lit (.bool true)], args := [d] }
  | _ => none }
def tapeFullRow : OpenClaim := { program := "ytpbpeklbmmbigaa", sum := "df32574a4949970181f1512f1ad02742be32d0d00102e167336596683d49c306", func := "estuary/estuarylaw06.TapeFull", spec := "tapeFull", apart := false }
def TapeFullSaid : Prop := tapeFullRow.holds Try.pinned (OpenSpec.ofChange tapeFullSpec)

/-- ITS FALSE NEIGHBOUR: 'it returns false'. Refute it at one input. -/
def tapeFullWrong : ChangeSpec := { name := "tapeFull", fn := fun _ => fun
  | [d] => { results := [.lit (.bool false)], args := [d] }
  | _ => none }
def TapeFullWrongFalsely : Prop := tapeFullRow.holds Try.pinned (OpenSpec.ofChange tapeFullWrong)

/-- 'estuarylaw06.TapeSteps': WHATEVER THE INPUT: true; the input reads as it did. -/
def tapeStepsSpec : ChangeSpec := { name := "tapeSteps", fn := fun _ => fun
  | [d1, d2, d3] => { results := [.lit (.bool true)], args := [d1, d2, d3] }
  | _ => none }
def tapeStepsRow : OpenClaim := { program := "ytpbpeklbmmbigaa", sum := "df32574a4949970181f1512f1ad02742be32d0d00102e167336596683d49c306", func := "estuary/estuarylaw06.TapeSteps", spec := "tapeSteps", apart := false }
def TapeStepsSaid : Prop := tapeStepsRow.holds Try.pinned (OpenSpec.ofChange tapeStepsSpec)

/-- ITS FALSE NEIGHBOUR: 'it returns false'. Refute it at one input. -/
def tapeStepsWrong : ChangeSpec := { name := "tapeSteps", fn := fun _ => fun
  | [d1, d2, d3] => { results := [.lit (.bool false)], args := [d1, d2, d3] }
  | _ => none }
def TapeStepsWrongFalsely : Prop := tapeStepsRow.holds Try.pinned (OpenSpec.ofChange tapeStepsWrong)

/-- 'estuarylaw06.TapeReplaces': WHATEVER THE INPUT: true; the input reads as it did. -/
def tapeReplacesSpec : ChangeSpec := { name := "tapeReplaces", fn := fun _ => fun
  | [d] => { results := [.lit (.bool true)], args := [d] }
  | _ => none }
def tapeReplacesRow : OpenClaim := { program := "ytpbpeklbmmbigaa", sum := "df32574a4949970181f1512f1ad02742be32d0d00102e167336596683d49c306", func := "estuary/estuarylaw06.TapeReplaces", spec := "tapeReplaces", apart := false }
def TapeReplacesSaid : Prop := tapeReplacesRow.holds Try.pinned (OpenSpec.ofChange tapeReplacesSpec)

/-- ITS FALSE NEIGHBOUR: 'it returns false'. Refute it at one input. -/
def tapeReplacesWrong : ChangeSpec := { name := "tapeReplaces", fn := fun _ => fun
  | [d] => { results := [.lit (.bool false)], args := [d] }
  | _ => none }
def TapeReplacesWrongFalsely : Prop := tapeReplacesRow.holds Try.pinned (OpenSpec.ofChange tapeReplacesWrong)

/-- 'estuarylaw06.TapePlays': WHATEVER THE INPUT: true; the input reads as it did. -/
def tapePlaysSpec : ChangeSpec := { name := "tapePlays", fn := fun _ => fun
  | [d] => { results := [.lit (.bool true)], args := [d] }
  | _ => none }
def tapePlaysRow : OpenClaim := { program := "ytpbpeklbmmbigaa", sum := "df32574a4949970181f1512f1ad02742be32d0d00102e167336596683d49c306", func := "estuary/estuarylaw06.TapePlays", spec := "tapePlays", apart := false }
def TapePlaysSaid : Prop := tapePlaysRow.holds Try.pinned (OpenSpec.ofChange tapePlaysSpec)

/-- ITS FALSE NEIGHBOUR: 'it returns false'. Refute it at one input. -/
def tapePlaysWrong : ChangeSpec := { name := "tapePlays", fn := fun _ => fun
  | [d] => { results := [.lit (.bool false)], args := [d] }
  | _ => none }
def TapePlaysWrongFalsely : Prop := tapePlaysRow.holds Try.pinned (OpenSpec.ofChange tapePlaysWrong)

/-- 'estuarylaw06.TapeNone': WHATEVER THE INPUT: true; the input reads as it did. -/
def tapeNoneSpec : ChangeSpec := { name := "tapeNone", fn := fun _ => fun
  | [d1, d2] => { results := [.lit (.bool true)], args := [d1, d2] }
  | _ => none }
def tapeNoneRow : OpenClaim := { program := "ytpbpeklbmmbigaa", sum := "df32574a4949970181f1512f1ad02742be32d0d00102e167336596683d49c306", func := "estuary/estuarylaw06.TapeNone", spec := "tapeNone", apart := false }
def TapeNoneSaid : Prop := tapeNoneRow.holds Try.pinned (OpenSpec.ofChange tapeNoneSpec)

/-- ITS FALSE NEIGHBOUR: 'it returns false'. Refute it at one input. -/
def tapeNoneWrong : ChangeSpec := { name := "tapeNone", fn := fun _ => fun
  | [d1, d2] => { results := [.lit (.bool false)], args := [d1, d2] }
  | _ => none }
def TapeNoneWrongFalsely : Prop := tapeNoneRow.holds Try.pinned (OpenSpec.ofChange tapeNoneWrong)

/- THE SECOND FORM. 'bulk': how many values and letters a reading holds, each counted each time it is reached (what is shared counts as often as it is met; a slice's spare places count too). A statement '..UptoSaid' is the law's where the arguments, and the package variables that the reading takes, are together of bulk at most 1048576: NARROWER than '..Said'. Prove '..Said' where nothing that the law and all that it calls make is longer than what came in: it says more and counts as full. Else prove '..UptoSaid'. A law counts once. -/
mutual
def uptoBulk {H : Type} : DataW H → Nat
  | .lit (.string bytes) => bytes.length + 1
  | .lit _ => 1
  | .nil => 1
  | .ptr d => uptoBulk d + 1
  | .slice elems spare => uptoBulkAll elems + uptoBulkAll spare + 1
  | .agg parts => uptoBulkAll parts + 1
  | .iface _ d => uptoBulk d + 1
  | .map entries => uptoBulkEntries entries + 1
  | .held _ => 1
def uptoBulkAll {H : Type} : List (DataW H) → Nat
  | [] => 0
  | d :: r => uptoBulk d + uptoBulkAll r
def uptoBulkEntries {H : Type} : List (Lit × DataW H) → Nat
  | [] => 0
  | x :: r => uptoBulkEntry x + uptoBulkEntries r
def uptoBulkEntry {H : Type} : Lit × DataW H → Nat
  | (.string bytes, d) => bytes.length + uptoBulk d + 1
  | (_, d) => uptoBulk d + 1
 end
def uptoSmall : (H : Type) → List (DataW H) → Bool := fun _ ds => decide (uptoBulkAll ds ≤ 1048576)
def OpenSpec.upto (s : _root_.Go.ChangeSpec) : _root_.Go.OpenSpec := { _root_.Go.OpenSpec.ofChange s with cond := some uptoSmall }

/-- 'estuarylaw06.TapeSure', WHERE WHAT IT READS IS OF BULK AT MOST 1048576: true; the input reads as it did. -/
def tapeSureUptoRow : OpenClaim := { program := "ytpbpeklbmmbigaa", sum := "df32574a4949970181f1512f1ad02742be32d0d00102e167336596683d49c306", func := "estuary/estuarylaw06.TapeSure", spec := "tapeSure", apart := false, narrowed := true }
def TapeSureUptoSaid : Prop := tapeSureUptoRow.holds Try.pinned (OpenSpec.upto tapeSureSpec)

/-- 'estuarylaw06.TapeAgain', WHERE WHAT IT READS IS OF BULK AT MOST 1048576: true; the input reads as it did. -/
def tapeAgainUptoRow : OpenClaim := { program := "ytpbpeklbmmbigaa", sum := "df32574a4949970181f1512f1ad02742be32d0d00102e167336596683d49c306", func := "estuary/estuarylaw06.TapeAgain", spec := "tapeAgain", apart := false, narrowed := true }
def TapeAgainUptoSaid : Prop := tapeAgainUptoRow.holds Try.pinned (OpenSpec.upto tapeAgainSpec)

/-- 'estuarylaw06.TapeFull', WHERE WHAT IT READS IS OF BULK AT MOST 1048576: true; the input reads as it did. -/
def tapeFullUptoRow : OpenClaim := { program := "ytpbpeklbmmbigaa", sum := "df32574a4949970181f1512f1ad02742be32d0d00102e167336596683d49c306", func := "estuary/estuarylaw06.TapeFull", spec := "tapeFull", apart := false, narrowed := true }
def TapeFullUptoSaid : Prop := tapeFullUptoRow.holds Try.pinned (OpenSpec.upto tapeFullSpec)

/-- 'estuarylaw06.TapeSteps', WHERE WHAT IT READS IS OF BULK AT MOST 1048576: true; the input reads as it did. -/
def tapeStepsUptoRow : OpenClaim := { program := "ytpbpeklbmmbigaa", sum := "df32574a4949970181f1512f1ad02742be32d0d00102e167336596683d49c306", func := "estuary/estuarylaw06.TapeSteps", spec := "tapeSteps", apart := false, narrowed := true }
def TapeStepsUptoSaid : Prop := tapeStepsUptoRow.holds Try.pinned (OpenSpec.upto tapeStepsSpec)

/-- 'estuarylaw06.TapeReplaces', WHERE WHAT IT READS IS OF BULK AT MOST 1048576: true; the input reads as it did. -/
def tapeReplacesUptoRow : OpenClaim := { program := "ytpbpeklbmmbigaa", sum := "df32574a4949970181f1512f1ad02742be32d0d00102e167336596683d49c306", func := "estuary/estuarylaw06.TapeReplaces", spec := "tapeReplaces", apart := false, narrowed := true }
def TapeReplacesUptoSaid : Prop := tapeReplacesUptoRow.holds Try.pinned (OpenSpec.upto tapeReplacesSpec)

/-- 'estuarylaw06.TapePlays', WHERE WHAT IT READS IS OF BULK AT MOST 1048576: true; the input reads as it did. -/
def tapePlaysUptoRow : OpenClaim := { program := "ytpbpeklbmmbigaa", sum := "df32574a4949970181f1512f1ad02742be32d0d00102e167336596683d49c306", func := "estuary/estuarylaw06.TapePlays", spec := "tapePlays", apart := false, narrowed := true }
def TapePlaysUptoSaid : Prop := tapePlaysUptoRow.holds Try.pinned (OpenSpec.upto tapePlaysSpec)

/-- 'estuarylaw06.TapeNone', WHERE WHAT IT READS IS OF BULK AT MOST 1048576: true; the input reads as it did. -/
def tapeNoneUptoRow : OpenClaim := { program := "ytpbpeklbmmbigaa", sum := "df32574a4949970181f1512f1ad02742be32d0d00102e167336596683d49c306", func := "estuary/estuarylaw06.TapeNone", spec := "tapeNone", apart := false, narrowed := true }
def TapeNoneUptoSaid : Prop := tapeNoneUptoRow.holds Try.pinned (OpenSpec.upto tapeNoneSpec)

end Rows
end Go.Proofs.Ytpbpeklbmmbigaa
