/-
  No cell of these rows narrows 'for every input' (looked for: loops, veiled, ifaces, maps, wideKeys, modest, calm, conditions, laid).
  DERIVED. THE GIVEN ROWS OF THIS SEAT. 6 by the template 'for every input the law returns true; each argument reads behind the call as it read before'; 0 by the template 'total and deterministic' (their statements: YtbbhdohjhipalaaTotals.lean).
  GIVEN WITH THE SEED: the statements are not yours to turn. If you find one false, say at which input.
  Laid BY PROGRAM, IN A SANDBOX (cutbox-rows.mjs): the forced cells as the released guide's own fill.sh prints them over the translation 569ccc2a3785ea8c… (all of the seat's roots in one cut). By AI agents, Wed Nov 11 2026. No macro, syntax, notation, axiom, sorry.
-/
import Derived.Test.YtbbhdohjhipalaaChecked
import GoSem.Claim
import GoSem.ClaimJoined
import GoSem.ClaimMapViews
import Derived.JoinedTies
import Derived.KernelRfl
namespace Go.Proofs.Ytbbhdohjhipalaa
/- THE CELL 'sum', in the pinned program and in every row, IS THE sha256 OF THE DUMP (.gsa) THAT YtbbhdohjhipalaaProg.lean LOADS. Nothing in Lean hashes anything: it is a label: what it is worth is what the hold of that sum in a sandbox is worth. -/
noncomputable def Try.pinned : Pinned := { name := "ytbbhdohjhipalaa", sum := "569ccc2a3785ea8c7f16e708f857dd71c73ef72c10eb3972ec510772a401b5b2", checked := Try.checked }
namespace Rows
def none {H : Type} : Left H := { results := [], args := [] }

/-- 'estuarylaw05.NoteForms': WHATEVER THE INPUT: true; the input reads as it did. -/
def noteFormsSpec : ChangeSpec := { name := "noteForms", fn := fun _ => fun
  | [d] => { results := [.lit (.bool true)], args := [d] }
  | _ => none }
def noteFormsRow : OpenClaim := { program := "ytbbhdohjhipalaa", sum := "569ccc2a3785ea8c7f16e708f857dd71c73ef72c10eb3972ec510772a401b5b2", func := "estuary/estuarylaw05.NoteForms", spec := "noteForms", unfollowed := true, recurses := true, apart := false }
def NoteFormsSaid : Prop := noteFormsRow.holds Try.pinned (OpenSpec.ofChange noteFormsSpec)

/-- ITS FALSE NEIGHBOUR: 'it returns false'. Refute it at one input. -/
def noteFormsWrong : ChangeSpec := { name := "noteForms", fn := fun _ => fun
  | [d] => { results := [.lit (.bool false)], args := [d] }
  | _ => none }
def NoteFormsWrongFalsely : Prop := noteFormsRow.holds Try.pinned (OpenSpec.ofChange noteFormsWrong)

/-- 'estuarylaw05.NoteReads': WHATEVER THE INPUT: true; the input reads as it did. -/
def noteReadsSpec : ChangeSpec := { name := "noteReads", fn := fun _ => fun
  | [d] => { results := [.lit (.bool true)], args := [d] }
  | _ => none }
def noteReadsRow : OpenClaim := { program := "ytbbhdohjhipalaa", sum := "569ccc2a3785ea8c7f16e708f857dd71c73ef72c10eb3972ec510772a401b5b2", func := "estuary/estuarylaw05.NoteReads", spec := "noteReads", unfollowed := true, recurses := true, apart := false }
def NoteReadsSaid : Prop := noteReadsRow.holds Try.pinned (OpenSpec.ofChange noteReadsSpec)

/-- ITS FALSE NEIGHBOUR: 'it returns false'. Refute it at one input. -/
def noteReadsWrong : ChangeSpec := { name := "noteReads", fn := fun _ => fun
  | [d] => { results := [.lit (.bool false)], args := [d] }
  | _ => none }
def NoteReadsWrongFalsely : Prop := noteReadsRow.holds Try.pinned (OpenSpec.ofChange noteReadsWrong)

/-- 'estuarylaw05.NoteKinds': WHATEVER THE INPUT: true; the input reads as it did. -/
def noteKindsSpec : ChangeSpec := { name := "noteKinds", fn := fun _ => fun
  | [d1, d2] => { results := [.lit (.bool true)], args := [d1, d2] }
  | _ => none }
def noteKindsRow : OpenClaim := { program := "ytbbhdohjhipalaa", sum := "569ccc2a3785ea8c7f16e708f857dd71c73ef72c10eb3972ec510772a401b5b2", func := "estuary/estuarylaw05.NoteKinds", spec := "noteKinds", unfollowed := true, recurses := true, apart := false }
def NoteKindsSaid : Prop := noteKindsRow.holds Try.pinned (OpenSpec.ofChange noteKindsSpec)

/-- ITS FALSE NEIGHBOUR: 'it returns false'. Refute it at one input. -/
def noteKindsWrong : ChangeSpec := { name := "noteKinds", fn := fun _ => fun
  | [d1, d2] => { results := [.lit (.bool false)], args := [d1, d2] }
  | _ => none }
def NoteKindsWrongFalsely : Prop := noteKindsRow.holds Try.pinned (OpenSpec.ofChange noteKindsWrong)

/-- 'estuarylaw05.NoteBack': WHATEVER THE INPUT: true; the input reads as it did. -/
def noteBackSpec : ChangeSpec := { name := "noteBack", fn := fun _ => fun
  | [d1, d2] => { results := [.lit (.bool true)], args := [d1, d2] }
  | _ => none }
def noteBackRow : OpenClaim := { program := "ytbbhdohjhipalaa", sum := "569ccc2a3785ea8c7f16e708f857dd71c73ef72c10eb3972ec510772a401b5b2", func := "estuary/estuarylaw05.NoteBack", spec := "noteBack", unfollowed := true, recurses := true, apart := false }
def NoteBackSaid : Prop := noteBackRow.holds Try.pinned (OpenSpec.ofChange noteBackSpec)

/-- ITS FALSE NEIGHBOUR: 'it returns false'. Refute it at one input. -/
def noteBackWrong : ChangeSpec := { name := "noteBack", fn := fun _ => fun
  | [d1, d2] => { results := [.lit (.bool false)], args := [d1, d2] }
  | _ => none }
def NoteBackWrongFalsely : Prop := noteBackRow.holds Try.pinned (OpenSpec.ofChange noteBackWrong)

/-- 'estuarylaw05.NoteSames': WHATEVER THE INPUT: true; the input reads as it did. -/
def noteSamesSpec : ChangeSpec := { name := "noteSames", fn := fun _ => fun
  | [d1, d2] => { results := [.lit (.bool true)], args := [d1, d2] }
  | _ => none }
def noteSamesRow : OpenClaim := { program := "ytbbhdohjhipalaa", sum := "569ccc2a3785ea8c7f16e708f857dd71c73ef72c10eb3972ec510772a401b5b2", func := "estuary/estuarylaw05.NoteSames", spec := "noteSames", unfollowed := true, recurses := true, apart := false }
def NoteSamesSaid : Prop := noteSamesRow.holds Try.pinned (OpenSpec.ofChange noteSamesSpec)

/-- ITS FALSE NEIGHBOUR: 'it returns false'. Refute it at one input. -/
def noteSamesWrong : ChangeSpec := { name := "noteSames", fn := fun _ => fun
  | [d1, d2] => { results := [.lit (.bool false)], args := [d1, d2] }
  | _ => none }
def NoteSamesWrongFalsely : Prop := noteSamesRow.holds Try.pinned (OpenSpec.ofChange noteSamesWrong)

/-- 'estuarylaw05.NotePlaces': WHATEVER THE INPUT: true; the input reads as it did. -/
def notePlacesSpec : ChangeSpec := { name := "notePlaces", fn := fun _ => fun
  | [d1, d2] => { results := [.lit (.bool true)], args := [d1, d2] }
  | _ => none }
def notePlacesRow : OpenClaim := { program := "ytbbhdohjhipalaa", sum := "569ccc2a3785ea8c7f16e708f857dd71c73ef72c10eb3972ec510772a401b5b2", func := "estuary/estuarylaw05.NotePlaces", spec := "notePlaces", unfollowed := true, recurses := true, apart := false }
def NotePlacesSaid : Prop := notePlacesRow.holds Try.pinned (OpenSpec.ofChange notePlacesSpec)

/-- ITS FALSE NEIGHBOUR: 'it returns false'. Refute it at one input. -/
def notePlacesWrong : ChangeSpec := { name := "notePlaces", fn := fun _ => fun
  | [d1, d2] => { results := [.lit (.bool false)], args := [d1, d2] }
  | _ => none }
def NotePlacesWrongFalsely : Prop := notePlacesRow.holds Try.pinned (OpenSpec.ofChange notePlacesWrong)

/- THE SECOND FORM. 'bulk': how many values and letters a reading holds, each counted each time it is reached (what is shared counts as often as it is met; a slice's spare places count too). A statement '..UptoSaid' is the law's where the arguments, and the package variables that the reading takes, are together of bulk at most 1048576: NARROWER than '..Said'. Prove '..Said' where nothing that the law and all that it calls make is longer than what came in: it says more and counts as full. Else prove '..UptoSaid'. A law counts once. -/
mutual
def uptoBulk {H : Type} : DataW H → Nat
  | .lit (.string bytes) => bytes.length + 1
  | .lit _ => 1
  | .nil => 1
  | .ptr d => uptoBulk d + 1
  | .slice elems spare => uptoBulkAll elems + uptoBulkAll spare + 1
  | .agg parts => uptoBulkAll parts + 1
  | .iface _ d => uptoBulk d + 1
  | .map entries => uptoBulkEntries entries + 1
  | .held _ => 1
def uptoBulkAll {H : Type} : List (DataW H) → Nat
  | [] => 0
  | d :: r => uptoBulk d + uptoBulkAll r
def uptoBulkEntries {H : Type} : List (Lit × DataW H) → Nat
  | [] => 0
  | x :: r => uptoBulkEntry x + uptoBulkEntries r
def uptoBulkEntry {H : Type} : Lit × DataW H → Nat
  | (.string bytes, d) => bytes.length + uptoBulk d + 1
  | (_, d) => uptoBulk d + 1
 end
def uptoSmall : (H : Type) → List (DataW H) → Bool := fun _ ds => decide (uptoBulkAll ds ≤ 1048576)
def OpenSpec.upto (s : _root_.Go.ChangeSpec) : _root_.Go.OpenSpec := { _root_.Go.OpenSpec.ofChange s with cond := some uptoSmall }

/-- 'estuarylaw05.NoteForms', WHERE WHAT IT READS IS OF BULK AT MOST 1048576: true; the input reads as it did. -/
def noteFormsUptoRow : OpenClaim := { program := "ytbbhdohjhipalaa", sum := "569ccc2a3785ea8c7f16e708f857dd71c73ef72c10eb3972ec510772a401b5b2", func := "estuary/estuarylaw05.NoteForms", spec := "noteForms", unfollowed := true, recurses := true, apart := false, narrowed := true }
def NoteFormsUptoSaid : Prop := noteFormsUptoRow.holds Try.pinned (OpenSpec.upto noteFormsSpec)

/-- 'estuarylaw05.NoteReads', WHERE WHAT IT READS IS OF BULK AT MOST 1048576: true; the input reads as it did. -/
def noteReadsUptoRow : OpenClaim := { program := "ytbbhdohjhipalaa", sum := "569ccc2a3785ea8c7f16e708f857dd71c73ef72c10eb3972ec510772a401b5b2", func := "estuary/estuarylaw05.NoteReads", spec := "noteReads", unfollowed := true, recurses := true, apart := false, narrowed := true }
def NoteReadsUptoSaid : Prop := noteReadsUptoRow.holds Try.pinned (OpenSpec.upto noteReadsSpec)

/-- 'estuarylaw05.NoteKinds', WHERE WHAT IT READS IS OF BULK AT MOST 1048576: true; the input reads as it did. -/
def noteKindsUptoRow : OpenClaim := { program := "ytbbhdohjhipalaa", sum := "569ccc2a3785ea8c7f16e708f857dd71c73ef72c10eb3972ec510772a401b5b2", func := "estuary/estuarylaw05.NoteKinds", spec := "noteKinds", unfollowed := true, recurses := true, apart := false, narrowed := true }
def NoteKindsUptoSaid : Prop := noteKindsUptoRow.holds Try.pinned (OpenSpec.upto noteKindsSpec)

/-- 'estuarylaw05.NoteBack', WHERE WHAT IT READS IS OF BULK AT MOST 1048576: true; the input reads as it did. -/
def noteBackUptoRow : OpenClaim := { program := "ytbbhdohjhipalaa", sum := "569ccc2a3785ea8c7f16e708f857dd71c73ef72c10eb3972ec510772a401b5b2", func := "estuary/estuarylaw05.NoteBack", spec := "noteBack", unfollowed := true, recurses := true, apart := false, narrowed := true }
def NoteBackUptoSaid : Prop := noteBackUptoRow.holds Try.pinned (OpenSpec.upto noteBackSpec)

/-- 'estuarylaw05.NoteSames', WHERE WHAT IT READS IS OF BULK AT MOST 1048576: true; the input reads as it did. -/
def noteSamesUptoRow : OpenClaim := { program := "ytbbhdohjhipalaa", sum := "569ccc2a3785ea8c7f16e708f857dd71c73ef72c10eb3972ec510772a401b5b2", func := "estuary/estuarylaw05.NoteSames", spec := "noteSames", unfollowed := true, recurses := true, apart := false, narrowed := true }
def NoteSamesUptoSaid : Prop := noteSamesUptoRow.holds Try.pinned (OpenSpec.upto noteSamesSpec)

/-- 'estuarylaw05.NotePlaces', WHERE WHAT IT READS IS OF BULK AT MOST 1048576: true; the input reads as it did. -/
def notePlacesUptoRow : OpenClaim := { program := "ytbbhdohjhipalaa", sum := "569ccc2a3785ea8c7f16e708f857dd71c73ef72c10eb3972ec510772a401b5b2", func := "estuary/estuarylaw05.NotePlaces", spec := "notePlaces", unfollowed := true, recurses := true, apart := false, narrowed := true }
def NotePlacesUptoSaid : Prop := notePlacesUptoRow.holds Try.pinned (OpenSpec.upto notePlacesSpec)

end Rows
end Go.Proofs.Ytbbhdohjhipalaa
