/-
  No cell of these rows narrows 'for every input' (looked for: loops, veiled, ifaces, maps, wideKeys, modest, calm, conditions, laid).
  DERIVED. THE GIVEN ROWS OF THIS SEAT. 6 by the template 'for every input the law returns true; each argument reads behind the call as it read before'; 0 by the template 'total and deterministic' (their statements: YtiiljpaedelhlaaTotals.lean).
  GIVEN WITH THE SEED: the statements are not yours to turn. If you find one false, say at which input.
  Laid BY PROGRAM, IN A SANDBOX (cutbox-rows.mjs): the forced cells as the released guide's own fill.sh prints them over the translation 878da4462c8e8a96… (all of the seat's roots in one cut). By AI agents, Wed Nov 11 2026. No macro, syntax, notation, axiom, sorry.
-/
import Derived.Test.YtiiljpaedelhlaaChecked
import GoSem.Claim
import GoSem.ClaimJoined
import GoSem.ClaimMapViews
import Derived.JoinedTies
import Derived.KernelRfl
namespace Go.Proofs.Ytiiljpaedelhlaa
/- THE CELL 'sum', in the pinned program and in every row, IS THE sha256 OF THE DUMP (.gsa) THAT YtiiljpaedelhlaaProg.lean LOADS. Nothing in Lean hashes anything: it is a label: what it is worth is what the hold of that sum in a sandbox is worth. -/
noncomputable def Try.pinned : Pinned := { name := "ytiiljpaedelhlaa", sum := "878da4462c8e8a964a1afbfa140603a2c5c57b4a5fefa136cf300035d08cbefb", checked := Try.checked }
namespace Rows
def none {H : Type} : Left H := { results := [], args := [] }

/-- 'estuarylaw07.DiaryGrows': WHATEVER THE INPUT: true; the input reads as it did. -/
def diaryGrowsSpec : ChangeSpec := { name := "diaryGrows", fn := fun _ => fun
  | [d1, d2] => { results := [.lit (.bool true)], args := [d1, d2] }
  | _ => none }
def diaryGrowsRow : OpenClaim := { program := "ytiiljpaedelhlaa", sum := "878da4462c8e8a964a1afbfa140603a2c5c57b4a5fefa136cf300035d08cbefb", func := "estuary/estuarylaw07.DiaryGrows", spec := "diaryGrows", apart := false }
def DiaryGrowsSaid : Prop := diaryGrowsRow.holds Try.pinned (OpenSpec.ofChange diaryGrowsSpec)

/-- ITS FALSE NEIGHBOUR: 'it returns false'. Refute it at one input. -/
def diaryGrowsWrong : ChangeSpec := { name := "diaryGrows", fn := fun _ => fun
  | [d1, d2] => { results := [.lit (.bool false)], args := [d1, d2] }
  | _ => none }
def DiaryGrowsWrongFalsely : Prop := diaryGrowsRow.holds Try.pinned (OpenSpec.ofChange diaryGrowsWrong)

/-- 'estuarylaw07.DiaryOpens': WHATEVER THE INPUT: true; the input reads as it did. -/
def diaryOpensSpec : ChangeSpec := { name := "diaryOpens", fn := fun _ => fun
  | [d] => { results := [.lit (.bool true)], args := [d] }
  | _ => none }
def diaryOpensRow : OpenClaim := { program := "ytiiljpaedelhlaa", sum := "878da4462c8e8a964a1afbfa140603a2c5c57b4a5fefa136cf300035d08cbefb", func := "estuary/estuarylaw07.DiaryOpens", spec := "diaryOpens", apart := false }
def DiaryOpensSaid : Prop := diaryOpensRow.holds Try.pinned (OpenSpec.ofChange diaryOpensSpec)

/-- ITS FALSE NEIGHBOUR: 'it returns false'. Refute it at one input. -/
def diaryOpensWrong : ChangeSpec := { name := "diaryOpens", fn := fun _ => fun
  | [d] => { results := [.lit (.bool false)], args := [d] }
  | _ => none }
def DiaryOpensWrongFalsely : Prop := diaryOpensRow.holds Try.pinned (OpenSpec.ofChange diaryOpensWrong)

/-- 'estuarylaw07.DiaryCuts': WHATEVER THE INPUT: true; the input reads as it did. -/
def diaryCutsSpec : ChangeSpec := { name := "diaryCuts", fn := fun _ => fun
  | [d] => { results := [.lit (.bool true)], args := [d] }
  | _ => none }
def diaryCutsRow : OpenClaim := { program := "ytiiljpaedelhlaa", sum := "878da4462c8e8a964a1afbfa140603a2c5c57b4a5fefa136cf300035d08cbefb", func := "estuary/estuarylaw07.DiaryCuts", spec := "diaryCuts", apart := false }
def DiaryCutsSaid : Prop := diaryCutsRow.holds Try.pinned (OpenSpec.ofChange diaryCutsSpec)

/-- ITS FALSE NEIGHBOUR: 'it returns false'. Refute it at one input. -/
def diaryCutsWrong : ChangeSpec := { name := "diaryCuts", fn := fun _ => fun
  | [d] => { results := [.lit (.bool false)], args := [d] }
  | _ => none }
def DiaryCutsWrongFalsely : Prop := diaryCutsRow.holds Try.pinned (OpenSpec.ofChange diaryCutsWrong)

/-- 'estuarylaw07.DiaryNone': WHATEVER THE INPUT: true; the input reads as it did. -/
def diaryNoneSpec : ChangeSpec := { name := "diaryNone", fn := fun _ => fun
  | [d] => { results := [.lit (.bool true)], args := [d] }
  | _ => none }
def diaryNoneRow : OpenClaim := { program := "ytiiljpaedelhlaa", sum := "878da4462c8e8a964a1afbfa140603a2c5c57b4a5fefa136cf300035d08cbefb", func := "estuary/estuarylaw07.DiaryNone", spec := "diaryNone", apart := false }
def DiaryNoneSaid : Prop := diaryNoneRow.holds Try.pinned (OpenSpec.ofChange diaryNoneSpec)

/-- ITS FALSE NEIGHBOUR: 'it returns false'. Refute it at one input. -/
def diaryNoneWrong : ChangeSpec := { name := "diaryNone", fn := fun _ => fun
  | [d] => { results := [.lit (.bool false)], args := [d] }
  | _ => none }
def DiaryNoneWrongFalsely : Prop := diaryNoneRow.holds Try.pinned (OpenSpec.ofChange diaryNoneWrong)

/-- 'estuarylaw07.DiaryFull': WHATEVER THE INPUT: true; the input reads as it did. -/
def diaryFullSpec : ChangeSpec := { name := "diaryFull", fn := fun _ => fun
  | [d1, d2] => { results := [.lit (.bool true)], args := [d1, d2] }
  | _ => none }
def diaryFullRow : OpenClaim := { program := "ytiiljpaedelhlaa", sum := "878da4462c8e8a964a1afbfa140603a2c5c57b4a5fefa136cf300035d08cbefb", func := "estuary/estuarylaw07.DiaryFull", spec := "diaryFull", apart := false }
def DiaryFullSaid : Prop := diaryFullRow.holds Try.pinned (OpenSpec.ofChange diaryFullSpec)

/-- ITS FALSE NEIGHBOUR: 'it returns false'. Refute it at one input. -/
def diaryFullWrong : ChangeSpec := { name := "diaryFull", fn := fun _ => fun
  | [d1, d2] => { results := [.lit (.bool false)], args := [d1, d2] }
  | _ => none }
def DiaryFullWrongFalsely : Prop := diaryFullRow.holds Try.pinned (OpenSpec.ofChange diaryFullWrong)

/-- 'estuarylaw07.DiaryPlays': WHATEVER THE INPUT: true; the input reads as it did. -/
def diaryPlaysSpec : ChangeSpec := { name := "diaryPlays", fn := fun _ => fun
  | [d] => { results := [.lit (.bool true)], args := [d] }
  | _ => none }
def diaryPlaysRow : OpenClaim := { program := "ytiiljpaedelhlaa", sum := "878da4462c8e8a964a1afbfa140603a2c5c57b4a5fefa136cf300035d08cbefb", func := "estuary/estuarylaw07.DiaryPlays", spec := "diaryPlays", apart := false }
def DiaryPlaysSaid : Prop := diaryPlaysRow.holds Try.pinned (OpenSpec.ofChange diaryPlaysSpec)

/-- ITS FALSE NEIGHBOUR: 'it returns false'. Refute it at one input. -/
def diaryPlaysWrong : ChangeSpec := { name := "diaryPlays", fn := fun _ => fun
  | [d] => { results := [.lit (.bool false)], args := [d] }
  | _ => none }
def DiaryPlaysWrongFalsely : Prop := diaryPlaysRow.holds Try.pinned (OpenSpec.ofChange diaryPlaysWrong)

/- THE SECOND FORM. 'bulk': how many values and letters a reading holds, each counted each time it is reached (what is shared counts as often as it is met; a slice's spare places count too). A statement '..UptoSaid' is the law's where the arguments, and the package variables that the reading takes, are together of bulk at most 1048576: NARROWER than '..Said'. Prove '..Said' where nothing that the law and all that it calls make is longer than what came in: it says more and counts as full. Else prove '..UptoSaid'. A law counts once. -/
mutual
def uptoBulk {H : Type} : DataW H → Nat
  | .lit (.string bytes) => bytes.length + 1
  | .lit _ => 1
  | .nil => 1
  | .ptr d => uptoBulk d + 1
  | .slice elems spare => uptoBulkAll elems + uptoBulkAll spare + 1
  | .agg parts => uptoBulkAll parts + 1
  | .iface _ d => uptoBulk d + 1
  | .map entries => uptoBulkEntries entries + 1
  | .held _ => 1
def uptoBulkAll {H : Type} : List (DataW H) → Nat
  | [] => 0
  | d :: r => uptoBulk d + uptoBulkAll r
def uptoBulkEntries {H : Type} : List (Lit × DataW H) → Nat
  | [] => 0
  | x :: r => uptoBulkEntry x + uptoBulkEntries r
def uptoBulkEntry {H : Type} : Lit × DataW H → Nat
  | (.string bytes, d) => bytes.length + uptoBulk d + 1
  | (_, d) => uptoBulk d + 1
 end
def uptoSmall : (H : Type) → List (DataW H) → Bool := fun _ ds => decide (uptoBulkAll ds ≤ 1048576)
def OpenSpec.upto (s : _root_.Go.ChangeSpec) : _root_.Go.OpenSpec := { _root_.Go.OpenSpec.ofChange s with cond := some uptoSmall }

/-- 'estuarylaw07.DiaryGrows', WHERE WHAT IT READS IS OF BULK AT MOST 1048576: true; the input reads as it did. -/
def diaryGrowsUptoRow : OpenClaim := { program := "ytiiljpaedelhlaa", sum := "878da4462c8e8a964a1afbfa140603a2c5c57b4a5fefa136cf300035d08cbefb", func := "estuary/estuarylaw07.DiaryGrows", spec := "diaryGrows", apart := false, narrowed := true }
def DiaryGrowsUptoSaid : Prop := diaryGrowsUptoRow.holds Try.pinned (OpenSpec.upto diaryGrowsSpec)

/-- 'estuarylaw07.DiaryOpens', WHERE WHAT IT READS IS OF BULK AT MOST 1048576: true; the input reads as it did. -/
def diaryOpensUptoRow : OpenClaim := { program := "ytiiljpaedelhlaa", sum := "878da4462c8e8a964a1afbfa140603a2c5c57b4a5fefa136cf300035d08cbefb", func := "estuary/estuarylaw07.DiaryOpens", spec := "diaryOpens", apart := false, narrowed := true }
def DiaryOpensUptoSaid : Prop := diaryOpensUptoRow.holds Try.pinned (OpenSpec.upto diaryOpensSpec)

/-- 'estuarylaw07.DiaryCuts', WHERE WHAT IT READS IS OF BULK AT MOST 1048576: true; the input reads as it did. -/
def diaryCutsUptoRow : OpenClaim := { program := "ytiiljpaedelhlaa", sum := "878da4462c8e8a964a1afbfa140603a2c5c57b4a5fefa136cf300035d08cbefb", func := "estuary/estuarylaw07.DiaryCuts", spec := "diaryCuts", apart := false, narrowed := true }
def DiaryCutsUptoSaid : Prop := diaryCutsUptoRow.holds Try.pinned (OpenSpec.upto diaryCutsSpec)

/-- 'estuarylaw07.DiaryNone', WHERE WHAT IT READS IS OF BULK AT MOST 1048576: true; the input reads as it did. -/
def diaryNoneUptoRow : OpenClaim := { program := "ytiiljpaedelhlaa", sum := "878da4462c8e8a964a1afbfa140603a2c5c57b4a5fefa136cf300035d08cbefb", func := "estuary/estuarylaw07.DiaryNone", spec := "diaryNone", apart := false, narrowed := true }
def DiaryNoneUptoSaid : Prop := diaryNoneUptoRow.holds Try.pinned (OpenSpec.upto diaryNoneSpec)

/-- 'estuarylaw07.DiaryFull', WHERE WHAT IT READS IS OF BULK AT MOST 1048576: true; the input reads as it did. -/
def diaryFullUptoRow : OpenClaim := { program := "ytiiljpaedelhlaa", sum := "878da4462c8e8a964a1afbfa140603a2c5c57b4a5fefa136cf300035d08cbefb", func := "estuary/estuarylaw07.DiaryFull", spec := "diaryFull", apart := false, narrowed := true }
def DiaryFullUptoSaid : Prop := diaryFullUptoRow.holds Try.pinned (OpenSpec.upto diaryFullSpec)

/-- 'estuarylaw07.DiaryPlays', WHERE WHAT IT READS IS OF BULK AT MOST 1048576: true; the input reads as it did. -/
def diaryPlaysUptoRow : OpenClaim := { program := "ytiiljpaedelhlaa", sum := "878da4462c8e8a964a1afbfa140603a2c5c57b4a5fefa136cf300035d08cbefb", func := "estuary/estuarylaw07.DiaryPlays", spec := "diaryPlays", apart := false, narrowed := true }
def DiaryPlaysUptoSaid : Prop := diaryPlaysUptoRow.holds Try.pinned (OpenSpec.upto diaryPlaysSpec)

end Rows
end Go.Proofs.Ytiiljpaedelhlaa
