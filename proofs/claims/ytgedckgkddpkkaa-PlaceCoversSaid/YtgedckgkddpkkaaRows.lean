/-
  No cell of these rows narrows 'for every input' (looked for: loops, veiled, ifaces, maps, wideKeys, modest, calm, conditions, laid).
  DERIVED. THE GIVEN ROWS OF THIS SEAT. 7 by the template 'for every input the law returns true; each argument reads behind the call as it read before'; 0 by the template 'total and deterministic' (their statements: YtgedckgkddpkkaaTotals.lean).
  GIVEN WITH THE SEED: the statements are not yours to turn. If you find one false, say at which input.
  Laid BY PROGRAM, IN A SANDBOX (cutbox-rows.mjs): the forced cells as the released guide's own fill.sh prints them over the translation 88868d8ed9430e17… (all of the seat's roots in one cut). By AI agents, Wed Nov 11 2026. No macro, syntax, notation, axiom, sorry.
-/
import Derived.Test.YtgedckgkddpkkaaChecked
import GoSem.Claim
import GoSem.ClaimJoined
import GoSem.ClaimMapViews
import Derived.JoinedTies
import Derived.KernelRfl
namespace Go.Proofs.Ytgedckgkddpkkaa
/- THE CELL 'sum', in the pinned program and in every row, IS THE sha256 OF THE DUMP (.gsa) THAT YtgedckgkddpkkaaProg.lean LOADS. Nothing in Lean hashes anything: it is a label: what it is worth is what the hold of that sum in a sandbox is worth. -/
noncomputable def Try.pinned : Pinned := { name := "ytgedckgkddpkkaa", sum := "88868d8ed9430e17d7c4229ffcca08487c4e6a19ab594267d4153433e15cc08d", checked := Try.checked }
namespace Rows
def none {H : Type} : Left H := { results := [], args := [] }

/-- 'estuarylaw03.PlaceShares': WHATEVER THE INPUT: true; the input reads as it did. -/
def placeSharesSpec : ChangeSpec := { name := "placeShares", fn := fun _ => fun
  | [d1, d2, d3] => { results := [.lit (.bool true)], args := [d1, d2, d3] }
  | _ => none }
def placeSharesRow : OpenClaim := { program := "ytgedckgkddpkkaa", sum := "88868d8ed9430e17d7c4229ffcca08487c4e6a19ab594267d4153433e15cc08d", func := "estuary/estuarylaw03.PlaceShares", spec := "placeShares", apart := false }
def PlaceSharesSaid : Prop := placeSharesRow.holds Try.pinned (OpenSpec.ofChange placeSharesSpec)

/-- ITS FALSE NEIGHBOUR: 'it returns false'. Refute it at one input. -/
def placeSharesWrong : ChangeSpec := { name := "placeShares", fn := fun _ => fun
  | [d1, d2, d3] => { results := [.lit (.bool false)], args := [d1, d2, d3] }
  | _ => none }
def PlaceSharesWrongFalsely : Prop := placeSharesRow.holds Try.pinned (OpenSpec.ofChange placeSharesWrong)

/-- 'estuarylaw03.PlaceLanes': WHATEVER THE INPUT: true; the input reads as it did. -/
def placeLanesSpec : ChangeSpec := { name := "placeLanes", fn := fun _ => fun
  | [d1, d2] => { results := [.lit (.bool true)], args := [d1, d2] }
  | _ => none }
def placeLanesRow : OpenClaim := { program := "ytgedckgkddpkkaa", sum := "88868d8ed9430e17d7c4229ffcca08487c4e6a19ab594267d4153433e15cc08d", func := "estuary/estuarylaw03.PlaceLanes", spec := "placeLanes", apart := false }
def PlaceLanesSaid : Prop := placeLanesRow.holds Try.pinned (OpenSpec.ofChange placeLanesSpec)

/-- ITS FALSE NEIGHBOUR: 'it returns false'. Refute it at one input. -/
def placeLanesWrong : ChangeSpec := { name := "placeLanes", fn := fun _ => fun
  | [d1, d2] => { results := [.lit (.bool false)], args := [d1, d2] }
  | _ => none }
def PlaceLanesWrongFalsely : Prop := placeLanesRow.holds Try.pinned (OpenSpec.ofChange placeLanesWrong)

/-- 'estuarylaw03.PlaceCloses': WHATEVER THE INPUT: true; the input reads as it did. -/
def placeClosesSpec : ChangeSpec := { name := "placeCloses", fn := fun _ => fun
  | [d1, d2, d3] => { results := [.lit (.bool true)], args := [d1, d2, d3] }
  | _ => none }
def placeClosesRow : OpenClaim := { program := "ytgedckgkddpkkaa", sum := "88868d8ed9430e17d7c4229ffcca08487c4e6a19ab594267d4153433e15cc08d", func := "estuary/estuarylaw03.PlaceCloses", spec := "placeCloses", apart := false }
def PlaceClosesSaid : Prop := placeClosesRow.holds Try.pinned (OpenSpec.ofChange placeClosesSpec)

/-- ITS FALSE NEIGHBOUR: 'it returns false'. Refute it at one input. -/
def placeClosesWrong : ChangeSpec := { name := "placeCloses", fn := fun _ => fun
  | [d1, d2, d3] => { results := [.lit (.bool false)], args := [d1, d2, d3] }
  | _ => none }
def PlaceClosesWrongFalsely : Prop := placeClosesRow.holds Try.pinned (OpenSpec.ofChange placeClosesWrong)

/-- 'estuarylaw03.PlaceOrders': WHATEVER THE INPUT: true; the input reads as it did. -/
def placeOrdersSpec : ChangeSpec := { name := "placeOrders", fn := fun _ => fun
  | [d1, d2, d3] => { results := [.lit (.bool true)], args := [d1, d2, d3] }
  | _ => none }
def placeOrdersRow : OpenClaim := { program := "ytgedckgkddpkkaa", sum := "88868d8ed9430e17d7c4229ffcca08487c4e6a19ab594267d4153433e15cc08d", func := "estuary/estuarylaw03.PlaceOrders", spec := "placeOrders", apart := false }
def PlaceOrdersSaid : Prop := placeOrdersRow.holds Try.pinned (OpenSpec.ofChange placeOrdersSpec)

/-- ITS FALSE NEIGHBOUR: 'it returns false'. Refute it at one input. -/
def placeOrdersWrong : ChangeSpec := { name := "placeOrders", fn := fun _ => fun
  | [d1, d2, d3] => { results := [.lit (.bool false)], args := [d1, d2, d3] }
  | _ => none }
def PlaceOrdersWrongFalsely : Prop := placeOrdersRow.holds Try.pinned (OpenSpec.ofChange placeOrdersWrong)

/-- 'estuarylaw03.PlaceStrict': WHATEVER THE INPUT: true; the input reads as it did. -/
def placeStrictSpec : ChangeSpec := { name := "placeStrict", fn := fun _ => fun
  | [d1, d2, d3] => { results := [.lit (.bool true)], args := [d1, d2, d3] }
  | _ => none }
def placeStrictRow : OpenClaim := { program := "ytgedckgkddpkkaa", sum := "88868d8ed9430e17d7c4229ffcca08487c4e6a19ab594267d4153433e15cc08d", func := "estuary/estuarylaw03.PlaceStrict", spec := "placeStrict", apart := false }
def PlaceStrictSaid : Prop := placeStrictRow.holds Try.pinned (OpenSpec.ofChange placeStrictSpec)

/-- ITS FALSE NEIGHBOUR: 'it returns false'. Refute it at one input. -/
def placeStrictWrong : ChangeSpec := { name := "placeStrict", fn := fun _ => fun
  | [d1, d2, d3] => { results := [.lit (.bool false)], args := [d1, d2, d3] }
  | _ => none }
def PlaceStrictWrongFalsely : Prop := placeStrictRow.holds Try.pinned (OpenSpec.ofChange placeStrictWrong)

/-- 'estuarylaw03.PlaceCells': WHATEVER THE INPUT: true; the input reads as it did. -/
def placeCellsSpec : ChangeSpec := { name := "placeCells", fn := fun _ => fun
  | [d] => { results := [.lit (.bool true)], args := [d] }
  | _ => none }
def placeCellsRow : OpenClaim := { program := "ytgedckgkddpkkaa", sum := "88868d8ed9430e17d7c4229ffcca08487c4e6a19ab594267d4153433e15cc08d", func := "estuary/estuarylaw03.PlaceCells", spec := "placeCells", unfollowed := true, recurses := true, apart := false }
def PlaceCellsSaid : Prop := placeCellsRow.holds Try.pinned (OpenSpec.ofChange placeCellsSpec)

/-- ITS FALSE NEIGHBOUR: 'it returns false'. Refute it at one input. -/
def placeCellsWrong : ChangeSpec := { name := "placeCells", fn := fun _ => fun
  | [d] => { results := [.lit (.bool false)], args := [d] }
  | _ => none }
def PlaceCellsWrongFalsely : Prop := placeCellsRow.holds Try.pinned (OpenSpec.ofChange placeCellsWrong)

/-- 'estuarylaw03.PlaceCovers': WHATEVER THE INPUT: true; the input reads as it did. -/
def placeCoversSpec : ChangeSpec := { name := "placeCovers", fn := fun _ => fun
  | [d1, d2] => { results := [.lit (.bool true)], args := [d1, d2] }
  | _ => none }
def placeCoversRow : OpenClaim := { program := "ytgedckgkddpkkaa", sum := "88868d8ed9430e17d7c4229ffcca08487c4e6a19ab594267d4153433e15cc08d", func := "estuary/estuarylaw03.PlaceCovers", spec := "placeCovers", unfollowed := true, recurses := true, apart := false }
def PlaceCoversSaid : Prop := placeCoversRow.holds Try.pinned (OpenSpec.ofChange placeCoversSpec)

/-- ITS FALSE NEIGHBOUR: 'it returns false'. Refute it at one input. -/
def placeCoversWrong : ChangeSpec := { name := "placeCovers", fn := fun _ => fun
  | [d1, d2] => { results := [.lit (.bool false)], args := [d1, d2] }
  | _ => none }
def PlaceCoversWrongFalsely : Prop := placeCoversRow.holds Try.pinned (OpenSpec.ofChange placeCoversWrong)

/- THE SECOND FORM. 'bulk': how many values and letters a reading holds, each counted each time it is reached (what is shared counts as often as it is met; a slice's spare places count too). A statement '..UptoSaid' is the law's where the arguments, and the package variables that the reading takes, are together of bulk at most 1048576: NARROWER than '..Said'. Prove '..Said' where nothing that the law and all that it calls make is longer than what came in: it says more and counts as full. Else prove '..UptoSaid'. A law counts once. -/
mutual
def uptoBulk {H : Type} : DataW H → Nat
  | .lit (.string bytes) => bytes.length + 1
  | .lit _ => 1
  | .nil => 1
  | .ptr d => uptoBulk d + 1
  | .slice elems spare => uptoBulkAll elems + uptoBulkAll spare + 1
  | .agg parts => uptoBulkAll parts + 1
  | .iface _ d => uptoBulk d + 1
  | .map entries => uptoBulkEntries entries + 1
  | .held _ => 1
def uptoBulkAll {H : Type} : List (DataW H) → Nat
  | [] => 0
  | d :: r => uptoBulk d + uptoBulkAll r
def uptoBulkEntries {H : Type} : List (Lit × DataW H) → Nat
  | [] => 0
  | x :: r => uptoBulkEntry x + uptoBulkEntries r
def uptoBulkEntry {H : Type} : Lit × DataW H → Nat
  | (.string bytes, d) => bytes.length + uptoBulk d + 1
  | (_, d) => uptoBulk d + 1
 end
def uptoSmall : (H : Type) → List (DataW H) → Bool := fun _ ds => decide (uptoBulkAll ds ≤ 1048576)
def OpenSpec.upto (s : _root_.Go.ChangeSpec) : _root_.Go.OpenSpec := { _root_.Go.OpenSpec.ofChange s with cond := some uptoSmall }

/-- 'estuarylaw03.PlaceShares', WHERE WHAT IT READS IS OF BULK AT MOST 1048576: true; the input reads as it did. -/
def placeSharesUptoRow : OpenClaim := { program := "ytgedckgkddpkkaa", sum := "88868d8ed9430e17d7c4229ffcca08487c4e6a19ab594267d4153433e15cc08d", func := "estuary/estuarylaw03.PlaceShares", spec := "placeShares", apart := false, narrowed := true }
def PlaceSharesUptoSaid : Prop := placeSharesUptoRow.holds Try.pinned (OpenSpec.upto placeSharesSpec)

/-- 'estuarylaw03.PlaceLanes', WHERE WHAT IT READS IS OF BULK AT MOST 1048576: true; the input reads as it did. -/
def placeLanesUptoRow : OpenClaim := { program := "ytgedckgkddpkkaa", sum := "88868d8ed9430e17d7c4229ffcca08487c4e6a19ab594267d4153433e15cc08d", func := "estuary/estuarylaw03.PlaceLanes", spec := "placeLanes", apart := false, narrowed := true }
def PlaceLanesUptoSaid : Prop := placeLanesUptoRow.holds Try.pinned (OpenSpec.upto placeLanesSpec)

/-- 'estuarylaw03.PlaceCloses', WHERE WHAT IT READS IS OF BULK AT MOST 1048576: true; the input reads as it did. -/
def placeClosesUptoRow : OpenClaim := { program := "ytgedckgkddpkkaa", sum := "88868d8ed9430e17d7c4229ffcca08487c4e6a19ab594267d4153433e15cc08d", func := "estuary/estuarylaw03.PlaceCloses", spec := "placeCloses", apart := false, narrowed := true }
def PlaceClosesUptoSaid : Prop := placeClosesUptoRow.holds Try.pinned (OpenSpec.upto placeClosesSpec)

/-- 'estuarylaw03.PlaceOrders', WHERE WHAT IT READS IS OF BULK AT MOST 1048576: true; the input reads as it did. -/
def placeOrdersUptoRow : OpenClaim := { program := "ytgedckgkddpkkaa", sum := "88868d8ed9430e17d7c4229ffcca08487c4e6a19ab594267d4153433e15cc08d", func := "estuary/estuarylaw03.PlaceOrders", spec := "placeOrders", apart := false, narrowed := true }
def PlaceOrdersUptoSaid : Prop := placeOrdersUptoRow.holds Try.pinned (OpenSpec.upto placeOrdersSpec)

/-- 'estuarylaw03.PlaceStrict', WHERE WHAT IT READS IS OF BULK AT MOST 1048576: true; the input reads as it did. -/
def placeStrictUptoRow : OpenClaim := { program := "ytgedckgkddpkkaa", sum := "88868d8ed9430e17d7c4229ffcca08487c4e6a19ab594267d4153433e15cc08d", func := "estuary/estuarylaw03.PlaceStrict", spec := "placeStrict", apart := false, narrowed := true }
def PlaceStrictUptoSaid : Prop := placeStrictUptoRow.holds Try.pinned (OpenSpec.upto placeStrictSpec)

/-- 'estuarylaw03.PlaceCells', WHERE WHAT IT READS IS OF BULK AT MOST 1048576: true; the input reads as it did. -/
def placeCellsUptoRow : OpenClaim := { program := "ytgedckgkddpkkaa", sum := "88868d8ed9430e17d7c4229ffcca08487c4e6a19ab594267d4153433e15cc08d", func := "estuary/estuarylaw03.PlaceCells", spec := "placeCells", unfollowed := true, recurses := true, apart := false, narrowed := true }
def PlaceCellsUptoSaid : Prop := placeCellsUptoRow.holds Try.pinned (OpenSpec.upto placeCellsSpec)

/-- 'estuarylaw03.PlaceCovers', WHERE WHAT IT READS IS OF BULK AT MOST 1048576: true; the input reads as it did. -/
def placeCoversUptoRow : OpenClaim := { program := "ytgedckgkddpkkaa", sum := "88868d8ed9430e17d7c4229ffcca08487c4e6a19ab594267d4153433e15cc08d", func := "estuary/estuarylaw03.PlaceCovers", spec := "placeCovers", unfollowed := true, recurses := true, apart := false, narrowed := true }
def PlaceCoversUptoSaid : Prop := placeCoversUptoRow.holds Try.pinned (OpenSpec.upto placeCoversSpec)

end Rows
end Go.Proofs.Ytgedckgkddpkkaa
