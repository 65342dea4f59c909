/-
  No cell of these rows narrows 'for every input' (looked for: loops, veiled, ifaces, maps, wideKeys, modest, calm, conditions, laid).
  DERIVED. THE GIVEN ROWS OF THIS SEAT. 14 by the template 'for every input the law returns true; each argument reads behind the call as it read before'; 0 by the template 'total and deterministic' (their statements: YtccgnnnildedoaaTotals.lean).
  GIVEN WITH THE SEED: the statements are not yours to turn. If you find one false, say at which input.
  Laid BY PROGRAM, IN A SANDBOX (cutbox-rows.mjs): the forced cells as the released guide's own fill.sh prints them over the translation cd69ca0876a99c13… (all of the seat's roots in one cut). By AI agents, Wed Nov 11 2026. No macro, syntax, notation, axiom, sorry.
-/
import Derived.Test.YtccgnnnildedoaaChecked
import GoSem.Claim
import GoSem.ClaimJoined
import GoSem.ClaimMapViews
import Derived.JoinedTies
import Derived.KernelRfl
namespace Go.Proofs.Ytccgnnnildedoaa
/- THE CELL 'sum', in the pinned program and in every row, IS THE sha256 OF THE DUMP (.gsa) THAT YtccgnnnildedoaaProg.lean LOADS. Nothing in Lean hashes anything: it is a label: what it is worth is what the hold of that sum in a sandbox is worth. -/
noncomputable def Try.pinned : Pinned := { name := "ytccgnnnildedoaa", sum := "cd69ca0876a99c1380691cb0aea407c68e78d34fd3ce00f8af48264f2a624b9a", checked := Try.checked }
namespace Rows
def none {H : Type} : Left H := { results := [], args := [] }

/-- 'middenheaplaw06.HeaderApart': WHATEVER THE INPUT: true; the input reads as it did. -/
def headerApartSpec : ChangeSpec := { name := "headerApart", fn := fun _ => fun
  | [d1, d2, d3] => { results := [.lit (.bool true)], args := [d1, d2, d3] }
  | _ => none }
def headerApartRow : OpenClaim := { program := "ytccgnnnildedoaa", sum := "cd69ca0876a99c1380691cb0aea407c68e78d34fd3ce00f8af48264f2a624b9a", func := "middenheap/middenheaplaw06.HeaderApart", spec := "headerApart", unfollowed := true, recurses := true, apart := false }
def HeaderApartSaid : Prop := headerApartRow.holds Try.pinned (OpenSpec.ofChange headerApartSpec)

/-- ITS FALSE NEIGHBOUR: 'it returns false'. Refute it at one input. -/
def headerApartWrong : ChangeSpec := { name := "headerApart", fn := fun _ => fun
  | [d1, d2, d3] => { results := [.lit (.bool false)], args := [d1, d2, d3] }
  | _ => none }
def HeaderApartWrongFalsely : Prop := headerApartRow.holds Try.pinned (OpenSpec.ofChange headerApartWrong)

/-- 'middenheaplaw06.HeaderWrong': WHATEVER THE INPUT: true; the input reads as it did. -/
def headerWrongSpec : ChangeSpec := { name := "headerWrong", fn := fun _ => fun
  | [d1, d2, d3] => { results := [.lit (.bool true)], args := [d1, d2, d3] }
  | _ => none }
def headerWrongRow : OpenClaim := { program := "ytccgnnnildedoaa", sum := "cd69ca0876a99c1380691cb0aea407c68e78d34fd3ce00f8af48264f2a624b9a", func := "middenheap/middenheaplaw06.HeaderWrong", spec := "headerWrong", unfollowed := true, recurses := true, apart := false }
def HeaderWrongSaid : Prop := headerWrongRow.holds Try.pinned (OpenSpec.ofChange headerWrongSpec)

/-- ITS FALSE NEIGHBOUR: 'it returns false'. Refute it at one input. -/
def headerWrongWrong : ChangeSpec := { name := "headerWrong", fn := fun _ => fun
  | [d1, d2, d3] => { results := [.lit (.bool false)], args := [d1, d2, d3] }
  | _ => none }
def HeaderWrongWrongFalsely : Prop := headerWrongRow.holds Try.pinned (OpenSpec.ofChange headerWrongWrong)

/-- 'middenheaplaw06.HeaderOwners': WHATEVER THE INPUT: true; the input reads as it did. -/
def headerOwnersSpec : ChangeSpec := { name := "headerOwners", fn := fun _ => fun
  | [d1, d2, d3] => { results := [.lit (.bool true)], args := [d1, d2, d3] }
  | _ => none }
def headerOwnersRow : OpenClaim := { program := "ytccgnnnildedoaa", sum := "cd69ca0876a99c1380691cb0aea407c68e78d34fd3ce00f8af48264f2a624b9a", func := "middenheap/middenheaplaw06.HeaderOwners", spec := "headerOwners", unfollowed := true, recurses := true, apart := false }
def HeaderOwnersSaid : Prop := headerOwnersRow.holds Try.pinned (OpenSpec.ofChange headerOwnersSpec)

/-- ITS FALSE NEIGHBOUR: 'it returns false'. Refute it at one input. -/
def headerOwnersWrong : ChangeSpec := { name := "headerOwners", fn := fun _ => fun
  | [d1, d2, d3] => { results := [.lit (.bool false)], args := [d1, d2, d3] }
  | _ => none }
def HeaderOwnersWrongFalsely : Prop := headerOwnersRow.holds Try.pinned (OpenSpec.ofChange headerOwnersWrong)

/-- 'middenheaplaw06.HeaderWheres': WHATEVER THE INPUT: true; the input reads as it did. -/
def headerWheresSpec : ChangeSpec := { name := "headerWheres", fn := fun _ => fun
  | [d] => { results := [.lit (.bool true)], args := [d] }
  | _ => none }
def headerWheresRow : OpenClaim := { program := "ytccgnnnildedoaa", sum := "cd69ca0876a99c1380691cb0aea407c68e78d34fd3ce00f8af48264f2a624b9a", func := "middenheap/middenheaplaw06.HeaderWheres", spec := "headerWheres", unfollowed := true, recurses := true, apart := false }
def HeaderWheresSaid : Prop := headerWheresRow.holds Try.pinned (OpenSpec.ofChange headerWheresSpec)

/-- ITS FALSE NEIGHBOUR: 'it returns false'. Refute it at one input. -/
def headerWheresWrong : ChangeSpec := { name := "headerWheres", fn := fun _ => fun
  | [d] => { results := [.lit (.bool false)], args := [d] }
  | _ => none }
def HeaderWheresWrongFalsely : Prop := headerWheresRow.holds Try.pinned (OpenSpec.ofChange headerWheresWrong)

/-- 'middenheaplaw06.HeaderBack': WHATEVER THE INPUT: true; the input reads as it did. -/
def headerBackSpec : ChangeSpec := { name := "headerBack", fn := fun _ => fun
  | [d] => { results := [.lit (.bool true)], args := [d] }
  | _ => none }
def headerBackRow : OpenClaim := { program := "ytccgnnnildedoaa", sum := "cd69ca0876a99c1380691cb0aea407c68e78d34fd3ce00f8af48264f2a624b9a", func := "middenheap/middenheaplaw06.HeaderBack", spec := "headerBack", unfollowed := true, recurses := true, apart := false }
def HeaderBackSaid : Prop := headerBackRow.holds Try.pinned (OpenSpec.ofChange headerBackSpec)

/-- ITS FALSE NEIGHBOUR: 'it returns false'. Refute it at one input. -/
def headerBackWrong : ChangeSpec := { name := "headerBack", fn := fun _ => fun
  | [d] => { results := [.lit (.bool false)], args := [d] }
  | _ => none }
def HeaderBackWrongFalsely : Prop := headerBackRow.holds Try.pinned (OpenSpec.ofChange headerBackWrong)

/-- 'middenheaplaw07.ObjectNew': WHATEVER THE INPUT: true; the input reads as it did. -/
def objectNewSpec : ChangeSpec := { name := "objectNew", fn := fun _ => fun
  | [d1, d2, d3] => { results := [.lit (.bool true)], args := [d1, d2, d3] }
  | _ => none }
def objectNewRow : OpenClaim := { program := "ytccgnnnildedoaa", sum := "cd69ca0876a99c1380691cb0aea407c68e78d34fd3ce00f8af48264f2a624b9a", func := "middenheap/middenheaplaw07.ObjectNew", spec := "objectNew", unfollowed := true, recurses := true, apart := false }
def ObjectNewSaid : Prop := objectNewRow.holds Try.pinned (OpenSpec.ofChange objectNewSpec)

/-- ITS FALSE NEIGHBOUR: 'it returns false'. Refute it at one input. -/
def objectNewWrong : ChangeSpec := { name := "objectNew", fn := fun _ => fun
  | [d1, d2, d3] => { results := [.lit (.bool false)], args := [d1, d2, d3] }
  | _ => none }
def ObjectNewWrongFalsely : Prop := objectNewRow.holds Try.pinned (OpenSpec.ofChange objectNewWrong)

/-- 'middenheaplaw07.ObjectFields': WHATEVER THE INPUT: true; the input reads as it did. -/
def objectFieldsSpec : ChangeSpec := { name := "objectFields", fn := fun _ => fun
  | [d1, d2, d3] => { results := [.lit (.bool true)], args := [d1, d2, d3] }
  | _ => none }
def objectFieldsRow : OpenClaim := { program := "ytccgnnnildedoaa", sum := "cd69ca0876a99c1380691cb0aea407c68e78d34fd3ce00f8af48264f2a624b9a", func := "middenheap/middenheaplaw07.ObjectFields", spec := "objectFields", unfollowed := true, recurses := true, apart := false }
def ObjectFieldsSaid : Prop := objectFieldsRow.holds Try.pinned (OpenSpec.ofChange objectFieldsSpec)

/-- ITS FALSE NEIGHBOUR: 'it returns false'. Refute it at one input. -/
def objectFieldsWrong : ChangeSpec := { name := "objectFields", fn := fun _ => fun
  | [d1, d2, d3] => { results := [.lit (.bool false)], args := [d1, d2, d3] }
  | _ => none }
def ObjectFieldsWrongFalsely : Prop := objectFieldsRow.holds Try.pinned (OpenSpec.ofChange objectFieldsWrong)

/-- 'middenheaplaw07.ObjectSets': WHATEVER THE INPUT: true; the input reads as it did. -/
def objectSetsSpec : ChangeSpec := { name := "objectSets", fn := fun _ => fun
  | [d1, d2, d3] => { results := [.lit (.bool true)], args := [d1, d2, d3] }
  | _ => none }
def objectSetsRow : OpenClaim := { program := "ytccgnnnildedoaa", sum := "cd69ca0876a99c1380691cb0aea407c68e78d34fd3ce00f8af48264f2a624b9a", func := "middenheap/middenheaplaw07.ObjectSets", spec := "objectSets", unfollowed := true, recurses := true, apart := false }
def ObjectSetsSaid : Prop := objectSetsRow.holds Try.pinned (OpenSpec.ofChange objectSetsSpec)

/-- ITS FALSE NEIGHBOUR: 'it returns false'. Refute it at one input. -/
def objectSetsWrong : ChangeSpec := { name := "objectSets", fn := fun _ => fun
  | [d1, d2, d3] => { results := [.lit (.bool false)], args := [d1, d2, d3] }
  | _ => none }
def ObjectSetsWrongFalsely : Prop := objectSetsRow.holds Try.pinned (OpenSpec.ofChange objectSetsWrong)

/-- 'middenheaplaw07.ObjectAgain': WHATEVER THE INPUT: true; the input reads as it did. -/
def objectAgainSpec : ChangeSpec := { name := "objectAgain", fn := fun _ => fun
  | [d1, d2, d3] => { results := [.lit (.bool true)], args := [d1, d2, d3] }
  | _ => none }
def objectAgainRow : OpenClaim := { program := "ytccgnnnildedoaa", sum := "cd69ca0876a99c1380691cb0aea407c68e78d34fd3ce00f8af48264f2a624b9a", func := "middenheap/middenheaplaw07.ObjectAgain", spec := "objectAgain", unfollowed := true, recurses := true, apart := false }
def ObjectAgainSaid : Prop := objectAgainRow.holds Try.pinned (OpenSpec.ofChange objectAgainSpec)

/-- ITS FALSE NEIGHBOUR: 'it returns false'. Refute it at one input. -/
def objectAgainWrong : ChangeSpec := { name := "objectAgain", fn := fun _ => fun
  | [d1, d2, d3] => { results := [.lit (.bool false)], args := [d1, d2, d3] }
  | _ => none }
def ObjectAgainWrongFalsely : Prop := objectAgainRow.holds Try.pinned (OpenSpec.ofChange objectAgainWrong)

/-- 'middenheaplaw08.MoverRoom': WHATEVER THE INPUT: true; the input reads as it did. -/
def moverRoomSpec : ChangeSpec := { name := "moverRoom", fn := fun _ => fun
  | [d1, d2, d3] => { results := [.lit (.bool true)], args := [d1, d2, d3] }
  | _ => none }
def moverRoomRow : OpenClaim := { program := "ytccgnnnildedoaa", sum := "cd69ca0876a99c1380691cb0aea407c68e78d34fd3ce00f8af48264f2a624b9a", func := "middenheap/middenheaplaw08.MoverRoom", spec := "moverRoom", unfollowed := true, recurses := true, apart := false }
def MoverRoomSaid : Prop := moverRoomRow.holds Try.pinned (OpenSpec.ofChange moverRoomSpec)

/-- ITS FALSE NEIGHBOUR: 'it returns false'. Refute it at one input. -/
def moverRoomWrong : ChangeSpec := { name := "moverRoom", fn := fun _ => fun
  | [d1, d2, d3] => { results := [.lit (.bool false)], args := [d1, d2, d3] }
  | _ => none }
def MoverRoomWrongFalsely : Prop := moverRoomRow.holds Try.pinned (OpenSpec.ofChange moverRoomWrong)

/-- 'middenheaplaw08.MoverOn': WHATEVER THE INPUT: true; the input reads as it did. -/
def moverOnSpec : ChangeSpec := { name := "moverOn", fn := fun _ => fun
  | [d] => { results := [.lit (.bool true)], args := [d] }
  | _ => none }
def moverOnRow : OpenClaim := { program := "ytccgnnnildedoaa", sum := "cd69ca0876a99c1380691cb0aea407c68e78d34fd3ce00f8af48264f2a624b9a", func := "middenheap/middenheaplaw08.MoverOn", spec := "moverOn", unfollowed := true, recurses := true, apart := false }
def MoverOnSaid : Prop := moverOnRow.holds Try.pinned (OpenSpec.ofChange moverOnSpec)

/-- ITS FALSE NEIGHBOUR: 'it returns false'. Refute it at one input. -/
def moverOnWrong : ChangeSpec := { name := "moverOn", fn := fun _ => fun
  | [d] => { results := [.lit (.bool false)], args := [d] }
  | _ => none }
def MoverOnWrongFalsely : Prop := moverOnRow.holds Try.pinned (OpenSpec.ofChange moverOnWrong)

/-- 'middenheaplaw09.GraphClosed': WHATEVER THE INPUT: true; the input reads as it did. -/
def graphClosedSpec : ChangeSpec := { name := "graphClosed", fn := fun _ => fun
  | [d1, d2] => { results := [.lit (.bool true)], args := [d1, d2] }
  | _ => none }
def graphClosedRow : OpenClaim := { program := "ytccgnnnildedoaa", sum := "cd69ca0876a99c1380691cb0aea407c68e78d34fd3ce00f8af48264f2a624b9a", func := "middenheap/middenheaplaw09.GraphClosed", spec := "graphClosed", unfollowed := true, recurses := true, apart := false }
def GraphClosedSaid : Prop := graphClosedRow.holds Try.pinned (OpenSpec.ofChange graphClosedSpec)

/-- ITS FALSE NEIGHBOUR: 'it returns false'. Refute it at one input. -/
def graphClosedWrong : ChangeSpec := { name := "graphClosed", fn := fun _ => fun
  | [d1, d2] => { results := [.lit (.bool false)], args := [d1, d2] }
  | _ => none }
def GraphClosedWrongFalsely : Prop := graphClosedRow.holds Try.pinned (OpenSpec.ofChange graphClosedWrong)

/-- 'middenheaplaw09.GraphRoots': WHATEVER THE INPUT: true; the input reads as it did. -/
def graphRootsSpec : ChangeSpec := { name := "graphRoots", fn := fun _ => fun
  | [d1, d2, d3] => { results := [.lit (.bool true)], args := [d1, d2, d3] }
  | _ => none }
def graphRootsRow : OpenClaim := { program := "ytccgnnnildedoaa", sum := "cd69ca0876a99c1380691cb0aea407c68e78d34fd3ce00f8af48264f2a624b9a", func := "middenheap/middenheaplaw09.GraphRoots", spec := "graphRoots", unfollowed := true, recurses := true, apart := false }
def GraphRootsSaid : Prop := graphRootsRow.holds Try.pinned (OpenSpec.ofChange graphRootsSpec)

/-- ITS FALSE NEIGHBOUR: 'it returns false'. Refute it at one input. -/
def graphRootsWrong : ChangeSpec := { name := "graphRoots", fn := fun _ => fun
  | [d1, d2, d3] => { results := [.lit (.bool false)], args := [d1, d2, d3] }
  | _ => none }
def GraphRootsWrongFalsely : Prop := graphRootsRow.holds Try.pinned (OpenSpec.ofChange graphRootsWrong)

/-- 'middenheaplaw09.GraphMoved': WHATEVER THE INPUT: true; the input reads as it did. -/
def graphMovedSpec : ChangeSpec := { name := "graphMoved", fn := fun _ => fun
  | [d1, d2, d3] => { results := [.lit (.bool true)], args := [d1, d2, d3] }
  | _ => none }
def graphMovedRow : OpenClaim := { program := "ytccgnnnildedoaa", sum := "cd69ca0876a99c1380691cb0aea407c68e78d34fd3ce00f8af48264f2a624b9a", func := "middenheap/middenheaplaw09.GraphMoved", spec := "graphMoved", unfollowed := true, recurses := true, apart := false }
def GraphMovedSaid : Prop := graphMovedRow.holds Try.pinned (OpenSpec.ofChange graphMovedSpec)

/-- ITS FALSE NEIGHBOUR: 'it returns false'. Refute it at one input. -/
def graphMovedWrong : ChangeSpec := { name := "graphMoved", fn := fun _ => fun
  | [d1, d2, d3] => { results := [.lit (.bool false)], args := [d1, d2, d3] }
  | _ => none }
def GraphMovedWrongFalsely : Prop := graphMovedRow.holds Try.pinned (OpenSpec.ofChange graphMovedWrong)

/- THE SECOND FORM. 'bulk': how many values and letters a reading holds, each counted each time it is reached (what is shared counts as often as it is met; a slice's spare places count too). A statement '..UptoSaid' is the law's where the arguments, and the package variables that the reading takes, are together of bulk at most 1048576: NARROWER than '..Said'. Prove '..Said' where nothing that the law and all that it calls make is longer than what came in: it says more and counts as full. Else prove '..UptoSaid'. A law counts once. -/
mutual
def uptoBulk {H : Type} : DataW H → Nat
  | .lit (.string bytes) => bytes.length + 1
  | .lit _ => 1
  | .nil => 1
  | .ptr d => uptoBulk d + 1
  | .slice elems spare => uptoBulkAll elems + uptoBulkAll spare + 1
  | .agg parts => uptoBulkAll parts + 1
  | .iface _ d => uptoBulk d + 1
  | .map entries => uptoBulkEntries entries + 1
  | .held _ => 1
def uptoBulkAll {H : Type} : List (DataW H) → Nat
  | [] => 0
  | d :: r => uptoBulk d + uptoBulkAll r
def uptoBulkEntries {H : Type} : List (Lit × DataW H) → Nat
  | [] => 0
  | x :: r => uptoBulkEntry x + uptoBulkEntries r
def uptoBulkEntry {H : Type} : Lit × DataW H → Nat
  | (.string bytes, d) => bytes.length + uptoBulk d + 1
  | (_, d) => uptoBulk d + 1
 end
def uptoSmall : (H : Type) → List (DataW H) → Bool := fun _ ds => decide (uptoBulkAll ds ≤ 1048576)
def OpenSpec.upto (s : _root_.Go.ChangeSpec) : _root_.Go.OpenSpec := { _root_.Go.OpenSpec.ofChange s with cond := some uptoSmall }

/-- 'middenheaplaw06.HeaderApart', WHERE WHAT IT READS IS OF BULK AT MOST 1048576: true; the input reads as it did. -/
def headerApartUptoRow : OpenClaim := { program := "ytccgnnnildedoaa", sum := "cd69ca0876a99c1380691cb0aea407c68e78d34fd3ce00f8af48264f2a624b9a", func := "middenheap/middenheaplaw06.HeaderApart", spec := "headerApart", unfollowed := true, recurses := true, apart := false, narrowed := true }
def HeaderApartUptoSaid : Prop := headerApartUptoRow.holds Try.pinned (OpenSpec.upto headerApartSpec)

/-- 'middenheaplaw06.HeaderWrong', WHERE WHAT IT READS IS OF BULK AT MOST 1048576: true; the input reads as it did. -/
def headerWrongUptoRow : OpenClaim := { program := "ytccgnnnildedoaa", sum := "cd69ca0876a99c1380691cb0aea407c68e78d34fd3ce00f8af48264f2a624b9a", func := "middenheap/middenheaplaw06.HeaderWrong", spec := "headerWrong", unfollowed := true, recurses := true, apart := false, narrowed := true }
def HeaderWrongUptoSaid : Prop := headerWrongUptoRow.holds Try.pinned (OpenSpec.upto headerWrongSpec)

/-- 'middenheaplaw06.HeaderOwners', WHERE WHAT IT READS IS OF BULK AT MOST 1048576: true; the input reads as it did. -/
def headerOwnersUptoRow : OpenClaim := { program := "ytccgnnnildedoaa", sum := "cd69ca0876a99c1380691cb0aea407c68e78d34fd3ce00f8af48264f2a624b9a", func := "middenheap/middenheaplaw06.HeaderOwners", spec := "headerOwners", unfollowed := true, recurses := true, apart := false, narrowed := true }
def HeaderOwnersUptoSaid : Prop := headerOwnersUptoRow.holds Try.pinned (OpenSpec.upto headerOwnersSpec)

/-- 'middenheaplaw06.HeaderWheres', WHERE WHAT IT READS IS OF BULK AT MOST 1048576: true; the input reads as it did. -/
def headerWheresUptoRow : OpenClaim := { program := "ytccgnnnildedoaa", sum := "cd69ca0876a99c1380691cb0aea407c68e78d34fd3ce00f8af48264f2a624b9a", func := "middenheap/middenheaplaw06.HeaderWheres", spec := "headerWheres", unfollowed := true, recurses := true, apart := false, narrowed := true }
def HeaderWheresUptoSaid : Prop := headerWheresUptoRow.holds Try.pinned (OpenSpec.upto headerWheresSpec)

/-- 'middenheaplaw06.HeaderBack', WHERE WHAT IT READS IS OF BULK AT MOST 1048576: true; the input reads as it did. -/
def headerBackUptoRow : OpenClaim := { program := "ytccgnnnildedoaa", sum := "cd69ca0876a99c1380691cb0aea407c68e78d34fd3ce00f8af48264f2a624b9a", func := "middenheap/middenheaplaw06.HeaderBack", spec := "headerBack", unfollowed := true, recurses := true, apart := false, narrowed := true }
def HeaderBackUptoSaid : Prop := headerBackUptoRow.holds Try.pinned (OpenSpec.upto headerBackSpec)

/-- 'middenheaplaw07.ObjectNew', WHERE WHAT IT READS IS OF BULK AT MOST 1048576: true; the input reads as it did. -/
def objectNewUptoRow : OpenClaim := { program := "ytccgnnnildedoaa", sum := "cd69ca0876a99c1380691cb0aea407c68e78d34fd3ce00f8af48264f2a624b9a", func := "middenheap/middenheaplaw07.ObjectNew", spec := "objectNew", unfollowed := true, recurses := true, apart := false, narrowed := true }
def ObjectNewUptoSaid : Prop := objectNewUptoRow.holds Try.pinned (OpenSpec.upto objectNewSpec)

/-- 'middenheaplaw07.ObjectFields', WHERE WHAT IT READS IS OF BULK AT MOST 1048576: true; the input reads as it did. -/
def objectFieldsUptoRow : OpenClaim := { program := "ytccgnnnildedoaa", sum := "cd69ca0876a99c1380691cb0aea407c68e78d34fd3ce00f8af48264f2a624b9a", func := "middenheap/middenheaplaw07.ObjectFields", spec := "objectFields", unfollowed := true, recurses := true, apart := false, narrowed := true }
def ObjectFieldsUptoSaid : Prop := objectFieldsUptoRow.holds Try.pinned (OpenSpec.upto objectFieldsSpec)

/-- 'middenheaplaw07.ObjectSets', WHERE WHAT IT READS IS OF BULK AT MOST 1048576: true; the input reads as it did. -/
def objectSetsUptoRow : OpenClaim := { program := "ytccgnnnildedoaa", sum := "cd69ca0876a99c1380691cb0aea407c68e78d34fd3ce00f8af48264f2a624b9a", func := "middenheap/middenheaplaw07.ObjectSets", spec := "objectSets", unfollowed := true, recurses := true, apart := false, narrowed := true }
def ObjectSetsUptoSaid : Prop := objectSetsUptoRow.holds Try.pinned (OpenSpec.upto objectSetsSpec)

/-- 'middenheaplaw07.ObjectAgain', WHERE WHAT IT READS IS OF BULK AT MOST 1048576: true; the input reads as it did. -/
def objectAgainUptoRow : OpenClaim := { program := "ytccgnnnildedoaa", sum := "cd69ca0876a99c1380691cb0aea407c68e78d34fd3ce00f8af48264f2a624b9a", func := "middenheap/middenheaplaw07.ObjectAgain", spec := "objectAgain", unfollowed := true, recurses := true, apart := false, narrowed := true }
def ObjectAgainUptoSaid : Prop := objectAgainUptoRow.holds Try.pinned (OpenSpec.upto objectAgainSpec)

/-- 'middenheaplaw08.MoverRoom', WHERE WHAT IT READS IS OF BULK AT MOST 1048576: true; the input reads as it did. -/
def moverRoomUptoRow : OpenClaim := { program := "ytccgnnnildedoaa", sum := "cd69ca0876a99c1380691cb0aea407c68e78d34fd3ce00f8af48264f2a624b9a", func := "middenheap/middenheaplaw08.MoverRoom", spec := "moverRoom", unfollowed := true, recurses := true, apart := false, narrowed := true }
def MoverRoomUptoSaid : Prop := moverRoomUptoRow.holds Try.pinned (OpenSpec.upto moverRoomSpec)

/-- 'middenheaplaw08.MoverOn', WHERE WHAT IT READS IS OF BULK AT MOST 1048576: true; the input reads as it did. -/
def moverOnUptoRow : OpenClaim := { program := "ytccgnnnildedoaa", sum := "cd69ca0876a99c1380691cb0aea407c68e78d34fd3ce00f8af48264f2a624b9a", func := "middenheap/middenheaplaw08.MoverOn", spec := "moverOn", unfollowed := true, recurses := true, apart := false, narrowed := true }
def MoverOnUptoSaid : Prop := moverOnUptoRow.holds Try.pinned (OpenSpec.upto moverOnSpec)

/-- 'middenheaplaw09.GraphClosed', WHERE WHAT IT READS IS OF BULK AT MOST 1048576: true; the input reads as it did. -/
def graphClosedUptoRow : OpenClaim := { program := "ytccgnnnildedoaa", sum := "cd69ca0876a99c1380691cb0aea407c68e78d34fd3ce00f8af48264f2a624b9a", func := "middenheap/middenheaplaw09.GraphClosed", spec := "graphClosed", unfollowed := true, recurses := true, apart := false, narrowed := true }
def GraphClosedUptoSaid : Prop := graphClosedUptoRow.holds Try.pinned (OpenSpec.upto graphClosedSpec)

/-- 'middenheaplaw09.GraphRoots', WHERE WHAT IT READS IS OF BULK AT MOST 1048576: true; the input reads as it did. -/
def graphRootsUptoRow : OpenClaim := { program := "ytccgnnnildedoaa", sum := "cd69ca0876a99c1380691cb0aea407c68e78d34fd3ce00f8af48264f2a624b9a", func := "middenheap/middenheaplaw09.GraphRoots", spec := "graphRoots", unfollowed := true, recurses := true, apart := false, narrowed := true }
def GraphRootsUptoSaid : Prop := graphRootsUptoRow.holds Try.pinned (OpenSpec.upto graphRootsSpec)

/-- 'middenheaplaw09.GraphMoved', WHERE WHAT IT READS IS OF BULK AT MOST 1048576: true; the input reads as it did. -/
def graphMovedUptoRow : OpenClaim := { program := "ytccgnnnildedoaa", sum := "cd69ca0876a99c1380691cb0aea407c68e78d34fd3ce00f8af48264f2a624b9a", func := "middenheap/middenheaplaw09.GraphMoved", spec := "graphMoved", unfollowed := true, recurses := true, apart := false, narrowed := true }
def GraphMovedUptoSaid : Prop := graphMovedUptoRow.holds Try.pinned (OpenSpec.upto graphMovedSpec)

end Rows
end Go.Proofs.Ytccgnnnildedoaa
