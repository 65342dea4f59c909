/-
  No cell of these rows narrows 'for every input' (looked for: loops, veiled, ifaces, maps, wideKeys, modest, calm, conditions, laid).
  DERIVED. THE GIVEN ROWS OF THIS SEAT. 21 by the template 'for every input the law returns true; each argument reads behind the call as it read before'; 0 by the template 'total and deterministic' (their statements: YtenphgmohhdjeaaTotals.lean).
  GIVEN WITH THE SEED: the statements are not yours to turn. If you find one false, say at which input.
  Laid BY PROGRAM, IN A SANDBOX (cutbox-rows.mjs): the forced cells as the released guide's own fill.sh prints them over the translation eead6ce7c59a1f7b… (all of the seat's roots in one cut). By AI agents, Wed Nov 11 2026. No macro, syntax, notation, axiom, sorry.
-/
import Derived.Test.YtenphgmohhdjeaaChecked
import GoSem.Claim
import GoSem.ClaimJoined
import GoSem.ClaimMapViews
import Derived.JoinedTies
import Derived.KernelRfl
namespace Go.Proofs.Ytenphgmohhdjeaa
/- THE CELL 'sum', in the pinned program and in every row, IS THE sha256 OF THE DUMP (.gsa) THAT YtenphgmohhdjeaaProg.lean LOADS. Nothing in Lean hashes anything: it is a label: what it is worth is what the hold of that sum in a sandbox is worth. -/
noncomputable def Try.pinned : Pinned := { name := "ytenphgmohhdjeaa", sum := "eead6ce7c59a1f7b55b404061319909042a8c839c647e85b500e4d7ad77922cb", checked := Try.checked }
namespace Rows
def none {H : Type} : Left H := { results := [], args := [] }

/-- 'middenheaplaw02.ArenaPlays': WHATEVER THE INPUT: true; the input reads as it did. -/
def arenaPlaysSpec : ChangeSpec := { name := "arenaPlays", fn := fun _ => fun
  | [d1, d2] => { results := [.lit (.bool true)], args := [d1, d2] }
  | _ => none }
def arenaPlaysRow : OpenClaim := { program := "ytenphgmohhdjeaa", sum := "eead6ce7c59a1f7b55b404061319909042a8c839c647e85b500e4d7ad77922cb", func := "middenheap/middenheaplaw02.ArenaPlays", spec := "arenaPlays", apart := false }
def ArenaPlaysSaid : Prop := arenaPlaysRow.holds Try.pinned (OpenSpec.ofChange arenaPlaysSpec)

/-- ITS FALSE NEIGHBOUR: 'it returns false'. Refute it at one input. -/
def arenaPlaysWrong : ChangeSpec := { name := "arenaPlays", fn := fun _ => fun
  | [d1, d2] => { results := [.lit (.bool false)], args := [d1, d2] }
  | _ => none }
def ArenaPlaysWrongFalsely : Prop := arenaPlaysRow.holds Try.pinned (OpenSpec.ofChange arenaPlaysWrong)

/-- 'middenheaplaw02.ArenaStores': WHATEVER THE INPUT: true; the input reads as it did. -/
def arenaStoresSpec : ChangeSpec := { name := "arenaStores", fn := fun _ => fun
  | [d1, d2, d3, d4] => { results := [.lit (.bool true)], args := [d1, d2, d3, d4] }
  | _ => none }
def arenaStoresRow : OpenClaim := { program := "ytenphgmohhdjeaa", sum := "eead6ce7c59a1f7b55b404061319909042a8c839c647e85b500e4d7ad77922cb", func := "middenheap/middenheaplaw02.ArenaStores", spec := "arenaStores", apart := false }
def ArenaStoresSaid : Prop := arenaStoresRow.holds Try.pinned (OpenSpec.ofChange arenaStoresSpec)

/-- ITS FALSE NEIGHBOUR: 'it returns false'. Refute it at one input. -/
def arenaStoresWrong : ChangeSpec := { name := "arenaStores", fn := fun _ => fun
  | [d1, d2, d3, d4] => { results := [.lit (.bool false)], args := [d1, d2, d3, d4] }
  | _ => none }
def ArenaStoresWrongFalsely : Prop := arenaStoresRow.holds Try.pinned (OpenSpec.ofChange arenaStoresWrong)

/-- 'middenheaplaw02.ArenaMoves': WHATEVER THE INPUT: true; the input reads as it did. -/
def arenaMovesSpec : ChangeSpec := { name := "arenaMoves", fn := fun _ => fun
  | [d1, d2, d3, d4, d5] => { results := [.lit (.bool true)], args := [d1, d2, d3, d4, d5] }
  | _ => none }
def arenaMovesRow : OpenClaim := { program := "ytenphgmohhdjeaa", sum := "eead6ce7c59a1f7b55b404061319909042a8c839c647e85b500e4d7ad77922cb", func := "middenheap/middenheaplaw02.ArenaMoves", spec := "arenaMoves", apart := false }
def ArenaMovesSaid : Prop := arenaMovesRow.holds Try.pinned (OpenSpec.ofChange arenaMovesSpec)

/-- ITS FALSE NEIGHBOUR: 'it returns false'. Refute it at one input. -/
def arenaMovesWrong : ChangeSpec := { name := "arenaMoves", fn := fun _ => fun
  | [d1, d2, d3, d4, d5] => { results := [.lit (.bool false)], args := [d1, d2, d3, d4, d5] }
  | _ => none }
def ArenaMovesWrongFalsely : Prop := arenaMovesRow.holds Try.pinned (OpenSpec.ofChange arenaMovesWrong)

/-- 'middenheaplaw02.ArenaEnds': WHATEVER THE INPUT: true; the input reads as it did. -/
def arenaEndsSpec : ChangeSpec := { name := "arenaEnds", fn := fun _ => fun
  | [d1, d2, d3, d4] => { results := [.lit (.bool true)], args := [d1, d2, d3, d4] }
  | _ => none }
def arenaEndsRow : OpenClaim := { program := "ytenphgmohhdjeaa", sum := "eead6ce7c59a1f7b55b404061319909042a8c839c647e85b500e4d7ad77922cb", func := "middenheap/middenheaplaw02.ArenaEnds", spec := "arenaEnds", apart := false }
def ArenaEndsSaid : Prop := arenaEndsRow.holds Try.pinned (OpenSpec.ofChange arenaEndsSpec)

/-- ITS FALSE NEIGHBOUR: 'it returns false'. Refute it at one input. -/
def arenaEndsWrong : ChangeSpec := { name := "arenaEnds", fn := fun _ => fun
  | [d1, d2, d3, d4] => { results := [.lit (.bool false)], args := [d1, d2, d3, d4] }
  | _ => none }
def ArenaEndsWrongFalsely : Prop := arenaEndsRow.holds Try.pinned (OpenSpec.ofChange arenaEndsWrong)

/-- 'middenheaplaw02.ArenaFills': WHATEVER THE INPUT: true; the input reads as it did. -/
def arenaFillsSpec : ChangeSpec := { name := "arenaFills", fn := fun _ => fun
  | [d1, d2, d3, d4, d5] => { results := [.lit (.bool true)], args := [d1, d2, d3, d4, d5] }
  | _ => none }
def arenaFillsRow : OpenClaim := { program := "ytenphgmohhdjeaa", sum := "eead6ce7c59a1f7b55b404061319909042a8c839c647e85b500e4d7ad77922cb", func := "middenheap/middenheaplaw02.ArenaFills", spec := "arenaFills", apart := false }
def ArenaFillsSaid : Prop := arenaFillsRow.holds Try.pinned (OpenSpec.ofChange arenaFillsSpec)

/-- ITS FALSE NEIGHBOUR: 'it returns false'. Refute it at one input. -/
def arenaFillsWrong : ChangeSpec := { name := "arenaFills", fn := fun _ => fun
  | [d1, d2, d3, d4, d5] => { results := [.lit (.bool false)], args := [d1, d2, d3, d4, d5] }
  | _ => none }
def ArenaFillsWrongFalsely : Prop := arenaFillsRow.holds Try.pinned (OpenSpec.ofChange arenaFillsWrong)

/-- 'middenheaplaw02.ArenaApart': WHATEVER THE INPUT: true; the input reads as it did. -/
def arenaApartSpec : ChangeSpec := { name := "arenaApart", fn := fun _ => fun
  | [d1, d2] => { results := [.lit (.bool true)], args := [d1, d2] }
  | _ => none }
def arenaApartRow : OpenClaim := { program := "ytenphgmohhdjeaa", sum := "eead6ce7c59a1f7b55b404061319909042a8c839c647e85b500e4d7ad77922cb", func := "middenheap/middenheaplaw02.ArenaApart", spec := "arenaApart", apart := false }
def ArenaApartSaid : Prop := arenaApartRow.holds Try.pinned (OpenSpec.ofChange arenaApartSpec)

/-- ITS FALSE NEIGHBOUR: 'it returns false'. Refute it at one input. -/
def arenaApartWrong : ChangeSpec := { name := "arenaApart", fn := fun _ => fun
  | [d1, d2] => { results := [.lit (.bool false)], args := [d1, d2] }
  | _ => none }
def ArenaApartWrongFalsely : Prop := arenaApartRow.holds Try.pinned (OpenSpec.ofChange arenaApartWrong)

/-- 'middenheaplaw04.ClassRounds': WHATEVER THE INPUT: true; the input reads as it did. -/
def classRoundsSpec : ChangeSpec := { name := "classRounds", fn := fun _ => fun
  | [d] => { results := [.lit (.bool true)], args := [d] }
  | _ => none }
def classRoundsRow : OpenClaim := { program := "ytenphgmohhdjeaa", sum := "eead6ce7c59a1f7b55b404061319909042a8c839c647e85b500e4d7ad77922cb", func := "middenheap/middenheaplaw04.ClassRounds", spec := "classRounds", unfollowed := true, recurses := true, apart := false }
def ClassRoundsSaid : Prop := classRoundsRow.holds Try.pinned (OpenSpec.ofChange classRoundsSpec)

/-- ITS FALSE NEIGHBOUR: 'it returns false'. Refute it at one input. -/
def classRoundsWrong : ChangeSpec := { name := "classRounds", fn := fun _ => fun
  | [d] => { results := [.lit (.bool false)], args := [d] }
  | _ => none }
def ClassRoundsWrongFalsely : Prop := classRoundsRow.holds Try.pinned (OpenSpec.ofChange classRoundsWrong)

/-- 'middenheaplaw04.ClassRises': WHATEVER THE INPUT: true; the input reads as it did. -/
def classRisesSpec : ChangeSpec := { name := "classRises", fn := fun _ => fun
  | [d1, d2] => { results := [.lit (.bool true)], args := [d1, d2] }
  | _ => none }
def classRisesRow : OpenClaim := { program := "ytenphgmohhdjeaa", sum := "eead6ce7c59a1f7b55b404061319909042a8c839c647e85b500e4d7ad77922cb", func := "middenheap/middenheaplaw04.ClassRises", spec := "classRises", unfollowed := true, recurses := true, apart := false }
def ClassRisesSaid : Prop := classRisesRow.holds Try.pinned (OpenSpec.ofChange classRisesSpec)

/-- ITS FALSE NEIGHBOUR: 'it returns false'. Refute it at one input. -/
def classRisesWrong : ChangeSpec := { name := "classRises", fn := fun _ => fun
  | [d1, d2] => { results := [.lit (.bool false)], args := [d1, d2] }
  | _ => none }
def ClassRisesWrongFalsely : Prop := classRisesRow.holds Try.pinned (OpenSpec.ofChange classRisesWrong)

/-- 'middenheaplaw04.ClassDoubles': WHATEVER THE INPUT: true; the input reads as it did. -/
def classDoublesSpec : ChangeSpec := { name := "classDoubles", fn := fun _ => fun
  | [d] => { results := [.lit (.bool true)], args := [d] }
  | _ => none }
def classDoublesRow : OpenClaim := { program := "ytenphgmohhdjeaa", sum := "eead6ce7c59a1f7b55b404061319909042a8c839c647e85b500e4d7ad77922cb", func := "middenheap/middenheaplaw04.ClassDoubles", spec := "classDoubles", unfollowed := true, recurses := true, apart := false }
def ClassDoublesSaid : Prop := classDoublesRow.holds Try.pinned (OpenSpec.ofChange classDoublesSpec)

/-- ITS FALSE NEIGHBOUR: 'it returns false'. Refute it at one input. -/
def classDoublesWrong : ChangeSpec := { name := "classDoubles", fn := fun _ => fun
  | [d] => { results := [.lit (.bool false)], args := [d] }
  | _ => none }
def ClassDoublesWrongFalsely : Prop := classDoublesRow.holds Try.pinned (OpenSpec.ofChange classDoublesWrong)

/-- 'middenheaplaw04.ClassNext': WHATEVER THE INPUT: true; the input reads as it did. -/
def classNextSpec : ChangeSpec := { name := "classNext", fn := fun _ => fun
  | [d] => { results := [.lit (.bool true)], args := [d] }
  | _ => none }
def classNextRow : OpenClaim := { program := "ytenphgmohhdjeaa", sum := "eead6ce7c59a1f7b55b404061319909042a8c839c647e85b500e4d7ad77922cb", func := "middenheap/middenheaplaw04.ClassNext", spec := "classNext", unfollowed := true, recurses := true, apart := false }
def ClassNextSaid : Prop := classNextRow.holds Try.pinned (OpenSpec.ofChange classNextSpec)

/-- ITS FALSE NEIGHBOUR: 'it returns false'. Refute it at one input. -/
def classNextWrong : ChangeSpec := { name := "classNext", fn := fun _ => fun
  | [d] => { results := [.lit (.bool false)], args := [d] }
  | _ => none }
def ClassNextWrongFalsely : Prop := classNextRow.holds Try.pinned (OpenSpec.ofChange classNextWrong)

/-- 'middenheaplaw05.SpaceHas': WHATEVER THE INPUT: true; the input reads as it did. -/
def spaceHasSpec : ChangeSpec := { name := "spaceHas", fn := fun _ => fun
  | [d1, d2] => { results := [.lit (.bool true)], args := [d1, d2] }
  | _ => none }
def spaceHasRow : OpenClaim := { program := "ytenphgmohhdjeaa", sum := "eead6ce7c59a1f7b55b404061319909042a8c839c647e85b500e4d7ad77922cb", func := "middenheap/middenheaplaw05.SpaceHas", spec := "spaceHas", unfollowed := true, recurses := true, apart := false }
def SpaceHasSaid : Prop := spaceHasRow.holds Try.pinned (OpenSpec.ofChange spaceHasSpec)

/-- ITS FALSE NEIGHBOUR: 'it returns false'. Refute it at one input. -/
def spaceHasWrong : ChangeSpec := { name := "spaceHas", fn := fun _ => fun
  | [d1, d2] => { results := [.lit (.bool false)], args := [d1, d2] }
  | _ => none }
def SpaceHasWrongFalsely : Prop := spaceHasRow.holds Try.pinned (OpenSpec.ofChange spaceHasWrong)

/-- 'middenheaplaw05.SpaceTakes': WHATEVER THE INPUT: true; the input reads as it did. -/
def spaceTakesSpec : ChangeSpec := { name := "spaceTakes", fn := fun _ => fun
  | [d1, d2] => { results := [.lit (.bool true)], args := [d1, d2] }
  | _ => none }
def spaceTakesRow : OpenClaim := { program := "ytenphgmohhdjeaa", sum := "eead6ce7c59a1f7b55b404061319909042a8c839c647e85b500e4d7ad77922cb", func := "middenheap/middenheaplaw05.SpaceTakes", spec := "spaceTakes", unfollowed := true, recurses := true, apart := false }
def SpaceTakesSaid : Prop := spaceTakesRow.holds Try.pinned (OpenSpec.ofChange spaceTakesSpec)

/-- ITS FALSE NEIGHBOUR: 'it returns false'. Refute it at one input. -/
def spaceTakesWrong : ChangeSpec := { name := "spaceTakes", fn := fun _ => fun
  | [d1, d2] => { results := [.lit (.bool false)], args := [d1, d2] }
  | _ => none }
def SpaceTakesWrongFalsely : Prop := spaceTakesRow.holds Try.pinned (OpenSpec.ofChange spaceTakesWrong)

/-- 'middenheaplaw05.SpaceWhole': WHATEVER THE INPUT: true; the input reads as it did. -/
def spaceWholeSpec : ChangeSpec := { name := "spaceWhole", fn := fun _ => fun
  | [d] => { results := [.lit (.bool true)], args := [d] }
  | _ => none }
def spaceWholeRow : OpenClaim := { program := "ytenphgmohhdjeaa", sum := "eead6ce7c59a1f7b55b404061319909042a8c839c647e85b500e4d7ad77922cb", func := "middenheap/middenheaplaw05.SpaceWhole", spec := "spaceWhole", unfollowed := true, recurses := true, apart := false }
def SpaceWholeSaid : Prop := spaceWholeRow.holds Try.pinned (OpenSpec.ofChange spaceWholeSpec)

/-- ITS FALSE NEIGHBOUR: 'it returns false'. Refute it at one input. -/
def spaceWholeWrong : ChangeSpec := { name := "spaceWhole", fn := fun _ => fun
  | [d] => { results := [.lit (.bool false)], args := [d] }
  | _ => none }
def SpaceWholeWrongFalsely : Prop := spaceWholeRow.holds Try.pinned (OpenSpec.ofChange spaceWholeWrong)

/-- 'middenheaplaw05.SpaceShifts': WHATEVER THE INPUT: true; the input reads as it did. -/
def spaceShiftsSpec : ChangeSpec := { name := "spaceShifts", fn := fun _ => fun
  | [d1, d2, d3] => { results := [.lit (.bool true)], args := [d1, d2, d3] }
  | _ => none }
def spaceShiftsRow : OpenClaim := { program := "ytenphgmohhdjeaa", sum := "eead6ce7c59a1f7b55b404061319909042a8c839c647e85b500e4d7ad77922cb", func := "middenheap/middenheaplaw05.SpaceShifts", spec := "spaceShifts", unfollowed := true, recurses := true, apart := false }
def SpaceShiftsSaid : Prop := spaceShiftsRow.holds Try.pinned (OpenSpec.ofChange spaceShiftsSpec)

/-- ITS FALSE NEIGHBOUR: 'it returns false'. Refute it at one input. -/
def spaceShiftsWrong : ChangeSpec := { name := "spaceShifts", fn := fun _ => fun
  | [d1, d2, d3] => { results := [.lit (.bool false)], args := [d1, d2, d3] }
  | _ => none }
def SpaceShiftsWrongFalsely : Prop := spaceShiftsRow.holds Try.pinned (OpenSpec.ofChange spaceShiftsWrong)

/-- 'middenheaplaw01.WordSets': WHATEVER THE INPUT: true; the input reads as it did. -/
def wordSetsSpec : ChangeSpec := { name := "wordSets", fn := fun _ => fun
  | [d1, d2, d3, d4] => { results := [.lit (.bool true)], args := [d1, d2, d3, d4] }
  | _ => none }
def wordSetsRow : OpenClaim := { program := "ytenphgmohhdjeaa", sum := "eead6ce7c59a1f7b55b404061319909042a8c839c647e85b500e4d7ad77922cb", func := "middenheap/middenheaplaw01.WordSets", spec := "wordSets", unfollowed := true, recurses := true, apart := false }
def WordSetsSaid : Prop := wordSetsRow.holds Try.pinned (OpenSpec.ofChange wordSetsSpec)

/-- ITS FALSE NEIGHBOUR: 'it returns false'. Refute it at one input. -/
def wordSetsWrong : ChangeSpec := { name := "wordSets", fn := fun _ => fun
  | [d1, d2, d3, d4] => { results := [.lit (.bool false)], args := [d1, d2, d3, d4] }
  | _ => none }
def WordSetsWrongFalsely : Prop := wordSetsRow.holds Try.pinned (OpenSpec.ofChange wordSetsWrong)

/-- 'middenheaplaw01.WordBack': WHATEVER THE INPUT: true; the input reads as it did. -/
def wordBackSpec : ChangeSpec := { name := "wordBack", fn := fun _ => fun
  | [d1, d2] => { results := [.lit (.bool true)], args := [d1, d2] }
  | _ => none }
def wordBackRow : OpenClaim := { program := "ytenphgmohhdjeaa", sum := "eead6ce7c59a1f7b55b404061319909042a8c839c647e85b500e4d7ad77922cb", func := "middenheap/middenheaplaw01.WordBack", spec := "wordBack", unfollowed := true, recurses := true, apart := false }
def WordBackSaid : Prop := wordBackRow.holds Try.pinned (OpenSpec.ofChange wordBackSpec)

/-- ITS FALSE NEIGHBOUR: 'it returns false'. Refute it at one input. -/
def wordBackWrong : ChangeSpec := { name := "wordBack", fn := fun _ => fun
  | [d1, d2] => { results := [.lit (.bool false)], args := [d1, d2] }
  | _ => none }
def WordBackWrongFalsely : Prop := wordBackRow.holds Try.pinned (OpenSpec.ofChange wordBackWrong)

/-- 'middenheaplaw01.WordForth': WHATEVER THE INPUT: true; the input reads as it did. -/
def wordForthSpec : ChangeSpec := { name := "wordForth", fn := fun _ => fun
  | [d1, d2] => { results := [.lit (.bool true)], args := [d1, d2] }
  | _ => none }
def wordForthRow : OpenClaim := { program := "ytenphgmohhdjeaa", sum := "eead6ce7c59a1f7b55b404061319909042a8c839c647e85b500e4d7ad77922cb", func := "middenheap/middenheaplaw01.WordForth", spec := "wordForth", unfollowed := true, recurses := true, apart := false }
def WordForthSaid : Prop := wordForthRow.holds Try.pinned (OpenSpec.ofChange wordForthSpec)

/-- ITS FALSE NEIGHBOUR: 'it returns false'. Refute it at one input. -/
def wordForthWrong : ChangeSpec := { name := "wordForth", fn := fun _ => fun
  | [d1, d2] => { results := [.lit (.bool false)], args := [d1, d2] }
  | _ => none }
def WordForthWrongFalsely : Prop := wordForthRow.holds Try.pinned (OpenSpec.ofChange wordForthWrong)

/-- 'middenheaplaw01.WordZigs': WHATEVER THE INPUT: true; the input reads as it did. -/
def wordZigsSpec : ChangeSpec := { name := "wordZigs", fn := fun _ => fun
  | [d1, d2] => { results := [.lit (.bool true)], args := [d1, d2] }
  | _ => none }
def wordZigsRow : OpenClaim := { program := "ytenphgmohhdjeaa", sum := "eead6ce7c59a1f7b55b404061319909042a8c839c647e85b500e4d7ad77922cb", func := "middenheap/middenheaplaw01.WordZigs", spec := "wordZigs", unfollowed := true, recurses := true, apart := false }
def WordZigsSaid : Prop := wordZigsRow.holds Try.pinned (OpenSpec.ofChange wordZigsSpec)

/-- ITS FALSE NEIGHBOUR: 'it returns false'. Refute it at one input. -/
def wordZigsWrong : ChangeSpec := { name := "wordZigs", fn := fun _ => fun
  | [d1, d2] => { results := [.lit (.bool false)], args := [d1, d2] }
  | _ => none }
def WordZigsWrongFalsely : Prop := wordZigsRow.holds Try.pinned (OpenSpec.ofChange wordZigsWrong)

/-- 'middenheaplaw01.WordMasks': WHATEVER THE INPUT: true; the input reads as it did. -/
def wordMasksSpec : ChangeSpec := { name := "wordMasks", fn := fun _ => fun
  | [d1, d2, d3] => { results := [.lit (.bool true)], args := [d1, d2, d3] }
  | _ => none }
def wordMasksRow : OpenClaim := { program := "ytenphgmohhdjeaa", sum := "eead6ce7c59a1f7b55b404061319909042a8c839c647e85b500e4d7ad77922cb", func := "middenheap/middenheaplaw01.WordMasks", spec := "wordMasks", unfollowed := true, recurses := true, apart := false }
def WordMasksSaid : Prop := wordMasksRow.holds Try.pinned (OpenSpec.ofChange wordMasksSpec)

/-- ITS FALSE NEIGHBOUR: 'it returns false'. Refute it at one input. -/
def wordMasksWrong : ChangeSpec := { name := "wordMasks", fn := fun _ => fun
  | [d1, d2, d3] => { results := [.lit (.bool false)], args := [d1, d2, d3] }
  | _ => none }
def WordMasksWrongFalsely : Prop := wordMasksRow.holds Try.pinned (OpenSpec.ofChange wordMasksWrong)

/-- 'middenheaplaw01.WordPlaces': WHATEVER THE INPUT: true; the input reads as it did. -/
def wordPlacesSpec : ChangeSpec := { name := "wordPlaces", fn := fun _ => fun
  | [d1, d2, d3] => { results := [.lit (.bool true)], args := [d1, d2, d3] }
  | _ => none }
def wordPlacesRow : OpenClaim := { program := "ytenphgmohhdjeaa", sum := "eead6ce7c59a1f7b55b404061319909042a8c839c647e85b500e4d7ad77922cb", func := "middenheap/middenheaplaw01.WordPlaces", spec := "wordPlaces", unfollowed := true, recurses := true, apart := false }
def WordPlacesSaid : Prop := wordPlacesRow.holds Try.pinned (OpenSpec.ofChange wordPlacesSpec)

/-- ITS FALSE NEIGHBOUR: 'it returns false'. Refute it at one input. -/
def wordPlacesWrong : ChangeSpec := { name := "wordPlaces", fn := fun _ => fun
  | [d1, d2, d3] => { results := [.lit (.bool false)], args := [d1, d2, d3] }
  | _ => none }
def WordPlacesWrongFalsely : Prop := wordPlacesRow.holds Try.pinned (OpenSpec.ofChange wordPlacesWrong)

/-- 'middenheaplaw01.WordNear': WHATEVER THE INPUT: true; the input reads as it did. -/
def wordNearSpec : ChangeSpec := { name := "wordNear", fn := fun _ => fun
  | [d1, d2] => { results := [.lit (.bool true)], args := [d1, d2] }
  | _ => none }
def wordNearRow : OpenClaim := { program := "ytenphgmohhdjeaa", sum := "eead6ce7c59a1f7b55b404061319909042a8c839c647e85b500e4d7ad77922cb", func := "middenheap/middenheaplaw01.WordNear", spec := "wordNear", unfollowed := true, recurses := true, apart := false }
def WordNearSaid : Prop := wordNearRow.holds Try.pinned (OpenSpec.ofChange wordNearSpec)

/-- ITS FALSE NEIGHBOUR: 'it returns false'. Refute it at one input. -/
def wordNearWrong : ChangeSpec := { name := "wordNear", fn := fun _ => fun
  | [d1, d2] => { results := [.lit (.bool false)], args := [d1, d2] }
  | _ => none }
def WordNearWrongFalsely : Prop := wordNearRow.holds Try.pinned (OpenSpec.ofChange wordNearWrong)

/- THE SECOND FORM. 'bulk': how many values and letters a reading holds, each counted each time it is reached (what is shared counts as often as it is met; a slice's spare places count too). A statement '..UptoSaid' is the law's where the arguments, and the package variables that the reading takes, are together of bulk at most 1048576: NARROWER than '..Said'. Prove '..Said' where nothing that the law and all that it calls make is longer than what came in: it says more and counts as full. Else prove '..UptoSaid'. A law counts once. -/
mutual
def uptoBulk {H : Type} : DataW H → Nat
  | .lit (.string bytes) => bytes.length + 1
  | .lit _ => 1
  | .nil => 1
  | .ptr d => uptoBulk d + 1
  | .slice elems spare => uptoBulkAll elems + uptoBulkAll spare + 1
  | .agg parts => uptoBulkAll parts + 1
  | .iface _ d => uptoBulk d + 1
  | .map entries => uptoBulkEntries entries + 1
  | .held _ => 1
def uptoBulkAll {H : Type} : List (DataW H) → Nat
  | [] => 0
  | d :: r => uptoBulk d + uptoBulkAll r
def uptoBulkEntries {H : Type} : List (Lit × DataW H) → Nat
  | [] => 0
  | x :: r => uptoBulkEntry x + uptoBulkEntries r
def uptoBulkEntry {H : Type} : Lit × DataW H → Nat
  | (.string bytes, d) => bytes.length + uptoBulk d + 1
  | (_, d) => uptoBulk d + 1
 end
def uptoSmall : (H : Type) → List (DataW H) → Bool := fun _ ds => decide (uptoBulkAll ds ≤ 1048576)
def OpenSpec.upto (s : _root_.Go.ChangeSpec) : _root_.Go.OpenSpec := { _root_.Go.OpenSpec.ofChange s with cond := some uptoSmall }

/-- 'middenheaplaw02.ArenaPlays', WHERE WHAT IT READS IS OF BULK AT MOST 1048576: true; the input reads as it did. -/
def arenaPlaysUptoRow : OpenClaim := { program := "ytenphgmohhdjeaa", sum := "eead6ce7c59a1f7b55b404061319909042a8c839c647e85b500e4d7ad77922cb", func := "middenheap/middenheaplaw02.ArenaPlays", spec := "arenaPlays", apart := false, narrowed := true }
def ArenaPlaysUptoSaid : Prop := arenaPlaysUptoRow.holds Try.pinned (OpenSpec.upto arenaPlaysSpec)

/-- 'middenheaplaw02.ArenaStores', WHERE WHAT IT READS IS OF BULK AT MOST 1048576: true; the input reads as it did. -/
def arenaStoresUptoRow : OpenClaim := { program := "ytenphgmohhdjeaa", sum := "eead6ce7c59a1f7b55b404061319909042a8c839c647e85b500e4d7ad77922cb", func := "middenheap/middenheaplaw02.ArenaStores", spec := "arenaStores", apart := false, narrowed := true }
def ArenaStoresUptoSaid : Prop := arenaStoresUptoRow.holds Try.pinned (OpenSpec.upto arenaStoresSpec)

/-- 'middenheaplaw02.ArenaMoves', WHERE WHAT IT READS IS OF BULK AT MOST 1048576: true; the input reads as it did. -/
def arenaMovesUptoRow : OpenClaim := { program := "ytenphgmohhdjeaa", sum := "eead6ce7c59a1f7b55b404061319909042a8c839c647e85b500e4d7ad77922cb", func := "middenheap/middenheaplaw02.ArenaMoves", spec := "arenaMoves", apart := false, narrowed := true }
def ArenaMovesUptoSaid : Prop := arenaMovesUptoRow.holds Try.pinned (OpenSpec.upto arenaMovesSpec)

/-- 'middenheaplaw02.ArenaEnds', WHERE WHAT IT READS IS OF BULK AT MOST 1048576: true; the input reads as it did. -/
def arenaEndsUptoRow : OpenClaim := { program := "ytenphgmohhdjeaa", sum := "eead6ce7c59a1f7b55b404061319909042a8c839c647e85b500e4d7ad77922cb", func := "middenheap/middenheaplaw02.ArenaEnds", spec := "arenaEnds", apart := false, narrowed := true }
def ArenaEndsUptoSaid : Prop := arenaEndsUptoRow.holds Try.pinned (OpenSpec.upto arenaEndsSpec)

/-- 'middenheaplaw02.ArenaFills', WHERE WHAT IT READS IS OF BULK AT MOST 1048576: true; the input reads as it did. -/
def arenaFillsUptoRow : OpenClaim := { program := "ytenphgmohhdjeaa", sum := "eead6ce7c59a1f7b55b404061319909042a8c839c647e85b500e4d7ad77922cb", func := "middenheap/middenheaplaw02.ArenaFills", spec := "arenaFills", apart := false, narrowed := true }
def ArenaFillsUptoSaid : Prop := arenaFillsUptoRow.holds Try.pinned (OpenSpec.upto arenaFillsSpec)

/-- 'middenheaplaw02.ArenaApart', WHERE WHAT IT READS IS OF BULK AT MOST 1048576: true; the input reads as it did. -/
def arenaApartUptoRow : OpenClaim := { program := "ytenphgmohhdjeaa", sum := "eead6ce7c59a1f7b55b404061319909042a8c839c647e85b500e4d7ad77922cb", func := "middenheap/middenheaplaw02.ArenaApart", spec := "arenaApart", apart := false, narrowed := true }
def ArenaApartUptoSaid : Prop := arenaApartUptoRow.holds Try.pinned (OpenSpec.upto arenaApartSpec)

/-- 'middenheaplaw04.ClassRounds', WHERE WHAT IT READS IS OF BULK AT MOST 1048576: true; the input reads as it did. -/
def classRoundsUptoRow : OpenClaim := { program := "ytenphgmohhdjeaa", sum := "eead6ce7c59a1f7b55b404061319909042a8c839c647e85b500e4d7ad77922cb", func := "middenheap/middenheaplaw04.ClassRounds", spec := "classRounds", unfollowed := true, recurses := true, apart := false, narrowed := true }
def ClassRoundsUptoSaid : Prop := classRoundsUptoRow.holds Try.pinned (OpenSpec.upto classRoundsSpec)

/-- 'middenheaplaw04.ClassRises', WHERE WHAT IT READS IS OF BULK AT MOST 1048576: true; the input reads as it did. -/
def classRisesUptoRow : OpenClaim := { program := "ytenphgmohhdjeaa", sum := "eead6ce7c59a1f7b55b404061319909042a8c839c647e85b500e4d7ad77922cb", func := "middenheap/middenheaplaw04.ClassRises", spec := "classRises", unfollowed := true, recurses := true, apart := false, narrowed := true }
def ClassRisesUptoSaid : Prop := classRisesUptoRow.holds Try.pinned (OpenSpec.upto classRisesSpec)

/-- 'middenheaplaw04.ClassDoubles', WHERE WHAT IT READS IS OF BULK AT MOST 1048576: true; the input reads as it did. -/
def classDoublesUptoRow : OpenClaim := { program := "ytenphgmohhdjeaa", sum := "eead6ce7c59a1f7b55b404061319909042a8c839c647e85b500e4d7ad77922cb", func := "middenheap/middenheaplaw04.ClassDoubles", spec := "classDoubles", unfollowed := true, recurses := true, apart := false, narrowed := true }
def ClassDoublesUptoSaid : Prop := classDoublesUptoRow.holds Try.pinned (OpenSpec.upto classDoublesSpec)

/-- 'middenheaplaw04.ClassNext', WHERE WHAT IT READS IS OF BULK AT MOST 1048576: true; the input reads as it did. -/
def classNextUptoRow : OpenClaim := { program := "ytenphgmohhdjeaa", sum := "eead6ce7c59a1f7b55b404061319909042a8c839c647e85b500e4d7ad77922cb", func := "middenheap/middenheaplaw04.ClassNext", spec := "classNext", unfollowed := true, recurses := true, apart := false, narrowed := true }
def ClassNextUptoSaid : Prop := classNextUptoRow.holds Try.pinned (OpenSpec.upto classNextSpec)

/-- 'middenheaplaw05.SpaceHas', WHERE WHAT IT READS IS OF BULK AT MOST 1048576: true; the input reads as it did. -/
def spaceHasUptoRow : OpenClaim := { program := "ytenphgmohhdjeaa", sum := "eead6ce7c59a1f7b55b404061319909042a8c839c647e85b500e4d7ad77922cb", func := "middenheap/middenheaplaw05.SpaceHas", spec := "spaceHas", unfollowed := true, recurses := true, apart := false, narrowed := true }
def SpaceHasUptoSaid : Prop := spaceHasUptoRow.holds Try.pinned (OpenSpec.upto spaceHasSpec)

/-- 'middenheaplaw05.SpaceTakes', WHERE WHAT IT READS IS OF BULK AT MOST 1048576: true; the input reads as it did. -/
def spaceTakesUptoRow : OpenClaim := { program := "ytenphgmohhdjeaa", sum := "eead6ce7c59a1f7b55b404061319909042a8c839c647e85b500e4d7ad77922cb", func := "middenheap/middenheaplaw05.SpaceTakes", spec := "spaceTakes", unfollowed := true, recurses := true, apart := false, narrowed := true }
def SpaceTakesUptoSaid : Prop := spaceTakesUptoRow.holds Try.pinned (OpenSpec.upto spaceTakesSpec)

/-- 'middenheaplaw05.SpaceWhole', WHERE WHAT IT READS IS OF BULK AT MOST 1048576: true; the input reads as it did. -/
def spaceWholeUptoRow : OpenClaim := { program := "ytenphgmohhdjeaa", sum := "eead6ce7c59a1f7b55b404061319909042a8c839c647e85b500e4d7ad77922cb", func := "middenheap/middenheaplaw05.SpaceWhole", spec := "spaceWhole", unfollowed := true, recurses := true, apart := false, narrowed := true }
def SpaceWholeUptoSaid : Prop := spaceWholeUptoRow.holds Try.pinned (OpenSpec.upto spaceWholeSpec)

/-- 'middenheaplaw05.SpaceShifts', WHERE WHAT IT READS IS OF BULK AT MOST 1048576: true; the input reads as it did. -/
def spaceShiftsUptoRow : OpenClaim := { program := "ytenphgmohhdjeaa", sum := "eead6ce7c59a1f7b55b404061319909042a8c839c647e85b500e4d7ad77922cb", func := "middenheap/middenheaplaw05.SpaceShifts", spec := "spaceShifts", unfollowed := true, recurses := true, apart := false, narrowed := true }
def SpaceShiftsUptoSaid : Prop := spaceShiftsUptoRow.holds Try.pinned (OpenSpec.upto spaceShiftsSpec)

/-- 'middenheaplaw01.WordSets', WHERE WHAT IT READS IS OF BULK AT MOST 1048576: true; the input reads as it did. -/
def wordSetsUptoRow : OpenClaim := { program := "ytenphgmohhdjeaa", sum := "eead6ce7c59a1f7b55b404061319909042a8c839c647e85b500e4d7ad77922cb", func := "middenheap/middenheaplaw01.WordSets", spec := "wordSets", unfollowed := true, recurses := true, apart := false, narrowed := true }
def WordSetsUptoSaid : Prop := wordSetsUptoRow.holds Try.pinned (OpenSpec.upto wordSetsSpec)

/-- 'middenheaplaw01.WordBack', WHERE WHAT IT READS IS OF BULK AT MOST 1048576: true; the input reads as it did. -/
def wordBackUptoRow : OpenClaim := { program := "ytenphgmohhdjeaa", sum := "eead6ce7c59a1f7b55b404061319909042a8c839c647e85b500e4d7ad77922cb", func := "middenheap/middenheaplaw01.WordBack", spec := "wordBack", unfollowed := true, recurses := true, apart := false, narrowed := true }
def WordBackUptoSaid : Prop := wordBackUptoRow.holds Try.pinned (OpenSpec.upto wordBackSpec)

/-- 'middenheaplaw01.WordForth', WHERE WHAT IT READS IS OF BULK AT MOST 1048576: true; the input reads as it did. -/
def wordForthUptoRow : OpenClaim := { program := "ytenphgmohhdjeaa", sum := "eead6ce7c59a1f7b55b404061319909042a8c839c647e85b500e4d7ad77922cb", func := "middenheap/middenheaplaw01.WordForth", spec := "wordForth", unfollowed := true, recurses := true, apart := false, narrowed := true }
def WordForthUptoSaid : Prop := wordForthUptoRow.holds Try.pinned (OpenSpec.upto wordForthSpec)

/-- 'middenheaplaw01.WordZigs', WHERE WHAT IT READS IS OF BULK AT MOST 1048576: true; the input reads as it did. -/
def wordZigsUptoRow : OpenClaim := { program := "ytenphgmohhdjeaa", sum := "eead6ce7c59a1f7b55b404061319909042a8c839c647e85b500e4d7ad77922cb", func := "middenheap/middenheaplaw01.WordZigs", spec := "wordZigs", unfollowed := true, recurses := true, apart := false, narrowed := true }
def WordZigsUptoSaid : Prop := wordZigsUptoRow.holds Try.pinned (OpenSpec.upto wordZigsSpec)

/-- 'middenheaplaw01.WordMasks', WHERE WHAT IT READS IS OF BULK AT MOST 1048576: true; the input reads as it did. -/
def wordMasksUptoRow : OpenClaim := { program := "ytenphgmohhdjeaa", sum := "eead6ce7c59a1f7b55b404061319909042a8c839c647e85b500e4d7ad77922cb", func := "middenheap/middenheaplaw01.WordMasks", spec := "wordMasks", unfollowed := true, recurses := true, apart := false, narrowed := true }
def WordMasksUptoSaid : Prop := wordMasksUptoRow.holds Try.pinned (OpenSpec.upto wordMasksSpec)

/-- 'middenheaplaw01.WordPlaces', WHERE WHAT IT READS IS OF BULK AT MOST 1048576: true; the input reads as it did. -/
def wordPlacesUptoRow : OpenClaim := { program := "ytenphgmohhdjeaa", sum := "eead6ce7c59a1f7b55b404061319909042a8c839c647e85b500e4d7ad77922cb", func := "middenheap/middenheaplaw01.WordPlaces", spec := "wordPlaces", unfollowed := true, recurses := true, apart := false, narrowed := true }
def WordPlacesUptoSaid : Prop := wordPlacesUptoRow.holds Try.pinned (OpenSpec.upto wordPlacesSpec)

/-- 'middenheaplaw01.WordNear', WHERE WHAT IT READS IS OF BULK AT MOST 1048576: true; the input reads as it did. -/
def wordNearUptoRow : OpenClaim := { program := "ytenphgmohhdjeaa", sum := "eead6ce7c59a1f7b55b404061319909042a8c839c647e85b500e4d7ad77922cb", func := "middenheap/middenheaplaw01.WordNear", spec := "wordNear", unfollowed := true, recurses := true, apart := false, narrowed := true }
def WordNearUptoSaid : Prop := wordNearUptoRow.holds Try.pinned (OpenSpec.upto wordNearSpec)

end Rows
end Go.Proofs.Ytenphgmohhdjeaa
