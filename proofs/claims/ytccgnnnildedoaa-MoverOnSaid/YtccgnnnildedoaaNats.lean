/-
  A list of numbers in a block of its own, read as a slice. No program is looked at here.
  Conditions: none.
-/
import Derived.Test.YtccgnnnildedoaaSl
import Derived.Test.YtccgnnnildedoaaNth
set_option linter.unusedVariables false
namespace Go.Proofs.Ytccgnnnildedoaa
open Go.RowKit

/-- A list of numbers in a block of its own. -/
theorem Sl.nats {w : World} {g : Nat} {t : TypeId} {k : IntKind} {l : List Nat} {cs : Array Value} (h : Bk w g t cs) (hc : cs = (l.map fun x => Value.int k (x : Nat)).toArray) : Sl w k (some ⟨g, 0, none⟩) l.length (fun i => (nth l i : Nat)) := fun i hi => by
  refine ⟨g, 0, rfl, ?_⟩
  rw [h.cell, hc, Nat.zero_add]
  simp [nth, hi]


end Go.Proofs.Ytccgnnnildedoaa
