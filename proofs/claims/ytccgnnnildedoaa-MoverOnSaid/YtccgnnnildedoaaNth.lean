/-
  The k-th number of a list. No program is looked at here.
  Conditions: none.
-/
import Derived.Test.YtccgnnnildedoaaWordP
namespace Go.Proofs.Ytccgnnnildedoaa

/-- The k-th width (number). -/
def nth (ws : List Nat) (k : Nat) : Nat := ws.getD k 0

end Go.Proofs.Ytccgnnnildedoaa
