/-
  Which of n things a raw number speaks of, as a number. No program is looked at here.
  Conditions: none.
-/
import Derived.Test.YtccgnnnildedoaaBase
namespace Go.Proofs.Ytccgnnnildedoaa
open Go.RowKit

/-- Which of n things a raw number speaks of. -/
def pk (c n : Int) : Int := (if c < 0 then -(c + 1) else c) % n

theorem pk_bd (c n : Int) (hn : 0 < n) : 0 ≤ pk c n ∧ pk c n < n := ⟨Int.emod_nonneg _ (by omega), Int.emod_lt_of_pos _ hn⟩

end Go.Proofs.Ytccgnnnildedoaa
