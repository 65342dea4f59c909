/-
  A slice of ints as a walk reads it (for seats without layer 2's statements).
  Conditions: none.
-/
import Derived.Test.YtccgnnnildedoaaRows
import Derived.Test.YtccgnnnildedoaaOpen
set_option linter.unusedVariables false
namespace Go.Proofs.Ytccgnnnildedoaa
open Go.RowKit

theorem cells_int : Try.prog.cellsOf 3 = 1 := by kernel_rfl
/-- Element i of a slice of ints lies in memory below block B. -/
def I64In (w : World) (B : Nat) (A : Option Addr) (i : Nat) : Prop :=
  ∃ (b off : Nat) (x : Int), A = some ⟨b, off, none⟩ ∧ b < B ∧ w.cell? ⟨b, off + i, none⟩ = some (.int .i64 x) ∧ (Lit.int .i64 x).wf = true

theorem pos_int : 0 < Try.prog.cellsOf 3 := of_decide_eq_true (by kernel_rfl)

theorem ints_of {w : World} {B : Nat} {A : Option Addr} {len cap : Nat} (h : ReadsT Try.prog w B 4 74 [.slice A len cap]) : len ≤ cap ∧ cap ≤ maxLen ∧ ∀ i, i < len → I64In w B A i := by
  obtain ⟨A', len', cap', e, h1, h2, h⟩ := readsT_slice (P := Try.prog) (n := 3) (e := 3) Try.underlying74 pos_int h
  rw [cells_int] at h
  injection e with e
  injection e with e1 e2 e3
  subst e1; subst e2; subst e3
  refine ⟨h1, h2, fun i hi => ?_⟩
  obtain ⟨b, off, cs, hA, hb, hl, hc, hr⟩ := h i hi
  obtain ⟨x, rfl, hw⟩ := readsT_int (n := 2) Try.underlying3 hr
  have := hc 0 _ rfl
  exact ⟨b, off, x, hA, hb, by simpa using this, hw⟩

end Go.Proofs.Ytccgnnnildedoaa
