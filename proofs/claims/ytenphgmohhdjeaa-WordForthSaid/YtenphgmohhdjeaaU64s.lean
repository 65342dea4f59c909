/-
  A slice of 64-bit words as a walk reads it.
  Conditions: none.
-/
import Derived.Test.YtenphgmohhdjeaaRows
import Derived.Test.YtenphgmohhdjeaaOpen
import Derived.Test.YtenphgmohhdjeaaOps02
set_option linter.unusedVariables false
namespace Go.Proofs.Ytenphgmohhdjeaa
open Go.RowKit

/-- Element i of a slice of 64-bit words lies in memory below block B. -/
def U64In (w : World) (B : Nat) (A : Option Addr) (i : Nat) : Prop :=
  ∃ (b off : Nat) (x : Int), A = some ⟨b, off, none⟩ ∧ b < B ∧ w.cell? ⟨b, off + i, none⟩ = some (.int .u64 x) ∧ (Lit.int .u64 x).wf = true
/-- Element i of a slice of ints lies in memory below block B. -/
def I64In (w : World) (B : Nat) (A : Option Addr) (i : Nat) : Prop :=
  ∃ (b off : Nat) (x : Int), A = some ⟨b, off, none⟩ ∧ b < B ∧ w.cell? ⟨b, off + i, none⟩ = some (.int .i64 x) ∧ (Lit.int .i64 x).wf = true

theorem pos_u64 : 0 < Try.prog.cellsOf 32 := of_decide_eq_true (by kernel_rfl)
theorem pos_int : 0 < Try.prog.cellsOf 3 := of_decide_eq_true (by kernel_rfl)

theorem u64s_of {w : World} {B : Nat} {A : Option Addr} {len cap : Nat} (h : ReadsT Try.prog w B 4 42 [.slice A len cap]) : len ≤ cap ∧ cap ≤ maxLen ∧ ∀ i, i < len → U64In w B A i := by
  obtain ⟨A', len', cap', e, h1, h2, h⟩ := readsT_slice (P := Try.prog) (n := 3) (e := 32) Try.underlying42 pos_u64 h
  rw [cells_u64] at h
  injection e with e
  injection e with e1 e2 e3
  subst e1; subst e2; subst e3
  refine ⟨h1, h2, fun i hi => ?_⟩
  obtain ⟨b, off, cs, hA, hb, hl, hc, hr⟩ := h i hi
  obtain ⟨x, rfl, hw⟩ := readsT_int (n := 2) Try.underlying32 hr
  have := hc 0 _ rfl
  exact ⟨b, off, x, hA, hb, by simpa using this, hw⟩

theorem ints_of {w : World} {B : Nat} {A : Option Addr} {len cap : Nat} (h : ReadsT Try.prog w B 4 58 [.slice A len cap]) : len ≤ cap ∧ cap ≤ maxLen ∧ ∀ i, i < len → I64In w B A i := by
  obtain ⟨A', len', cap', e, h1, h2, h⟩ := readsT_slice (P := Try.prog) (n := 3) (e := 3) Try.underlying58 pos_int h
  rw [cells_int] at h
  injection e with e
  injection e with e1 e2 e3
  subst e1; subst e2; subst e3
  refine ⟨h1, h2, fun i hi => ?_⟩
  obtain ⟨b, off, cs, hA, hb, hl, hc, hr⟩ := h i hi
  obtain ⟨x, rfl, hw⟩ := readsT_int (n := 2) Try.underlying3 hr
  have := hc 0 _ rfl
  exact ⟨b, off, x, hA, hb, by simpa using this, hw⟩

end Go.Proofs.Ytenphgmohhdjeaa
