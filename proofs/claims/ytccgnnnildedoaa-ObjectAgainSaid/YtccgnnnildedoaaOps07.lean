/-
  The raw deeds of layer 2's statements as a walk reads them.
  Conditions: none.
-/
import Derived.Test.YtccgnnnildedoaaRows
import Derived.Test.YtccgnnnildedoaaOpen
set_option linter.unusedVariables false
namespace Go.Proofs.Ytccgnnnildedoaa
open Go.RowKit

/-- Element i of a slice of raw deeds lies in memory below block B. -/
def Op07 (w : World) (B : Nat) (A : Option Addr) (i : Nat) : Prop :=
  ∃ (b off : Nat) (k p q n x : Int), A = some ⟨b, off, none⟩ ∧ b < B ∧
    w.cell? ⟨b, off + i * 5, none⟩ = some (.int .i64 k) ∧ w.cell? ⟨b, off + i * 5 + 1, none⟩ = some (.int .i64 p) ∧ w.cell? ⟨b, off + i * 5 + 2, none⟩ = some (.int .i64 q) ∧
    w.cell? ⟨b, off + i * 5 + 3, none⟩ = some (.int .i64 n) ∧ w.cell? ⟨b, off + i * 5 + 4, none⟩ = some (.int .u64 x) ∧
    (Lit.int .i64 k).wf = true ∧ (Lit.int .i64 p).wf = true ∧ (Lit.int .i64 q).wf = true ∧ (Lit.int .i64 n).wf = true ∧ (Lit.int .u64 x).wf = true

theorem cells_op07 : Try.prog.cellsOf 68 = 5 := by kernel_rfl
theorem cells_int : Try.prog.cellsOf 3 = 1 := by kernel_rfl
theorem cells_u64 : Try.prog.cellsOf 27 = 1 := by kernel_rfl

theorem pos_op07 : 0 < Try.prog.cellsOf 68 := of_decide_eq_true (by kernel_rfl)

theorem op07_of {w : World} {B : Nat} {A : Option Addr} {len cap : Nat} (h : ReadsT Try.prog w B 4 63 [.slice A len cap]) : len ≤ cap ∧ cap ≤ maxLen ∧ ∀ i, i < len → Op07 w B A i := by
  obtain ⟨A', len', cap', e, h1, h2, h⟩ := readsT_slice (P := Try.prog) (n := 3) (e := 68) Try.underlying63 pos_op07 h
  rw [cells_op07] at h
  injection e with e
  injection e with e1 e2 e3
  subst e1; subst e2; subst e3
  refine ⟨h1, h2, fun i hi => ?_⟩
  obtain ⟨b, off, cs, hA, hb, hl, hc, hr⟩ := h i hi
  obtain ⟨c0, c1, c2, c3, c4, rfl⟩ := list5 hl
  obtain ⟨k, r0, w0⟩ := readsT_leaf (n := 1) hr 0 0 .i64 (by kernel_rfl)
  obtain ⟨p, r1, w1⟩ := readsT_leaf (n := 1) hr 1 1 .i64 (by kernel_rfl)
  obtain ⟨q, r2, w2⟩ := readsT_leaf (n := 1) hr 2 2 .i64 (by kernel_rfl)
  obtain ⟨n, r3, w3⟩ := readsT_leaf (n := 1) hr 3 3 .i64 (by kernel_rfl)
  obtain ⟨x, r4, w4⟩ := readsT_leaf (n := 1) hr 4 4 .u64 (by kernel_rfl)
  exact ⟨b, off, k, p, q, n, x, hA, hb, hc 0 _ r0, hc 1 _ r1, hc 2 _ r2, hc 3 _ r3, hc 4 _ r4, w0, w1, w2, w3, w4⟩

end Go.Proofs.Ytccgnnnildedoaa
