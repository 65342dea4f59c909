/-
  An array of two or three numbers that came in by value.
  Conditions: none.
-/
import Derived.Test.YtccgnnnildedoaaOpen
import Derived.Test.YtccgnnnildedoaaRow
set_option linter.unusedVariables false
namespace Go.Proofs.Ytccgnnnildedoaa
open Go.ChangeShapes Go.WideShapes Go.ChangeAt Go.RowKit

variable {H : Type} {enc : TypeId × Value → H} {P : Program} {w : World} {base : Nat} {spare : Nat → Bool} {held : Bool} {t e : TypeId} {v : Value} {d : DataW H} {p : List MemPlace}
theorem open_arr3 {r : Reach} {b : Nat} (ht : P.underlying t = some (.array 3 e)) (he : P.underlying e = some (.int .i64)) (hc : P.cellsOf t = 3) (hce : P.cellsOf e = 1) (h : Value.okWide P w r b t v) (hd : DataW.Trod enc P w base spare held t v d p) :
    ∃ x y z, v = .agg #[.int .i64 x, .int .i64 y, .int .i64 z] ∧ (-9223372036854775808 ≤ x ∧ x ≤ 9223372036854775807) ∧ (-9223372036854775808 ≤ y ∧ y ≤ 9223372036854775807) ∧ (-9223372036854775808 ≤ z ∧ z ≤ 9223372036854775807) := by
  obtain ⟨cs, rfl, hsz, _⟩ : ∃ cs, v = .agg cs ∧ cs.size = P.cellsOf t ∧ Row.okWide P w r b t cs := by
    simpa [Value.okWide, ht] using h
  obtain ⟨f, hf⟩ := hd
  have R := reads_of_trod 4 hf
  obtain ⟨l⟩ := cs
  replace R : ReadsT P w w.heap.size 4 t l := R
  obtain ⟨hl, hR⟩ := readsT_array ht R
  rw [hc] at hl
  rw [hce] at hR
  obtain ⟨c0, c1, c2, rfl⟩ := list3 hl
  obtain ⟨x, e0, w0⟩ := readsT_int he (hR 0 (by omega))
  obtain ⟨y, e1, w1⟩ := readsT_int he (hR 1 (by omega))
  obtain ⟨z, e2, w2⟩ := readsT_int he (hR 2 (by omega))
  simp at e0 e1 e2
  subst e0 e1 e2
  exact ⟨x, y, z, rfl, bd_i64 w0, bd_i64 w1, bd_i64 w2⟩
theorem open_arr2 {r : Reach} {b : Nat} (ht : P.underlying t = some (.array 2 e)) (he : P.underlying e = some (.int .i64)) (hc : P.cellsOf t = 2) (hce : P.cellsOf e = 1) (h : Value.okWide P w r b t v) (hd : DataW.Trod enc P w base spare held t v d p) :
    ∃ x y, v = .agg #[.int .i64 x, .int .i64 y] ∧ (-9223372036854775808 ≤ x ∧ x ≤ 9223372036854775807) ∧ (-9223372036854775808 ≤ y ∧ y ≤ 9223372036854775807) := by
  obtain ⟨cs, rfl, hsz, _⟩ : ∃ cs, v = .agg cs ∧ cs.size = P.cellsOf t ∧ Row.okWide P w r b t cs := by
    simpa [Value.okWide, ht] using h
  obtain ⟨f, hf⟩ := hd
  have R := reads_of_trod 4 hf
  obtain ⟨l⟩ := cs
  replace R : ReadsT P w w.heap.size 4 t l := R
  obtain ⟨hl, hR⟩ := readsT_array ht R
  rw [hc] at hl
  rw [hce] at hR
  obtain ⟨c0, c1, rfl⟩ := list2 hl
  obtain ⟨x, e0, w0⟩ := readsT_int he (hR 0 (by omega))
  obtain ⟨y, e1, w1⟩ := readsT_int he (hR 1 (by omega))
  simp at e0 e1
  subst e0 e1
  exact ⟨x, y, rfl, bd_i64 w0, bd_i64 w1⟩
end Go.Proofs.Ytccgnnnildedoaa
