/-
  The number of bits of a word (math/bits.Len64, of the shelf, laid at this program).
  Conditions: none.
-/
import Derived.Shelf.Strconv.Itoa0
import Derived.Test.YtccgnnnildedoaaRows
import Derived.Test.YtccgnnnildedoaaWordP
set_option linter.unusedVariables false
namespace Go.Proofs.Ytccgnnnildedoaa
open Go.Shelf Go.RowKit
def lays129_ren : Go.Shelf.Ren := ⟨fun | 129 => 93 | n => n, fun | 53 => 27 | 3 => 3 | 4 => 4 | 46 => 105 | 5 => 5 | 9 => 9 | n => n, fun | n => n⟩
theorem lays129 : Go.Proofs.Lays.n129 Try.prog lays129_ren := {
  mixed := by kernel_rfl
  f129 := Try.func93.trans (congrArg some (by kernel_rfl))
  t3 := Try.underlying3
  a3 := Try.isAgg3
  z3 := Try.sizeOf3
  v3 := Try.zeroValue3
  t4 := Try.underlying4
  a4 := Try.isAgg4
  z4 := Try.sizeOf4
  v4 := Try.zeroValue4
  t5 := Try.underlying5
  a5 := Try.isAgg5
  z5 := Try.sizeOf5
  v5 := Try.zeroValue5
  t9 := Try.underlying9
  a9 := Try.isAgg9
  z9 := Try.sizeOf9
  v9 := Try.zeroValue9
  t46 := Try.underlying105
  a46 := Try.isAgg105
  z46 := Try.sizeOf105
  v46 := Try.zeroValue105
  t53 := Try.underlying27
  a53 := Try.isAgg27
  z53 := Try.sizeOf27
  v53 := Try.zeroValue27 }

theorem bitLenAux_lt : ∀ (f x n : Nat), x < 2 ^ f → (Lib.bitLenAux f x ≤ n ↔ x < 2 ^ n)
  | 0, x, n, h => by
    have h0 : x = 0 := by simpa using h
    have := Nat.two_pow_pos n
    simp [Lib.bitLenAux, h0, this]
  | f + 1, x, n, h => by
    have hn := Nat.two_pow_pos n
    by_cases h0 : x = 0
    · simp [Lib.bitLenAux, h0, hn]
    · have ih := bitLenAux_lt f (x / 2) (n - 1) (by rw [Nat.pow_succ] at h; omega)
      simp only [Lib.bitLenAux, if_neg h0]
      cases n with
      | zero => simp; omega
      | succ n =>
        rw [Nat.add_sub_cancel] at ih
        rw [Nat.pow_succ]
        omega
theorem bitLen_lt (x n : Nat) (h : x < 18446744073709551616) : Lib.bitLen x ≤ n ↔ x < 2 ^ n := bitLenAux_lt 64 x n h
theorem bitLen_le64 (x : Nat) (h : x < 18446744073709551616) : Lib.bitLen x ≤ 64 := (bitLen_lt x 64 h).2 h

theorem len64 (x : Nat) (hx : x < 18446744073709551616) (w : World) :
    Calls Try.prog 93 #[.int .u64 x] w fun e w' => e = .returned (.int .i64 (Lib.bitLen x)) ∧ w = w' :=
  (Any.bits_Len64 lays129 (x : Int) w (by omega) (by omega)).mono fun _ _ ⟨h1, h2⟩ => ⟨by simpa using h1, h2.symm⟩

end Go.Proofs.Ytccgnnnildedoaa
