/-
  The laws' own function pick (layer 06).
  Conditions: the bounds of the two numbers.
-/
import Derived.Test.YtccgnnnildedoaaRows
import Derived.Test.YtccgnnnildedoaaPk
set_option linter.unusedVariables false
namespace Go.Proofs.Ytccgnnnildedoaa
open Go.RowKit

set_option maxHeartbeats 400000 in
theorem pick06 (c n : Int) (hn : 0 < n) (hc : -9223372036854775808 ≤ c) (hc' : c ≤ 9223372036854775807) (hn2 : n ≤ 9223372036854775807) (w : World) :
    Calls Try.prog 20 #[.int .i64 c, .int .i64 n] w fun e w' => e = .returned (.int .i64 (pk c n)) ∧ w = w' := by
  by_cases h : c < 0
  · have hp : pk c n = (-(c + 1)).tmod n := by unfold pk; rw [if_pos h, Int.tmod_eq_emod_of_nonneg (by omega)]
    have HP := Lib.hid hp
    clear hp
    go_enter Try.func20, Try.ntmps20
    go_wp2
    go_ret
    exact ⟨ret_int (by rw [HP.out, Int.neg_tmod]), rfl⟩
  · have hp : pk c n = c % n := by unfold pk; rw [if_neg h]
    have HP := Lib.hid hp
    clear hp
    go_enter Try.func20, Try.ntmps20
    go_wp2
    go_ret
    exact ⟨ret_int (by rw [HP.out]), rfl⟩

theorem pick06r {c n r : Int} (hr : Hid (r = pk c n)) (hn : 0 < n) (hc : -9223372036854775808 ≤ c) (hc' : c ≤ 9223372036854775807) (hn2 : n ≤ 9223372036854775807) (w : World) :
    Calls Try.prog 20 #[.int .i64 c, .int .i64 n] w fun e w' => e = .returned (.int .i64 r) ∧ w = w' := by
  rw [hr.out]; exact pick06 c n hn hc hc' hn2 w

end Go.Proofs.Ytccgnnnildedoaa
