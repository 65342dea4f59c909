/-
  Two lists that are the same (the laws' own small function).
  Conditions: as each statement says.
-/
import Derived.Test.YtenphgmohhdjeaaRows
import Derived.Test.YtenphgmohhdjeaaSl
import Derived.Deep.QuietTactic
import Derived.BigQuiet
set_option linter.unusedVariables false
namespace Go.Proofs.Ytenphgmohhdjeaa
open Go.RowKit

set_option maxRecDepth 100000 in
set_option maxHeartbeats 1000000 in
theorem same01 {A B : Option Addr} {n c d : Nat} {f : Nat → Int} {w : World} (hn : n ≤ 1000000000) (hA : Sl w .u64 A n f) (hB : Sl w .u64 B n f) :
    Calls Try.prog 60 #[.slice A n c, .slice B n d] w fun e w' => e = .returned (.bool true) ∧ Kept NoBlk w w' := by
  have HA := Lib.hid hA
  have HB := Lib.hid hB
  clear hA hB
  go_enter Try.func60, Try.ntmps60
  go_wp2_with fail
  go_loopw [5] (fun i wr => ∃ k : Nat, k ≤ n ∧ i = .int .i64 k ∧ Kept NoBlk w wr) (fun i _ => n - (intOf i).toNat)
  case atStart => exact ⟨0, by omega, rfl, Kept.refl _ _⟩
  case round =>
    obtain ⟨k, hk, rfl, hK⟩ := hrel
    by_cases hlt : k < n
    · obtain ⟨b1, o1, rfl, c1⟩ := HA.out k hlt
      obtain ⟨b2, o2, rfl, c2⟩ := HB.out k hlt
      have d1 := hK.cell id c1
      have d2 := hK.cell id c2
      clear c1 c2
      have e0 : (0 : Int) ≤ (k : Int) := by omega
      have e1 : (k : Int) < (n : Int) := by omega
      go_wp2_with fail
      go_quiet (fail)
      go_wp2
      go_roundw
      case rel => exact ⟨k + 1, by omega, by go_num, hK.drewN _⟩
      case measure => simp [intOf]; omega
    · go_wp2
      go_ret
      exact ⟨rfl, hK⟩

end Go.Proofs.Ytenphgmohhdjeaa
