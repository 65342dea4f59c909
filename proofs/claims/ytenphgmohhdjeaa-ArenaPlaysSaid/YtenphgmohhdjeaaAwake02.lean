/-
  The fixed first calls of the statements of layer 2 (awake) answer true, and change nothing that was there.
  Conditions: none.
-/
import Derived.Test.YtenphgmohhdjeaaArena2
import Derived.Test.YtenphgmohhdjeaaPick02
set_option linter.unusedVariables false
namespace Go.Proofs.Ytenphgmohhdjeaa
open Go.RowKit

set_option maxRecDepth 100000 in
set_option maxHeartbeats 1000000 in
theorem awake02 (w : World) :
    Calls Try.prog 24 #[] w fun e w' => e = .returned (.bool true) ∧ Kept NoBlk w w' := by
  go_enter Try.func24, Try.ntmps24
  go_wp2_with fail
  refine (new_any 3 (by omega) (by omega) _).mono ?_
  rintro e w1 ⟨b, g, ws, rfl, HW, HL, hA, hK, hb, hg⟩
  go_wp2_with fail
  refine (store_yes hA (by have := HL.out; omega) 2 7 (by omega) (by have := HL.out; omega)).mono ?_
  rintro e w2 ⟨rfl, hA2, hK2⟩
  have HL2 := Lib.hid (show (((ws.set (2 : Int).toNat 7).length : Nat) : Int) = 3 by rw [List.length_set]; exact HL.out)
  go_wp2_with fail
  refine (move_yes hA2 (by have := HL2.out; omega) 1 0 2 (by omega) (by omega) (by omega) (by have := HL2.out; omega) (by have := HL2.out; omega)).mono ?_
  rintro e w3 ⟨rfl, hA3, hK3⟩
  have HW3 := Lib.hid (show moveN (ws.set (2 : Int).toNat 7) (1 : Int).toNat (0 : Int).toNat (2 : Int).toNat = [0, 7, 7] by rw [HW.out]; decide)
  rw [HW3.out] at hA3
  go_wp2_with fail
  refine (load_yes hA3 (by decide) 1 (by omega) (by decide)).mono ?_
  rintro e w4 ⟨rfl, rfl⟩
  have h7 : wd [0, 7, 7] (1 : Int).toNat = 7 := by decide
  rw [h7]
  clear h7
  go_wp2_with fail
  refine (store_no hA3 (by decide) 3 1 (by omega) (by omega) (by decide)).mono ?_
  rintro e w4 ⟨rfl, rfl⟩
  go_wp2_with fail
  refine (len_any hA3).mono ?_
  rintro e w4 ⟨rfl, rfl⟩
  go_wp2
  go_ret
  exact ⟨rfl, hK.over (hK2.trans hK3) (OneBlk.over hg)⟩

end Go.Proofs.Ytenphgmohhdjeaa
