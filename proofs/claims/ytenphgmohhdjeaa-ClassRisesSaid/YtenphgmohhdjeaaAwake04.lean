/-
  The fixed first calls of the statements of layer 4 (awake) answer true, and change nothing that was there; and which of n things a raw number speaks of.
  Conditions: none.
-/
import Derived.Test.YtenphgmohhdjeaaSizes
import Derived.Test.YtenphgmohhdjeaaSame04
import Derived.Test.YtenphgmohhdjeaaPk
set_option linter.unusedVariables false
namespace Go.Proofs.Ytenphgmohhdjeaa
open Go.RowKit

theorem class5 {k : Nat} (h : ClassOf 5 k) : k = 1 := h.uniq ⟨by decide, fun j hj => by
  match j, hj with
  | 0, _ => decide⟩
theorem class9 {k : Nat} (h : ClassOf 9 k) : k = 3 := h.uniq ⟨by decide, fun j hj => by
  match j, hj with
  | 0, _ => decide
  | 1, _ => decide
  | 2, _ => decide⟩

set_option maxRecDepth 100000 in
set_option maxHeartbeats 1000000 in
theorem awake04 (w : World) :
    Calls Try.prog 38 #[] w fun e w' => e = .returned (.bool true) ∧ Kept NoBlk w w' := by
  go_enter Try.func38, Try.ntmps38
  go_wp2_with fail
  refine (round_yes 5 (by omega) (by omega) _).mono ?_
  rintro e w1 ⟨k, hk, rfl, hK1⟩
  obtain rfl := class5 hk
  have h6 : csz 1 = 6 := by decide
  rw [h6]
  clear hk h6
  go_wp2_with fail
  refine (class_yes 5 (by omega) (by omega) _).mono ?_
  rintro e w2 ⟨k, hk, rfl, hK2⟩
  obtain rfl := class5 hk
  clear hk
  go_wp2_with fail
  refine (sizes_yes 9 (by omega) (by omega) _).mono ?_
  rintro e w3 ⟨k, g, cap, hk, rfl, hown, hK3⟩
  obtain rfl := class9 hk
  clear hk
  go_wp2_with fail
  have hA : Sl (w3.alloc (.cells #[.int .i64 4, .int .i64 6, .int .i64 8, .int .i64 12] 3)) .i64 (some ⟨g, 0, none⟩) 4 (fun i => csz i) :=
    Sl.own (hown.alloc _) fun i hi => by simp [sizesL, hi]
  have hB : Sl (w3.alloc (.cells #[.int .i64 4, .int .i64 6, .int .i64 8, .int .i64 12] 3)) .i64 (some ⟨w3.heap.size, 0, none⟩) 4 (fun i => csz i) := fun i hi => by
    refine ⟨_, _, rfl, ?_⟩
    rw [(Bk.new w3 _ _).cell]
    match i, hi with
    | 0, _ => show _ = some (Value.int .i64 (csz 0)); rw [show csz 0 = 4 by decide]; rfl
    | 1, _ => show _ = some (Value.int .i64 (csz 1)); rw [show csz 1 = 6 by decide]; rfl
    | 2, _ => show _ = some (Value.int .i64 (csz 2)); rw [show csz 2 = 8 by decide]; rfl
    | 3, _ => show _ = some (Value.int .i64 (csz 3)); rw [show csz 3 = 12 by decide]; rfl
  refine (same04 (by omega) hA hB).mono ?_
  rintro e w4 ⟨rfl, hK4⟩
  go_wp2
  go_ret
  exact ⟨rfl, ((hK1.trans hK2).trans hK3).trans (((Kept.refl _ w3).alloc _).trans hK4)⟩

end Go.Proofs.Ytenphgmohhdjeaa
