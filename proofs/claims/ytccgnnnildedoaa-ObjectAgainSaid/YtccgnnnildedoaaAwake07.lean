/-
  The example of layer 07: awake answers true.
  Conditions: none.
-/
import Derived.Test.YtccgnnnildedoaaObject3
import Derived.Test.YtccgnnnildedoaaObject5
set_option linter.unusedVariables false
namespace Go.Proofs.Ytccgnnnildedoaa
open Go.RowKit

set_option maxRecDepth 100000 in
set_option maxHeartbeats 2000000 in
theorem awake07 (w : World) : Calls Try.prog 29 #[] w fun e w' => e = .returned (.bool true) ∧ Kept NoBlk w w' := by
  have m0 := fun W => new_yes 9 (by omega) (by omega) W
  have m1 : ∀ W b g, ArenaAt W b g (List.replicate 9 0) → _ := fun W b g hA => omake_yes hA (by simp) 0 ⟨1, 1, false, false⟩ (by rfl) 7 (by omega) (by omega) (by decide)
  have ho0 := madeN_at (ws := List.replicate 9 0) (a := 0) (s := ⟨1, 1, false, false⟩) (n := 7) (by decide) (by rfl) (by omega) (by omega)
  have hl0 := length_madeN (List.replicate 9 0) 0 ⟨1, 1, false, false⟩ 7
  rw [List.length_replicate] at hl0
  generalize madeN (List.replicate 9 0) 0 ⟨1, 1, false, false⟩ 7 = ws1 at *
  generalize List.replicate 9 (0 : Int) = ws0 at *
  have m2 : ∀ W b g, ArenaAt W b g ws1 → _ := fun W b g hA => osetnum_yes hA (by omega) ho0 0 (by decide) (-3) (by omega) (by omega)
  have ho1 := ho0.setNum (i := 0) (x := -3) (by decide) (by omega) (by omega)
  have hl1 : (ws1.set (0 + (3 + (newObj ⟨1, 1, false, false⟩ 7).shp.p + 0)) (zigI (-3))).length = 9 := by rw [List.length_set]; exact hl0
  generalize ws1.set (0 + (3 + (newObj ⟨1, 1, false, false⟩ 7).shp.p + 0)) (zigI (-3)) = ws2 at *
  have e1 : wd ((newObj ⟨1, 1, false, false⟩ 7).setNum 0 (-3)).nums 0 = -3 := by rfl
  have e2 : ((newObj ⟨1, 1, false, false⟩ 7).setNum 0 (-3)).ser = 7 := by rfl
  have m3 : ∀ W b g, ArenaAt W b g ws2 → _ := fun W b g hA => onum_yes hA (by omega) ho1 0 (by decide)
  have m4 : ∀ W b g, ArenaAt W b g ws2 → _ := fun W b g hA => oserial_yes hA (by omega) ho1
  rw [e1] at m3
  rw [e2] at m4
  have m5 : ∀ W b g, ArenaAt W b g ws2 → _ := fun W b g hA => load_v hA (by omega) 0 35 ho1.head (by omega)
  have m6 : ∀ W b g, ArenaAt W b g ws2 → _ := fun W b g hA => optr_no hA (by omega) ho1 1 (.inr ⟨by decide, by decide⟩)
  have m7 : ∀ W b g, ArenaAt W b g ws2 → _ := fun W b g hA => oshape_bad hA (by omega) (a := 1) (x := 0) (by omega) ho1.sec (by omega) (isHead_even (by rfl))
  clear ho0 ho1 hl0 hl1 e1 e2
  go_enter Try.func29, Try.ntmps29
  go_wp2_with fail
  refine (m0 _).mono ?_
  rintro e w1 ⟨b, g, rfl, hA, hK, hb, hg⟩
  go_wp2_with fail
  refine (m1 _ _ _ hA).mono ?_
  rintro e w2 ⟨rfl, hA2, hKn⟩
  replace hK := hK.over hKn (OneBlk.over hg)
  clear hKn hA
  go_wp2_with fail
  refine (m2 _ _ _ hA2).mono ?_
  rintro e w3 ⟨rfl, hA3, hKn⟩
  replace hK := hK.over hKn (OneBlk.over hg)
  clear hKn hA2
  go_wp2_with fail
  refine (m3 _ _ _ hA3).mono ?_
  rintro e w4 ⟨rfl, hKn⟩
  replace hK := hK.trans hKn
  replace hA3 := hA3.kept hKn id id
  clear hKn
  go_wp2_with fail
  refine (m4 _ _ _ hA3).mono ?_
  rintro e w4 ⟨rfl, hKn⟩
  replace hK := hK.trans hKn
  replace hA3 := hA3.kept hKn id id
  clear hKn
  go_wp2_with fail
  refine (m5 _ _ _ hA3).mono ?_
  rintro e w4 ⟨rfl, rfl⟩
  go_wp2_with fail
  refine (m6 _ _ _ hA3).mono ?_
  rintro e w4 ⟨rfl, hKn⟩
  replace hK := hK.trans hKn
  replace hA3 := hA3.kept hKn id id
  clear hKn
  go_wp2_with fail
  refine (m7 _ _ _ hA3).mono ?_
  rintro e w4 ⟨rfl, hKn⟩
  replace hK := hK.trans hKn
  clear hKn hA3
  go_wp2
  go_ret
  exact ⟨rfl, hK.alloc _⟩

end Go.Proofs.Ytccgnnnildedoaa
