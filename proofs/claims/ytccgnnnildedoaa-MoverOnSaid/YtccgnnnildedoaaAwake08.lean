/-
  The example of layer 08: awake answers true.
  Conditions: none.
-/
import Derived.Test.YtccgnnnildedoaaInts08
set_option linter.unusedVariables false
namespace Go.Proofs.Ytccgnnnildedoaa
open Go.RowKit

set_option maxRecDepth 100000 in
set_option maxHeartbeats 2000000 in
theorem awake08 (w : World) : Calls Try.prog 45 #[] w fun e w' => e = .returned (.bool true) ∧ Kept NoBlk w w' := by
  have m0 := fun W => new_yes 60 (by omega) (by omega) W
  have m1 : ∀ W b g ws, ws.length = 60 → ArenaAt W b g ws → _ := fun W b g ws hl hA => omake_any hA (by omega) 1 ⟨1, 1, false, false⟩ (by rfl) 3 (by omega) (by omega) (by rw [hl]; decide)
  have m2 := fun W => make_yes (b := 20) (s := 30) ⟨by omega, by omega, by omega, by omega, by omega, by omega⟩ W
  have m3 : ∀ W b g ws, ws.length = 60 → ObjAt ws 1 (newObj ⟨1, 1, false, false⟩ 3) → ArenaAt W b g ws → _ := fun W b g ws hl ho hA => copy_yes hA (by omega) ho (t := 20) (b0 := 20) (s0 := 30) ⟨by omega, by omega, by omega, by omega, by omega, by omega⟩ (by decide) (by omega) (by rw [hl]; decide) (.inl (by decide))
  have e1 : (newObj ⟨1, 1, false, false⟩ 3).ser = 3 := rfl
  have e2 : (newObj ⟨1, 1, false, false⟩ 3).shp = ⟨1, 1, false, false⟩ := rfl
  have e3 : (newObj ⟨1, 1, false, false⟩ 3).size = 5 := rfl
  have e4 : (⟨1, 1, false, false⟩ : Shp).tk = 6 := by decide
  rw [e2, e3, e4] at m3
  have m4 : ∀ W b g ws, ws.length = 60 → GoneAt ws 1 20 → ArenaAt W b g ws → _ := fun W b g ws hl hg hA => mat_gone hA (by omega) hg
  have m5 : ∀ W b g ws, ws.length = 60 → ObjAt ws 20 (newObj ⟨1, 1, false, false⟩ 3) → ArenaAt W b g ws → _ := fun W b g ws hl ho hA => oserial_yes hA (by omega) ho
  rw [e1] at m5
  have m6 := fun W => used_yes (b := 20) (s := 30) (t := 26) ⟨by omega, by omega, by omega, by omega, by omega, by omega⟩ W
  have m7 : ∀ W b g ws, ws.length = 60 → ObjAt ws 20 (newObj ⟨1, 1, false, false⟩ 3) → ArenaAt W b g ws → _ := fun W b g ws hl ho hA => walk_yes hA (by omega) (f := fun _ => ⟨1, 1, false, false⟩) (l := [20]) (b0 := 20) (t0 := 26) (s0 := 30) ⟨rfl, rfl⟩ ⟨by omega, by omega, by omega, by omega, by omega, by omega⟩ (fun p hp => by rw [List.mem_singleton.1 hp]; exact .inl ⟨_, ho, rfl⟩) (fun p hp => by rfl)
  go_enter Try.func45, Try.ntmps45
  go_wp2_with fail
  refine (m0 _).mono ?_
  rintro e w1 ⟨b, g, rfl, hA, hK, hb, hg⟩
  have hl : (List.replicate 60 (0 : Int)).length = 60 := by simp
  generalize List.replicate 60 (0 : Int) = ws at *
  go_wp2_with fail
  refine (m1 _ _ _ _ hl hA).mono ?_
  rintro e w2 ⟨rfl, ws2, hA2, ho2, hF2, hKn⟩
  replace hl := hF2.len.trans hl
  replace hK := hK.over hKn (OneBlk.over hg)
  clear hKn hA hF2
  go_wp2_with fail
  refine (m2 _).mono ?_
  rintro e w3 ⟨rfl, hKn⟩
  replace hK := (hK.trans hKn).alloc (.cells #[.int .i64 20, .int .i64 30, .int .i64 20] 77)
  replace hA2 := (hA2.kept hKn id id).alloc (.cells #[.int .i64 20, .int .i64 30, .int .i64 20] 77)
  clear hKn
  go_wp2_with fail
  refine (m3 _ _ _ _ hl ho2 hA2).mono ?_
  rintro e w4 ⟨rfl, ws4, hA4, hl4, ho4, hg4, hf4, hKn⟩
  replace hl := hl4.trans hl
  replace hK := hK.over hKn (OneBlk.over hg)
  clear hKn hA2 ho2 hf4 hl4
  have hgl := hA4.glt
  have hT := Bk.new w4 77 (#[.int .i64 20, .int .i64 30, .int .i64 26] : Array Value)
  replace hK := hK.alloc (.cells #[.int .i64 20, .int .i64 30, .int .i64 26] 77)
  replace hA4 := hA4.alloc (.cells #[.int .i64 20, .int .i64 30, .int .i64 26] 77)
  go_wp2_with fail
  refine (m4 _ _ _ _ hl hg4 hA4).mono ?_
  rintro e w5 ⟨rfl, hw5⟩
  generalize (w4.alloc (.cells #[.int .i64 20, .int .i64 30, .int .i64 26] 77)) = v4 at *
  obtain rfl := hw5
  go_wp2_with fail
  refine (m5 _ _ _ _ hl ho4 hA4).mono ?_
  rintro e w6 ⟨rfl, hKn⟩
  replace hK := hK.trans hKn
  replace hA4 := hA4.kept hKn id id
  replace hT := hT.kept hKn id
  clear hKn
  have cT := hT.cell
  go_wp2_with fail
  refine (m6 _).mono ?_
  rintro e w7 ⟨rfl, hKn⟩
  replace hK := hK.trans hKn
  replace hA4 := hA4.kept hKn id id
  replace hT := hT.kept hKn id
  clear hKn cT
  have cT := hT.cell
  go_wp2_with fail
  refine (m7 _ _ _ _ hl ho4 hA4).mono ?_
  rintro e w8 ⟨v, rfl, hown, hKn⟩
  replace hK := hK.trans hKn
  clear hKn cT hT
  have hown' := hown
  obtain ⟨gv, cv, rfl, _, _⟩ := hown.form (by decide)
  have s1 := Sl.ownI hown
  go_wp2_with fail
  have s2 : Sl (w8.alloc (.cells #[.int .i64 20] 3)) .i64 (some ⟨gv, 0, none⟩) 1 (wd (natInts [20])) := s1.kept ((Kept.refl NoBlk w8).alloc _) (fun _ _ _ => id)
  have s3 : Sl (w8.alloc (.cells #[.int .i64 20] 3)) .i64 (some ⟨w8.heap.size, 0, none⟩) 1 (wd (natInts [20])) := fun i hi => by
    refine ⟨_, _, rfl, ?_⟩
    rw [(Bk.new w8 3 (#[.int .i64 20] : Array Value)).cell]
    obtain rfl : i = 0 := by omega
    rfl
  refine (ints_yes (by omega) s2 s3).mono ?_
  rintro e w9 ⟨rfl, hKn⟩
  replace hK := (hK.alloc _).trans hKn
  go_wp2
  go_ret
  exact ⟨rfl, hK⟩

end Go.Proofs.Ytccgnnnildedoaa
