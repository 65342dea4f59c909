/-
  Package object: Make.
  Conditions: the arena has at most 65536 words.
-/
import Derived.Test.YtccgnnnildedoaaObject4
set_option linter.unusedVariables false
namespace Go.Proofs.Ytccgnnnildedoaa
open Go.RowKit

set_option maxRecDepth 100000 in
set_option maxHeartbeats 1000000 in
theorem omake_yes {b g : Nat} {ws : List Int} {w : World} (hA : ArenaAt w b g ws) (hn : ws.length ≤ 65536) (a : Nat) (s : Shp) (hs : s.ok) (n : Int) (h0 : 0 ≤ n) (h1 : n ≤ 1099511627776) (hf : a + s.size ≤ ws.length) :
    Calls Try.prog 33 #[.pointer (some ⟨b, 0, none⟩), .int .i64 a, .agg #[.int .i64 (s.p : Nat), .int .i64 (s.d : Nat), .bool s.wk, .bool s.fin], .int .i64 n] w fun e w' => e = .returned (.int .i64 0) ∧ ArenaAt w' b g (madeN ws a s n) ∧ Kept (OneBlk g) w w' := by
  have c1 := fun W => head_yes s false hs W
  have c2 := fun W => hsize_yes s.p s.d s.wk s.fin hs W
  have hz : (3 : Int) + s.p + s.d = ((s.size : Nat) : Int) := by unfold Shp.size; omega
  rw [hz] at c2
  have h3 : 3 ≤ s.size := by unfold Shp.size; omega
  have c3 : ∀ W, Kept NoBlk w W → _ := fun W k => fill_yes (hA.kept k id id) hn (a : Int) (s.size : Int) 0 (by omega) (by omega) (by omega)
  rw [Int.toNat_natCast, Int.toNat_natCast] at c3
  have c4 : ∀ W, ArenaAt W b g (fillN ws a s.size 0) → _ := fun W hA => store_yes hA (by rw [length_fillN]; exact hn) ((a : Int) + 2) n (by omega) (by rw [length_fillN]; omega)
  rw [show ((a : Int) + 2).toNat = a + 2 by omega] at c4
  have c5 : ∀ W, ArenaAt W b g ((fillN ws a s.size 0).set (a + 2) n) → _ := fun W hA => store_yes hA (by rw [List.length_set, length_fillN]; exact hn) (a : Int) ((headN s false : Nat) : Int) (by omega) (by rw [List.length_set, length_fillN]; omega)
  rw [Int.toNat_natCast] at c5
  unfold madeN
  have ha : a < 65536 := by omega
  generalize headN s false = x at *
  generalize s.size = q at *
  generalize fillN ws a q 0 = ws1 at *
  obtain ⟨p, d, wk, fn⟩ := s
  dsimp only at *
  clear hA hf hs hz
  go_enter Try.func33, Try.ntmps33
  have hK := Kept.refl NoBlk w
  have hS := Bk.new (w) 25 (#[.int .i64 p, .int .i64 d, .bool wk, .bool fn] : Array Value)
  replace hK := hK.alloc (.cells #[.int .i64 p, .int .i64 d, .bool wk, .bool fn] 25)
  have c_hS := hS.cell
  have f_hS := hS.frozen
  go_wp2_with fail
  refine (c1 _).mono ?_
  rintro e_ wc1 ⟨rfl, hKn⟩
  replace hS := hS.kept hKn id
  replace hK := hK.trans hKn
  clear hKn
  replace c_hS := hS.cell
  replace f_hS := hS.frozen
  go_wp2_with fail
  refine (c2 _).mono ?_
  rintro e_ wc2 ⟨rfl, hKn⟩
  replace hS := hS.kept hKn id
  replace hK := hK.trans hKn
  clear hKn
  replace c_hS := hS.cell
  replace f_hS := hS.frozen
  go_wp2_with fail
  refine (c3 _ hK).mono ?_
  rintro e w3 ⟨rfl, hA3, hK3⟩
  replace hK := (NoBlk.one hK g).trans hK3
  clear hS c_hS f_hS hK3
  go_wp2_with fail
  refine (c4 _ hA3).mono ?_
  rintro e w4 ⟨rfl, hA4, hK4⟩
  replace hK := hK.trans hK4
  clear hA3 hK4
  go_wp2_with fail
  refine (c5 _ hA4).mono ?_
  rintro e w5 ⟨rfl, hA5, hK5⟩
  replace hK := hK.trans hK5
  clear hA4 hK5
  go_wp2
  go_ret
  exact ⟨rfl, hA5, hK⟩

set_option maxRecDepth 100000 in
set_option maxHeartbeats 1000000 in
theorem omake_room {b g : Nat} {ws : List Int} {w : World} (hA : ArenaAt w b g ws) (hn : ws.length ≤ 65536) (a : Nat) (s : Shp) (hs : s.ok) (n : Int) (h0 : 0 ≤ n) (h1 : n ≤ 1099511627776) (ha : a < 65536) (hf : ws.length < a + s.size) :
    Calls Try.prog 33 #[.pointer (some ⟨b, 0, none⟩), .int .i64 a, .agg #[.int .i64 (s.p : Nat), .int .i64 (s.d : Nat), .bool s.wk, .bool s.fin], .int .i64 n] w fun e w' => e = .returned (.int .i64 20) ∧ Kept NoBlk w w' := by
  obtain ⟨hp8, hd8, _⟩ := Shp.ok_bd hs
  have c1 := fun W => head_yes s false hs W
  have c2 := fun W => hsize_yes s.p s.d s.wk s.fin hs W
  have hz : (3 : Int) + s.p + s.d = ((s.size : Nat) : Int) := by unfold Shp.size; omega
  rw [hz] at c2
  have h3 : s.size ≤ 19 := by unfold Shp.size; omega
  have c3 : ∀ W, Kept NoBlk w W → _ := fun W k => fill_no (hA.kept k id id) hn (a : Int) (s.size : Int) 0 (by omega) (by omega) (by omega) (by omega) (decide_eq_false (by omega))
  generalize headN s false = x at *
  generalize s.size = q at *
  obtain ⟨p, d, wk, fn⟩ := s
  dsimp only at *
  clear hA hf hs hz
  go_enter Try.func33, Try.ntmps33
  have hK := Kept.refl NoBlk w
  have hS := Bk.new (w) 25 (#[.int .i64 p, .int .i64 d, .bool wk, .bool fn] : Array Value)
  replace hK := hK.alloc (.cells #[.int .i64 p, .int .i64 d, .bool wk, .bool fn] 25)
  have c_hS := hS.cell
  have f_hS := hS.frozen
  go_wp2_with fail
  refine (c1 _).mono ?_
  rintro e_ wc3 ⟨rfl, hKn⟩
  replace hS := hS.kept hKn id
  replace hK := hK.trans hKn
  clear hKn
  replace c_hS := hS.cell
  replace f_hS := hS.frozen
  go_wp2_with fail
  refine (c2 _).mono ?_
  rintro e_ wc4 ⟨rfl, hKn⟩
  replace hS := hS.kept hKn id
  replace hK := hK.trans hKn
  clear hKn
  replace c_hS := hS.cell
  replace f_hS := hS.frozen
  go_wp2_with fail
  refine (c3 _ hK).mono ?_
  rintro e_ wc5 ⟨rfl, rfl⟩
  go_wp2
  go_ret
  exact ⟨rfl, hK⟩

set_option maxRecDepth 100000 in
set_option maxHeartbeats 1000000 in
theorem omake_arg (A : Option Addr) (a : Int) (s : Shp) (hs : s.ok) (n : Int) (h0 : n < 0 ∨ (0 ≤ n ∧ 1099511627776 < n)) (w : World) :
    Calls Try.prog 33 #[.pointer A, .int .i64 a, .agg #[.int .i64 (s.p : Nat), .int .i64 (s.d : Nat), .bool s.wk, .bool s.fin], .int .i64 n] w fun e w' => e = .returned (.int .i64 1) ∧ Kept NoBlk w w' := by
  have c1 := fun W => head_yes s false hs W
  have c2 := fun W => hsize_yes s.p s.d s.wk s.fin hs W
  have hz : (3 : Int) + s.p + s.d = ((s.size : Nat) : Int) := by unfold Shp.size; omega
  rw [hz] at c2
  generalize headN s false = x at *
  generalize s.size = q at *
  obtain ⟨p, d, wk, fn⟩ := s
  dsimp only at *
  clear hs hz
  rcases h0 with h0 | ⟨h0, h1⟩
  all_goals
    go_enter Try.func33, Try.ntmps33
    have hK := Kept.refl NoBlk w
    have hS := Bk.new (w) 25 (#[.int .i64 p, .int .i64 d, .bool wk, .bool fn] : Array Value)
    replace hK := hK.alloc (.cells #[.int .i64 p, .int .i64 d, .bool wk, .bool fn] 25)
    have c_hS := hS.cell
    have f_hS := hS.frozen
    go_wp2_with fail
    refine (c1 _).mono ?_
    rintro e_ wc6 ⟨rfl, hKn⟩
    replace hS := hS.kept hKn id
    replace hK := hK.trans hKn
    clear hKn
    replace c_hS := hS.cell
    replace f_hS := hS.frozen
    go_wp2_with fail
    refine (c2 _).mono ?_
    rintro e_ wc7 ⟨rfl, hKn⟩
    replace hS := hS.kept hKn id
    replace hK := hK.trans hKn
    clear hKn
    replace c_hS := hS.cell
    replace f_hS := hS.frozen
    go_wp2
    go_ret
    exact ⟨rfl, hK⟩

end Go.Proofs.Ytccgnnnildedoaa
