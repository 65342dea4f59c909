/-
  Package mover: At, size, Copy, Strong, over an arena where objects stand, or have gone.
  Conditions: the arena has at most 65536 words.
-/
import Derived.Test.YtccgnnnildedoaaObject6
import Derived.Test.YtccgnnnildedoaaMovP
import Derived.Test.YtccgnnnildedoaaSpace
set_option linter.unusedVariables false
namespace Go.Proofs.Ytccgnnnildedoaa
open Go.RowKit

section
variable {b g : Nat} {ws : List Int} {w : World}

theorem head_bd {p : Nat} {o : Obj} (h : ObjAt ws p o) : ∃ x : Nat, wd ws p = (x : Int) ∧ x < 4096 ∧ x % 2 = 1 := ⟨headN o.shp o.freed, h.head, headN_lt h.ok.shp _, headN_odd _ _⟩

set_option maxRecDepth 100000 in
set_option maxHeartbeats 1000000 in
theorem mat_gone (hA : ArenaAt w b g ws) (hn : ws.length ≤ 65536) {p k : Nat} (h : GoneAt ws p k) :
    Calls Try.prog 50 #[.pointer (some ⟨b, 0, none⟩), .int .i64 p] w fun e w' => e = .returned (.tuple #[.int .i64 k, .bool true]) ∧ w = w' := by
  have c1 := fun W (hw : w = W) => (by subst hw; exact load_v hA hn p _ h.w h.lt : Calls Try.prog 34 #[.pointer (some ⟨b, 0, none⟩), .int .i64 p] W fun e w' => e = .returned (.tuple #[.int .u64 (4 * (k : Int) + 2), .int .i64 0]) ∧ W = w')
  have h1 := h.k1
  have h2 := h.k2
  have hg := isGone_gone (k := (k : Int)) (by omega) (by omega)
  have c2 := fun W => where_yes (goneI k) (by unfold goneI; omega) (by unfold goneI; omega) hg.1 W
  rw [hg.2] at c2
  unfold goneI at c2
  clear hA h hg
  go_enter Try.func50, Try.ntmps50
  go_wp2_with fail
  refine (c1 _ rfl).mono ?_
  rintro e w1 ⟨rfl, rfl⟩
  go_wp2_with fail
  refine (c2 _).mono ?_
  rintro e w1 ⟨rfl, rfl⟩
  go_wp2
  go_ret2
  exact ⟨rfl, rfl⟩

set_option maxRecDepth 100000 in
set_option maxHeartbeats 1000000 in
theorem mat_word (hA : ArenaAt w b g ws) (hn : ws.length ≤ 65536) {p : Nat} {x : Nat} (hp : p < ws.length) (hx : wd ws p = (x : Int)) (h1 : x < 18446744073709551616) (h : isGone x = false) :
    Calls Try.prog 50 #[.pointer (some ⟨b, 0, none⟩), .int .i64 p] w fun e w' => e = .returned (.tuple #[.int .i64 0, .bool false]) ∧ w = w' := by
  have c1 := fun W (hw : w = W) => (by subst hw; exact load_v hA hn p _ hx hp : Calls Try.prog 34 #[.pointer (some ⟨b, 0, none⟩), .int .i64 p] W fun e w' => e = .returned (.tuple #[.int .u64 x, .int .i64 0]) ∧ W = w')
  have c2 := fun W => where_no (x : Int) (by omega) (by omega) h W
  clear hA h hx
  go_enter Try.func50, Try.ntmps50
  go_wp2_with fail
  refine (c1 _ rfl).mono ?_
  rintro e w1 ⟨rfl, rfl⟩
  go_wp2_with fail
  refine (c2 _).mono ?_
  rintro e w1 ⟨rfl, rfl⟩
  go_wp2
  go_ret2
  exact ⟨rfl, rfl⟩

theorem isGone_odd {x : Nat} (h : x % 2 = 1) : isGone x = false := by
  unfold isGone
  have : ¬ ((x : Int) % 4 = 2) := by omega
  simp [this]
theorem mat_obj (hA : ArenaAt w b g ws) (hn : ws.length ≤ 65536) {p : Nat} {o : Obj} (h : ObjAt ws p o) :
    Calls Try.prog 50 #[.pointer (some ⟨b, 0, none⟩), .int .i64 p] w fun e w' => e = .returned (.tuple #[.int .i64 0, .bool false]) ∧ w = w' := by
  obtain ⟨x, h1, h2, h3⟩ := head_bd h
  have := h.fit
  have := o.size3
  exact mat_word hA hn (by omega) h1 (by omega) (isGone_odd h3)
theorem mat_zero (hA : ArenaAt w b g ws) (hn : ws.length ≤ 65536) {p : Nat} (hp : p < ws.length) (h : wd ws p = 0) :
    Calls Try.prog 50 #[.pointer (some ⟨b, 0, none⟩), .int .i64 p] w fun e w' => e = .returned (.tuple #[.int .i64 0, .bool false]) ∧ w = w' :=
  mat_word hA hn (x := 0) hp h (by omega) (by decide)

set_option maxRecDepth 100000 in
set_option maxHeartbeats 1000000 in
theorem msize_yes (hA : ArenaAt w b g ws) (hn : ws.length ≤ 65536) {p : Nat} {o : Obj} (h : ObjAt ws p o) :
    Calls Try.prog 80 #[.pointer (some ⟨b, 0, none⟩), .int .i64 p] w fun e w' => e = .returned (.tuple #[.int .i64 (o.size : Nat), .int .i64 0]) ∧ Kept NoBlk w w' := by
  have c1 := oshape_yes hA hn h
  have hs := h.ok.shp
  have hz : ((o.size : Nat) : Int) = 3 + (o.shp.p : Int) + o.shp.d := by unfold Obj.size Shp.size; omega
  rw [hz]
  clear h hA hz
  obtain ⟨⟨P, D, wk, fn⟩, fr, _, _, _, _⟩ := o
  dsimp only at *
  have c2 := fun W => hsize_yes P D wk fn hs W
  clear hs
  go_enter Try.func80, Try.ntmps80
  have hK := Kept.refl NoBlk w
  go_wp2_with fail
  refine c1.mono ?_
  rintro e v1 ⟨rfl, hKn⟩
  replace hK := hK.trans hKn
  clear hKn c1
  have hS := Bk.new (v1) 25 (#[.int .i64 P, .int .i64 D, .bool wk, .bool fn] : Array Value)
  replace hK := hK.alloc (.cells #[.int .i64 P, .int .i64 D, .bool wk, .bool fn] 25)
  have c_hS := hS.cell
  have f_hS := hS.frozen
  go_wp2_with fail
  refine (c2 _).mono ?_
  rintro e_ wc1 ⟨rfl, hKn⟩
  replace hS := hS.kept hKn id
  replace hK := hK.trans hKn
  clear hKn
  replace c_hS := hS.cell
  replace f_hS := hS.frozen
  go_wp2
  go_ret2
  exact ⟨rfl, hK⟩

end

end Go.Proofs.Ytccgnnnildedoaa
