/-
  Package object over an arena where an object stands: Shape.
  Conditions: the arena has at most 65536 words.
-/
import Derived.Test.YtccgnnnildedoaaObjP
import Derived.Test.YtccgnnnildedoaaHeader4
import Derived.Test.YtccgnnnildedoaaArena2
set_option linter.unusedVariables false
namespace Go.Proofs.Ytccgnnnildedoaa
open Go.RowKit

theorem load_v {b g : Nat} {ws : List Int} {w : World} (hA : ArenaAt w b g ws) (hn : ws.length ≤ 65536) (a : Nat) (x : Int) (hx : wd ws a = x) (h1 : a < ws.length) :
    Calls Try.prog 34 #[.pointer (some ⟨b, 0, none⟩), .int .i64 a] w fun e w' =>
      e = .returned (.tuple #[.int .u64 x, .int .i64 0]) ∧ w = w' := by
  have h := load_yes hA hn (a : Int) (by omega) (by omega)
  rw [Int.toNat_natCast, hx] at h
  exact h

set_option maxRecDepth 100000 in
set_option maxHeartbeats 1000000 in
theorem oshape_yes {b g : Nat} {ws : List Int} {w : World} (hA : ArenaAt w b g ws) (hn : ws.length ≤ 65536) {a : Nat} {o : Obj} (ho : ObjAt ws a o) :
    Calls Try.prog 37 #[.pointer (some ⟨b, 0, none⟩), .int .i64 a] w fun e w' =>
      e = .returned (.tuple #[.agg #[.int .i64 (o.shp.p : Nat), .int .i64 (o.shp.d : Nat), .bool o.shp.wk, .bool o.shp.fin], .bool o.freed, .int .i64 0]) ∧ Kept NoBlk w w' := by
  have hf := ho.fit
  have c1 : ∀ W, Kept NoBlk w W → _ := fun W k => load_v (hA.kept k id id) hn a _ ho.head (by have := o.size3; omega)
  have c2 := fun W => shape_yes (headN o.shp o.freed) (isHead_head ho.ok.shp _) W
  rw [(shpOf_head ho.ok.shp _).1, (shpOf_head ho.ok.shp _).2] at c2
  have c3 := fun W => hsize_yes o.shp.p o.shp.d o.shp.wk o.shp.fin ho.ok.shp W
  have c4 : ∀ W, Kept NoBlk w W → _ := fun W k => len_any (hA.kept k id id)
  obtain ⟨hp8, hd8, _⟩ := Shp.ok_bd ho.ok.shp
  unfold Obj.size Shp.size at hf
  generalize headN o.shp o.freed = x at *
  obtain ⟨⟨p, d, wk, fn⟩, fr, _, _, _, _⟩ := o
  dsimp only at *
  clear ho hA
  generalize ws.length = n at *
  have hs : ¬ (n : Int) - a < 3 + p + d := by omega
  go_enter Try.func37, Try.ntmps37
  have hK := Kept.refl NoBlk w
  have hS := Bk.new (w) 25 (#[.int .i64 0, .int .i64 0, .bool false, .bool false] : Array Value)
  replace hK := hK.alloc (.cells #[.int .i64 0, .int .i64 0, .bool false, .bool false] 25)
  have c_hS := hS.cell
  have f_hS := hS.frozen
  go_wp2_with fail
  refine (c1 _ hK).mono ?_
  rintro e_ wc1 ⟨rfl, rfl⟩
  go_wp2_with fail
  refine (c2 _).mono ?_
  rintro e_ v2 ⟨rfl, hKn⟩
  replace hS := hS.kept hKn id
  replace hK := hK.trans hKn
  clear hKn
  replace c_hS := hS.cell
  replace f_hS := hS.frozen
  go_wp2_with fail
  replace hS := hS.set_ 0 (.int .i64 p)
  replace hK := hK.setCell (p := (⟨(w).heap.size, 0, none⟩ : Addr)) (fun h => absurd h (by dsimp only; omega)) (.int .i64 p)
  replace hS := hS.set_ 1 (.int .i64 d)
  replace hK := hK.setCell (p := (⟨(w).heap.size, 1, none⟩ : Addr)) (fun h => absurd h (by dsimp only; omega)) (.int .i64 d)
  replace hS := hS.set_ 2 (.bool wk)
  replace hK := hK.setCell (p := (⟨(w).heap.size, 2, none⟩ : Addr)) (fun h => absurd h (by dsimp only; omega)) (.bool wk)
  replace hS := hS.set_ 3 (.bool fn)
  replace hK := hK.setCell (p := (⟨(w).heap.size, 3, none⟩ : Addr)) (fun h => absurd h (by dsimp only; omega)) (.bool fn)
  replace hS : Bk (((((v2).setCell (⟨(w).heap.size, 0, none⟩ : Addr) (.int .i64 p)).setCell (⟨(w).heap.size, 1, none⟩ : Addr) (.int .i64 d)).setCell (⟨(w).heap.size, 2, none⟩ : Addr) (.bool wk)).setCell (⟨(w).heap.size, 3, none⟩ : Addr) (.bool fn)) ((w).heap.size) 25 (#[.int .i64 p, .int .i64 d, .bool wk, .bool fn] : Array Value) := by simpa using hS
  generalize (((((v2).setCell (⟨(w).heap.size, 0, none⟩ : Addr) (.int .i64 p)).setCell (⟨(w).heap.size, 1, none⟩ : Addr) (.int .i64 d)).setCell (⟨(w).heap.size, 2, none⟩ : Addr) (.bool wk)).setCell (⟨(w).heap.size, 3, none⟩ : Addr) (.bool fn)) = v3 at *
  replace c_hS := hS.cell
  replace f_hS := hS.frozen
  refine (c3 _).mono ?_
  rintro e w4 ⟨rfl, hKn⟩
  replace hS := hS.kept hKn id
  replace hK := hK.trans hKn
  clear hKn
  replace c_hS := hS.cell
  replace f_hS := hS.frozen
  go_wp2_with fail
  refine (c4 _ hK).mono ?_
  rintro e_ wc3 ⟨rfl, rfl⟩
  go_wp2
  replace hS := hS.set_ 0 (.int .i64 p)
  replace hK := hK.setCell (p := (⟨(w).heap.size, 0, none⟩ : Addr)) (fun h => absurd h (by dsimp only; omega)) (.int .i64 p)
  replace hS := hS.set_ 1 (.int .i64 d)
  replace hK := hK.setCell (p := (⟨(w).heap.size, 1, none⟩ : Addr)) (fun h => absurd h (by dsimp only; omega)) (.int .i64 d)
  replace hS := hS.set_ 2 (.bool wk)
  replace hK := hK.setCell (p := (⟨(w).heap.size, 2, none⟩ : Addr)) (fun h => absurd h (by dsimp only; omega)) (.bool wk)
  replace hS := hS.set_ 3 (.bool fn)
  replace hK := hK.setCell (p := (⟨(w).heap.size, 3, none⟩ : Addr)) (fun h => absurd h (by dsimp only; omega)) (.bool fn)
  replace hS : Bk (((((w4).setCell (⟨(w).heap.size, 0, none⟩ : Addr) (.int .i64 p)).setCell (⟨(w).heap.size, 1, none⟩ : Addr) (.int .i64 d)).setCell (⟨(w).heap.size, 2, none⟩ : Addr) (.bool wk)).setCell (⟨(w).heap.size, 3, none⟩ : Addr) (.bool fn)) ((w).heap.size) 25 (#[.int .i64 p, .int .i64 d, .bool wk, .bool fn] : Array Value) := by simpa using hS
  generalize (((((w4).setCell (⟨(w).heap.size, 0, none⟩ : Addr) (.int .i64 p)).setCell (⟨(w).heap.size, 1, none⟩ : Addr) (.int .i64 d)).setCell (⟨(w).heap.size, 2, none⟩ : Addr) (.bool wk)).setCell (⟨(w).heap.size, 3, none⟩ : Addr) (.bool fn)) = v5 at *
  replace c_hS := hS.cell
  replace f_hS := hS.frozen
  refine bodyPost_ret (v := .tuple #[.agg #[.int .i64 p, .int .i64 d, .bool wk, .bool fn], .bool fr, .int .i64 0]) (by simp [results, Try.results37, go_sem, c_hS]) rfl ⟨rfl, hK⟩

set_option maxRecDepth 100000 in
set_option maxHeartbeats 1000000 in
theorem oshape_bad {b g : Nat} {ws : List Int} {w : World} (hA : ArenaAt w b g ws) (hn : ws.length ≤ 65536) {a x : Nat} (ha : a < ws.length) (hx : wd ws a = x) (hx1 : x < 18446744073709551616) (hh : isHead x = false) :
    Calls Try.prog 37 #[.pointer (some ⟨b, 0, none⟩), .int .i64 a] w fun e w' =>
      e = .returned (.tuple #[.agg #[.int .i64 0, .int .i64 0, .bool false, .bool false], .bool false, .int .i64 70]) ∧ Kept NoBlk w w' := by
  have c1 : ∀ W, Kept NoBlk w W → _ := fun W k => load_v (hA.kept k id id) hn a _ hx ha
  have c2 := fun W => shape_no x hx1 hh W
  have c3 := fun W => hsize_yes 0 0 false false (by rfl) W
  clear hA hx hh
  generalize ws.length = n at *
  go_enter Try.func37, Try.ntmps37
  have hK := Kept.refl NoBlk w
  have hS := Bk.new (w) 25 (#[.int .i64 0, .int .i64 0, .bool false, .bool false] : Array Value)
  replace hK := hK.alloc (.cells #[.int .i64 0, .int .i64 0, .bool false, .bool false] 25)
  have c_hS := hS.cell
  have f_hS := hS.frozen
  go_wp2_with fail
  refine (c1 _ hK).mono ?_
  rintro e_ wc4 ⟨rfl, rfl⟩
  go_wp2_with fail
  refine (c2 _).mono ?_
  rintro e_ v2 ⟨rfl, hKn⟩
  replace hS := hS.kept hKn id
  replace hK := hK.trans hKn
  clear hKn
  replace c_hS := hS.cell
  replace f_hS := hS.frozen
  go_wp2_with fail
  replace hS := hS.set_ 0 (.int .i64 0)
  replace hK := hK.setCell (p := (⟨(w).heap.size, 0, none⟩ : Addr)) (fun h => absurd h (by dsimp only; omega)) (.int .i64 0)
  replace hS := hS.set_ 1 (.int .i64 0)
  replace hK := hK.setCell (p := (⟨(w).heap.size, 1, none⟩ : Addr)) (fun h => absurd h (by dsimp only; omega)) (.int .i64 0)
  replace hS := hS.set_ 2 (.bool false)
  replace hK := hK.setCell (p := (⟨(w).heap.size, 2, none⟩ : Addr)) (fun h => absurd h (by dsimp only; omega)) (.bool false)
  replace hS := hS.set_ 3 (.bool false)
  replace hK := hK.setCell (p := (⟨(w).heap.size, 3, none⟩ : Addr)) (fun h => absurd h (by dsimp only; omega)) (.bool false)
  replace hS : Bk (((((v2).setCell (⟨(w).heap.size, 0, none⟩ : Addr) (.int .i64 0)).setCell (⟨(w).heap.size, 1, none⟩ : Addr) (.int .i64 0)).setCell (⟨(w).heap.size, 2, none⟩ : Addr) (.bool false)).setCell (⟨(w).heap.size, 3, none⟩ : Addr) (.bool false)) ((w).heap.size) 25 (#[.int .i64 0, .int .i64 0, .bool false, .bool false] : Array Value) := by simpa using hS
  generalize (((((v2).setCell (⟨(w).heap.size, 0, none⟩ : Addr) (.int .i64 0)).setCell (⟨(w).heap.size, 1, none⟩ : Addr) (.int .i64 0)).setCell (⟨(w).heap.size, 2, none⟩ : Addr) (.bool false)).setCell (⟨(w).heap.size, 3, none⟩ : Addr) (.bool false)) = v3 at *
  replace c_hS := hS.cell
  replace f_hS := hS.frozen
  refine (c3 _).mono ?_
  rintro e w4 ⟨rfl, hKn⟩
  replace hS := hS.kept hKn id
  replace hK := hK.trans hKn
  clear hKn
  replace c_hS := hS.cell
  replace f_hS := hS.frozen
  go_wp2
  replace hS := hS.set_ 0 (.int .i64 0)
  replace hK := hK.setCell (p := (⟨(w).heap.size, 0, none⟩ : Addr)) (fun h => absurd h (by dsimp only; omega)) (.int .i64 0)
  replace hS := hS.set_ 1 (.int .i64 0)
  replace hK := hK.setCell (p := (⟨(w).heap.size, 1, none⟩ : Addr)) (fun h => absurd h (by dsimp only; omega)) (.int .i64 0)
  replace hS := hS.set_ 2 (.bool false)
  replace hK := hK.setCell (p := (⟨(w).heap.size, 2, none⟩ : Addr)) (fun h => absurd h (by dsimp only; omega)) (.bool false)
  replace hS := hS.set_ 3 (.bool false)
  replace hK := hK.setCell (p := (⟨(w).heap.size, 3, none⟩ : Addr)) (fun h => absurd h (by dsimp only; omega)) (.bool false)
  replace hS : Bk (((((w4).setCell (⟨(w).heap.size, 0, none⟩ : Addr) (.int .i64 0)).setCell (⟨(w).heap.size, 1, none⟩ : Addr) (.int .i64 0)).setCell (⟨(w).heap.size, 2, none⟩ : Addr) (.bool false)).setCell (⟨(w).heap.size, 3, none⟩ : Addr) (.bool false)) ((w).heap.size) 25 (#[.int .i64 0, .int .i64 0, .bool false, .bool false] : Array Value) := by simpa using hS
  generalize (((((w4).setCell (⟨(w).heap.size, 0, none⟩ : Addr) (.int .i64 0)).setCell (⟨(w).heap.size, 1, none⟩ : Addr) (.int .i64 0)).setCell (⟨(w).heap.size, 2, none⟩ : Addr) (.bool false)).setCell (⟨(w).heap.size, 3, none⟩ : Addr) (.bool false)) = v5 at *
  replace c_hS := hS.cell
  replace f_hS := hS.frozen
  refine bodyPost_ret (v := .tuple #[.agg #[.int .i64 0, .int .i64 0, .bool false, .bool false], .bool false, .int .i64 70]) (by simp [results, Try.results37, go_sem, c_hS]) rfl ⟨rfl, hK⟩

/-! A place that a closure tells, and what is done there. -/
set_option maxRecDepth 100000 in
set_option maxHeartbeats 1000000 in
theorem with_yes {b g : Nat} {ws : List Int} {w : World} (hA : ArenaAt w b g ws) (hn : ws.length ≤ 65536) {a : Nat} {o : Obj} (ho : ObjAt ws a o) (kp kd : Nat) (B1 B2 B3 : Option Addr) (k : Nat) (hk : k < o.size) (Q : Ending → World → Prop)
    (ep : ∀ args w, (callFunc kp args).run Try.prog w = .ok (.enter kp args) w) (ed : ∀ args w, (callFunc kd args).run Try.prog w = .ok (.enter kd args) w)
    (hp : ∀ W, Kept NoBlk w W → Calls Try.prog kp #[.agg #[.int .i64 (o.shp.p : Nat), .int .i64 (o.shp.d : Nat), .bool o.shp.wk, .bool o.shp.fin], .pointer B1] W fun e w' => e = .returned (.int .i64 k) ∧ Kept NoBlk W w')
    (hd : ∀ W, Kept NoBlk w W → Calls Try.prog kd #[.int .i64 ((a + k : Nat) : Int), .pointer B2, .pointer B3] W fun e w' => ∃ x, e = .returned (.int .i64 x) ∧ Q (.returned (.int .i64 x)) w') :
    Calls Try.prog 95 #[.pointer (some ⟨b, 0, none⟩), .int .i64 a, .func (.func kp) #[] #[.pointer B1], .func (.func kd) #[] #[.pointer B2, .pointer B3]] w Q := by
  have hf := ho.fit
  have c1 : ∀ W, Kept NoBlk w W → _ := fun W k => oshape_yes (hA.kept k id id) hn ho
  obtain ⟨⟨p, d, wk, fn⟩, fr, _, _, _, _⟩ := o
  dsimp only at *
  rw [show ((a + k : Nat) : Int) = (a : Int) + k by omega] at hd
  have hk2 : a + k < 65536 := by omega
  clear ho hA hf hk hn
  go_enter Try.func95, Try.ntmps95
  have hK := Kept.refl NoBlk w
  go_wp2_with fail
  refine (c1 _ hK).mono ?_
  rintro e_ v2 ⟨rfl, hKn⟩
  replace hK := hK.trans hKn
  clear hKn
  go_wp2_with fail
  refine (hp _ (hK.alloc _)).mono ?_
  rintro e w3 ⟨rfl, hKn⟩
  replace hK := (hK.alloc _).trans hKn
  clear hKn
  go_wp2_with fail
  refine (hd _ hK).mono ?_
  rintro e w4 ⟨x, rfl, hQ⟩
  go_wp2
  exact hQ

set_option maxRecDepth 100000 in
set_option maxHeartbeats 1000000 in
theorem with_no {b g : Nat} {ws : List Int} {w : World} (hA : ArenaAt w b g ws) (hn : ws.length ≤ 65536) {a : Nat} {o : Obj} (ho : ObjAt ws a o) (kp : Nat) (D : Value) (B1 : Option Addr)
    (ep : ∀ args w, (callFunc kp args).run Try.prog w = .ok (.enter kp args) w)
    (hp : ∀ W, Kept NoBlk w W → Calls Try.prog kp #[.agg #[.int .i64 (o.shp.p : Nat), .int .i64 (o.shp.d : Nat), .bool o.shp.wk, .bool o.shp.fin], .pointer B1] W fun e w' => e = .returned (.int .i64 (-1)) ∧ Kept NoBlk W w') :
    Calls Try.prog 95 #[.pointer (some ⟨b, 0, none⟩), .int .i64 a, .func (.func kp) #[] #[.pointer B1], D] w fun e w' => e = .returned (.int .i64 71) ∧ Kept NoBlk w w' := by
  have hf := ho.fit
  have c1 : ∀ W, Kept NoBlk w W → _ := fun W k => oshape_yes (hA.kept k id id) hn ho
  obtain ⟨⟨p, d, wk, fn⟩, fr, _, _, _, _⟩ := o
  dsimp only at *
  clear ho hA hf hn
  go_enter Try.func95, Try.ntmps95
  have hK := Kept.refl NoBlk w
  go_wp2_with fail
  refine (c1 _ hK).mono ?_
  rintro e_ v2 ⟨rfl, hKn⟩
  replace hK := hK.trans hKn
  clear hKn
  go_wp2_with fail
  refine (hp _ (hK.alloc _)).mono ?_
  rintro e w3 ⟨rfl, hKn⟩
  replace hK := (hK.alloc _).trans hKn
  clear hKn
  go_wp2
  go_ret
  exact ⟨rfl, hK⟩

/-! The closures. -/
set_option maxRecDepth 100000 in
set_option maxHeartbeats 1000000 in
theorem fixed1 (P D : Nat) (wk fn : Bool) (B : Nat) (k : Int) (w : World) (hB : Bk w B 3 #[.int .i64 k]) :
    Calls Try.prog 97 #[.agg #[.int .i64 P, .int .i64 D, .bool wk, .bool fn], .pointer (some ⟨B, 0, none⟩)] w fun e w' => e = .returned (.int .i64 k) ∧ Kept NoBlk w w' := by
  go_enter Try.func97, Try.ntmps97
  have hK := Kept.refl NoBlk w
  have c_hB := hB.cell
  have f_hB := hB.frozen
  replace hB := hB.alloc (.cells #[.int .i64 P, .int .i64 D, .bool wk, .bool fn] 25)
  have hS := Bk.new (w) 25 (#[.int .i64 P, .int .i64 D, .bool wk, .bool fn] : Array Value)
  replace hK := hK.alloc (.cells #[.int .i64 P, .int .i64 D, .bool wk, .bool fn] 25)
  have c_hS := hS.cell
  have f_hS := hS.frozen
  replace c_hB := hB.cell
  replace f_hB := hB.frozen
  go_wp2
  go_ret
  exact ⟨rfl, hK⟩

set_option maxRecDepth 100000 in
set_option maxHeartbeats 1000000 in
theorem ptr1_yes (P D : Nat) (wk fn : Bool) (B : Nat) (i : Nat) (hi : i < P) (hP : P ≤ 8) (w : World) (hB : Bk w B 3 #[.int .i64 i]) :
    Calls Try.prog 98 #[.agg #[.int .i64 P, .int .i64 D, .bool wk, .bool fn], .pointer (some ⟨B, 0, none⟩)] w fun e w' => e = .returned (.int .i64 ((3 + i : Nat) : Int)) ∧ Kept NoBlk w w' := by
  rw [show ((3 + i : Nat) : Int) = 3 + (i : Int) by omega]
  go_enter Try.func98, Try.ntmps98
  have hK := Kept.refl NoBlk w
  have c_hB := hB.cell
  have f_hB := hB.frozen
  replace hB := hB.alloc (.cells #[.int .i64 P, .int .i64 D, .bool wk, .bool fn] 25)
  have hS := Bk.new (w) 25 (#[.int .i64 P, .int .i64 D, .bool wk, .bool fn] : Array Value)
  replace hK := hK.alloc (.cells #[.int .i64 P, .int .i64 D, .bool wk, .bool fn] 25)
  have c_hS := hS.cell
  have f_hS := hS.frozen
  replace c_hB := hB.cell
  replace f_hB := hB.frozen
  go_wp2
  go_ret
  exact ⟨rfl, hK⟩

set_option maxRecDepth 100000 in
set_option maxHeartbeats 1000000 in
theorem ptr1_no (P D : Nat) (wk fn : Bool) (B : Nat) (i : Int) (hi : i < 0 ∨ (0 ≤ i ∧ (P : Int) ≤ i)) (hP : P ≤ 8) (w : World) (hB : Bk w B 3 #[.int .i64 i]) :
    Calls Try.prog 98 #[.agg #[.int .i64 P, .int .i64 D, .bool wk, .bool fn], .pointer (some ⟨B, 0, none⟩)] w fun e w' => e = .returned (.int .i64 (-1)) ∧ Kept NoBlk w w' := by
  rcases hi with hi | ⟨hi, hj⟩
  all_goals
    go_enter Try.func98, Try.ntmps98
    have hK := Kept.refl NoBlk w
    have c_hB := hB.cell
    have f_hB := hB.frozen
    replace hB := hB.alloc (.cells #[.int .i64 P, .int .i64 D, .bool wk, .bool fn] 25)
    have hS := Bk.new (w) 25 (#[.int .i64 P, .int .i64 D, .bool wk, .bool fn] : Array Value)
    replace hK := hK.alloc (.cells #[.int .i64 P, .int .i64 D, .bool wk, .bool fn] 25)
    have c_hS := hS.cell
    have f_hS := hS.frozen
    replace c_hB := hB.cell
    replace f_hB := hB.frozen
    go_wp2
    go_ret
    exact ⟨rfl, hK⟩

set_option maxRecDepth 100000 in
set_option maxHeartbeats 1000000 in
theorem num1_yes (P D : Nat) (wk fn : Bool) (B : Nat) (i : Nat) (hi : i < D) (hP : P ≤ 8) (hD : D ≤ 8) (w : World) (hB : Bk w B 3 #[.int .i64 i]) :
    Calls Try.prog 100 #[.agg #[.int .i64 P, .int .i64 D, .bool wk, .bool fn], .pointer (some ⟨B, 0, none⟩)] w fun e w' => e = .returned (.int .i64 ((3 + P + i : Nat) : Int)) ∧ Kept NoBlk w w' := by
  rw [show ((3 + P + i : Nat) : Int) = 3 + (P : Int) + (i : Int) by omega]
  go_enter Try.func100, Try.ntmps100
  have hK := Kept.refl NoBlk w
  have c_hB := hB.cell
  have f_hB := hB.frozen
  replace hB := hB.alloc (.cells #[.int .i64 P, .int .i64 D, .bool wk, .bool fn] 25)
  have hS := Bk.new (w) 25 (#[.int .i64 P, .int .i64 D, .bool wk, .bool fn] : Array Value)
  replace hK := hK.alloc (.cells #[.int .i64 P, .int .i64 D, .bool wk, .bool fn] 25)
  have c_hS := hS.cell
  have f_hS := hS.frozen
  replace c_hB := hB.cell
  replace f_hB := hB.frozen
  go_wp2
  go_ret
  exact ⟨rfl, hK⟩

set_option maxRecDepth 100000 in
set_option maxHeartbeats 1000000 in
theorem num1_no (P D : Nat) (wk fn : Bool) (B : Nat) (i : Int) (hi : i < 0 ∨ (0 ≤ i ∧ (D : Int) ≤ i)) (hD : D ≤ 8) (w : World) (hB : Bk w B 3 #[.int .i64 i]) :
    Calls Try.prog 100 #[.agg #[.int .i64 P, .int .i64 D, .bool wk, .bool fn], .pointer (some ⟨B, 0, none⟩)] w fun e w' => e = .returned (.int .i64 (-1)) ∧ Kept NoBlk w w' := by
  rcases hi with hi | ⟨hi, hj⟩
  all_goals
    go_enter Try.func100, Try.ntmps100
    have hK := Kept.refl NoBlk w
    have c_hB := hB.cell
    have f_hB := hB.frozen
    replace hB := hB.alloc (.cells #[.int .i64 P, .int .i64 D, .bool wk, .bool fn] 25)
    have hS := Bk.new (w) 25 (#[.int .i64 P, .int .i64 D, .bool wk, .bool fn] : Array Value)
    replace hK := hK.alloc (.cells #[.int .i64 P, .int .i64 D, .bool wk, .bool fn] 25)
    have c_hS := hS.cell
    have f_hS := hS.frozen
    replace c_hB := hB.cell
    replace f_hB := hB.frozen
    go_wp2
    go_ret
    exact ⟨rfl, hK⟩

set_option maxRecDepth 100000 in
set_option maxHeartbeats 1000000 in
theorem load1 {b g : Nat} {ws : List Int} {w : World} (hA : ArenaAt w b g ws) (hn : ws.length ≤ 65536) (k : Nat) (hk : k < ws.length) (x y : Int) (hx : wd ws k = x) (B2 B3 : Nat) (h2 : Bk w B2 46 #[.pointer (some ⟨b, 0, none⟩)]) (h3 : Bk w B3 27 #[.int .u64 y]) (hne : B2 ≠ B3) :
    Calls Try.prog 96 #[.int .i64 k, .pointer (some ⟨B2, 0, none⟩), .pointer (some ⟨B3, 0, none⟩)] w fun e w' => e = .returned (.int .i64 0) ∧ w' = w.setCell ⟨B3, 0, none⟩ (.int .u64 x) := by
  have c1 := fun W (h : w = W) => (by subst h; exact load_v hA hn k x hx hk : Calls Try.prog 34 #[.pointer (some ⟨b, 0, none⟩), .int .i64 k] W fun e w' => e = .returned (.tuple #[.int .u64 x, .int .i64 0]) ∧ W = w')
  clear hA hn hk hx
  go_enter Try.func96, Try.ntmps96
  have hK := Kept.refl NoBlk w
  have c_h2 := h2.cell
  have f_h2 := h2.frozen
  have c_h3 := h3.cell
  have f_h3 := h3.frozen
  go_wp2_with fail
  refine (c1 _ rfl).mono ?_
  rintro e w1 ⟨rfl, rfl⟩
  go_wp2
  go_ret
  exact ⟨rfl, rfl⟩

set_option maxRecDepth 100000 in
set_option maxHeartbeats 1000000 in
theorem fixed_any (k : Int) (w : World) :
    Calls Try.prog 70 #[.int .i64 k] w fun e w' => e = .returned (.func (.func 97) #[] #[.pointer (some ⟨w.heap.size, 0, none⟩)]) ∧ w' = w.alloc (.cells #[.int .i64 k] 3) := by
  go_enter Try.func70, Try.ntmps70
  go_wp2
  go_ret
  exact ⟨rfl, rfl⟩
set_option maxRecDepth 100000 in
set_option maxHeartbeats 1000000 in
theorem ptr_any (k : Int) (w : World) :
    Calls Try.prog 72 #[.int .i64 k] w fun e w' => e = .returned (.func (.func 98) #[] #[.pointer (some ⟨w.heap.size, 0, none⟩)]) ∧ w' = w.alloc (.cells #[.int .i64 k] 3) := by
  go_enter Try.func72, Try.ntmps72
  go_wp2
  go_ret
  exact ⟨rfl, rfl⟩
set_option maxRecDepth 100000 in
set_option maxHeartbeats 1000000 in
theorem num_any (k : Int) (w : World) :
    Calls Try.prog 74 #[.int .i64 k] w fun e w' => e = .returned (.func (.func 100) #[] #[.pointer (some ⟨w.heap.size, 0, none⟩)]) ∧ w' = w.alloc (.cells #[.int .i64 k] 3) := by
  go_enter Try.func74, Try.ntmps74
  go_wp2
  go_ret
  exact ⟨rfl, rfl⟩

set_option maxRecDepth 100000 in
set_option maxHeartbeats 1000000 in
theorem oload_yes {b g : Nat} {ws : List Int} {w : World} (hA : ArenaAt w b g ws) (hn : ws.length ≤ 65536) {a : Nat} {o : Obj} (ho : ObjAt ws a o) (kp B : Nat) (k : Nat) (x : Int) (hk : k < o.size) (hx : wd ws (a + k) = x)
    (ep : ∀ args w, (callFunc kp args).run Try.prog w = .ok (.enter kp args) w)
    (hp : ∀ W, Kept NoBlk w W → Calls Try.prog kp #[.agg #[.int .i64 (o.shp.p : Nat), .int .i64 (o.shp.d : Nat), .bool o.shp.wk, .bool o.shp.fin], .pointer (some ⟨B, 0, none⟩)] W fun e w' => e = .returned (.int .i64 k) ∧ Kept NoBlk W w') :
    Calls Try.prog 69 #[.pointer (some ⟨b, 0, none⟩), .int .i64 a, .func (.func kp) #[] #[.pointer (some ⟨B, 0, none⟩)]] w fun e w' => e = .returned (.tuple #[.int .u64 x, .int .i64 0]) ∧ Kept NoBlk w w' := by
  have hf := ho.fit
  go_enter Try.func69, Try.ntmps69
  have hK := Kept.refl NoBlk w
  have h2 := Bk.new (w) 46 (#[.pointer (some ⟨b, 0, none⟩)] : Array Value)
  replace hK := hK.alloc (.cells #[.pointer (some ⟨b, 0, none⟩)] 46)
  have c_h2 := h2.cell
  have f_h2 := h2.frozen
  replace h2 := h2.alloc (.cells #[.int .u64 0] 27)
  have h3 := Bk.new (w.alloc (.cells #[.pointer (some ⟨b, 0, none⟩)] 46)) 27 (#[.int .u64 0] : Array Value)
  replace hK := hK.alloc (.cells #[.int .u64 0] 27)
  have c_h3 := h3.cell
  have f_h3 := h3.frozen
  replace c_h2 := h2.cell
  replace f_h2 := h2.frozen
  have hs1 : ∀ (W : World) (o : Go.Obj), (W.alloc o).heap.size = W.heap.size + 1 := fun W o => by simp
  rw [hs1] at h3 c_h3 f_h3
  clear hs1
  go_wp2_with fail
  generalize (w.alloc (.cells #[.pointer (some ⟨b, 0, none⟩)] 46)).alloc (.cells #[.int .u64 0] 27) = w2 at *
  refine (with_yes (hA.kept hK id id) hn ho kp 96 (some ⟨B, 0, none⟩) (some ⟨w.heap.size, 0, none⟩) (some ⟨w.heap.size + 1, 0, none⟩) k hk (fun e w' => e = .returned (.int .i64 0) ∧ Bk w' (w.heap.size + 1) 27 #[.int .u64 x] ∧ Kept NoBlk w w') ep (fun _ _ => by kernel_rfl) (fun W hW => hp W (hK.trans hW))
    (fun W hW => (load1 (hA.kept (hK.trans hW) id id) hn (a + k) (by omega) x 0 hx w.heap.size (w.heap.size + 1) (h2.kept hW id) (h3.kept hW id) (by omega)).mono fun e w' ⟨he, hw⟩ => ?_)).mono ?_
  · subst he hw
    exact ⟨0, rfl, rfl, (h3.kept hW id).set_ 0 (.int .u64 x), (hK.trans hW).setCell (p := ⟨w.heap.size + 1, 0, none⟩) (fun h => absurd h (by dsimp only; omega)) _⟩
  rintro e w3 ⟨rfl, hx3, hK3⟩
  clear h2 h3 c_h2 c_h3 f_h2 f_h3 hK hp hA ho
  have c3 := hx3.cell
  go_wp2
  refine bodyPost_ret (v := .tuple #[.int .u64 x, .int .i64 0]) (by simp [results, Try.results69, go_sem, c3]) rfl ⟨rfl, hK3⟩

end Go.Proofs.Ytccgnnnildedoaa
