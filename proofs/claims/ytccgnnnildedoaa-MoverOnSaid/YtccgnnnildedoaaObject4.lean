/-
  Package object over an arena where an object stands: the exported functions that change words.
  Conditions: the arena has at most 65536 words.
-/
import Derived.Test.YtccgnnnildedoaaObject2
set_option linter.unusedVariables false
namespace Go.Proofs.Ytccgnnnildedoaa
open Go.RowKit

theorem NoBlk.one {w w' : World} (h : Kept NoBlk w w') (g : Nat) : Kept (OneBlk g) w w' := h.mono fun _ _ h => h.elim

set_option maxRecDepth 100000 in
set_option maxHeartbeats 1000000 in
theorem osetptr_yes {b g : Nat} {ws : List Int} {w : World} (hA : ArenaAt w b g ws) (hn : ws.length ≤ 65536) {a : Nat} {o : Obj} (ho : ObjAt ws a o) (i : Nat) (hi : i < o.shp.p) (x : Int) (h0 : 0 ≤ x) (h1 : x ≤ 131072) :
    Calls Try.prog 39 #[.pointer (some ⟨b, 0, none⟩), .int .i64 a, .int .i64 i, .int .i64 x] w fun e w' => e = .returned (.int .i64 0) ∧ ArenaAt w' b g (ws.set (a + (3 + i)) x) ∧ Kept (OneBlk g) w w' := by
  have hp8 := (Shp.ok_bd ho.ok.shp).1
  have c1 : ∀ W B, Kept NoBlk w W → Bk W B 3 #[.int .i64 i] → _ := fun W B k hB => ostore_yes (hA.kept k id id) hn ho 98 B (3 + i) x (by unfold Obj.size Shp.size; omega) (fun _ _ => by kernel_rfl) (fun V hV => ptr1_yes o.shp.p o.shp.d o.shp.wk o.shp.fin B i hi hp8 V (hB.kept hV id))
  clear ho hA
  go_enter Try.func39, Try.ntmps39
  have hK := Kept.refl NoBlk w
  go_wp2_with fail
  refine (ptr_any i _).mono ?_
  rintro e w1 ⟨rfl, rfl⟩
  have hB := Bk.new (w) 3 (#[.int .i64 i] : Array Value)
  replace hK := hK.alloc (.cells #[.int .i64 i] 3)
  have c_hB := hB.cell
  have f_hB := hB.frozen
  go_wp2_with fail
  refine (c1 _ _ hK hB).mono ?_
  rintro e w3 ⟨rfl, hA3, hK3⟩
  replace hK := (NoBlk.one hK g).trans hK3
  clear hB c_hB f_hB hK3
  go_wp2
  go_ret
  exact ⟨rfl, hA3, hK⟩

set_option maxRecDepth 100000 in
set_option maxHeartbeats 1000000 in
theorem osetptr_no {b g : Nat} {ws : List Int} {w : World} (hA : ArenaAt w b g ws) (hn : ws.length ≤ 65536) {a : Nat} {o : Obj} (ho : ObjAt ws a o) (i : Int) (hi : i < 0 ∨ (0 ≤ i ∧ (o.shp.p : Int) ≤ i)) (x : Int) (h0 : 0 ≤ x) (h1 : x ≤ 131072) :
    Calls Try.prog 39 #[.pointer (some ⟨b, 0, none⟩), .int .i64 a, .int .i64 i, .int .i64 x] w fun e w' => e = .returned (.int .i64 71) ∧ Kept NoBlk w w' := by
  have hp8 := (Shp.ok_bd ho.ok.shp).1
  have c1 : ∀ W B, Kept NoBlk w W → Bk W B 3 #[.int .i64 i] → _ := fun W B k hB => ostore_no (hA.kept k id id) hn ho 98 B x (fun _ _ => by kernel_rfl) (fun V hV => ptr1_no o.shp.p o.shp.d o.shp.wk o.shp.fin B i hi hp8 V (hB.kept hV id))
  clear ho hA hi
  go_enter Try.func39, Try.ntmps39
  have hK := Kept.refl NoBlk w
  go_wp2_with fail
  refine (ptr_any i _).mono ?_
  rintro e w1 ⟨rfl, rfl⟩
  have hB := Bk.new (w) 3 (#[.int .i64 i] : Array Value)
  replace hK := hK.alloc (.cells #[.int .i64 i] 3)
  have c_hB := hB.cell
  have f_hB := hB.frozen
  go_wp2_with fail
  refine (c1 _ _ hK hB).mono ?_
  rintro e_ wc1 ⟨rfl, hKn⟩
  replace hB := hB.kept hKn id
  replace hK := hK.trans hKn
  clear hKn
  replace c_hB := hB.cell
  replace f_hB := hB.frozen
  go_wp2
  go_ret
  exact ⟨rfl, hK⟩

set_option maxRecDepth 100000 in
set_option maxHeartbeats 1000000 in
theorem osetnum_yes {b g : Nat} {ws : List Int} {w : World} (hA : ArenaAt w b g ws) (hn : ws.length ≤ 65536) {a : Nat} {o : Obj} (ho : ObjAt ws a o) (i : Nat) (hi : i < o.shp.d) (x : Int) (h0 : -9223372036854775808 ≤ x) (h1 : x ≤ 9223372036854775807) :
    Calls Try.prog 40 #[.pointer (some ⟨b, 0, none⟩), .int .i64 a, .int .i64 i, .int .i64 x] w fun e w' => e = .returned (.int .i64 0) ∧ ArenaAt w' b g (ws.set (a + (3 + o.shp.p + i)) (zigI x)) ∧ Kept (OneBlk g) w w' := by
  obtain ⟨hp8, hd8, _⟩ := Shp.ok_bd ho.ok.shp
  have c1 : ∀ W B, Kept NoBlk w W → Bk W B 3 #[.int .i64 i] → _ := fun W B k hB => ostore_yes (hA.kept k id id) hn ho 100 B (3 + o.shp.p + i) (zigI x) (by unfold Obj.size Shp.size; omega) (fun _ _ => by kernel_rfl) (fun V hV => num1_yes o.shp.p o.shp.d o.shp.wk o.shp.fin B i hi hp8 hd8 V (hB.kept hV id))
  have c2 := fun W => zig_any x h0 h1 W
  generalize 3 + o.shp.p = q at *
  generalize zigI x = y at *
  clear ho hA
  go_enter Try.func40, Try.ntmps40
  have hK := Kept.refl NoBlk w
  go_wp2_with fail
  refine (num_any i _).mono ?_
  rintro e w1 ⟨rfl, rfl⟩
  have hB := Bk.new (w) 3 (#[.int .i64 i] : Array Value)
  replace hK := hK.alloc (.cells #[.int .i64 i] 3)
  have c_hB := hB.cell
  have f_hB := hB.frozen
  go_wp2_with fail
  refine (c2 _).mono ?_
  rintro e_ wc2 ⟨rfl, rfl⟩
  go_wp2_with fail
  refine (c1 _ _ hK hB).mono ?_
  rintro e w3 ⟨rfl, hA3, hK3⟩
  replace hK := (NoBlk.one hK g).trans hK3
  clear hB c_hB f_hB hK3
  go_wp2
  go_ret
  exact ⟨rfl, hA3, hK⟩

set_option maxRecDepth 100000 in
set_option maxHeartbeats 1000000 in
theorem osetnum_no {b g : Nat} {ws : List Int} {w : World} (hA : ArenaAt w b g ws) (hn : ws.length ≤ 65536) {a : Nat} {o : Obj} (ho : ObjAt ws a o) (i : Int) (hi : i < 0 ∨ (0 ≤ i ∧ (o.shp.d : Int) ≤ i)) (x : Int) (h0 : -9223372036854775808 ≤ x) (h1 : x ≤ 9223372036854775807) :
    Calls Try.prog 40 #[.pointer (some ⟨b, 0, none⟩), .int .i64 a, .int .i64 i, .int .i64 x] w fun e w' => e = .returned (.int .i64 71) ∧ Kept NoBlk w w' := by
  obtain ⟨hp8, hd8, _⟩ := Shp.ok_bd ho.ok.shp
  have c1 : ∀ W B, Kept NoBlk w W → Bk W B 3 #[.int .i64 i] → _ := fun W B k hB => ostore_no (hA.kept k id id) hn ho 100 B (zigI x) (fun _ _ => by kernel_rfl) (fun V hV => num1_no o.shp.p o.shp.d o.shp.wk o.shp.fin B i hi hd8 V (hB.kept hV id))
  have c2 := fun W => zig_any x h0 h1 W
  generalize zigI x = y at *
  clear ho hA hi
  go_enter Try.func40, Try.ntmps40
  have hK := Kept.refl NoBlk w
  go_wp2_with fail
  refine (num_any i _).mono ?_
  rintro e w1 ⟨rfl, rfl⟩
  have hB := Bk.new (w) 3 (#[.int .i64 i] : Array Value)
  replace hK := hK.alloc (.cells #[.int .i64 i] 3)
  have c_hB := hB.cell
  have f_hB := hB.frozen
  go_wp2_with fail
  refine (c2 _).mono ?_
  rintro e_ wc3 ⟨rfl, rfl⟩
  go_wp2_with fail
  refine (c1 _ _ hK hB).mono ?_
  rintro e_ wc4 ⟨rfl, hKn⟩
  replace hB := hB.kept hKn id
  replace hK := hK.trans hKn
  clear hKn
  replace c_hB := hB.cell
  replace f_hB := hB.frozen
  go_wp2
  go_ret
  exact ⟨rfl, hK⟩

set_option maxRecDepth 100000 in
set_option maxHeartbeats 1000000 in
theorem osetsec_yes {b g : Nat} {ws : List Int} {w : World} (hA : ArenaAt w b g ws) (hn : ws.length ≤ 65536) {a : Nat} {o : Obj} (ho : ObjAt ws a o) (x : Int) :
    Calls Try.prog 44 #[.pointer (some ⟨b, 0, none⟩), .int .i64 a, .int .u64 x] w fun e w' => e = .returned (.int .i64 0) ∧ ArenaAt w' b g (ws.set (a + 1) x) ∧ Kept (OneBlk g) w w' := by
  have c1 : ∀ W B, Kept NoBlk w W → Bk W B 3 #[.int .i64 1] → _ := fun W B k hB => ostore_yes (hA.kept k id id) hn ho 97 B 1 x (by have := o.size3; omega) (fun _ _ => by kernel_rfl) (fun V hV => fixed1 o.shp.p o.shp.d o.shp.wk o.shp.fin B 1 V (hB.kept hV id))
  clear ho hA
  go_enter Try.func44, Try.ntmps44
  have hK := Kept.refl NoBlk w
  go_wp2_with fail
  refine (fixed_any 1 _).mono ?_
  rintro e w1 ⟨rfl, rfl⟩
  have hB := Bk.new (w) 3 (#[.int .i64 1] : Array Value)
  replace hK := hK.alloc (.cells #[.int .i64 1] 3)
  have c_hB := hB.cell
  have f_hB := hB.frozen
  go_wp2_with fail
  refine (c1 _ _ hK hB).mono ?_
  rintro e w3 ⟨rfl, hA3, hK3⟩
  replace hK := (NoBlk.one hK g).trans hK3
  clear hB c_hB f_hB hK3
  go_wp2
  go_ret
  exact ⟨rfl, hA3, hK⟩

set_option maxRecDepth 100000 in
set_option maxHeartbeats 1000000 in
theorem osetfreed_yes {b g : Nat} {ws : List Int} {w : World} (hA : ArenaAt w b g ws) (hn : ws.length ≤ 65536) {a : Nat} {o : Obj} (ho : ObjAt ws a o) (f : Bool) :
    Calls Try.prog 43 #[.pointer (some ⟨b, 0, none⟩), .int .i64 a, .bool f] w fun e w' => e = .returned (.int .i64 0) ∧ ArenaAt w' b g (ws.set a ((headN o.shp f : Nat) : Int)) ∧ Kept (OneBlk g) w w' := by
  have hf := ho.fit
  have h3 := o.size3
  have c1 : ∀ W, Kept NoBlk w W → _ := fun W k => oshape_yes (hA.kept k id id) hn ho
  have c2 := fun W => head_yes o.shp f ho.ok.shp W
  have c3 : ∀ W, Kept NoBlk w W → _ := fun W k => store_yes (hA.kept k id id) hn (a : Int) ((headN o.shp f : Nat) : Int) (by omega) (by omega)
  rw [Int.toNat_natCast] at c3
  generalize headN o.shp f = x at *
  obtain ⟨⟨p, d, wk, fn⟩, fr, _, _, _, _⟩ := o
  dsimp only at *
  clear ho hA hf h3
  go_enter Try.func43, Try.ntmps43
  have hK := Kept.refl NoBlk w
  go_wp2_with fail
  refine (c1 _ hK).mono ?_
  rintro e_ v2 ⟨rfl, hKn⟩
  replace hK := hK.trans hKn
  clear hKn
  have hS := Bk.new (v2) 25 (#[.int .i64 p, .int .i64 d, .bool wk, .bool fn] : Array Value)
  replace hK := hK.alloc (.cells #[.int .i64 p, .int .i64 d, .bool wk, .bool fn] 25)
  have c_hS := hS.cell
  have f_hS := hS.frozen
  go_wp2_with fail
  refine (c2 _).mono ?_
  rintro e_ wc6 ⟨rfl, hKn⟩
  replace hS := hS.kept hKn id
  replace hK := hK.trans hKn
  clear hKn
  replace c_hS := hS.cell
  replace f_hS := hS.frozen
  go_wp2_with fail
  refine (c3 _ hK).mono ?_
  rintro e w3 ⟨rfl, hA3, hK3⟩
  replace hK := (NoBlk.one hK g).trans hK3
  clear hS c_hS f_hS hK3
  go_wp2
  go_ret
  exact ⟨rfl, hA3, hK⟩

end Go.Proofs.Ytccgnnnildedoaa
