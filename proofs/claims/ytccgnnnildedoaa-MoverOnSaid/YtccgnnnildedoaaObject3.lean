/-
  Package object over an arena where an object stands: its exported functions.
  Conditions: the arena has at most 65536 words.
-/
import Derived.Test.YtccgnnnildedoaaObject2
set_option linter.unusedVariables false
namespace Go.Proofs.Ytccgnnnildedoaa
open Go.RowKit

set_option maxRecDepth 100000 in
set_option maxHeartbeats 1000000 in
theorem oserial_yes {b g : Nat} {ws : List Int} {w : World} (hA : ArenaAt w b g ws) (hn : ws.length ≤ 65536) {a : Nat} {o : Obj} (ho : ObjAt ws a o) :
    Calls Try.prog 36 #[.pointer (some ⟨b, 0, none⟩), .int .i64 a] w fun e w' => e = .returned (.tuple #[.int .i64 o.ser, .int .i64 0]) ∧ Kept NoBlk w w' := by
  have c1 : ∀ W B, Kept NoBlk w W → Bk W B 3 #[.int .i64 2] → _ := fun W B k hB => oload_yes (hA.kept k id id) hn ho 97 B 2 o.ser (by have := o.size3; omega) ho.ser (fun _ _ => by kernel_rfl) (fun V hV => fixed1 o.shp.p o.shp.d o.shp.wk o.shp.fin B 2 V (hB.kept hV id))
  have h0 := ho.ok.ser0
  have h1 := ho.ok.ser1
  generalize o.ser = x at *
  clear ho hA
  go_enter Try.func36, Try.ntmps36
  have hK := Kept.refl NoBlk w
  go_wp2_with fail
  refine (fixed_any 2 _).mono ?_
  rintro e w1 ⟨rfl, rfl⟩
  have hB := Bk.new (w) 3 (#[.int .i64 2] : Array Value)
  replace hK := hK.alloc (.cells #[.int .i64 2] 3)
  have c_hB := hB.cell
  have f_hB := hB.frozen
  go_wp2_with fail
  refine (c1 _ _ hK hB).mono ?_
  rintro e_ wc1 ⟨rfl, hKn⟩
  replace hB := hB.kept hKn id
  replace hK := hK.trans hKn
  clear hKn
  replace c_hB := hB.cell
  replace f_hB := hB.frozen
  go_wp2
  go_ret2
  exact ⟨rfl, hK⟩

set_option maxRecDepth 100000 in
set_option maxHeartbeats 1000000 in
theorem osecond_yes {b g : Nat} {ws : List Int} {w : World} (hA : ArenaAt w b g ws) (hn : ws.length ≤ 65536) {a : Nat} {o : Obj} (ho : ObjAt ws a o) :
    Calls Try.prog 35 #[.pointer (some ⟨b, 0, none⟩), .int .i64 a] w fun e w' => e = .returned (.tuple #[.int .u64 o.sec, .int .i64 0]) ∧ Kept NoBlk w w' := by
  have c1 : ∀ W B, Kept NoBlk w W → Bk W B 3 #[.int .i64 1] → _ := fun W B k hB => oload_yes (hA.kept k id id) hn ho 97 B 1 o.sec (by have := o.size3; omega) ho.sec (fun _ _ => by kernel_rfl) (fun V hV => fixed1 o.shp.p o.shp.d o.shp.wk o.shp.fin B 1 V (hB.kept hV id))
  generalize o.sec = x at *
  clear ho hA
  go_enter Try.func35, Try.ntmps35
  have hK := Kept.refl NoBlk w
  go_wp2_with fail
  refine (fixed_any 1 _).mono ?_
  rintro e w1 ⟨rfl, rfl⟩
  have hB := Bk.new (w) 3 (#[.int .i64 1] : Array Value)
  replace hK := hK.alloc (.cells #[.int .i64 1] 3)
  have c_hB := hB.cell
  have f_hB := hB.frozen
  go_wp2_with fail
  refine (c1 _ _ hK hB).mono ?_
  rintro e_ wc2 ⟨rfl, hKn⟩
  replace hB := hB.kept hKn id
  replace hK := hK.trans hKn
  clear hKn
  replace c_hB := hB.cell
  replace f_hB := hB.frozen
  go_wp2
  go_ret2
  exact ⟨rfl, hK⟩

set_option maxRecDepth 100000 in
set_option maxHeartbeats 1000000 in
theorem optr_yes {b g : Nat} {ws : List Int} {w : World} (hA : ArenaAt w b g ws) (hn : ws.length ≤ 65536) {a : Nat} {o : Obj} (ho : ObjAt ws a o) (i : Nat) (hi : i < o.shp.p) :
    Calls Try.prog 41 #[.pointer (some ⟨b, 0, none⟩), .int .i64 a, .int .i64 i] w fun e w' => e = .returned (.tuple #[.int .i64 (wd o.ptrs i), .int .i64 0]) ∧ Kept NoBlk w w' := by
  have hp8 := (Shp.ok_bd ho.ok.shp).1
  have c1 : ∀ W B, Kept NoBlk w W → Bk W B 3 #[.int .i64 i] → _ := fun W B k hB => oload_yes (hA.kept k id id) hn ho 98 B (3 + i) (wd o.ptrs i) (by unfold Obj.size Shp.size; omega) (ho.ptr hi) (fun _ _ => by kernel_rfl) (fun V hV => ptr1_yes o.shp.p o.shp.d o.shp.wk o.shp.fin B i hi hp8 V (hB.kept hV id))
  obtain ⟨h0, h1⟩ := ho.ok.ptr i hi
  generalize wd o.ptrs i = x at *
  clear ho hA
  go_enter Try.func41, Try.ntmps41
  have hK := Kept.refl NoBlk w
  go_wp2_with fail
  refine (ptr_any i _).mono ?_
  rintro e w1 ⟨rfl, rfl⟩
  have hB := Bk.new (w) 3 (#[.int .i64 i] : Array Value)
  replace hK := hK.alloc (.cells #[.int .i64 i] 3)
  have c_hB := hB.cell
  have f_hB := hB.frozen
  go_wp2_with fail
  refine (c1 _ _ hK hB).mono ?_
  rintro e_ wc3 ⟨rfl, hKn⟩
  replace hB := hB.kept hKn id
  replace hK := hK.trans hKn
  clear hKn
  replace c_hB := hB.cell
  replace f_hB := hB.frozen
  go_wp2
  go_ret2
  exact ⟨rfl, hK⟩

set_option maxRecDepth 100000 in
set_option maxHeartbeats 1000000 in
theorem optr_no {b g : Nat} {ws : List Int} {w : World} (hA : ArenaAt w b g ws) (hn : ws.length ≤ 65536) {a : Nat} {o : Obj} (ho : ObjAt ws a o) (i : Int) (hi : i < 0 ∨ (0 ≤ i ∧ (o.shp.p : Int) ≤ i)) :
    Calls Try.prog 41 #[.pointer (some ⟨b, 0, none⟩), .int .i64 a, .int .i64 i] w fun e w' => e = .returned (.tuple #[.int .i64 0, .int .i64 71]) ∧ Kept NoBlk w w' := by
  have hp8 := (Shp.ok_bd ho.ok.shp).1
  have c1 : ∀ W B, Kept NoBlk w W → Bk W B 3 #[.int .i64 i] → _ := fun W B k hB => oload_no (hA.kept k id id) hn ho 98 B (fun _ _ => by kernel_rfl) (fun V hV => ptr1_no o.shp.p o.shp.d o.shp.wk o.shp.fin B i hi hp8 V (hB.kept hV id))
  clear ho hA hi
  go_enter Try.func41, Try.ntmps41
  have hK := Kept.refl NoBlk w
  go_wp2_with fail
  refine (ptr_any i _).mono ?_
  rintro e w1 ⟨rfl, rfl⟩
  have hB := Bk.new (w) 3 (#[.int .i64 i] : Array Value)
  replace hK := hK.alloc (.cells #[.int .i64 i] 3)
  have c_hB := hB.cell
  have f_hB := hB.frozen
  go_wp2_with fail
  refine (c1 _ _ hK hB).mono ?_
  rintro e_ wc4 ⟨rfl, hKn⟩
  replace hB := hB.kept hKn id
  replace hK := hK.trans hKn
  clear hKn
  replace c_hB := hB.cell
  replace f_hB := hB.frozen
  go_wp2
  go_ret2
  exact ⟨rfl, hK⟩

set_option maxRecDepth 100000 in
set_option maxHeartbeats 1000000 in
theorem onum_yes {b g : Nat} {ws : List Int} {w : World} (hA : ArenaAt w b g ws) (hn : ws.length ≤ 65536) {a : Nat} {o : Obj} (ho : ObjAt ws a o) (i : Nat) (hi : i < o.shp.d) :
    Calls Try.prog 42 #[.pointer (some ⟨b, 0, none⟩), .int .i64 a, .int .i64 i] w fun e w' => e = .returned (.tuple #[.int .i64 (wd o.nums i), .int .i64 0]) ∧ Kept NoBlk w w' := by
  obtain ⟨hp8, hd8, _⟩ := Shp.ok_bd ho.ok.shp
  have c1 : ∀ W B, Kept NoBlk w W → Bk W B 3 #[.int .i64 i] → _ := fun W B k hB => oload_yes (hA.kept k id id) hn ho 100 B (3 + o.shp.p + i) (zigI (wd o.nums i)) (by unfold Obj.size Shp.size; omega) (ho.num hi) (fun _ _ => by kernel_rfl) (fun V hV => num1_yes o.shp.p o.shp.d o.shp.wk o.shp.fin B i hi hp8 hd8 V (hB.kept hV id))
  obtain ⟨h0, h1⟩ := ho.ok.num i hi
  generalize wd o.nums i = x at *
  have hz := zig_bd x h0 h1
  have c2 := fun W => zag_any (zigI x) hz.1 hz.2 W
  rw [zag_zig x] at c2
  generalize zigI x = y at *
  clear ho hA
  go_enter Try.func42, Try.ntmps42
  have hK := Kept.refl NoBlk w
  go_wp2_with fail
  refine (num_any i _).mono ?_
  rintro e w1 ⟨rfl, rfl⟩
  have hB := Bk.new (w) 3 (#[.int .i64 i] : Array Value)
  replace hK := hK.alloc (.cells #[.int .i64 i] 3)
  have c_hB := hB.cell
  have f_hB := hB.frozen
  go_wp2_with fail
  refine (c1 _ _ hK hB).mono ?_
  rintro e_ wc5 ⟨rfl, hKn⟩
  replace hB := hB.kept hKn id
  replace hK := hK.trans hKn
  clear hKn
  replace c_hB := hB.cell
  replace f_hB := hB.frozen
  go_wp2_with fail
  refine (c2 _).mono ?_
  rintro e_ wc6 ⟨rfl, rfl⟩
  go_wp2
  go_ret2
  exact ⟨rfl, hK⟩

set_option maxRecDepth 100000 in
set_option maxHeartbeats 1000000 in
theorem onum_no {b g : Nat} {ws : List Int} {w : World} (hA : ArenaAt w b g ws) (hn : ws.length ≤ 65536) {a : Nat} {o : Obj} (ho : ObjAt ws a o) (i : Int) (hi : i < 0 ∨ (0 ≤ i ∧ (o.shp.d : Int) ≤ i)) :
    Calls Try.prog 42 #[.pointer (some ⟨b, 0, none⟩), .int .i64 a, .int .i64 i] w fun e w' => e = .returned (.tuple #[.int .i64 0, .int .i64 71]) ∧ Kept NoBlk w w' := by
  obtain ⟨hp8, hd8, _⟩ := Shp.ok_bd ho.ok.shp
  have c1 : ∀ W B, Kept NoBlk w W → Bk W B 3 #[.int .i64 i] → _ := fun W B k hB => oload_no (hA.kept k id id) hn ho 100 B (fun _ _ => by kernel_rfl) (fun V hV => num1_no o.shp.p o.shp.d o.shp.wk o.shp.fin B i hi hd8 V (hB.kept hV id))
  have c2 := fun W => zag_any 0 (by omega) (by omega) W
  rw [show zagI 0 = 0 by rfl] at c2
  clear ho hA hi
  go_enter Try.func42, Try.ntmps42
  have hK := Kept.refl NoBlk w
  go_wp2_with fail
  refine (num_any i _).mono ?_
  rintro e w1 ⟨rfl, rfl⟩
  have hB := Bk.new (w) 3 (#[.int .i64 i] : Array Value)
  replace hK := hK.alloc (.cells #[.int .i64 i] 3)
  have c_hB := hB.cell
  have f_hB := hB.frozen
  go_wp2_with fail
  refine (c1 _ _ hK hB).mono ?_
  rintro e_ wc7 ⟨rfl, hKn⟩
  replace hB := hB.kept hKn id
  replace hK := hK.trans hKn
  clear hKn
  replace c_hB := hB.cell
  replace f_hB := hB.frozen
  go_wp2_with fail
  refine (c2 _).mono ?_
  rintro e_ wc8 ⟨rfl, rfl⟩
  go_wp2
  go_ret2
  exact ⟨rfl, hK⟩

end Go.Proofs.Ytccgnnnildedoaa
