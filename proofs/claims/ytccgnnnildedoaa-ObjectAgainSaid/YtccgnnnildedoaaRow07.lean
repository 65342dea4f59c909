/-
  Layer 07: row lays two objects one behind the other.
  Conditions: none.
-/
import Derived.Test.YtccgnnnildedoaaAwake07
import Derived.Test.YtccgnnnildedoaaObject6
import Derived.Test.YtccgnnnildedoaaPick07
import Derived.Test.YtccgnnnildedoaaHeld
set_option linter.unusedVariables false
namespace Go.Proofs.Ytccgnnnildedoaa
open Go.RowKit

set_option maxRecDepth 100000 in
set_option maxHeartbeats 4000000 in
theorem row07 (r0 r1 r2 t0 t1 t2 : Int) (w : World)
    (l0 : -9223372036854775808 ≤ r0) (g0 : r0 ≤ 9223372036854775807) (l1 : -9223372036854775808 ≤ r1) (g1 : r1 ≤ 9223372036854775807) (l2 : -9223372036854775808 ≤ r2) (g2 : r2 ≤ 9223372036854775807)
    (l3 : -9223372036854775808 ≤ t0) (g3 : t0 ≤ 9223372036854775807) (l4 : -9223372036854775808 ≤ t1) (g4 : t1 ≤ 9223372036854775807) (l5 : -9223372036854775808 ≤ t2) (g5 : t2 ≤ 9223372036854775807) :
    Calls Try.prog 38 #[.agg #[.int .i64 r0, .int .i64 r1, .int .i64 r2], .agg #[.int .i64 t0, .int .i64 t1, .int .i64 t2]] w fun e w' =>
      ∃ b g : Nat, e = .returned (.tuple #[.pointer (some ⟨b, 0, none⟩), .agg #[.int .i64 ((fitShp r0 r1 r2).p : Nat), .int .i64 ((fitShp r0 r1 r2).d : Nat), .bool (fitShp r0 r1 r2).wk, .bool (fitShp r0 r1 r2).fin], .agg #[.int .i64 ((fitShp t0 t1 t2).p : Nat), .int .i64 ((fitShp t0 t1 t2).d : Nat), .bool (fitShp t0 t1 t2).wk, .bool (fitShp t0 t1 t2).fin], .int .i64 ((fitShp r0 r1 r2).size : Nat)]) ∧
        ArenaAt w' b g (madeN (madeN (List.replicate 60 0) 0 (fitShp r0 r1 r2) 1) (fitShp r0 r1 r2).size (fitShp t0 t1 t2) 2) ∧ Kept NoBlk w w' ∧ w.heap.size ≤ b ∧ w.heap.size ≤ g := by
  have hF1 := fun W => fit06 r0 r1 r2 l0 g0 l1 g1 l2 g2 W
  have hF2 := fun W => fit06 t0 t1 t2 l3 g3 l4 g4 l5 g5 W
  have hs := fitShp_ok r0 r1 r2
  have ht := fitShp_ok t0 t1 t2
  generalize fitShp r0 r1 r2 = S at *
  generalize fitShp t0 t1 t2 = T at *
  obtain ⟨hp8, hd8, _⟩ := Shp.ok_bd hs
  obtain ⟨hq8, he8, _⟩ := Shp.ok_bd ht
  have m0 := fun W => new_yes 60 (by omega) (by omega) W
  have hS : S.size = 3 + S.p + S.d := rfl
  have hT : T.size = 3 + T.p + T.d := rfl
  have m1 : ∀ W b g, ArenaAt W b g (List.replicate 60 0) → _ := fun W b g hA => omake_yes hA (by simp) 0 S hs 1 (by omega) (by omega) (by simp; omega)
  have hl : (madeN (List.replicate 60 0) 0 S 1).length = 60 := by rw [length_madeN]; simp
  have m2 : ∀ W b g, ArenaAt W b g (madeN (List.replicate 60 0) 0 S 1) → _ := fun W b g hA => omake_yes hA (by omega) S.size T ht 2 (by omega) (by omega) (by omega)
  generalize madeN (madeN (List.replicate 60 0) 0 S 1) S.size T 2 = ws2 at *
  generalize madeN (List.replicate 60 0) 0 S 1 = ws1 at *
  generalize List.replicate 60 (0 : Int) = ws0 at *
  rw [hS] at *
  clear hS hT hs ht
  obtain ⟨p, d, wk, fn⟩ := S
  obtain ⟨q, c, vk, fm⟩ := T
  dsimp only at *
  rw [show ((3 + p + d : Nat) : Int) = 3 + (p : Int) + d by omega] at *
  go_enter Try.func38, Try.ntmps38
  have hK := Kept.refl NoBlk w
  have hs1 : ∀ (W : World) (o : Go.Obj), (W.alloc o).heap.size = W.heap.size + 1 := fun W o => by simp
  have hR1 : Bk ((w).alloc (.cells #[.int .i64 r0, .int .i64 r1, .int .i64 r2] 22)) (w.heap.size) 22 (#[.int .i64 r0, .int .i64 r1, .int .i64 r2] : Array Value) := by (have h := Bk.new (w) 22 (#[.int .i64 r0, .int .i64 r1, .int .i64 r2] : Array Value)); simpa only [hs1] using h
  replace hK := hK.alloc (.cells #[.int .i64 r0, .int .i64 r1, .int .i64 r2] 22)
  replace hR1 := hR1.alloc (.cells #[.int .i64 t0, .int .i64 t1, .int .i64 t2] 22)
  have hR2 : Bk (((w).alloc (.cells #[.int .i64 r0, .int .i64 r1, .int .i64 r2] 22)).alloc (.cells #[.int .i64 t0, .int .i64 t1, .int .i64 t2] 22)) (w.heap.size + 1) 22 (#[.int .i64 t0, .int .i64 t1, .int .i64 t2] : Array Value) := by (have h := Bk.new ((w).alloc (.cells #[.int .i64 r0, .int .i64 r1, .int .i64 r2] 22)) 22 (#[.int .i64 t0, .int .i64 t1, .int .i64 t2] : Array Value)); simpa only [hs1] using h
  replace hK := hK.alloc (.cells #[.int .i64 t0, .int .i64 t1, .int .i64 t2] 22)
  replace hR1 := hR1.alloc (.cells #[.int .i64 0, .int .i64 0, .bool false, .bool false] 25)
  replace hR2 := hR2.alloc (.cells #[.int .i64 0, .int .i64 0, .bool false, .bool false] 25)
  have hZ1 : Bk ((((w).alloc (.cells #[.int .i64 r0, .int .i64 r1, .int .i64 r2] 22)).alloc (.cells #[.int .i64 t0, .int .i64 t1, .int .i64 t2] 22)).alloc (.cells #[.int .i64 0, .int .i64 0, .bool false, .bool false] 25)) (w.heap.size + 1 + 1) 25 (#[.int .i64 0, .int .i64 0, .bool false, .bool false] : Array Value) := by (have h := Bk.new (((w).alloc (.cells #[.int .i64 r0, .int .i64 r1, .int .i64 r2] 22)).alloc (.cells #[.int .i64 t0, .int .i64 t1, .int .i64 t2] 22)) 25 (#[.int .i64 0, .int .i64 0, .bool false, .bool false] : Array Value)); simpa only [hs1] using h
  replace hK := hK.alloc (.cells #[.int .i64 0, .int .i64 0, .bool false, .bool false] 25)
  replace hR1 := hR1.alloc (.cells #[.int .i64 0, .int .i64 0, .bool false, .bool false] 25)
  replace hR2 := hR2.alloc (.cells #[.int .i64 0, .int .i64 0, .bool false, .bool false] 25)
  replace hZ1 := hZ1.alloc (.cells #[.int .i64 0, .int .i64 0, .bool false, .bool false] 25)
  have hZ2 : Bk (((((w).alloc (.cells #[.int .i64 r0, .int .i64 r1, .int .i64 r2] 22)).alloc (.cells #[.int .i64 t0, .int .i64 t1, .int .i64 t2] 22)).alloc (.cells #[.int .i64 0, .int .i64 0, .bool false, .bool false] 25)).alloc (.cells #[.int .i64 0, .int .i64 0, .bool false, .bool false] 25)) (w.heap.size + 1 + 1 + 1) 25 (#[.int .i64 0, .int .i64 0, .bool false, .bool false] : Array Value) := by (have h := Bk.new ((((w).alloc (.cells #[.int .i64 r0, .int .i64 r1, .int .i64 r2] 22)).alloc (.cells #[.int .i64 t0, .int .i64 t1, .int .i64 t2] 22)).alloc (.cells #[.int .i64 0, .int .i64 0, .bool false, .bool false] 25)) 25 (#[.int .i64 0, .int .i64 0, .bool false, .bool false] : Array Value)); simpa only [hs1] using h
  replace hK := hK.alloc (.cells #[.int .i64 0, .int .i64 0, .bool false, .bool false] 25)
  clear hs1
  (try clear c_hR1 f_hR1)
  (try clear c_hR2 f_hR2)
  (try clear c_hZ1 f_hZ1)
  (try clear c_hZ2 f_hZ2)
  have c_hR1 := hR1.cell
  have f_hR1 := hR1.frozen
  have c_hR2 := hR2.cell
  have f_hR2 := hR2.frozen
  have c_hZ1 := hZ1.cell
  have f_hZ1 := hZ1.frozen
  have c_hZ2 := hZ2.cell
  have f_hZ2 := hZ2.frozen
  go_wp2_with fail
  have hlt := hZ2.lt
  refine (m0 _).mono ?_
  rintro e v1 ⟨b, g, rfl, hA, hKn, hb, hg⟩
  replace hR1 := hR1.kept hKn id
  replace hR2 := hR2.kept hKn id
  replace hZ1 := hZ1.kept hKn id
  replace hZ2 := hZ2.kept hKn id
  replace hK := hK.trans hKn
  have hgw : w.heap.size ≤ g := by omega
  have hgb : w.heap.size ≤ b := by omega
  have hg4 : w.heap.size + 1 + 1 + 1 < g := by omega
  have hb4 : w.heap.size + 1 + 1 + 1 < b := by omega
  clear hKn hlt
  have hne_hR1 : ¬ OneBlk g (w.heap.size) := fun h => by (have h2 : w.heap.size = g := h); omega
  have hne_hR2 : ¬ OneBlk g (w.heap.size + 1) := fun h => by (have h2 : w.heap.size + 1 = g := h); omega
  have hne_hZ1 : ¬ OneBlk g (w.heap.size + 1 + 1) := fun h => by (have h2 : w.heap.size + 1 + 1 = g := h); omega
  have hne_hZ2 : ¬ OneBlk g (w.heap.size + 1 + 1 + 1) := fun h => by (have h2 : w.heap.size + 1 + 1 + 1 = g := h); omega
  clear hb hg
  replace c_hR1 := hR1.cell
  replace f_hR1 := hR1.frozen
  replace c_hR2 := hR2.cell
  replace f_hR2 := hR2.frozen
  replace c_hZ1 := hZ1.cell
  replace f_hZ1 := hZ1.frozen
  replace c_hZ2 := hZ2.cell
  replace f_hZ2 := hZ2.frozen
  go_wp2_with fail
  refine (hF1 _).mono ?_
  rintro e_ v2 ⟨rfl, hKn⟩
  replace hR1 := hR1.kept hKn id
  replace hR2 := hR2.kept hKn id
  replace hZ1 := hZ1.kept hKn id
  replace hZ2 := hZ2.kept hKn id
  replace hA := hA.kept hKn id id
  replace hK := hK.trans hKn
  clear hKn
  replace c_hR1 := hR1.cell
  replace f_hR1 := hR1.frozen
  replace c_hR2 := hR2.cell
  replace f_hR2 := hR2.frozen
  replace c_hZ1 := hZ1.cell
  replace f_hZ1 := hZ1.frozen
  replace c_hZ2 := hZ2.cell
  replace f_hZ2 := hZ2.frozen
  have hv2 := hZ2.lt
  replace hR1 := hR1.alloc (.cells #[.int .i64 p, .int .i64 d, .bool wk, .bool fn] 25)
  replace hR2 := hR2.alloc (.cells #[.int .i64 p, .int .i64 d, .bool wk, .bool fn] 25)
  replace hZ1 := hZ1.alloc (.cells #[.int .i64 p, .int .i64 d, .bool wk, .bool fn] 25)
  replace hZ2 := hZ2.alloc (.cells #[.int .i64 p, .int .i64 d, .bool wk, .bool fn] 25)
  have hS := Bk.new (v2) 25 (#[.int .i64 p, .int .i64 d, .bool wk, .bool fn] : Array Value)
  replace hK := hK.alloc (.cells #[.int .i64 p, .int .i64 d, .bool wk, .bool fn] 25)
  have hne_hS : ¬ OneBlk g ((v2).heap.size) := fun h => by (have h2 : (v2).heap.size = g := h); (have h3 := hA.glt); omega
  replace hA := hA.alloc (.cells #[.int .i64 p, .int .i64 d, .bool wk, .bool fn] 25)
  have c_hS := hS.cell
  have f_hS := hS.frozen
  replace c_hR1 := hR1.cell
  replace f_hR1 := hR1.frozen
  replace c_hR2 := hR2.cell
  replace f_hR2 := hR2.frozen
  replace c_hZ1 := hZ1.cell
  replace f_hZ1 := hZ1.frozen
  replace c_hZ2 := hZ2.cell
  replace f_hZ2 := hZ2.frozen
  go_wp2_with fail
  refine (hF2 _).mono ?_
  rintro e_ v3 ⟨rfl, hKn⟩
  replace hR1 := hR1.kept hKn id
  replace hR2 := hR2.kept hKn id
  replace hZ1 := hZ1.kept hKn id
  replace hZ2 := hZ2.kept hKn id
  replace hS := hS.kept hKn id
  replace hA := hA.kept hKn id id
  replace hK := hK.trans hKn
  clear hKn
  replace c_hR1 := hR1.cell
  replace f_hR1 := hR1.frozen
  replace c_hR2 := hR2.cell
  replace f_hR2 := hR2.frozen
  replace c_hZ1 := hZ1.cell
  replace f_hZ1 := hZ1.frozen
  replace c_hZ2 := hZ2.cell
  replace f_hZ2 := hZ2.frozen
  replace c_hS := hS.cell
  replace f_hS := hS.frozen
  have hv3 := hZ2.lt
  have hv4 := hS.lt
  replace hR1 := hR1.alloc (.cells #[.int .i64 q, .int .i64 c, .bool vk, .bool fm] 25)
  replace hR2 := hR2.alloc (.cells #[.int .i64 q, .int .i64 c, .bool vk, .bool fm] 25)
  replace hZ1 := hZ1.alloc (.cells #[.int .i64 q, .int .i64 c, .bool vk, .bool fm] 25)
  replace hZ2 := hZ2.alloc (.cells #[.int .i64 q, .int .i64 c, .bool vk, .bool fm] 25)
  replace hS := hS.alloc (.cells #[.int .i64 q, .int .i64 c, .bool vk, .bool fm] 25)
  have hT := Bk.new (v3) 25 (#[.int .i64 q, .int .i64 c, .bool vk, .bool fm] : Array Value)
  replace hK := hK.alloc (.cells #[.int .i64 q, .int .i64 c, .bool vk, .bool fm] 25)
  have hne_hT : ¬ OneBlk g ((v3).heap.size) := fun h => by (have h2 : (v3).heap.size = g := h); (have h3 := hA.glt); omega
  replace hA := hA.alloc (.cells #[.int .i64 q, .int .i64 c, .bool vk, .bool fm] 25)
  have c_hT := hT.cell
  have f_hT := hT.frozen
  replace c_hR1 := hR1.cell
  replace f_hR1 := hR1.frozen
  replace c_hR2 := hR2.cell
  replace f_hR2 := hR2.frozen
  replace c_hZ1 := hZ1.cell
  replace f_hZ1 := hZ1.frozen
  replace c_hZ2 := hZ2.cell
  replace f_hZ2 := hZ2.frozen
  replace c_hS := hS.cell
  replace f_hS := hS.frozen
  go_wp2_with fail
  refine (m1 _ _ _ hA).mono ?_
  rintro e_ wc3 ⟨rfl, hAn, hKn⟩
  replace hR1 := hR1.kept hKn hne_hR1
  replace hR2 := hR2.kept hKn hne_hR2
  replace hZ1 := hZ1.kept hKn hne_hZ1
  replace hZ2 := hZ2.kept hKn hne_hZ2
  replace hS := hS.kept hKn hne_hS
  replace hT := hT.kept hKn hne_hT
  replace hK := hK.over hKn (OneBlk.over hgw)
  clear hKn hA
  have hA := hAn
  clear hAn
  replace c_hR1 := hR1.cell
  replace f_hR1 := hR1.frozen
  replace c_hR2 := hR2.cell
  replace f_hR2 := hR2.frozen
  replace c_hZ1 := hZ1.cell
  replace f_hZ1 := hZ1.frozen
  replace c_hZ2 := hZ2.cell
  replace f_hZ2 := hZ2.frozen
  replace c_hS := hS.cell
  replace f_hS := hS.frozen
  replace c_hT := hT.cell
  replace f_hT := hT.frozen
  go_wp2_with fail
  refine (m2 _ _ _ hA).mono ?_
  rintro e_ wc4 ⟨rfl, hAn, hKn⟩
  replace hR1 := hR1.kept hKn hne_hR1
  replace hR2 := hR2.kept hKn hne_hR2
  replace hZ1 := hZ1.kept hKn hne_hZ1
  replace hZ2 := hZ2.kept hKn hne_hZ2
  replace hS := hS.kept hKn hne_hS
  replace hT := hT.kept hKn hne_hT
  replace hK := hK.over hKn (OneBlk.over hgw)
  clear hKn hA
  have hA := hAn
  clear hAn
  replace c_hR1 := hR1.cell
  replace f_hR1 := hR1.frozen
  replace c_hR2 := hR2.cell
  replace f_hR2 := hR2.frozen
  replace c_hZ1 := hZ1.cell
  replace f_hZ1 := hZ1.frozen
  replace c_hZ2 := hZ2.cell
  replace f_hZ2 := hZ2.frozen
  replace c_hS := hS.cell
  replace f_hS := hS.frozen
  replace c_hT := hT.cell
  replace f_hT := hT.frozen
  go_wp2_with fail
  clear c_hR1 f_hR1
  clear c_hR2 f_hR2
  clear hF1 hF2 m0 m1 m2 hR1 hR2
  clear hne_hR1 hne_hR2 hne_hZ1 hne_hZ2 hne_hS hne_hT
  go_region
  go_wp2
  clear c_hS f_hS
  clear c_hT f_hT
  replace hZ2 := hZ2.far (p := (⟨w.heap.size + 1 + 1, 0, none⟩ : Addr)) (by dsimp only; omega) (.int .i64 p)
  replace hZ1 := hZ1.set_ 0 (.int .i64 p)
  replace hA := hA.far (p := (⟨w.heap.size + 1 + 1, 0, none⟩ : Addr)) (by dsimp only; omega) (by dsimp only; omega) (.int .i64 p)
  replace hK := hK.setCell (p := (⟨w.heap.size + 1 + 1, 0, none⟩ : Addr)) (fun h => absurd h (by dsimp only; omega)) (.int .i64 p)
  replace hZ2 := hZ2.far (p := (⟨w.heap.size + 1 + 1, 1, none⟩ : Addr)) (by dsimp only; omega) (.int .i64 d)
  replace hZ1 := hZ1.set_ 1 (.int .i64 d)
  replace hA := hA.far (p := (⟨w.heap.size + 1 + 1, 1, none⟩ : Addr)) (by dsimp only; omega) (by dsimp only; omega) (.int .i64 d)
  replace hK := hK.setCell (p := (⟨w.heap.size + 1 + 1, 1, none⟩ : Addr)) (fun h => absurd h (by dsimp only; omega)) (.int .i64 d)
  replace hZ2 := hZ2.far (p := (⟨w.heap.size + 1 + 1, 2, none⟩ : Addr)) (by dsimp only; omega) (.bool wk)
  replace hZ1 := hZ1.set_ 2 (.bool wk)
  replace hA := hA.far (p := (⟨w.heap.size + 1 + 1, 2, none⟩ : Addr)) (by dsimp only; omega) (by dsimp only; omega) (.bool wk)
  replace hK := hK.setCell (p := (⟨w.heap.size + 1 + 1, 2, none⟩ : Addr)) (fun h => absurd h (by dsimp only; omega)) (.bool wk)
  replace hZ2 := hZ2.far (p := (⟨w.heap.size + 1 + 1, 3, none⟩ : Addr)) (by dsimp only; omega) (.bool fn)
  replace hZ1 := hZ1.set_ 3 (.bool fn)
  replace hA := hA.far (p := (⟨w.heap.size + 1 + 1, 3, none⟩ : Addr)) (by dsimp only; omega) (by dsimp only; omega) (.bool fn)
  replace hK := hK.setCell (p := (⟨w.heap.size + 1 + 1, 3, none⟩ : Addr)) (fun h => absurd h (by dsimp only; omega)) (.bool fn)
  replace hZ1 : Bk (((((wc4).setCell (⟨w.heap.size + 1 + 1, 0, none⟩ : Addr) (.int .i64 p)).setCell (⟨w.heap.size + 1 + 1, 1, none⟩ : Addr) (.int .i64 d)).setCell (⟨w.heap.size + 1 + 1, 2, none⟩ : Addr) (.bool wk)).setCell (⟨w.heap.size + 1 + 1, 3, none⟩ : Addr) (.bool fn)) (w.heap.size + 1 + 1) 25 (#[.int .i64 p, .int .i64 d, .bool wk, .bool fn] : Array Value) := by simpa using hZ1
  generalize (((((wc4).setCell (⟨w.heap.size + 1 + 1, 0, none⟩ : Addr) (.int .i64 p)).setCell (⟨w.heap.size + 1 + 1, 1, none⟩ : Addr) (.int .i64 d)).setCell (⟨w.heap.size + 1 + 1, 2, none⟩ : Addr) (.bool wk)).setCell (⟨w.heap.size + 1 + 1, 3, none⟩ : Addr) (.bool fn)) = v5 at *
  replace c_hZ1 := hZ1.cell
  replace f_hZ1 := hZ1.frozen
  replace c_hZ2 := hZ2.cell
  replace f_hZ2 := hZ2.frozen
  replace hZ1 := hZ1.far (p := (⟨w.heap.size + 1 + 1 + 1, 0, none⟩ : Addr)) (by dsimp only; omega) (.int .i64 q)
  replace hZ2 := hZ2.set_ 0 (.int .i64 q)
  replace hA := hA.far (p := (⟨w.heap.size + 1 + 1 + 1, 0, none⟩ : Addr)) (by dsimp only; omega) (by dsimp only; omega) (.int .i64 q)
  replace hK := hK.setCell (p := (⟨w.heap.size + 1 + 1 + 1, 0, none⟩ : Addr)) (fun h => absurd h (by dsimp only; omega)) (.int .i64 q)
  replace hZ1 := hZ1.far (p := (⟨w.heap.size + 1 + 1 + 1, 1, none⟩ : Addr)) (by dsimp only; omega) (.int .i64 c)
  replace hZ2 := hZ2.set_ 1 (.int .i64 c)
  replace hA := hA.far (p := (⟨w.heap.size + 1 + 1 + 1, 1, none⟩ : Addr)) (by dsimp only; omega) (by dsimp only; omega) (.int .i64 c)
  replace hK := hK.setCell (p := (⟨w.heap.size + 1 + 1 + 1, 1, none⟩ : Addr)) (fun h => absurd h (by dsimp only; omega)) (.int .i64 c)
  replace hZ1 := hZ1.far (p := (⟨w.heap.size + 1 + 1 + 1, 2, none⟩ : Addr)) (by dsimp only; omega) (.bool vk)
  replace hZ2 := hZ2.set_ 2 (.bool vk)
  replace hA := hA.far (p := (⟨w.heap.size + 1 + 1 + 1, 2, none⟩ : Addr)) (by dsimp only; omega) (by dsimp only; omega) (.bool vk)
  replace hK := hK.setCell (p := (⟨w.heap.size + 1 + 1 + 1, 2, none⟩ : Addr)) (fun h => absurd h (by dsimp only; omega)) (.bool vk)
  replace hZ1 := hZ1.far (p := (⟨w.heap.size + 1 + 1 + 1, 3, none⟩ : Addr)) (by dsimp only; omega) (.bool fm)
  replace hZ2 := hZ2.set_ 3 (.bool fm)
  replace hA := hA.far (p := (⟨w.heap.size + 1 + 1 + 1, 3, none⟩ : Addr)) (by dsimp only; omega) (by dsimp only; omega) (.bool fm)
  replace hK := hK.setCell (p := (⟨w.heap.size + 1 + 1 + 1, 3, none⟩ : Addr)) (fun h => absurd h (by dsimp only; omega)) (.bool fm)
  replace hZ2 : Bk (((((v5).setCell (⟨w.heap.size + 1 + 1 + 1, 0, none⟩ : Addr) (.int .i64 q)).setCell (⟨w.heap.size + 1 + 1 + 1, 1, none⟩ : Addr) (.int .i64 c)).setCell (⟨w.heap.size + 1 + 1 + 1, 2, none⟩ : Addr) (.bool vk)).setCell (⟨w.heap.size + 1 + 1 + 1, 3, none⟩ : Addr) (.bool fm)) (w.heap.size + 1 + 1 + 1) 25 (#[.int .i64 q, .int .i64 c, .bool vk, .bool fm] : Array Value) := by simpa using hZ2
  generalize (((((v5).setCell (⟨w.heap.size + 1 + 1 + 1, 0, none⟩ : Addr) (.int .i64 q)).setCell (⟨w.heap.size + 1 + 1 + 1, 1, none⟩ : Addr) (.int .i64 c)).setCell (⟨w.heap.size + 1 + 1 + 1, 2, none⟩ : Addr) (.bool vk)).setCell (⟨w.heap.size + 1 + 1 + 1, 3, none⟩ : Addr) (.bool fm)) = v6 at *
  replace c_hZ1 := hZ1.cell
  replace f_hZ1 := hZ1.frozen
  replace c_hZ2 := hZ2.cell
  replace f_hZ2 := hZ2.frozen
  have z1 := hZ1.drew.cell
  have z2 := hZ2.drew.cell
  refine bodyPost_ret (v := .tuple #[.pointer (some ⟨b, 0, none⟩), .agg #[.int .i64 p, .int .i64 d, .bool wk, .bool fn], .agg #[.int .i64 q, .int .i64 c, .bool vk, .bool fm], .int .i64 (3 + (p : Int) + d)]) (by simp [results, Try.results38, go_sem, z1, z2]) rfl ⟨b, g, rfl, ?_, hK.drew, hgb, hgw⟩
  exact hA.drew

/-- The same, told by the objects that stand there. -/
theorem row07o (r0 r1 r2 t0 t1 t2 : Int) (w : World)
    (l0 : -9223372036854775808 ≤ r0) (g0 : r0 ≤ 9223372036854775807) (l1 : -9223372036854775808 ≤ r1) (g1 : r1 ≤ 9223372036854775807) (l2 : -9223372036854775808 ≤ r2) (g2 : r2 ≤ 9223372036854775807)
    (l3 : -9223372036854775808 ≤ t0) (g3 : t0 ≤ 9223372036854775807) (l4 : -9223372036854775808 ≤ t1) (g4 : t1 ≤ 9223372036854775807) (l5 : -9223372036854775808 ≤ t2) (g5 : t2 ≤ 9223372036854775807) :
    Calls Try.prog 38 #[.agg #[.int .i64 r0, .int .i64 r1, .int .i64 r2], .agg #[.int .i64 t0, .int .i64 t1, .int .i64 t2]] w fun e w' =>
      ∃ (b g : Nat) (ws : List Int), e = .returned (.tuple #[.pointer (some ⟨b, 0, none⟩), .agg #[.int .i64 ((fitShp r0 r1 r2).p : Nat), .int .i64 ((fitShp r0 r1 r2).d : Nat), .bool (fitShp r0 r1 r2).wk, .bool (fitShp r0 r1 r2).fin], .agg #[.int .i64 ((fitShp t0 t1 t2).p : Nat), .int .i64 ((fitShp t0 t1 t2).d : Nat), .bool (fitShp t0 t1 t2).wk, .bool (fitShp t0 t1 t2).fin], .int .i64 ((fitShp r0 r1 r2).size : Nat)]) ∧
        ArenaAt w' b g ws ∧ Kept NoBlk w w' ∧ w.heap.size ≤ b ∧ w.heap.size ≤ g ∧ ws.length = 60 ∧ ObjAt ws 0 (newObj (fitShp r0 r1 r2) 1) ∧ ObjAt ws (fitShp r0 r1 r2).size (newObj (fitShp t0 t1 t2) 2) := by
  refine (row07 r0 r1 r2 t0 t1 t2 w l0 g0 l1 g1 l2 g2 l3 g3 l4 g4 l5 g5).mono ?_
  rintro e w' ⟨b, g, rfl, hA, hK, hb, hg⟩
  have hs := fitShp_ok r0 r1 r2
  have ht := fitShp_ok t0 t1 t2
  generalize fitShp r0 r1 r2 = S at *
  generalize fitShp t0 t1 t2 = T at *
  obtain ⟨hp8, hd8, _⟩ := Shp.ok_bd hs
  obtain ⟨hq8, he8, _⟩ := Shp.ok_bd ht
  have hS : S.size = 3 + S.p + S.d := rfl
  have hT : T.size = 3 + T.p + T.d := rfl
  have hl : (madeN (List.replicate 60 0) 0 S 1).length = 60 := by rw [length_madeN]; simp
  refine ⟨b, g, _, rfl, hA, hK, hb, hg, by rw [length_madeN]; exact hl, ?_, madeN_at (by omega) ht (by omega) (by omega)⟩
  have h1 := madeN_at (ws := List.replicate 60 0) (a := 0) (s := S) (n := 1) (by simp; omega) hs (by omega) (by omega)
  refine h1.far (length_madeN _ _ _ _) fun i hi => madeN_far (by omega) (.inl ?_)
  have : i < S.size := hi
  omega

end Go.Proofs.Ytccgnnnildedoaa
