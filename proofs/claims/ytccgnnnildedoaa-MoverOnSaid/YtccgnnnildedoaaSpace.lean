/-
  The contracts of package space, of right spaces: Right, Make, Used, Left, Has, Empty, Take.
  Conditions: the space is a right one.
-/
import Derived.Test.YtccgnnnildedoaaClass
import Derived.Deep.QuietTactic
import Derived.BigQuiet
import Derived.IntWalk
import Derived.Deep.RegionHeld3
set_option linter.unusedVariables false
namespace Go.Proofs.Ytccgnnnildedoaa
open Go.RowKit

/-- A right space: base, size, top. -/
structure RightSp (b s t : Int) : Prop where
  b0 : 0 ≤ b
  b1 : b ≤ 65536
  s0 : 0 ≤ s
  s1 : s ≤ 65536
  t0 : b ≤ t
  t1 : t ≤ b + s

theorem notStood_space : Try.prog.stoodInHeld 77 = false := by kernel_rfl
theorem notGuard_space : Try.prog.eqGuardType Try.prog.depth 77 = false := by kernel_rfl

set_option maxHeartbeats 400000 in
theorem Kept.cell_some {a c : World} (h : Kept NoBlk a c) {p : Addr} {v : Value} (hc : a.cell? p = some v) : c.cell? p = some v := by
  by_cases hp : p.block < a.heap.size
  · rw [← hc]; simp only [World.cell?]; rw [h.block _ hp id]
  · simp [World.cell?, Array.getElem?_eq_none (Nat.le_of_not_lt hp)] at hc

set_option maxHeartbeats 400000 in
theorem held_id (lo n hi : Int) (h1 : lo ≤ n) (h2 : n ≤ hi) (w : World) :
    Calls Try.prog 103 #[.int .i64 lo, .int .i64 n, .int .i64 hi] w fun e w' => e = .returned (.int .i64 n) ∧ w' = w := by
  go_enter Try.func103, Try.ntmps103
  go_wp2
  all_goals
    go_ret
    exact ⟨ret_int (by omega), rfl⟩

set_option maxRecDepth 100000 in
set_option maxHeartbeats 1000000 in
theorem right_yes {b s t : Int} (h : RightSp b s t) (w : World) :
    Calls Try.prog 79 #[.agg #[.int .i64 b, .int .i64 s, .int .i64 t]] w fun e w' => e = .returned (.bool true) ∧ Kept NoBlk w w' := by
  obtain ⟨h1, h2, h3, h4, h5, h6⟩ := h
  have hp := notStood_space
  have hm := notGuard_space
  go_enter Try.func79, Try.ntmps79
  go_wp2_with fail
  go_quiet ((go_at_call 103; exact Calls.quiet_of_same (held_id _ _ _ (by omega) (by omega) _)))
  have hw : IntKind.i64.wrap (b + s) = b + s := IntWalk.i64_in _ (by omega)
  go_wp2_with fail
  generalize hq : World.drewN _ _ = wq
  have hb : Bk wq w.heap.size 77 #[.int .i64 b, .int .i64 s, .int .i64 t] := by rw [← hq]; exact (Bk.new w _ _).drewN _
  have hK : Kept NoBlk w wq := by rw [← hq]; exact ((Kept.refl _ w).alloc _).drewN _
  clear hq
  have c0 := hb.cell 0
  have c1 := hb.cell 1
  have c2 := hb.cell 2
  go_quiet ((go_at_call 103; exact Calls.quiet_of_same (held_id _ _ _ (by omega) (by omega) _)))
  clear hw
  go_wp2
  go_ret
  exact ⟨rfl, hK.drewN _⟩

set_option maxRecDepth 100000 in
set_option maxHeartbeats 1000000 in
theorem used_yes {b s t : Int} (h : RightSp b s t) (w : World) :
    Calls Try.prog 77 #[.agg #[.int .i64 b, .int .i64 s, .int .i64 t]] w fun e w' => e = .returned (.int .i64 (t - b)) ∧ Kept NoBlk w w' := by
  have hR := fun W => right_yes h W
  obtain ⟨h1, h2, h3, h4, h5, h6⟩ := h
  go_enter Try.func77, Try.ntmps77
  go_wp2_with fail
  refine (hR _).mono ?_
  rintro e w1 ⟨rfl, hK⟩
  have hb := (Bk.new w 77 (#[.int .i64 b, .int .i64 s, .int .i64 t] : Array Value)).kept hK id
  have hK' := ((Kept.refl NoBlk w).alloc _).trans hK
  clear hK
  have c0 := hb.cell 0
  have c1 := hb.cell 1
  have c2 := hb.cell 2
  go_wp2_with fail
  go_ret
  exact ⟨rfl, hK'⟩

set_option maxRecDepth 100000 in
set_option maxHeartbeats 1000000 in
theorem left_yes {b s t : Int} (h : RightSp b s t) (w : World) :
    Calls Try.prog 102 #[.agg #[.int .i64 b, .int .i64 s, .int .i64 t]] w fun e w' => e = .returned (.int .i64 (s - (t - b))) ∧ Kept NoBlk w w' := by
  have hR := fun W => right_yes h W
  have hU := fun W => used_yes h W
  obtain ⟨h1, h2, h3, h4, h5, h6⟩ := h
  go_enter Try.func102, Try.ntmps102
  go_wp2_with fail
  refine (hR _).mono ?_
  rintro e w1 ⟨rfl, hK⟩
  have hb := (Bk.new w 77 (#[.int .i64 b, .int .i64 s, .int .i64 t] : Array Value)).kept hK id
  have hK' := ((Kept.refl NoBlk w).alloc _).trans hK
  clear hK
  have c0 := hb.cell 0
  have c1 := hb.cell 1
  have c2 := hb.cell 2
  go_wp2_with fail
  go_region_held3 (fun W => W.cell? ⟨w.heap.size, 0, none⟩ = some (.int .i64 b) ∧ W.cell? ⟨w.heap.size, 1, none⟩ = some (.int .i64 s) ∧ W.cell? ⟨w.heap.size, 2, none⟩ = some (.int .i64 t) ∧ Kept NoBlk w W)
    (first
      | exact ⟨c0, c1, c2, hK'⟩
      | (go_split_ands; exact ⟨‹_›, ‹_›, ‹_›, ‹_›⟩)
      | (go_split_ands; exact ⟨‹_›, ‹_›, ‹_›, Kept.drew ‹_›⟩)
      | (go_split_ands; exact ⟨hKc.cell_some ‹_›, hKc.cell_some ‹_›, hKc.cell_some ‹_›, Kept.trans ‹Kept NoBlk w _› hKc⟩))
    (first | (go_at_call 77; refine (hU _).mono ?_; rintro e wc ⟨rfl, hKc⟩))
  have hw2 : IntKind.i64.wrap (s - (t - b)) = s - (t - b) := IntWalk.i64_in _ (by omega)
  rw [hw2]
  clear hw2
  go_wp2
  go_ret
  exact ⟨rfl, by (go_split_ands; assumption)⟩



set_option maxRecDepth 100000 in
set_option maxHeartbeats 1000000 in
theorem make_yes {b s : Int} (h : RightSp b s b) (w : World) :
    Calls Try.prog 48 #[.int .i64 b, .int .i64 s] w fun e w' => e = .returned (.tuple #[.agg #[.int .i64 b, .int .i64 s, .int .i64 b], .bool true]) ∧ Kept NoBlk w w' := by
  have hR := fun W => right_yes h W
  obtain ⟨h1, h2, h3, h4, h5, h6⟩ := h
  go_enter Try.func48, Try.ntmps48
  go_wp2_with fail
  refine (hR _).mono ?_
  rintro e w1 ⟨rfl, hK⟩
  have hb1 := ((Bk.new w 77 (#[.int .i64 0, .int .i64 0, .int .i64 0] : Array Value)).alloc (.cells #[.int .i64 b, .int .i64 s, .int .i64 b] 77)).kept hK id
  have hb2 := (Bk.new (w.alloc (.cells #[.int .i64 0, .int .i64 0, .int .i64 0] 77)) 77 (#[.int .i64 b, .int .i64 s, .int .i64 b] : Array Value)).kept hK id
  have hK' := (((Kept.refl NoBlk w).alloc _).alloc _).trans hK
  clear hK
  have e1 : (w.alloc (.cells #[.int .i64 0, .int .i64 0, .int .i64 0] 77)).heap.size = w.heap.size + 1 := by simp
  rw [e1] at hb2
  clear e1
  have hb1' := (((hb1.set_ 0 (.int .i64 b)).set_ 1 (.int .i64 s)).set_ 2 (.int .i64 b))
  have c0 := hb1.cell 0
  have c1 := hb1.cell 1
  have c2 := hb1.cell 2
  have d0 := hb2.cell 0
  have d1 := hb2.cell 1
  have d2 := hb2.cell 2
  have f0 := hb1.frozen 0
  have f1 := hb1.frozen 1
  have f2 := hb1.frozen 2
  go_wp2
  refine bodyPost_ret (v := .tuple #[.agg #[.int .i64 b, .int .i64 s, .int .i64 b], .bool true]) (by
    have c0' := hb1'.cell 0
    have c1' := hb1'.cell 1
    have c2' := hb1'.cell 2
    simp [results, Try.results48, go_sem, c0', c1', c2']) rfl ⟨rfl, ?_⟩
  exact ((hK'.setCell (p := ⟨_, _, none⟩) (fun h => absurd h (by dsimp only; omega)) _).setCell (p := ⟨_, _, none⟩) (fun h => absurd h (by dsimp only; omega)) _).setCell (p := ⟨_, _, none⟩) (fun h => absurd h (by dsimp only; omega)) _

set_option maxRecDepth 100000 in
set_option maxHeartbeats 1000000 in
theorem take_yes {b s t : Int} (n : Int) (h1n : 1 ≤ n) (h2n : n ≤ 65536) (h : RightSp b s t) (w : World) :
    Calls Try.prog 78 #[.agg #[.int .i64 b, .int .i64 s, .int .i64 t], .int .i64 n] w fun e w' => ∃ k : Nat, ClassOf n k ∧ Kept NoBlk w w' ∧
      ((csz k ≤ s - (t - b) ∧ e = .returned (.tuple #[.agg #[.int .i64 b, .int .i64 s, .int .i64 (t + csz k)], .int .i64 t, .bool true])) ∨
       (s - (t - b) < csz k ∧ e = .returned (.tuple #[.agg #[.int .i64 b, .int .i64 s, .int .i64 t], .int .i64 0, .bool false]))) := by
  have hR := fun W => right_yes h W
  have hL := fun W => left_yes h W
  obtain ⟨h1, h2, h3, h4, h5, h6⟩ := h
  go_enter Try.func78, Try.ntmps78
  go_wp2_with fail
  refine (round_yes n h1n h2n _).mono ?_
  rintro e w1 ⟨k, hk, rfl, hK⟩
  have hb := ((Bk.new w 77 (#[.int .i64 b, .int .i64 s, .int .i64 t] : Array Value)).alloc (.cells #[.int .i64 0, .int .i64 0, .int .i64 0] 77)).kept hK id
  have hb2 := (Bk.new (w.alloc (.cells #[.int .i64 b, .int .i64 s, .int .i64 t] 77)) 77 (#[.int .i64 0, .int .i64 0, .int .i64 0] : Array Value)).kept hK id
  have e1 : (w.alloc (.cells #[.int .i64 b, .int .i64 s, .int .i64 t] 77)).heap.size = w.heap.size + 1 := by simp
  rw [e1] at hb2
  clear e1
  have hK' := (((Kept.refl NoBlk w).alloc _).alloc _).trans hK
  clear hK
  have c0 := hb.cell 0
  have c1 := hb.cell 1
  have c2 := hb.cell 2
  go_wp2_with fail
  refine (hR _).mono ?_
  rintro e w2 ⟨rfl, hK2⟩
  clear c0 c1 c2
  replace hb := hb.kept hK2 id
  replace hb2 := hb2.kept hK2 id
  replace hK' := hK'.trans hK2
  clear hK2
  have c0 := hb.cell 0
  have c1 := hb.cell 1
  have c2 := hb.cell 2
  go_wp2_with fail
  refine (hL _).mono ?_
  rintro e w3 ⟨rfl, hK3⟩
  clear c0 c1 c2
  replace hb := hb.kept hK3 id
  replace hb2 := hb2.kept hK3 id
  replace hK' := hK'.trans hK3
  clear hK3
  have c0 := hb.cell 0
  have c1 := hb.cell 1
  have c2 := hb.cell 2
  have d0 := hb2.cell 0
  have d1 := hb2.cell 1
  have d2 := hb2.cell 2
  have fb := hb.frozen 2
  have f0 := hb2.frozen 0
  have f1 := hb2.frozen 1
  have f2 := hb2.frozen 2
  have hcb := Int.le_trans (csz_le (hk.le28 h2n)) (Int.le_of_eq csz_28)
  have hc4 := csz_pos k
  by_cases hc : csz k ≤ s - (t - b)
  · go_wp2
    have hb3 := ((((hb2.far (p := ⟨w.heap.size, 2, none⟩) (by simp) (.int .i64 (t + csz k))).set_ 0 (.int .i64 b)).set_ 1 (.int .i64 s)).set_ 2 (.int .i64 (t + csz k)))
    have e0 := hb3.cell 0
    have e1 := hb3.cell 1
    have e2 := hb3.cell 2
    refine bodyPost_ret (v := .tuple #[.agg #[.int .i64 b, .int .i64 s, .int .i64 (t + csz k)], .int .i64 t, .bool true]) (by simp [results, Try.results78, go_sem, e0, e1, e2]) rfl ⟨k, hk, ?_, .inl ⟨hc, rfl⟩⟩
    exact (((hK'.setCell (p := ⟨_, _, none⟩) (fun h => absurd h (by dsimp only; omega)) _).setCell (p := ⟨_, _, none⟩) (fun h => absurd h (by dsimp only; omega)) _).setCell (p := ⟨_, _, none⟩) (fun h => absurd h (by dsimp only; omega)) _).setCell (p := ⟨_, _, none⟩) (fun h => absurd h (by dsimp only; omega)) _
  · go_wp2
    have hb3 := ((hb2.set_ 0 (.int .i64 b)).set_ 1 (.int .i64 s)).set_ 2 (.int .i64 t)
    have e0 := hb3.cell 0
    have e1 := hb3.cell 1
    have e2 := hb3.cell 2
    refine bodyPost_ret (v := .tuple #[.agg #[.int .i64 b, .int .i64 s, .int .i64 t], .int .i64 0, .bool false]) (by simp [results, Try.results78, go_sem, e0, e1, e2]) rfl ⟨k, hk, ?_, .inr ⟨by omega, rfl⟩⟩
    exact ((hK'.setCell (p := ⟨_, _, none⟩) (fun h => absurd h (by dsimp only; omega)) _).setCell (p := ⟨_, _, none⟩) (fun h => absurd h (by dsimp only; omega)) _).setCell (p := ⟨_, _, none⟩) (fun h => absurd h (by dsimp only; omega)) _

set_option maxHeartbeats 1000000 in
theorem find_no (n : Int) (h1 : n < 1) (w : World) :
    Calls Try.prog 110 #[.int .i64 n] w fun e w' => e = .returned (.tuple #[.int .i64 0, .int .i64 0, .bool false]) ∧ Kept NoBlk w w' := by
  go_enter Try.func110, Try.ntmps110
  go_wp2
  have hs1 : ∀ (W : World) (o : Obj), (W.alloc o).heap.size = W.heap.size + 1 := fun W o => by simp
  have b2 := ((Bk.new (w.alloc (.cells #[.int .i64 n] 3)) 3 (#[.int .i64 0] : Array Value)).alloc (.cells #[.int .i64 0] 3)).alloc (.cells #[.bool false] 4)
  have b3 := (Bk.new ((w.alloc (.cells #[.int .i64 n] 3)).alloc (.cells #[.int .i64 0] 3)) 3 (#[.int .i64 0] : Array Value)).alloc (.cells #[.bool false] 4)
  have b4 := Bk.new (((w.alloc (.cells #[.int .i64 n] 3)).alloc (.cells #[.int .i64 0] 3)).alloc (.cells #[.int .i64 0] 3)) 4 (#[.bool false] : Array Value)
  rw [hs1] at b2
  rw [hs1, hs1] at b3
  rw [hs1, hs1, hs1] at b4
  have c2 := b2.cell 0
  have c3 := b3.cell 0
  have c4 := b4.cell 0
  refine bodyPost_ret (v := .tuple #[.int .i64 0, .int .i64 0, .bool false]) (by simp only [results, Try.results110, c2, c3, c4]; simp [results, Try.results110, go_sem, c2, c3, c4]) rfl ⟨rfl, ?_⟩
  exact ((((Kept.refl NoBlk w).alloc _).alloc _).alloc _).alloc _

theorem round_no (n : Int) (h1 : n < 1) (w : World) :
    Calls Try.prog 101 #[.int .i64 n] w fun e w' => e = .returned (.tuple #[.int .i64 0, .bool false]) ∧ Kept NoBlk w w' := by
  go_enter Try.func101, Try.ntmps101
  go_wp2_with fail
  refine (find_no n h1 w).mono ?_
  rintro e w1 ⟨rfl, hK⟩
  go_wp2
  go_ret2
  exact ⟨rfl, hK⟩

set_option maxRecDepth 100000 in
set_option maxHeartbeats 1000000 in
theorem take_no {b s t : Int} (n : Int) (h1n : n < 1) (w : World) :
    Calls Try.prog 78 #[.agg #[.int .i64 b, .int .i64 s, .int .i64 t], .int .i64 n] w fun e w' => Kept NoBlk w w' ∧
      e = .returned (.tuple #[.agg #[.int .i64 b, .int .i64 s, .int .i64 t], .int .i64 0, .bool false]) := by
  go_enter Try.func78, Try.ntmps78
  go_wp2_with fail
  refine (round_no n h1n _).mono ?_
  rintro e w1 ⟨rfl, hK⟩
  have hb := ((Bk.new w 77 (#[.int .i64 b, .int .i64 s, .int .i64 t] : Array Value)).alloc (.cells #[.int .i64 0, .int .i64 0, .int .i64 0] 77)).kept hK id
  have hb2 := (Bk.new (w.alloc (.cells #[.int .i64 b, .int .i64 s, .int .i64 t] 77)) 77 (#[.int .i64 0, .int .i64 0, .int .i64 0] : Array Value)).kept hK id
  have e1 : (w.alloc (.cells #[.int .i64 b, .int .i64 s, .int .i64 t] 77)).heap.size = w.heap.size + 1 := by simp
  rw [e1] at hb2
  clear e1
  have hK' := (((Kept.refl NoBlk w).alloc _).alloc _).trans hK
  clear hK
  have c0 := hb.cell 0
  have c1 := hb.cell 1
  have c2 := hb.cell 2
  have d0 := hb2.cell 0
  have d1 := hb2.cell 1
  have d2 := hb2.cell 2
  have fb := hb.frozen 2
  have f0 := hb2.frozen 0
  have f1 := hb2.frozen 1
  have f2 := hb2.frozen 2
  go_wp2
  have hb3 := ((hb2.set_ 0 (.int .i64 b)).set_ 1 (.int .i64 s)).set_ 2 (.int .i64 t)
  have e0 := hb3.cell 0
  have e1 := hb3.cell 1
  have e2 := hb3.cell 2
  refine bodyPost_ret (v := .tuple #[.agg #[.int .i64 b, .int .i64 s, .int .i64 t], .int .i64 0, .bool false]) (by simp [results, Try.results78, go_sem, e0, e1, e2]) rfl ⟨?_, rfl⟩
  exact ((hK'.setCell (p := ⟨_, _, none⟩) (fun h => absurd h (by dsimp only; omega)) _).setCell (p := ⟨_, _, none⟩) (fun h => absurd h (by dsimp only; omega)) _).setCell (p := ⟨_, _, none⟩) (fun h => absurd h (by dsimp only; omega)) _

end Go.Proofs.Ytccgnnnildedoaa
