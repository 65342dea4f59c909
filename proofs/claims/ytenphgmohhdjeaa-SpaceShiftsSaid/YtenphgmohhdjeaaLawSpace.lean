/-
  The walks through the laws of layer 5 (SpaceHas, SpaceTakes, SpaceWhole, SpaceShifts).
  Conditions: none.
-/
import Derived.Test.YtenphgmohhdjeaaSpace
import Derived.Test.YtenphgmohhdjeaaPick05
import Derived.Test.YtenphgmohhdjeaaPk
import Derived.Test.YtenphgmohhdjeaaHeld
import Derived.StillTailTactics
set_option linter.unusedVariables false
namespace Go.Proofs.Ytenphgmohhdjeaa
open Go.RowKit

theorem class05 {k : Nat} (h : ClassOf 5 k) : k = 1 := h.uniq ⟨by decide, fun j hj => by
  match j, hj with
  | 0, _ => decide⟩

set_option maxRecDepth 100000 in
set_option maxHeartbeats 1000000 in
theorem awake05 (w : World) :
    Calls Try.prog 42 #[] w fun e w' => e = .returned (.bool true) ∧ Kept NoBlk w w' := by
  go_enter Try.func42, Try.ntmps42
  go_wp2_with fail
  refine (make_yes (b := 10) (s := 20) ⟨by omega, by omega, by omega, by omega, by omega, by omega⟩ _).mono ?_
  rintro e w1 ⟨rfl, hK1⟩
  go_wp2_with fail
  refine (take_yes (b := 10) (s := 20) (t := 10) 5 (by omega) (by omega) ⟨by omega, by omega, by omega, by omega, by omega, by omega⟩ _).mono ?_
  rintro e w2 ⟨k, hk, hK2, h⟩
  obtain rfl := class05 hk
  have h6 : csz 1 = 6 := by decide
  rw [h6] at h
  clear hk
  rcases h with ⟨-, rfl⟩ | ⟨h, -⟩
  case inr => omega
  have t1 : (10 : Int) + 6 = 16 := by omega
  rw [t1]
  clear t1
  go_wp2_with fail
  refine (take_yes (b := 10) (s := 20) (t := 16) 5 (by omega) (by omega) ⟨by omega, by omega, by omega, by omega, by omega, by omega⟩ _).mono ?_
  rintro e w3 ⟨k, hk, hK3, h⟩
  obtain rfl := class05 hk
  rw [h6] at h
  clear hk
  rcases h with ⟨-, rfl⟩ | ⟨h, -⟩
  case inr => omega
  have t1 : (16 : Int) + 6 = 22 := by omega
  rw [t1]
  clear t1 h6
  go_wp2_with fail
  refine (used_yes (b := 10) (s := 20) (t := 22) ⟨by omega, by omega, by omega, by omega, by omega, by omega⟩ _).mono ?_
  rintro e w4 ⟨rfl, hK4⟩
  have hu := (Bk.new w3 53 (#[.int .i64 10, .int .i64 20, .int .i64 22] : Array Value)).kept hK4 id
  have hK := (((hK1.alloc (.cells #[.int .i64 10, .int .i64 20, .int .i64 10] 53)).trans hK2).alloc (.cells #[.int .i64 10, .int .i64 20, .int .i64 16] 53)).trans hK3
  replace hK := (hK.alloc _).trans hK4
  clear hK1 hK2 hK3 hK4
  have c0 := hu.cell 0
  have c1 := hu.cell 1
  have c2 := hu.cell 2
  have t1 : (22 : Int) - 10 = 12 := by omega
  rw [t1]
  clear t1
  go_wp2_with fail
  refine (left_yes (b := 10) (s := 20) (t := 22) ⟨by omega, by omega, by omega, by omega, by omega, by omega⟩ _).mono ?_
  rintro e w5 ⟨rfl, hK5⟩
  replace hu := hu.kept hK5 id
  replace hK := hK.trans hK5
  clear hK5 c0 c1 c2
  have c0 := hu.cell 0
  have c1 := hu.cell 1
  have c2 := hu.cell 2
  have t1 : (20 : Int) - (22 - 10) = 8 := by omega
  rw [t1]
  clear t1
  go_wp2_with fail
  refine (has_yes (b := 10) (s := 20) (t := 22) 21 ⟨by omega, by omega, by omega, by omega, by omega, by omega⟩ _).mono ?_
  rintro e w6 ⟨rfl, hK5⟩
  replace hu := hu.kept hK5 id
  replace hK := hK.trans hK5
  clear hK5 c0 c1 c2
  have c0 := hu.cell 0
  have c1 := hu.cell 1
  have c2 := hu.cell 2
  have t1 : (decide ((10 : Int) ≤ 21) && decide ((21 : Int) < 22)) = true := by decide
  rw [t1]
  clear t1
  go_wp2_with fail
  refine (has_yes (b := 10) (s := 20) (t := 22) 22 ⟨by omega, by omega, by omega, by omega, by omega, by omega⟩ _).mono ?_
  rintro e w7 ⟨rfl, hK5⟩
  replace hK := hK.trans hK5
  clear hK5 c0 c1 c2
  have t1 : (decide ((10 : Int) ≤ 22) && decide ((22 : Int) < 22)) = false := by decide
  rw [t1]
  clear t1
  go_wp2
  go_ret
  exact ⟨rfl, hK⟩

set_option maxRecDepth 100000 in
set_option maxHeartbeats 1000000 in
theorem fit05 (x y z b s t : Int) (Hb : Hid (b = pk x 1000)) (Hs : Hid (s = pk y 300)) (Ht : Hid (t = pk z (s + 1))) (hb0 : 0 ≤ b) (hb1 : b < 1000) (hs0 : 0 ≤ s) (hs1 : s < 300) (ht0 : 0 ≤ t) (ht1 : t < s + 1)
    (l0 : -9223372036854775808 ≤ x) (g0 : x ≤ 9223372036854775807) (l1 : -9223372036854775808 ≤ y) (g1 : y ≤ 9223372036854775807) (l2 : -9223372036854775808 ≤ z) (g2 : z ≤ 9223372036854775807) (w : World) :
    Calls Try.prog 43 #[.int .i64 x, .int .i64 y, .int .i64 z] w fun e w' => e = .returned (.agg #[.int .i64 b, .int .i64 s, .int .i64 (b + t)]) ∧ Kept NoBlk w w' := by
  go_enter Try.func43, Try.ntmps43
  go_wp2_with fail
  refine (pick05r Hb (by omega) l0 g0 (by omega) _).mono ?_
  rintro e w0 ⟨rfl, rfl⟩
  go_wp2_with fail
  refine (pick05r Hs (by omega) l1 g1 (by omega) _).mono ?_
  rintro e w0 ⟨rfl, rfl⟩
  have hb := Bk.new w 53 (#[.int .i64 0, .int .i64 0, .int .i64 0] : Array Value)
  have hK := (Kept.refl NoBlk w).alloc (.cells #[.int .i64 0, .int .i64 0, .int .i64 0] 53)
  generalize w.alloc (.cells #[.int .i64 0, .int .i64 0, .int .i64 0] 53) = wa at hb hK ⊢
  have f0 := hb.frozen 0
  have f1 := hb.frozen 1
  have f2 := hb.frozen 2
  have d0 := hb.cell 0
  have d1 := hb.cell 1
  have d2 := hb.cell 2
  go_wp2_with fail
  have hne : w.heap.size < wa.heap.size := hb.lt
  replace hb := hb.alloc (.cells #[.int .i64 b, .int .i64 s, .int .i64 0] 53)
  have hb2 := Bk.new wa 53 (#[.int .i64 b, .int .i64 s, .int .i64 0] : Array Value)
  have hK2 := hK.alloc (.cells #[.int .i64 b, .int .i64 s, .int .i64 0] 53)
  generalize wa.alloc (.cells #[.int .i64 b, .int .i64 s, .int .i64 0] 53) = wb at hb hb2 hK2 ⊢
  clear f0 f1 f2 d0 d1 d2
  have d0 := hb2.cell 0
  have d1 := hb2.cell 1
  have d2 := hb2.cell 2
  have f2 := hb2.frozen 2
  have hw : IntKind.i64.wrap (s + 1) = s + 1 := IntWalk.i64_in _ (by omega)
  have hw2 : IntKind.i64.wrap (b + t) = b + t := IntWalk.i64_in _ (by omega)
  have P5 : ∀ W, Calls Try.prog 45 #[.int .i64 z, .int .i64 (s + 1)] W fun e w' => e = .returned (.int .i64 t) ∧ w' = W := fun W => (pick05r Ht (by omega) l2 g2 (by omega) W).mono fun e w' h => ⟨h.1, h.2.symm⟩
  go_still_tail 8, (by kernel_rfl)
  still_call (P5 _)
  repeat still_step
  refine wpStill_nil ?_
  clear hw hw2 P5
  change wpList _ _ _ _ _ wb.drew
  replace hb := hb.drew
  replace hb2 := hb2.drew
  replace hK2 := hK2.drew
  generalize wb.drew = wc at hb hb2 hK2 ⊢
  clear d0 d1 d2 f2
  have d0 := hb2.cell 0
  have d1 := hb2.cell 1
  have d2 := hb2.cell 2
  have f2 := hb2.frozen 2
  have c0 := hb.cell 0
  have c1 := hb.cell 1
  have c2 := hb.cell 2
  have f0 := hb.frozen 0
  have f1 := hb.frozen 1
  have f2' := hb.frozen 2
  go_wp2
  have hb3 := (((hb.far (p := ⟨wa.heap.size, 2, none⟩) (by dsimp only; omega) (.int .i64 (b + t))).set_ 0 (.int .i64 b)).set_ 1 (.int .i64 s)).set_ 2 (.int .i64 (b + t))
  have e0 := hb3.cell 0
  have e1 := hb3.cell 1
  have e2 := hb3.cell 2
  have hwa : w.heap.size < wa.heap.size := hne
  refine bodyPost_ret (v := .agg #[.int .i64 b, .int .i64 s, .int .i64 (b + t)]) (by simp [results, Try.results43, go_sem, e0, e1, e2]) rfl ⟨rfl, ?_⟩
  exact (((hK2.setCell (p := ⟨_, _, none⟩) (fun h => absurd h (by dsimp only; omega)) _).setCell (p := ⟨_, _, none⟩) (fun h => absurd h (by dsimp only; omega)) _).setCell (p := ⟨_, _, none⟩) (fun h => absurd h (by dsimp only; omega)) _).setCell (p := ⟨_, _, none⟩) (fun h => absurd h (by dsimp only; omega)) _

set_option maxRecDepth 100000 in
set_option maxHeartbeats 4000000 in
theorem has_walk (x y z at_ b s t p : Int) (w : World) (Hb : Hid (b = pk x 1000)) (Hs : Hid (s = pk y 300)) (Ht : Hid (t = pk z (s + 1))) (Hp : Hid (p = pk at_ 1400))
    (hb0 : 0 ≤ b) (hb1 : b < 1000) (hs0 : 0 ≤ s) (hs1 : s < 300) (ht0 : 0 ≤ t) (ht1 : t < s + 1) (hp0 : 0 ≤ p) (hp1 : p < 1400)
    (l0 : -9223372036854775808 ≤ x) (g0 : x ≤ 9223372036854775807) (l1 : -9223372036854775808 ≤ y) (g1 : y ≤ 9223372036854775807) (l2 : -9223372036854775808 ≤ z) (g2 : z ≤ 9223372036854775807)
    (l3 : -9223372036854775808 ≤ at_) (g3 : at_ ≤ 9223372036854775807) :
    Calls Try.prog 13 #[.agg #[.int .i64 x, .int .i64 y, .int .i64 z], .int .i64 at_] w fun e w' => e = .returned (.bool true) ∧ Kept NoBlk w w' := by
  have hR : RightSp b s (b + t) := ⟨by omega, by omega, by omega, by omega, by omega, by omega⟩
  go_enter Try.func13, Try.ntmps13
  go_wp2_with fail
  refine (awake05 _).mono ?_
  rintro e w1 ⟨rfl, hK⟩
  have hr := (Bk.new w 51 (#[.int .i64 x, .int .i64 y, .int .i64 z] : Array Value)).kept hK id
  replace hK := ((Kept.refl NoBlk w).alloc (.cells #[.int .i64 x, .int .i64 y, .int .i64 z] 51)).trans hK
  have c0 := hr.cell 0
  have c1 := hr.cell 1
  have c2 := hr.cell 2
  go_wp2_with fail
  refine (fit05 x y z b s t Hb Hs Ht hb0 hb1 hs0 hs1 ht0 ht1 l0 g0 l1 g1 l2 g2 _).mono ?_
  rintro e w2 ⟨rfl, hK2⟩
  have hw2 : w.heap.size ≤ w2.heap.size := (hK.trans hK2).size
  have hs := Bk.new w2 53 (#[.int .i64 b, .int .i64 s, .int .i64 (b + t)] : Array Value)
  replace hK := (hK.trans hK2).alloc (.cells #[.int .i64 b, .int .i64 s, .int .i64 (b + t)] 53)
  clear hK2 hr c0 c1 c2
  generalize hwc : w2.alloc (.cells #[.int .i64 b, .int .i64 s, .int .i64 (b + t)] 53) = w3
  rw [hwc] at hs hK
  go_wp2_with fail
  go_loopw [7, 8] (fun vn vi wr => ∃ (j : Nat) (n : Int), (j : Int) ≤ s ∧ vn = .int .i64 n ∧ vi = .int .i64 j ∧ Hid (n = min (j : Int) t) ∧ 0 ≤ n ∧ n ≤ j ∧ Bk wr w2.heap.size 53 #[.int .i64 b, .int .i64 s, .int .i64 (b + t)] ∧ Kept NoBlk w wr) (fun _ vi _ => (s - intOf vi).toNat)
  case atStart => exact ⟨0, 0, by omega, rfl, rfl, Lib.hid (by omega), by omega, by omega, hs, hK⟩
  case round =>
    obtain ⟨j, n, hj, rfl, rfl, Hn, hn0, hn1, hsr, hKr⟩ := hrel
    have c0 := hsr.cell 0
    have c1 := hsr.cell 1
    have c2 := hsr.cell 2
    by_cases hlt : (j : Int) < s
    · go_wp2_with fail
      refine (has_yes (b + j) hR _).mono ?_
      rintro e w4 ⟨rfl, hK4⟩
      clear c0 c1 c2
      replace hsr := hsr.kept hK4 id
      replace hKr := hKr.trans hK4
      by_cases ht : (j : Int) < t
      · have t1 : (decide (b ≤ b + (j : Int)) && decide (b + (j : Int) < b + t)) = true := by simp; omega
        rw [t1]
        clear t1
        go_wp2
        go_roundw
        case rel => exact ⟨j + 1, n + 1, by omega, rfl, by go_num, Lib.hid (by have := Hn.out; omega), by omega, by omega, hsr, hKr⟩
        case measure => simp [intOf]; omega
      · have t1 : (decide (b ≤ b + (j : Int)) && decide (b + (j : Int) < b + t)) = false := by simp; omega
        rw [t1]
        clear t1
        go_wp2
        go_roundw
        case rel => exact ⟨j + 1, n, by omega, rfl, by go_num, Lib.hid (by have := Hn.out; omega), by omega, by omega, hsr, hKr⟩
        case measure => simp [intOf]; omega
    · have hnt : n = t := by have := Hn.out; omega
      clear Hn
      obtain rfl := hnt
      go_wp2_with fail
      refine (pick05r Hp (by omega) l3 g3 (by omega) _).mono ?_
      rintro e w0 ⟨rfl, rfl⟩
      go_wp2_with fail
      have hsz := hKr.size
      have hU : ∀ W, Calls Try.prog 46 #[.agg #[.int .i64 b, .int .i64 s, .int .i64 (b + n)]] W fun e w' => e = .returned (.int .i64 n) ∧ Kept NoBlk W w' := fun W => (used_yes hR W).mono fun e w' h => ⟨h.1.trans (ret_int (by omega)), h.2⟩
      have hw : IntKind.i64.wrap (b + n) = b + n := IntWalk.i64_in _ (by omega)
      have hb1' : (1 : Int) ≤ 2 := by omega
      by_cases h1 : b ≤ p
      · have hx : (decide (b ≤ p)) = true := decide_eq_true h1
        have hH : ∀ W, Calls Try.prog 44 #[.agg #[.int .i64 b, .int .i64 s, .int .i64 (b + n)], .int .i64 p] W fun e w' => e = .returned (.bool (decide (p < b + n))) ∧ Kept NoBlk W w' := fun W => (has_yes p hR W).mono fun e w' h => ⟨h.1.trans (by simp [h1]), h.2⟩
        go_region_held3 (fun W => W.cell? ⟨w2.heap.size, 0, none⟩ = some (.int .i64 b) ∧ W.cell? ⟨w2.heap.size, 1, none⟩ = some (.int .i64 s) ∧ W.cell? ⟨w2.heap.size, 2, none⟩ = some (.int .i64 (b + n)) ∧ Kept NoBlk w W)
            (first
              | exact ⟨c0, c1, c2, hKr⟩
              | (go_split_ands; exact ⟨‹_›, ‹_›, ‹_›, ‹_›⟩)
              | (go_split_ands; exact ⟨‹_›, ‹_›, ‹_›, Kept.drew ‹_›⟩)
              | (go_split_ands; exact ⟨hKc.cell_some ‹_›, hKc.cell_some ‹_›, hKc.cell_some ‹_›, Kept.trans ‹Kept NoBlk w _› hKc⟩))
            (first
              | (go_at_call 46; refine (hU _).mono ?_; rintro e wc ⟨rfl, hKc⟩)
              | (go_at_call 44; refine (hH _).mono ?_; rintro e wc ⟨rfl, hKc⟩))
        go_wp2
        go_ret
        exact ⟨rfl, by (go_split_ands; assumption)⟩
      · have hx : (decide (b ≤ p)) = false := decide_eq_false h1
        have hH : ∀ W, Calls Try.prog 44 #[.agg #[.int .i64 b, .int .i64 s, .int .i64 (b + n)], .int .i64 p] W fun e w' => e = .returned (.bool false) ∧ Kept NoBlk W w' := fun W => (has_yes p hR W).mono fun e w' h => ⟨h.1.trans (by rw [hx]; rfl), h.2⟩
        held_start (fun W => W.cell? ⟨w2.heap.size, 0, none⟩ = some (.int .i64 b) ∧ W.cell? ⟨w2.heap.size, 1, none⟩ = some (.int .i64 s) ∧ W.cell? ⟨w2.heap.size, 2, none⟩ = some (.int .i64 (b + n)) ∧ Kept NoBlk w W) (exact ⟨c0, c1, c2, hKr.drew⟩)
        held_op 0
        held_op 1
        held_op 2
        held_op 3
        held_call 4 ((go_at_call 46; refine (hU _).mono ?_; rintro e wc ⟨rfl, hKc⟩)) ((go_split_ands; exact ⟨hKc.cell_some ‹_›, hKc.cell_some ‹_›, hKc.cell_some ‹_›, Kept.trans ‹Kept NoBlk w _› hKc⟩))
        held_op 5
        held_op 6
        held_op 7
        held_op 8
        held_op 9
        held_op 11
        held_op 12
        held_op 13
        held_op 14
        held_call 10 ((go_at_call 44; refine (hH _).mono ?_; rintro e wc ⟨rfl, hKc⟩)) ((go_split_ands; exact ⟨hKc.cell_some ‹_›, hKc.cell_some ‹_›, hKc.cell_some ‹_›, Kept.trans ‹Kept NoBlk w _› hKc⟩))
        held_op 15
        held_skip 16
        held_skip 17
        held_skip 18
        held_skip 19
        held_skip 20
        held_skip 21
        held_op 22
        held_op 23
        held_op 24
        held_op 25
        held_end
        go_wp2
        go_ret
        exact ⟨rfl, by (go_split_ands; assumption)⟩

end Go.Proofs.Ytenphgmohhdjeaa
