/-
  The walk through the law SpaceTakes.
  Conditions: none.
-/
import Derived.Test.YtenphgmohhdjeaaLawWhole
import Derived.Test.YtenphgmohhdjeaaU64s
import Derived.Test.YtenphgmohhdjeaaArr
set_option linter.unusedVariables false
namespace Go.Proofs.Ytenphgmohhdjeaa
open Go.RowKit

set_option maxRecDepth 100000 in
set_option maxHeartbeats 4000000 in
theorem takes_walk (x y z b s t : Int) (A : Option Addr) (len cap : Nat) (w : World) (Hb : Hid (b = pk x 1000)) (Hs : Hid (s = pk y 300)) (Ht : Hid (t = pk z (s + 1)))
    (hb0 : 0 ≤ b) (hb1 : b < 1000) (hs0 : 0 ≤ s) (hs1 : s < 300) (ht0 : 0 ≤ t) (ht1 : t < s + 1)
    (l0 : -9223372036854775808 ≤ x) (g0 : x ≤ 9223372036854775807) (l1 : -9223372036854775808 ≤ y) (g1 : y ≤ 9223372036854775807) (l2 : -9223372036854775808 ≤ z) (g2 : z ≤ 9223372036854775807)
    (hlen : len ≤ 9223372036854775807) (hL : ∀ i, i < len → I64In w w.heap.size A i) :
    Calls Try.prog 14 #[.agg #[.int .i64 x, .int .i64 y, .int .i64 z], .slice A len cap] w fun e w' => e = .returned (.bool true) ∧ Kept NoBlk w w' := by
  have hR : RightSp b s (b + t) := ⟨by omega, by omega, by omega, by omega, by omega, by omega⟩
  have hR0 : RightSp b s b := ⟨by omega, by omega, by omega, by omega, by omega, by omega⟩
  have HL := Lib.hid hL
  clear hL
  go_enter Try.func14, Try.ntmps14
  go_wp2_with fail
  refine (awake05 _).mono ?_
  rintro e w1 ⟨rfl, hK⟩
  have hr := (Bk.new w 51 (#[.int .i64 x, .int .i64 y, .int .i64 z] : Array Value)).kept hK id
  replace hK := ((Kept.refl NoBlk w).alloc (.cells #[.int .i64 x, .int .i64 y, .int .i64 z] 51)).trans hK
  have c0 := hr.cell 0
  have c1 := hr.cell 1
  have c2 := hr.cell 2
  go_wp2_with fail
  refine (fit05 x y z b s t Hb Hs Ht hb0 hb1 hs0 hs1 ht0 ht1 l0 g0 l1 g1 l2 g2 _).mono ?_
  rintro e w2 ⟨rfl, hK2⟩
  replace hK := hK.trans hK2
  clear hK2 hr c0 c1 c2
  go_wp2_with fail
  refine (empty_yes hR _).mono ?_
  rintro e w2' ⟨rfl, hK2⟩
  have hw2 : w.heap.size ≤ w2'.heap.size := (hK.trans hK2).size
  have hs := Bk.new w2' 53 (#[.int .i64 b, .int .i64 s, .int .i64 b] : Array Value)
  replace hK := (hK.trans hK2).alloc (.cells #[.int .i64 b, .int .i64 s, .int .i64 b] 53)
  clear hK2
  generalize hwc : w2'.alloc (.cells #[.int .i64 b, .int .i64 s, .int .i64 b] 53) = w3
  rw [hwc] at hs hK
  have c0 := hs.cell 0
  have c1 := hs.cell 1
  have c2 := hs.cell 2
  go_wp2_with fail
  go_loopw [7, 8] (fun ve vi wr => ∃ (j : Nat) (u : Int), (j : Int) ≤ 30 ∧ ve = .int .i64 u ∧ vi = .int .i64 j ∧ b ≤ u ∧ u ≤ b + s ∧ Bk wr w2'.heap.size 53 #[.int .i64 b, .int .i64 s, .int .i64 u] ∧ Kept NoBlk w wr) (fun _ vi _ => (30 - intOf vi).toNat)
  case atStart => exact ⟨0, b, by omega, rfl, rfl, by omega, by omega, hs, hK⟩
  case round =>
    obtain ⟨j, u, hj, rfl, rfl, hu1, hu2, hsr, hKr⟩ := hrel
    have c0 := hsr.cell 0
    have c1 := hsr.cell 1
    have c2 := hsr.cell 2
    have hRu : RightSp b s u := ⟨by omega, by omega, by omega, by omega, by omega, by omega⟩
    by_cases hlt : j < len ∧ j < 30
    · obtain ⟨hlt, hlt2⟩ := hlt
      obtain ⟨bb, off, x', rfl, hbb, cx, wx⟩ := HL.out j hlt
      have hbx := bd_i64 wx
      have cx' := hKr.cell id cx
      clear cx wx
      obtain ⟨r, Hr⟩ : ∃ r, Hid (r = pk x' 40) := ⟨_, rfl⟩
      have hrb : 0 ≤ r ∧ r < 40 := by have := pk_bd x' 40 (by omega); rw [Hr.out]; exact this
      obtain ⟨hr0, hr1⟩ := hrb
      obtain ⟨hx0, hx1⟩ := hbx
      have e0 : (0 : Int) ≤ (j : Int) := by omega
      have e1 : (j : Int) < (len : Int) := by omega
      have e2 : (j : Int) < 30 := by omega
      go_wp2_with fail
      refine (pick05r Hr (by omega) hx0 hx1 (by omega) _).mono ?_
      rintro e w0 ⟨rfl, rfl⟩
      go_wp2_with fail
      refine (round_yes (1 + r) (by omega) (by omega) _).mono ?_
      rintro e w4 ⟨k, hk, rfl, hK4⟩
      have hc4 := csz_pos k
      have hcb := Int.le_trans (csz_le (hk.le28 (by omega))) (Int.le_of_eq csz_28)
      clear c0 c1 c2 cx'
      replace hsr := hsr.kept hK4 id
      replace hKr := hKr.trans hK4
      have c0 := hsr.cell 0
      have c1 := hsr.cell 1
      have c2 := hsr.cell 2
      clear hK4
      go_wp2_with fail
      refine (used_yes hRu _).mono ?_
      rintro e w5 ⟨rfl, hK4⟩
      clear c0 c1 c2
      replace hsr := hsr.kept hK4 id
      replace hKr := hKr.trans hK4
      have c0 := hsr.cell 0
      have c1 := hsr.cell 1
      have c2 := hsr.cell 2
      clear hK4
      go_wp2_with fail
      refine (take_yes (1 + r) (by omega) (by omega) hRu _).mono ?_
      rintro e w6 ⟨k', hk', hK4, h⟩
      obtain rfl := hk'.uniq hk
      clear hk
      clear c0 c1 c2
      replace hsr := hsr.kept hK4 id
      replace hKr := hKr.trans hK4
      clear hK4
      have hLf : ∀ W, Calls Try.prog 49 #[.agg #[.int .i64 b, .int .i64 s, .int .i64 u]] W fun e w' => e = .returned (.int .i64 (s - (u - b))) ∧ Kept NoBlk W w' := fun W => left_yes hRu W
      have hx1' : (u - b + (s - (u - b)) == s) = true := beq_iff_eq.2 (by omega)
      have hx2 : IntKind.i64.wrap (u - b + (s - (u - b))) = u - b + (s - (u - b)) := IntWalk.i64_in _ (by omega)
      generalize csz k' = c at h hc4 hcb ⊢
      rcases h with ⟨hcl, rfl⟩ | ⟨hcl, rfl⟩
      · have ht := Bk.new w6 53 (#[.int .i64 b, .int .i64 s, .int .i64 (u + c)] : Array Value)
        replace hsr := hsr.alloc (.cells #[.int .i64 b, .int .i64 s, .int .i64 (u + c)] 53)
        replace hKr := hKr.alloc (.cells #[.int .i64 b, .int .i64 s, .int .i64 (u + c)] 53)
        have hx3 : (decide (c ≤ s - (u - b))) = true := decide_eq_true hcl
        go_wp2_with fail
        generalize hwe : w6.alloc (.cells #[.int .i64 b, .int .i64 s, .int .i64 (u + c)] 53) = w7
        rw [hwe] at hsr hKr ht
        have c0 := hsr.cell 0
        have c1 := hsr.cell 1
        have c2 := hsr.cell 2
        have d0 := ht.cell 0
        have d1 := ht.cell 1
        have d2 := ht.cell 2
        go_region_held3 (fun W => W.cell? ⟨w2'.heap.size, 0, none⟩ = some (.int .i64 b) ∧ W.cell? ⟨w2'.heap.size, 1, none⟩ = some (.int .i64 s) ∧ W.cell? ⟨w2'.heap.size, 2, none⟩ = some (.int .i64 u) ∧ W.cell? ⟨w6.heap.size, 0, none⟩ = some (.int .i64 b) ∧ W.cell? ⟨w6.heap.size, 1, none⟩ = some (.int .i64 s) ∧ W.cell? ⟨w6.heap.size, 2, none⟩ = some (.int .i64 (u + c)) ∧ Kept NoBlk w7 W)
            (first
              | exact ⟨c0, c1, c2, d0, d1, d2, (Kept.refl NoBlk w7).drew⟩
              | (go_split_ands; exact ⟨‹_›, ‹_›, ‹_›, ‹_›, ‹_›, ‹_›, ‹_›⟩)
              | (go_split_ands; exact ⟨‹_›, ‹_›, ‹_›, ‹_›, ‹_›, ‹_›, Kept.drew ‹_›⟩)
              | (go_split_ands; exact ⟨hKc.cell_some ‹_›, hKc.cell_some ‹_›, hKc.cell_some ‹_›, hKc.cell_some ‹_›, hKc.cell_some ‹_›, hKc.cell_some ‹_›, Kept.trans ‹Kept NoBlk w7 _› hKc⟩))
            (first
              | (go_at_call 49; refine (hLf _).mono ?_; rintro e wc ⟨rfl, hKc⟩))
        clear hx2 c0 c1 c2 d0 d1 d2
        have hKx : Kept NoBlk w7 wc := by go_split_ands; assumption
        replace hsr := hsr.kept hKx id
        replace ht := ht.kept hKx id
        replace hKr := hKr.trans hKx
        clear hKx
        have c0 := hsr.cell 0
        have c1 := hsr.cell 1
        have c2 := hsr.cell 2
        have d0 := ht.cell 0
        have d1 := ht.cell 1
        have d2 := ht.cell 2
        have hRv : RightSp b s (u + c) := ⟨by omega, by omega, by omega, by omega, by omega, by omega⟩
        go_wp2_with fail
        refine (used_yes hRv _).mono ?_
        rintro e v1 ⟨rfl, hK4⟩
        clear c0 c1 c2 d0 d1 d2
        replace hsr := hsr.kept hK4 id
        replace ht := ht.kept hK4 id
        replace hKr := hKr.trans hK4
        clear hK4
        have c0 := hsr.cell 0
        have c1 := hsr.cell 1
        have c2 := hsr.cell 2
        have d0 := ht.cell 0
        have d1 := ht.cell 1
        have d2 := ht.cell 2
        have t1 : u + c - b = u - b + c := by omega
        rw [t1]
        clear t1
        go_wp2_with fail
        refine (has_yes u hRv _).mono ?_
        rintro e v2 ⟨rfl, hK4⟩
        clear c0 c1 c2 d0 d1 d2
        replace hsr := hsr.kept hK4 id
        replace ht := ht.kept hK4 id
        replace hKr := hKr.trans hK4
        clear hK4
        have c0 := hsr.cell 0
        have c1 := hsr.cell 1
        have c2 := hsr.cell 2
        have d0 := ht.cell 0
        have d1 := ht.cell 1
        have d2 := ht.cell 2
        have t1 : (decide (b ≤ u) && decide (u < u + c)) = true := by first | (simp; done) | (simp; omega)
        rw [t1]
        clear t1
        go_wp2_with fail
        refine (has_yes (u + c - 1) hRv _).mono ?_
        rintro e v3 ⟨rfl, hK4⟩
        clear c0 c1 c2 d0 d1 d2
        replace hsr := hsr.kept hK4 id
        replace ht := ht.kept hK4 id
        replace hKr := hKr.trans hK4
        clear hK4
        have c0 := hsr.cell 0
        have c1 := hsr.cell 1
        have c2 := hsr.cell 2
        have d0 := ht.cell 0
        have d1 := ht.cell 1
        have d2 := ht.cell 2
        have t1 : (decide (b ≤ u + c - 1) && decide (u + c - 1 < u + c)) = true := by first | (simp; done) | (simp; omega)
        rw [t1]
        clear t1
        go_wp2_with fail
        refine (has_yes (u + c) hRv _).mono ?_
        rintro e v4 ⟨rfl, hK4⟩
        clear c0 c1 c2 d0 d1 d2
        replace hsr := hsr.kept hK4 id
        replace ht := ht.kept hK4 id
        replace hKr := hKr.trans hK4
        clear hK4
        have c0 := hsr.cell 0
        have c1 := hsr.cell 1
        have c2 := hsr.cell 2
        have d0 := ht.cell 0
        have d1 := ht.cell 1
        have d2 := ht.cell 2
        have t1 : (decide (b ≤ u + c) && decide (u + c < u + c)) = false := by first | (simp; done) | (simp; omega)
        rw [t1]
        clear t1
        go_wp2_with fail
        refine (has_yes u hRu _).mono ?_
        rintro e v5 ⟨rfl, hK4⟩
        clear c0 c1 c2 d0 d1 d2
        replace hsr := hsr.kept hK4 id
        replace ht := ht.kept hK4 id
        replace hKr := hKr.trans hK4
        clear hK4
        have c0 := hsr.cell 0
        have c1 := hsr.cell 1
        have c2 := hsr.cell 2
        have d0 := ht.cell 0
        have d1 := ht.cell 1
        have d2 := ht.cell 2
        have t1 : (decide (b ≤ u) && decide (u < u)) = false := by first | (simp; done) | (simp; omega)
        rw [t1]
        clear t1
        have f0 := hsr.frozen 0
        have f1 := hsr.frozen 1
        have f2 := hsr.frozen 2
        go_wp2
        go_roundw
        case rel =>
          refine ⟨j + 1, u + c, by omega, rfl, by go_num, by omega, by omega, ?_, ?_⟩
          · exact (((hsr.set_ 0 (.int .i64 b)).set_ 1 (.int .i64 s)).set_ 2 (.int .i64 (u + c)))
          · exact ((hKr.setCell (p := ⟨_, _, none⟩) (fun h => absurd h (by dsimp only; omega)) _).setCell (p := ⟨_, _, none⟩) (fun h => absurd h (by dsimp only; omega)) _).setCell (p := ⟨_, _, none⟩) (fun h => absurd h (by dsimp only; omega)) _
        case measure => simp [intOf]; omega
      · have ht := Bk.new w6 53 (#[.int .i64 b, .int .i64 s, .int .i64 u] : Array Value)
        replace hsr := hsr.alloc (.cells #[.int .i64 b, .int .i64 s, .int .i64 u] 53)
        replace hKr := hKr.alloc (.cells #[.int .i64 b, .int .i64 s, .int .i64 u] 53)
        have hx3 : (decide (c ≤ s - (u - b))) = false := decide_eq_false (by omega)
        have hp := notStood_space
        have hm := notGuard_space
        go_wp2_with fail
        generalize hwe : w6.alloc (.cells #[.int .i64 b, .int .i64 s, .int .i64 u] 53) = w7
        rw [hwe] at hsr hKr ht
        have c0 := hsr.cell 0
        have c1 := hsr.cell 1
        have c2 := hsr.cell 2
        have d0 := ht.cell 0
        have d1 := ht.cell 1
        have d2 := ht.cell 2
        go_region_held3 (fun W => W.cell? ⟨w2'.heap.size, 0, none⟩ = some (.int .i64 b) ∧ W.cell? ⟨w2'.heap.size, 1, none⟩ = some (.int .i64 s) ∧ W.cell? ⟨w2'.heap.size, 2, none⟩ = some (.int .i64 u) ∧ W.cell? ⟨w6.heap.size, 0, none⟩ = some (.int .i64 b) ∧ W.cell? ⟨w6.heap.size, 1, none⟩ = some (.int .i64 s) ∧ W.cell? ⟨w6.heap.size, 2, none⟩ = some (.int .i64 u) ∧ Kept NoBlk w7 W)
            (first
              | exact ⟨c0, c1, c2, d0, d1, d2, (Kept.refl NoBlk w7).drew⟩
              | (go_split_ands; exact ⟨‹_›, ‹_›, ‹_›, ‹_›, ‹_›, ‹_›, ‹_›⟩)
              | (go_split_ands; exact ⟨‹_›, ‹_›, ‹_›, ‹_›, ‹_›, ‹_›, Kept.drew ‹_›⟩)
              | (go_split_ands; exact ⟨hKc.cell_some ‹_›, hKc.cell_some ‹_›, hKc.cell_some ‹_›, hKc.cell_some ‹_›, hKc.cell_some ‹_›, hKc.cell_some ‹_›, Kept.trans ‹Kept NoBlk w7 _› hKc⟩))
            (first
              | (go_at_call 49; refine (hLf _).mono ?_; rintro e wc ⟨rfl, hKc⟩))
        clear hx2 c0 c1 c2 d0 d1 d2
        have hKx : Kept NoBlk w7 wc := by go_split_ands; assumption
        replace hsr := hsr.kept hKx id
        replace ht := ht.kept hKx id
        replace hKr := hKr.trans hKx
        clear hKx
        have c0 := hsr.cell 0
        have c1 := hsr.cell 1
        have c2 := hsr.cell 2
        have d0 := ht.cell 0
        have d1 := ht.cell 1
        have d2 := ht.cell 2
        go_wp2
        go_roundw
        case rel => exact ⟨j + 1, u, by omega, rfl, by go_num, by omega, by omega, hsr, hKr⟩
        case measure => simp [intOf]; omega
    · have hRt : ∀ W, Calls Try.prog 50 #[.agg #[.int .i64 b, .int .i64 s, .int .i64 u]] W fun e w' => e = .returned (.bool true) ∧ Kept NoBlk W w' := fun W => right_yes hRu W
      have hw : IntKind.i64.wrap (b + s) = b + s := IntWalk.i64_in _ (by omega)
      rcases (show (len : Int) ≤ (j : Int) ∨ ((j : Int) < (len : Int) ∧ (30 : Int) ≤ (j : Int)) by omega) with hx | ⟨hx0, hx⟩
      all_goals
        go_wp2_with fail
        refine (right_yes hRu _).mono ?_
        rintro e w4 ⟨rfl, hK4⟩
        go_wp2
        go_ret
        exact ⟨rfl, hKr.trans hK4⟩

end Go.Proofs.Ytenphgmohhdjeaa
