/-
  The walk through the law SpaceWhole.
  Conditions: none.
-/
import Derived.Test.YtenphgmohhdjeaaLawSpace
set_option linter.unusedVariables false
namespace Go.Proofs.Ytenphgmohhdjeaa
open Go.RowKit

theorem class01 {k : Nat} (h : ClassOf 1 k) : k = 0 := h.uniq ⟨by decide, fun j hj => absurd hj (by omega)⟩

set_option maxRecDepth 100000 in
set_option maxHeartbeats 4000000 in
theorem whole_walk (x y z b s t : Int) (w : World) (Hb : Hid (b = pk x 1000)) (Hs : Hid (s = pk y 300)) (Ht : Hid (t = pk z (s + 1)))
    (hb0 : 0 ≤ b) (hb1 : b < 1000) (hs0 : 0 ≤ s) (hs1 : s < 300) (ht0 : 0 ≤ t) (ht1 : t < s + 1)
    (l0 : -9223372036854775808 ≤ x) (g0 : x ≤ 9223372036854775807) (l1 : -9223372036854775808 ≤ y) (g1 : y ≤ 9223372036854775807) (l2 : -9223372036854775808 ≤ z) (g2 : z ≤ 9223372036854775807) :
    Calls Try.prog 15 #[.agg #[.int .i64 x, .int .i64 y, .int .i64 z]] w fun e w' => e = .returned (.bool true) ∧ Kept NoBlk w w' := by
  have hR : RightSp b s (b + t) := ⟨by omega, by omega, by omega, by omega, by omega, by omega⟩
  have hR0 : RightSp b s b := ⟨by omega, by omega, by omega, by omega, by omega, by omega⟩
  go_enter Try.func15, Try.ntmps15
  go_wp2_with fail
  refine (awake05 _).mono ?_
  rintro e w1 ⟨rfl, hK⟩
  have hr := (Bk.new w 51 (#[.int .i64 x, .int .i64 y, .int .i64 z] : Array Value)).kept hK id
  replace hK := ((Kept.refl NoBlk w).alloc (.cells #[.int .i64 x, .int .i64 y, .int .i64 z] 51)).trans hK
  have c0 := hr.cell 0
  have c1 := hr.cell 1
  have c2 := hr.cell 2
  go_wp2_with fail
  refine (fit05 x y z b s t Hb Hs Ht hb0 hb1 hs0 hs1 ht0 ht1 l0 g0 l1 g1 l2 g2 _).mono ?_
  rintro e w2 ⟨rfl, hK2⟩
  have hw2 : w.heap.size ≤ w2.heap.size := (hK.trans hK2).size
  have hs := Bk.new w2 53 (#[.int .i64 b, .int .i64 s, .int .i64 (b + t)] : Array Value)
  replace hK := (hK.trans hK2).alloc (.cells #[.int .i64 b, .int .i64 s, .int .i64 (b + t)] 53)
  clear hK2 hr c0 c1 c2
  generalize hwc : w2.alloc (.cells #[.int .i64 b, .int .i64 s, .int .i64 (b + t)] 53) = w3
  rw [hwc] at hs hK
  have c0 := hs.cell 0
  have c1 := hs.cell 1
  have c2 := hs.cell 2
  go_wp2_with fail
  refine (left_yes hR _).mono ?_
  rintro e w4 ⟨rfl, hK4⟩
  have t1 : s - (b + t - b) = s - t := by omega
  rw [t1]
  clear t1
  clear c0 c1 c2
  replace hs := hs.kept hK4 id
  replace hK := hK.trans hK4
  clear hK4
  go_wp2_with fail
  have q1 : 4 * ((s - t) / 4) ≤ s - t := by omega
  have q2 : s - t < 4 * ((s - t) / 4) + 4 := by omega
  have q0 : 0 ≤ (s - t) / 4 := by omega
  generalize (s - t) / 4 = m at q0 q1 q2 ⊢
  go_loopw [6] (fun vi wr => ∃ (j : Nat) (u : Int), (j : Int) ≤ m ∧ vi = .int .i64 j ∧ b ≤ u ∧ u + 4 * (m - j) ≤ b + s ∧ b + s < u + 4 * (m - j) + 4 ∧ Bk wr w2.heap.size 53 #[.int .i64 b, .int .i64 s, .int .i64 u] ∧ Kept NoBlk w wr) (fun vi _ => (m - intOf vi).toNat)
  case atStart => exact ⟨0, b + t, by omega, rfl, by omega, by omega, by omega, hs, hK⟩
  case round =>
    obtain ⟨j, u, hj, rfl, hu1, hu2, hu3, hsr, hKr⟩ := hrel
    have c0 := hsr.cell 0
    have c1 := hsr.cell 1
    have c2 := hsr.cell 2
    have h4 : csz 0 = 4 := by decide
    by_cases hlt : (j : Int) < m
    · go_wp2_with fail
      refine (take_yes (b := b) (s := s) (t := u) 1 (by omega) (by omega) ⟨by omega, by omega, by omega, by omega, by omega, by omega⟩ _).mono ?_
      rintro e w5 ⟨k, hk, hK5, h⟩
      obtain rfl := class01 hk
      rw [h4] at h
      clear hk h4
      rcases h with ⟨-, rfl⟩ | ⟨h, -⟩
      case inr => omega
      clear c0 c1 c2
      replace hsr := hsr.kept hK5 id
      replace hKr := hKr.trans hK5
      clear hK5
      have c0 := hsr.cell 0
      have c1 := hsr.cell 1
      have c2 := hsr.cell 2
      have f0 := hsr.frozen 0
      have f1 := hsr.frozen 1
      have f2 := hsr.frozen 2
      have hsz := hsr.lt
      go_wp2
      go_roundw
      case rel =>
        refine ⟨j + 1, u + 4, by omega, by go_num, by omega, by omega, by omega, ?_, ?_⟩
        · exact (((hsr.set_ 0 (.int .i64 b)).set_ 1 (.int .i64 s)).set_ 2 (.int .i64 (u + 4))).alloc _
        · exact (((hKr.setCell (p := ⟨_, _, none⟩) (fun h => absurd h (by dsimp only; omega)) _).setCell (p := ⟨_, _, none⟩) (fun h => absurd h (by dsimp only; omega)) _).setCell (p := ⟨_, _, none⟩) (fun h => absurd h (by dsimp only; omega)) _).alloc _
      case measure => simp [intOf]; omega
    · have hjm : (j : Int) = m := by omega
      go_wp2_with fail
      refine (take_yes (b := b) (s := s) (t := u) 1 (by omega) (by omega) ⟨by omega, by omega, by omega, by omega, by omega, by omega⟩ _).mono ?_
      rintro e w5 ⟨k, hk, hK5, h⟩
      obtain rfl := class01 hk
      rw [h4] at h
      clear hk h4
      rcases h with ⟨h, -⟩ | ⟨-, rfl⟩
      case inl => omega
      have hRu : RightSp b s u := ⟨by omega, by omega, by omega, by omega, by omega, by omega⟩
      clear c0 c1 c2
      replace hsr := hsr.kept hK5 id
      replace hKr := hKr.trans hK5
      clear hK5
      replace hsr := hsr.alloc (.cells #[.int .i64 b, .int .i64 s, .int .i64 u] 53)
      replace hKr := hKr.alloc (.cells #[.int .i64 b, .int .i64 s, .int .i64 u] 53)
      have c0 := hsr.cell 0
      have c1 := hsr.cell 1
      have c2 := hsr.cell 2
      go_wp2_with fail
      refine (empty_yes hRu _).mono ?_
      rintro e w6 ⟨rfl, hK6⟩
      clear c0 c1 c2
      replace hsr := hsr.kept hK6 id
      replace hKr := hKr.trans hK6
      clear hK6
      have hsz := hsr.lt
      have he := Bk.new w6 53 (#[.int .i64 b, .int .i64 s, .int .i64 b] : Array Value)
      replace hsr := hsr.alloc (.cells #[.int .i64 b, .int .i64 s, .int .i64 b] 53)
      replace hKr := hKr.alloc (.cells #[.int .i64 b, .int .i64 s, .int .i64 b] 53)
      generalize hwe : w6.alloc (.cells #[.int .i64 b, .int .i64 s, .int .i64 b] 53) = w7
      rw [hwe] at hsr hKr he
      have c0 := hsr.cell 0
      have c1 := hsr.cell 1
      have c2 := hsr.cell 2
      have d0 := he.cell 0
      have d1 := he.cell 1
      have d2 := he.cell 2
      have hL : ∀ u', RightSp b s u' → ∀ W, Calls Try.prog 49 #[.agg #[.int .i64 b, .int .i64 s, .int .i64 u']] W fun e w' => e = .returned (.int .i64 (s - (u' - b))) ∧ Kept NoBlk W w' := fun u' h W => left_yes h W
      have hU2 : ∀ W, Calls Try.prog 46 #[.agg #[.int .i64 b, .int .i64 s, .int .i64 b]] W fun e w' => e = .returned (.int .i64 0) ∧ Kept NoBlk W w' := fun W => (used_yes hR0 W).mono fun e w' h => ⟨h.1.trans (ret_int (by omega)), h.2⟩
      have hH2 : ∀ W, Calls Try.prog 44 #[.agg #[.int .i64 b, .int .i64 s, .int .i64 b], .int .i64 b] W fun e w' => e = .returned (.bool false) ∧ Kept NoBlk W w' := fun W => (has_yes b hR0 W).mono fun e w' h => ⟨h.1.trans (by simp), h.2⟩
      have hlt4 : s - (u - b) < 4 := by omega
      have hx : (s - (b - b) == s) = true := beq_iff_eq.2 (by omega)
      go_wp2_with fail
      go_region_held3 (fun W => W.cell? ⟨w2.heap.size, 0, none⟩ = some (.int .i64 b) ∧ W.cell? ⟨w2.heap.size, 1, none⟩ = some (.int .i64 s) ∧ W.cell? ⟨w2.heap.size, 2, none⟩ = some (.int .i64 u) ∧ W.cell? ⟨w6.heap.size, 0, none⟩ = some (.int .i64 b) ∧ W.cell? ⟨w6.heap.size, 1, none⟩ = some (.int .i64 s) ∧ W.cell? ⟨w6.heap.size, 2, none⟩ = some (.int .i64 b) ∧ Kept NoBlk w W)
            (first
              | exact ⟨c0, c1, c2, d0, d1, d2, hKr⟩
              | (go_split_ands; exact ⟨‹_›, ‹_›, ‹_›, ‹_›, ‹_›, ‹_›, ‹_›⟩)
              | (go_split_ands; exact ⟨‹_›, ‹_›, ‹_›, ‹_›, ‹_›, ‹_›, Kept.drew ‹_›⟩)
              | (go_split_ands; exact ⟨hKc.cell_some ‹_›, hKc.cell_some ‹_›, hKc.cell_some ‹_›, hKc.cell_some ‹_›, hKc.cell_some ‹_›, hKc.cell_some ‹_›, Kept.trans ‹Kept NoBlk w _› hKc⟩))
            (first
              | (go_at_call 49; refine (hL _ (by first | exact hRu | exact hR0) _).mono ?_; rintro e wc ⟨rfl, hKc⟩)
              | (go_at_call 46; refine (hU2 _).mono ?_; rintro e wc ⟨rfl, hKc⟩)
              | (go_at_call 44; refine (hH2 _).mono ?_; rintro e wc ⟨rfl, hKc⟩))
      go_wp2
      go_ret
      exact ⟨rfl, by (go_split_ands; assumption)⟩

end Go.Proofs.Ytenphgmohhdjeaa
