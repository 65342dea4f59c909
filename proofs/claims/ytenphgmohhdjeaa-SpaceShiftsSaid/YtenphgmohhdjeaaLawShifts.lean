/-
  The walk through the law SpaceShifts.
  Conditions: none.
-/
import Derived.Test.YtenphgmohhdjeaaLawTakes
set_option linter.unusedVariables false
namespace Go.Proofs.Ytenphgmohhdjeaa
open Go.RowKit

theorem class_ex (n : Int) : ∀ m : Nat, n ≤ csz m → ∃ k, ClassOf n k
  | 0, h => ⟨0, h, fun j hj => absurd hj (by omega)⟩
  | m + 1, h => by
    by_cases hm : n ≤ csz m
    · exact class_ex n m hm
    · exact ⟨m + 1, h, fun j hj => by have := csz_le (show j ≤ m by omega); omega⟩

/-- What Take answers, of whatever number up to 40: the space's new top, and whether it was taken. -/
theorem take_any {b s t : Int} (n : Int) (h1n : 0 ≤ n) (h2n : n ≤ 65536) (h : RightSp b s t) : ∃ c : Int, 0 ≤ c ∧ c ≤ 65536 ∧ ∀ b' t' : Int, RightSp b' s t' → t' - b' = t - b → ∀ w,
    Calls Try.prog 48 #[.agg #[.int .i64 b', .int .i64 s, .int .i64 t'], .int .i64 n] w fun e w' => Kept NoBlk w w' ∧
      ((1 ≤ n ∧ c ≤ s - (t - b) ∧ e = .returned (.tuple #[.agg #[.int .i64 b', .int .i64 s, .int .i64 (t' + c)], .int .i64 t', .bool true])) ∨
       ((n < 1 ∨ s - (t - b) < c) ∧ e = .returned (.tuple #[.agg #[.int .i64 b', .int .i64 s, .int .i64 t'], .int .i64 0, .bool false]))) := by
  by_cases hn : n < 1
  · refine ⟨0, by omega, by omega, fun b' t' hR hd w => (take_no n hn w).mono fun e w' he => ⟨he.1, .inr ⟨.inl hn, he.2⟩⟩⟩
  · obtain ⟨k, hk⟩ : ∃ k, ClassOf n k := by
      exact class_ex n 28 (by rw [csz_28]; omega)
    have hc4 := csz_pos k
    have hcb := Int.le_trans (csz_le (hk.le28 h2n)) (Int.le_of_eq csz_28)
    refine ⟨csz k, by omega, hcb, fun b' t' hR hd w => (take_yes n (by omega) h2n hR w).mono ?_⟩
    rintro e w' ⟨k', hk', hK, he⟩
    obtain rfl := hk'.uniq hk
    refine ⟨hK, ?_⟩
    rcases he with ⟨h1, h2⟩ | ⟨h1, h2⟩
    · exact .inl ⟨by omega, by omega, h2⟩
    · exact .inr ⟨.inr (by omega), h2⟩

set_option maxRecDepth 100000 in
set_option maxHeartbeats 4000000 in
theorem shifts_walk (x y z by_ b s t d : Int) (A : Option Addr) (len cap : Nat) (w : World) (Hb : Hid (b = pk x 1000)) (Hs : Hid (s = pk y 300)) (Ht : Hid (t = pk z (s + 1))) (Hd : Hid (d = pk by_ 1000))
    (hb0 : 0 ≤ b) (hb1 : b < 1000) (hs0 : 0 ≤ s) (hs1 : s < 300) (ht0 : 0 ≤ t) (ht1 : t < s + 1) (hd0 : 0 ≤ d) (hd1 : d < 1000)
    (l0 : -9223372036854775808 ≤ x) (g0 : x ≤ 9223372036854775807) (l1 : -9223372036854775808 ≤ y) (g1 : y ≤ 9223372036854775807) (l2 : -9223372036854775808 ≤ z) (g2 : z ≤ 9223372036854775807)
    (l3 : -9223372036854775808 ≤ by_) (g3 : by_ ≤ 9223372036854775807)
    (hlen : len ≤ 9223372036854775807) (hL : ∀ i, i < len → I64In w w.heap.size A i) :
    Calls Try.prog 16 #[.agg #[.int .i64 x, .int .i64 y, .int .i64 z], .int .i64 by_, .slice A len cap] w fun e w' => e = .returned (.bool true) ∧ Kept NoBlk w w' := by
  have hR : RightSp b s (b + t) := ⟨by omega, by omega, by omega, by omega, by omega, by omega⟩
  have HL := Lib.hid hL
  clear hL
  go_enter Try.func16, Try.ntmps16
  go_wp2_with fail
  refine (awake05 _).mono ?_
  rintro e w1 ⟨rfl, hK⟩
  have hr := (Bk.new w 51 (#[.int .i64 x, .int .i64 y, .int .i64 z] : Array Value)).kept hK id
  replace hK := ((Kept.refl NoBlk w).alloc (.cells #[.int .i64 x, .int .i64 y, .int .i64 z] 51)).trans hK
  have c0 := hr.cell 0
  have c1 := hr.cell 1
  have c2 := hr.cell 2
  go_wp2_with fail
  refine (fit05 x y z b s t Hb Hs Ht hb0 hb1 hs0 hs1 ht0 ht1 l0 g0 l1 g1 l2 g2 _).mono ?_
  rintro e w2 ⟨rfl, hK2⟩
  replace hK := hK.trans hK2
  clear hK2 hr c0 c1 c2
  go_wp2_with fail
  refine (empty_yes hR _).mono ?_
  rintro e w2' ⟨rfl, hK2⟩
  have hw2 : w.heap.size ≤ w2'.heap.size := (hK.trans hK2).size
  have hs := Bk.new w2' 53 (#[.int .i64 b, .int .i64 s, .int .i64 b] : Array Value)
  replace hK := (hK.trans hK2).alloc (.cells #[.int .i64 b, .int .i64 s, .int .i64 b] 53)
  clear hK2
  generalize hwc : w2'.alloc (.cells #[.int .i64 b, .int .i64 s, .int .i64 b] 53) = w3
  rw [hwc] at hs hK
  have c0 := hs.cell 0
  have c1 := hs.cell 1
  have c2 := hs.cell 2
  go_wp2_with fail
  refine (pick05r Hd (by omega) l3 g3 (by omega) _).mono ?_
  rintro e w0 ⟨rfl, rfl⟩
  go_wp2_with fail
  refine (make_yes (b := b + d) (s := s) ⟨by omega, by omega, by omega, by omega, by omega, by omega⟩ _).mono ?_
  rintro e w4 ⟨rfl, hK4⟩
  clear c0 c1 c2
  have z1 : w2'.heap.size < w4.heap.size := (hs.kept hK4 id).lt
  replace hs := (hs.kept hK4 id).alloc (.cells #[.int .i64 (b + d), .int .i64 s, .int .i64 (b + d)] 53)
  have ht := Bk.new w4 53 (#[.int .i64 (b + d), .int .i64 s, .int .i64 (b + d)] : Array Value)
  replace hK := (hK.trans hK4).alloc (.cells #[.int .i64 (b + d), .int .i64 s, .int .i64 (b + d)] 53)
  have hw4 : w.heap.size ≤ w4.heap.size := Nat.le_trans hw2 (Nat.le_trans (by rw [← hwc]; simp) hK4.size)
  clear hK4
  have c0 := hs.cell 0
  have c1 := hs.cell 1
  have c2 := hs.cell 2
  go_wp2_with fail
  generalize hwf : w4.alloc (.cells #[.int .i64 (b + d), .int .i64 s, .int .i64 (b + d)] 53) = w5
  rw [hwf] at hs hK ht
  go_loopw [12] (fun vi wr => ∃ (j : Nat) (u : Int), (j : Int) ≤ 20 ∧ vi = .int .i64 j ∧ b ≤ u ∧ u ≤ b + s ∧ Bk wr w2'.heap.size 53 #[.int .i64 b, .int .i64 s, .int .i64 u] ∧ Bk wr w4.heap.size 53 #[.int .i64 (b + d), .int .i64 s, .int .i64 (u + d)] ∧ Kept NoBlk w wr) (fun vi _ => (20 - intOf vi).toNat)
  case atStart => exact ⟨0, b, by omega, rfl, by omega, by omega, hs, ht, hK⟩
  case round =>
    obtain ⟨j, u, hj, rfl, hu1, hu2, hsr, htr, hKr⟩ := hrel
    clear c0 c1 c2
    have c0 := hsr.cell 0
    have c1 := hsr.cell 1
    have c2 := hsr.cell 2
    have d0 := htr.cell 0
    have d1 := htr.cell 1
    have d2 := htr.cell 2
    have hRu : RightSp b s u := ⟨by omega, by omega, by omega, by omega, by omega, by omega⟩
    have hRv : RightSp (b + d) s (u + d) := ⟨by omega, by omega, by omega, by omega, by omega, by omega⟩
    by_cases hlt : j < len ∧ j < 20
    · obtain ⟨hlt, hlt2⟩ := hlt
      obtain ⟨bb, off, x', rfl, hbb, cx, wx⟩ := HL.out j hlt
      have hbx := bd_i64 wx
      have cx' := hKr.cell id cx
      clear cx wx
      obtain ⟨r, Hr⟩ : ∃ r, Hid (r = pk x' 40) := ⟨_, rfl⟩
      have hrb : 0 ≤ r ∧ r < 40 := by have := pk_bd x' 40 (by omega); rw [Hr.out]; exact this
      obtain ⟨hr0, hr1⟩ := hrb
      obtain ⟨hx0, hx1⟩ := hbx
      have e0 : (0 : Int) ≤ (j : Int) := by omega
      have e1 : (j : Int) < (len : Int) := by omega
      have e2 : (j : Int) < 20 := by omega
      obtain ⟨c, hc0, hc1, hT⟩ := take_any r hr0 (by omega) hRu
      have hT1 := hT b u hRu rfl
      have hT2 := hT (b + d) (u + d) hRv (by omega)
      clear hT
      go_wp2_with fail
      refine (pick05r Hr (by omega) hx0 hx1 (by omega) _).mono ?_
      rintro e w0 ⟨rfl, rfl⟩
      go_wp2_with fail
      refine (hT1 _).mono ?_
      rintro e w6 ⟨hK6, h⟩
      clear c0 c1 c2 d0 d1 d2
      have hsx := hsr.kept hK6 id
      have htx := htr.kept hK6 id
      have z2 : w4.heap.size < w6.heap.size := htx.lt
      have hKx := hKr.trans hK6
      clear hK6
      rcases h with ⟨h1, h2, rfl⟩ | ⟨h1, rfl⟩
      · have d0 := (htx.alloc (.cells #[.int .i64 b, .int .i64 s, .int .i64 (u + c)] 53)).cell 0
        have d1 := (htx.alloc (.cells #[.int .i64 b, .int .i64 s, .int .i64 (u + c)] 53)).cell 1
        have d2 := (htx.alloc (.cells #[.int .i64 b, .int .i64 s, .int .i64 (u + c)] 53)).cell 2
        go_wp2_with fail
        refine (hT2 _).mono ?_
        rintro e w7 ⟨hK7, h⟩
        have hu := (Bk.new w6 53 (#[.int .i64 b, .int .i64 s, .int .i64 (u + c)] : Array Value)).kept hK7 id
        replace hsx := (hsx.alloc (.cells #[.int .i64 b, .int .i64 s, .int .i64 (u + c)] 53)).kept hK7 id
        replace htx := (htx.alloc (.cells #[.int .i64 b, .int .i64 s, .int .i64 (u + c)] 53)).kept hK7 id
        replace hKx := (hKx.alloc (.cells #[.int .i64 b, .int .i64 s, .int .i64 (u + c)] 53)).trans hK7
        clear hK7 d0 d1 d2
        have z3 : w6.heap.size < w7.heap.size := hu.lt
        rcases h with ⟨-, -, rfl⟩ | ⟨h3, -⟩
        case inr => omega
        have hv := Bk.new w7 53 (#[.int .i64 (b + d), .int .i64 s, .int .i64 (u + d + c)] : Array Value)
        replace hu := hu.alloc (.cells #[.int .i64 (b + d), .int .i64 s, .int .i64 (u + d + c)] 53)
        replace hsx := hsx.alloc (.cells #[.int .i64 (b + d), .int .i64 s, .int .i64 (u + d + c)] 53)
        replace htx := htx.alloc (.cells #[.int .i64 (b + d), .int .i64 s, .int .i64 (u + d + c)] 53)
        replace hKx := hKx.alloc (.cells #[.int .i64 (b + d), .int .i64 s, .int .i64 (u + d + c)] 53)
        have d0 := hu.cell 0
        have d1 := hu.cell 1
        have d2 := hu.cell 2
        have k0 := hv.cell 0
        have k1 := hv.cell 1
        have k2 := hv.cell 2
        have c0 := hsx.cell 0
        have c1 := hsx.cell 1
        have c2 := hsx.cell 2
        have m0 := htx.cell 0
        have m1 := htx.cell 1
        have m2 := htx.cell 2
        have f0 := hsx.frozen 0
        have f1 := hsx.frozen 1
        have f2 := hsx.frozen 2
        have n0 := htx.frozen 0
        have n1 := htx.frozen 1
        have n2 := htx.frozen 2
        go_wp2
        go_roundw
        case rel =>
          refine ⟨j + 1, u + c, by omega, by go_num, by omega, by omega, ?_, ?_, ?_⟩
          · exact (((((hsx.set_ 0 (.int .i64 b)).set_ 1 (.int .i64 s)).set_ 2 (.int .i64 (u + c))).far (p := ⟨w4.heap.size, 0, none⟩) (by dsimp only; omega) _).far (p := ⟨w4.heap.size, 1, none⟩) (by dsimp only; omega) _).far (p := ⟨w4.heap.size, 2, none⟩) (by dsimp only; omega) _
          · rw [show u + c + d = u + d + c by omega]
            exact (((((htx.far (p := ⟨w2'.heap.size, 0, none⟩) (by dsimp only; omega) _).far (p := ⟨w2'.heap.size, 1, none⟩) (by dsimp only; omega) _).far (p := ⟨w2'.heap.size, 2, none⟩) (by dsimp only; omega) _).set_ 0 (.int .i64 (b + d))).set_ 1 (.int .i64 s)).set_ 2 (.int .i64 (u + d + c))
          · exact (((((hKx.setCell (p := ⟨_, _, none⟩) (fun h => absurd h (by dsimp only; omega)) _).setCell (p := ⟨_, _, none⟩) (fun h => absurd h (by dsimp only; omega)) _).setCell (p := ⟨_, _, none⟩) (fun h => absurd h (by dsimp only; omega)) _).setCell (p := ⟨_, _, none⟩) (fun h => absurd h (by dsimp only; omega)) _).setCell (p := ⟨_, _, none⟩) (fun h => absurd h (by dsimp only; omega)) _).setCell (p := ⟨_, _, none⟩) (fun h => absurd h (by dsimp only; omega)) _
        case measure => simp [intOf]; omega
      · have d0 := (htx.alloc (.cells #[.int .i64 b, .int .i64 s, .int .i64 u] 53)).cell 0
        have d1 := (htx.alloc (.cells #[.int .i64 b, .int .i64 s, .int .i64 u] 53)).cell 1
        have d2 := (htx.alloc (.cells #[.int .i64 b, .int .i64 s, .int .i64 u] 53)).cell 2
        go_wp2_with fail
        refine (hT2 _).mono ?_
        rintro e w7 ⟨hK7, h⟩
        have hu := (Bk.new w6 53 (#[.int .i64 b, .int .i64 s, .int .i64 u] : Array Value)).kept hK7 id
        replace hsx := (hsx.alloc (.cells #[.int .i64 b, .int .i64 s, .int .i64 u] 53)).kept hK7 id
        replace htx := (htx.alloc (.cells #[.int .i64 b, .int .i64 s, .int .i64 u] 53)).kept hK7 id
        replace hKx := (hKx.alloc (.cells #[.int .i64 b, .int .i64 s, .int .i64 u] 53)).trans hK7
        clear hK7 d0 d1 d2
        have z3 : w6.heap.size < w7.heap.size := hu.lt
        rcases h with ⟨h3, h4, -⟩ | ⟨-, rfl⟩
        case inl => omega
        have hv := Bk.new w7 53 (#[.int .i64 (b + d), .int .i64 s, .int .i64 (u + d)] : Array Value)
        replace hu := hu.alloc (.cells #[.int .i64 (b + d), .int .i64 s, .int .i64 (u + d)] 53)
        replace hsx := hsx.alloc (.cells #[.int .i64 (b + d), .int .i64 s, .int .i64 (u + d)] 53)
        replace htx := htx.alloc (.cells #[.int .i64 (b + d), .int .i64 s, .int .i64 (u + d)] 53)
        replace hKx := hKx.alloc (.cells #[.int .i64 (b + d), .int .i64 s, .int .i64 (u + d)] 53)
        have d0 := hu.cell 0
        have d1 := hu.cell 1
        have d2 := hu.cell 2
        have k0 := hv.cell 0
        have k1 := hv.cell 1
        have k2 := hv.cell 2
        have c0 := hsx.cell 0
        have c1 := hsx.cell 1
        have c2 := hsx.cell 2
        have m0 := htx.cell 0
        have m1 := htx.cell 1
        have m2 := htx.cell 2
        have f0 := hsx.frozen 0
        have f1 := hsx.frozen 1
        have f2 := hsx.frozen 2
        have n0 := htx.frozen 0
        have n1 := htx.frozen 1
        have n2 := htx.frozen 2
        go_wp2
        go_roundw
        case rel =>
          refine ⟨j + 1, u, by omega, by go_num, by omega, by omega, ?_, ?_, ?_⟩
          · exact (((((hsx.set_ 0 (.int .i64 b)).set_ 1 (.int .i64 s)).set_ 2 (.int .i64 u)).far (p := ⟨w4.heap.size, 0, none⟩) (by dsimp only; omega) _).far (p := ⟨w4.heap.size, 1, none⟩) (by dsimp only; omega) _).far (p := ⟨w4.heap.size, 2, none⟩) (by dsimp only; omega) _
          · exact (((((htx.far (p := ⟨w2'.heap.size, 0, none⟩) (by dsimp only; omega) _).far (p := ⟨w2'.heap.size, 1, none⟩) (by dsimp only; omega) _).far (p := ⟨w2'.heap.size, 2, none⟩) (by dsimp only; omega) _).set_ 0 (.int .i64 (b + d))).set_ 1 (.int .i64 s)).set_ 2 (.int .i64 (u + d))
          · exact (((((hKx.setCell (p := ⟨_, _, none⟩) (fun h => absurd h (by dsimp only; omega)) _).setCell (p := ⟨_, _, none⟩) (fun h => absurd h (by dsimp only; omega)) _).setCell (p := ⟨_, _, none⟩) (fun h => absurd h (by dsimp only; omega)) _).setCell (p := ⟨_, _, none⟩) (fun h => absurd h (by dsimp only; omega)) _).setCell (p := ⟨_, _, none⟩) (fun h => absurd h (by dsimp only; omega)) _).setCell (p := ⟨_, _, none⟩) (fun h => absurd h (by dsimp only; omega)) _
        case measure => simp [intOf]; omega
    · have hUg : ∀ b' u', RightSp b' s u' → ∀ W, Calls Try.prog 46 #[.agg #[.int .i64 b', .int .i64 s, .int .i64 u']] W fun e w' => e = .returned (.int .i64 (u' - b')) ∧ Kept NoBlk W w' := fun b' u' h W => used_yes h W
      have hLg : ∀ b' u', RightSp b' s u' → ∀ W, Calls Try.prog 49 #[.agg #[.int .i64 b', .int .i64 s, .int .i64 u']] W fun e w' => e = .returned (.int .i64 (s - (u' - b'))) ∧ Kept NoBlk W w' := fun b' u' h W => left_yes h W
      have hx1 : (u - b == u + d - (b + d)) = true := beq_iff_eq.2 (by omega)
      have hx2 : (s - (u - b) == s - (u + d - (b + d))) = true := beq_iff_eq.2 (by omega)
      rcases (show (len : Int) ≤ (j : Int) ∨ ((j : Int) < (len : Int) ∧ (20 : Int) ≤ (j : Int)) by omega) with hx | ⟨hx0, hx⟩
      all_goals
        go_wp2_with fail
        go_region_held3 (fun W => W.cell? ⟨w2'.heap.size, 0, none⟩ = some (.int .i64 b) ∧ W.cell? ⟨w2'.heap.size, 1, none⟩ = some (.int .i64 s) ∧ W.cell? ⟨w2'.heap.size, 2, none⟩ = some (.int .i64 u) ∧ W.cell? ⟨w4.heap.size, 0, none⟩ = some (.int .i64 (b + d)) ∧ W.cell? ⟨w4.heap.size, 1, none⟩ = some (.int .i64 s) ∧ W.cell? ⟨w4.heap.size, 2, none⟩ = some (.int .i64 (u + d)) ∧ Kept NoBlk w W)
            (first
              | exact ⟨c0, c1, c2, d0, d1, d2, hKr⟩
              | (go_split_ands; exact ⟨‹_›, ‹_›, ‹_›, ‹_›, ‹_›, ‹_›, ‹_›⟩)
              | (go_split_ands; exact ⟨‹_›, ‹_›, ‹_›, ‹_›, ‹_›, ‹_›, Kept.drew ‹_›⟩)
              | (go_split_ands; exact ⟨hKc.cell_some ‹_›, hKc.cell_some ‹_›, hKc.cell_some ‹_›, hKc.cell_some ‹_›, hKc.cell_some ‹_›, hKc.cell_some ‹_›, Kept.trans ‹Kept NoBlk w _› hKc⟩))
            (first
              | (go_at_call 46; refine (hUg _ _ (by first | exact hRu | exact hRv) _).mono ?_; rintro e wc ⟨rfl, hKc⟩)
              | (go_at_call 49; refine (hLg _ _ (by first | exact hRu | exact hRv) _).mono ?_; rintro e wc ⟨rfl, hKc⟩))
        go_wp2
        go_ret
        exact ⟨rfl, by (go_split_ands; assumption)⟩

end Go.Proofs.Ytenphgmohhdjeaa
