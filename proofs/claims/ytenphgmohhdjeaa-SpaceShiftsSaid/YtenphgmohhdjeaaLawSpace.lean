/-
  The walks through the laws of layer 5 (SpaceHas, SpaceTakes, SpaceWhole, SpaceShifts).
  Conditions: none.
-/
import Derived.Test.YtenphgmohhdjeaaSpace
import Derived.Test.YtenphgmohhdjeaaPick05
import Derived.Test.YtenphgmohhdjeaaPk
import Derived.Test.YtenphgmohhdjeaaHeld
import Derived.StillTailTactics
set_option linter.unusedVariables false
namespace Go.Proofs.Ytenphgmohhdjeaa
open Go.RowKit

theorem class05 {k : Nat} (h : ClassOf 5 k) : k = 1 := h.uniq ⟨by decide, fun j hj => by
  match j, hj with
  | 0, _ => decide⟩

set_option maxRecDepth 100000 in
set_option maxHeartbeats 1000000 in
theorem awake05 (w : World) :
    Calls Try.prog 42 #[] w fun e w' => e = .returned (.bool true) ∧ Kept NoBlk w w' := by
  go_enter Try.func42, Try.ntmps42
  go_wp2_with fail
  refine (make_yes (b := 10) (s := 20) ⟨by omega, by omega, by omega, by omega, by omega, by omega⟩ _).mono ?_
  rintro e w1 ⟨rfl, hK1⟩
  go_wp2_with fail
  refine (take_yes (b := 10) (s := 20) (t := 10) 5 (by omega) (by omega) ⟨by omega, by omega, by omega, by omega, by omega, by omega⟩ _).mono ?_
  rintro e w2 ⟨k, hk, hK2, h⟩
  obtain rfl := class05 hk
  have h6 : csz 1 = 6 := by decide
  rw [h6] at h
  clear hk
  rcases h with ⟨-, rfl⟩ | ⟨h, -⟩
  case inr => omega
  have t1 : (10 : Int) + 6 = 16 := by omega
  rw [t1]
  clear t1
  go_wp2_with fail
  refine (take_yes (b := 10) (s := 20) (t := 16) 5 (by omega) (by omega) ⟨by omega, by omega, by omega, by omega, by omega, by omega⟩ _).mono ?_
  rintro e w3 ⟨k, hk, hK3, h⟩
  obtain rfl := class05 hk
  rw [h6] at h
  clear hk
  rcases h with ⟨-, rfl⟩ | ⟨h, -⟩
  case inr => omega
  have t1 : (16 : Int) + 6 = 22 := by omega
  rw [t1]
  clear t1 h6
  go_wp2_with fail
  refine (used_yes (b := 10) (s := 20) (t := 22) ⟨by omega, by omega, by omega, by omega, by omega, by omega⟩ _).mono ?_
  rintro e w4 ⟨rfl, hK4⟩
  have hu := (Bk.new w3 53 (#[.int .i64 10, .int .i64 20, .int .i64 22] : Array Value)).kept hK4 id
  have hK := (((hK1.alloc (.cells #[.int .i64 10, .int .i64 20, .int .i64 10] 53)).trans hK2).alloc (.cells #[.int .i64 10, .int .i64 20, .int .i64 16] 53)).trans hK3
  replace hK := (hK.alloc _).trans hK4
  clear hK1 hK2 hK3 hK4
  have c0 := hu.cell 0
  have c1 := hu.cell 1
  have c2 := hu.cell 2
  have t1 : (22 : Int) - 10 = 12 := by omega
  rw [t1]
  clear t1
  go_wp2_with fail
  refine (left_yes (b := 10) (s := 20) (t := 22) ⟨by omega, by omega, by omega, by omega, by omega, by omega⟩ _).mono ?_
  rintro e w5 ⟨rfl, hK5⟩
  replace hu := hu.kept hK5 id
  replace hK := hK.trans hK5
  clear hK5 c0 c1 c2
  have c0 := hu.cell 0
  have c1 := hu.cell 1
  have c2 := hu.cell 2
  have t1 : (20 : Int) - (22 - 10) = 8 := by omega
  rw [t1]
  clear t1
  go_wp2_with fail
  refine (has_yes (b := 10) (s := 20) (t := 22) 21 ⟨by omega, by omega, by omega, by omega, by omega, by omega⟩ _).mono ?_
  rintro e w6 ⟨rfl, hK5⟩
  replace hu := hu.kept hK5 id
  replace hK := hK.trans hK5
  clear hK5 c0 c1 c2
  have c0 := hu.cell 0
  have c1 := hu.cell 1
  have c2 := hu.cell 2
  have t1 : (decide ((10 : Int) ≤ 21) && decide ((21 : Int) < 22)) = true := by decide
  rw [t1]
  clear t1
  go_wp2_with fail
  refine (has_yes (b := 10) (s := 20) (t := 22) 22 ⟨by omega, by omega, by omega, by omega, by omega, by omega⟩ _).mono ?_
  rintro e w7 ⟨rfl, hK5⟩
  replace hK := hK.trans hK5
  clear hK5 c0 c1 c2
  have t1 : (decide ((10 : Int) ≤ 22) && decide ((22 : Int) < 22)) = false := by decide
  rw [t1]
  clear t1
  go_wp2
  go_ret
  exact ⟨rfl, hK⟩

set_option maxRecDepth 100000 in
set_option maxHeartbeats 1000000 in
theorem fit05 (x y z b s t : Int) (Hb : Hid (b = pk x 1000)) (Hs : Hid (s = pk y 300)) (Ht : Hid (t = pk z (s + 1))) (hb0 : 0 ≤ b) (hb1 : b < 1000) (hs0 : 0 ≤ s) (hs1 : s < 300) (ht0 : 0 ≤ t) (ht1 : t < s + 1)
    (l0 : -9223372036854775808 ≤ x) (g0 : x ≤ 9223372036854775807) (l1 : -9223372036854775808 ≤ y) (g1 : y ≤ 9223372036854775807) (l2 : -9223372036854775808 ≤ z) (g2 : z ≤ 9223372036854775807) (w : World) :
    Calls Try.prog 43 #[.int .i64 x, .int .i64 y, .int .i64 z] w fun e w' => e = .returned (.agg #[.int .i64 b, .int .i64 s, .int .i64 (b + t)]) ∧ Kept NoBlk w w' := by
  go_enter Try.func43, Try.ntmps43
  go_wp2_with fail
  refine (pick05r Hb (by omega) l0 g0 (by omega) _).mono ?_
  rintro e w0 ⟨rfl, rfl⟩
  go_wp2_with fail
  refine (pick05r Hs (by omega) l1 g1 (by omega) _).mono ?_
  rintro e w0 ⟨rfl, rfl⟩
  have hb := Bk.new w 53 (#[.int .i64 0, .int .i64 0, .int .i64 0] : Array Value)
  have hK := (Kept.refl NoBlk w).alloc (.cells #[.int .i64 0, .int .i64 0, .int .i64 0] 53)
  generalize w.alloc (.cells #[.int .i64 0, .int .i64 0, .int .i64 0] 53) = wa at hb hK ⊢
  have f0 := hb.frozen 0
  have f1 := hb.frozen 1
  have f2 := hb.frozen 2
  have d0 := hb.cell 0
  have d1 := hb.cell 1
  have d2 := hb.cell 2
  go_wp2_with fail
  have hne : w.heap.size < wa.heap.size := hb.lt
  replace hb := hb.alloc (.cells #[.int .i64 b, .int .i64 s, .int .i64 0] 53)
  have hb2 := Bk.new wa 53 (#[.int .i64 b, .int .i64 s, .int .i64 0] : Array Value)
  have hK2 := hK.alloc (.cells #[.int .i64 b, .int .i64 s, .int .i64 0] 53)
  generalize wa.alloc (.cells #[.int .i64 b, .int .i64 s, .int .i64 0] 53) = wb at hb hb2 hK2 ⊢
  clear f0 f1 f2 d0 d1 d2
  have d0 := hb2.cell 0
  have d1 := hb2.cell 1
  have d2 := hb2.cell 2
  have f2 := hb2.frozen 2
  have hw : IntKind.i64.wrap (s + 1) = s + 1 := IntWalk.i64_in _ (by omega)
  have hw2 : IntKind.i64.wrap (b + t) = b + t := IntWalk.i64_in _ (by omega)
  have P5 : ∀ W, Calls Try.prog 45 #[.int .i64 z, .int .i64 (s + 1)] W fun e w' => e = .returned (.int .i64 t) ∧ w' = W := fun W => (pick05r Ht (by omega) l2 g2 (by omega) W).mono fun e w' h => ⟨h.1, h.2.symm⟩
  go_still_tail 8, (by kernel_rfl)
  still_call (P5 _)
  repeat still_step
  refine wpStill_nil ?_
  clear hw hw2 P5
  change wpList _ _ _ _ _ wb.drew
  replace hb := hb.drew
  replace hb2 := hb2.drew
  replace hK2 := hK2.drew
  generalize wb.drew = wc at hb hb2 hK2 ⊢
  clear d0 d1 d2 f2
  have d0 := hb2.cell 0
  have d1 := hb2.cell 1
  have d2 := hb2.cell 2
  have f2 := hb2.frozen 2
  have c0 := hb.cell 0
  have c1 := hb.cell 1
  have c2 := hb.cell 2
  have f0 := hb.frozen 0
  have f1 := hb.frozen 1
  have f2' := hb.frozen 2
  go_wp2
  have hb3 := (((hb.far (p := ⟨wa.heap.size, 2, none⟩) (by dsimp only; omega) (.int .i64 (b + t))).set_ 0 (.int .i64 b)).set_ 1 (.int .i64 s)).set_ 2 (.int .i64 (b + t))
  have e0 := hb3.cell 0
  have e1 := hb3.cell 1
  have e2 := hb3.cell 2
  have hwa : w.heap.size < wa.heap.size := hne
  refine bodyPost_ret (v := .agg #[.int .i64 b, .int .i64 s, .int .i64 (b + t)]) (by simp [results, Try.results43, go_sem, e0, e1, e2]) rfl ⟨rfl, ?_⟩
  exact (((hK2.setCell (p := ⟨_, _, none⟩) (fun h => absurd h (by dsimp only; omega)) _).setCell (p := ⟨_, _, none⟩) (fun h => absurd h (by dsimp only; omega)) _).setCell (p := ⟨_, _, none⟩) (fun h => absurd h (by dsimp only; omega)) _).setCell (p := ⟨_, _, none⟩) (fun h => absurd h (by dsimp only; omega)) _

set_option maxRecDepth 100000 in
set_option maxHeartbeats 4000000 in
theorem has_walk (x y z at_ b s t p : Int) (w : World) (Hb : Hid (b = pk x 1000)) (Hs : Hid (s = pk y 300)) (Ht : Hid (t = pk z (s + 1))) (Hp : Hid (p = pk at_ 1400))
    (hb0 : 0 ≤ b) (hb1 : b < 1000) (hs0 : 0 ≤ s) (hs1 : s < 300) (ht0 : 0 ≤ t) (ht1 : t < s + 1) (hp0 : 0 ≤ p) (hp1 : p < 1400)
    (l0 : -9223372036854775808 ≤ x) (g0 : x ≤ 9223372036854775807) (l1 : -9223372036854775808 ≤ y) (g1 : y ≤ 9223372036854775807) (l2 : -9223372036854775808 ≤ z) (g2 : z ≤ 9223372036854775807)
    (l3 : -9223372036854775808 ≤ at_) (g3 : at_ ≤ 9223372036854775807) :
    Calls Try.prog 13 #[.agg #[.int .i64 x, .int .i64 y, .int .i64 z], .int .i64 at_] w fun e w' => e = .returned (.bool true) ∧ Kept NoBlk w w' := by
  have hR : RightSp b s (b + t) := ⟨by omega, by omega, by omega, by omega, by omega, by omega⟩
  go_enter Try.func13, Try.ntmps13
  go_wp2_with fail
  refine (awake05 _).mono ?_
  rintro e w1 ⟨rfl, hK⟩
  have hr := (Bk.new w 51 (#[.int .i64 x, .int .i64 y, .int .i64 z] : Array Value)).kept hK id
  replace hK := ((Kept.refl NoBlk w).alloc (.cells #[.int .i64 x, .int .i64 y, .int .i64 z] 51)).trans hK
  have c0 := hr.cell 0
  have c1 := hr.cell 1
  have c2 := hr.cell 2
  go_wp2_with fail
  refine (fit05 x y z b s t Hb Hs Ht hb0 hb1 hs0 hs1 ht0 ht1 l0 g0 l1 g1 l2 g2 _).mono ?_
  rintro e w2 ⟨rfl, hK2⟩
  have hw2 : w.heap.size ≤ w2.heap.size := (hK.trans hK2).size
  have hs := Bk.new w2 53 (#[.int .i64 b, .int .i64 s, .int .i64 (b + t)] : Array Value)
  replace hK := (hK.trans hK2).alloc (.cells #[.int .i64 b, .int .i64 s, .int .i64 (b + t)] 53)
  clear hK2 hr c0 c1 c2
  generalize hwc : w2.alloc (.cells #[.int .i64 b, .int .i64 s, .int .i64 (b + t)] 53) = w3
  rw [hwc] at hs hK
  go_wp2_with fail
  go_loopw [7, 8] (fun vn vi wr => ∃ (j : Nat) (n : Int), (j : Int) ≤ s ∧ vn = .int .i64 n ∧ vi = .int .i64 j ∧ Hid (n = min (j : Int) t) ∧ 0 ≤ n ∧ n ≤ j ∧ Bk wr w2.heap.size 53 #[.int .i64 b, .int .i64 s, .int .i64 (b + t)] ∧ Kept NoBlk w wr) (fun _ vi _ => (s - intOf vi).toNat)
  case atStart => exact ⟨0, 0, by omega, rfl, rfl, Lib.hid (by omega), by omega, by omega, hs, hK⟩
  case round =>
    obtain ⟨j, n, hj, rfl, rfl, Hn, hn0, hn1, hsr, hKr⟩ := hrel
    have c0 := hsr.cell 0
    have c1 := hsr.cell 1
    have c2 := hsr.cell 2
    by_cases hlt : (j : Int) < s
    · go_wp2_with fail
      refine (has_yes (b + j) hR _).mono ?_
      rintro e w4 ⟨rfl, hK4⟩
      clear c0 c1 c2
      replace hsr := hsr.kept hK4 id
      replace hKr := hKr.trans hK4
      by_cases ht : (j : Int) < t
      · have t1 : (decide (b ≤ b + (j : Int)) && decide (b + (j : Int) < b + t)) = true := by simp; omega
        rw [t1]
        clear t1
        go_wp2
        go_roundw
        case rel => exact ⟨j + 1, n + 1, by omega, rfl, by go_num, Lib.hid (by have := Hn.out; omega), by omega, by omega, hsr, hKr⟩
        case measure => simp [intOf]; omega
      · have t1 : (decide (b ≤ b + (j : Int)) && decide (b + (j : Int) < b + t)) = false := by simp; omega
        rw [t1]
        clear t1
        go_wp2
        go_roundw
        case rel => exact ⟨j + 1, n, by omega, rfl, by go_num, Lib.hid (by have := Hn.out; omega), by omega, by omega, hsr, hKr⟩
        case measure => simp [intOf]; omega
    · have hnt : n = t := by have := Hn.out; omega
      clear Hn
      obtain rfl := hnt
      go_wp2_with fail
      refine (pick05r Hp (by omega) l3 g3 (by omega) _).mono ?_
      rintro e w0 ⟨rfl, rfl⟩
      go_wp2_with fail
      have hsz := hKr.size
      have hU : ∀ W, Calls Try.prog 46 #[.agg #[.int .i64 b, .int .i64 s, .int .i64 (b + n)]] W fun e w' => e = .returned (.int .i64 n) ∧ Kept NoBlk W w' := fun W => (used_yes hR W).mono fun e w' h => ⟨h.1.trans (ret_int (by omega)), h.2⟩
      have hw : IntKind.i64.wrap (b + n) = b + n := IntWalk.i64_in _ (by omega)
      have hb1' : (1 : Int) ≤ 2 := by omega
      by_cases h1 : b ≤ p
      · have hx : (decide (b ≤ p)) = true := decide_eq_true h1
        have hH : ∀ W, Calls Try.prog 44 #[.agg #[.int .i64 b, .int .i64 s, .int .i64 (b + n)], .int .i64 p] W fun e w' => e = .returned (.bool (decide (p < b + n))) ∧ Kept NoBlk W w' := fun W => (has_yes p hR W).mono fun e w' h => ⟨h.1.trans (by simp [h1]), h.2⟩
        go_region_held3 (fun W => W.cell? ⟨w2.heap.size, 0, none⟩ = some (.int .i64 b) ∧ W.cell? ⟨w2.heap.size, 1, none⟩ = some (.int .i64 s) ∧ W.cell? ⟨w2.heap.size, 2, none⟩ = some (.int .i64 (b + n)) ∧ Kept NoBlk w W)
            (first
              | exact ⟨c0, c1, c2, hKr⟩
              | (go_split_ands; exact ⟨‹_›, ‹_›, ‹_›, ‹_›⟩)
              | (go_split_ands; exact ⟨‹_›, ‹_›, ‹_›, Kept.drew ‹_›⟩)
              | (go_split_ands; exact ⟨hKc.cell_some ‹_›, hKc.cell_some ‹_›, hKc.cell_some ‹_›, Kept.trans ‹Kept NoBlk w _› hKc⟩))
            (first
              | (go_at_call 46; refine (hU _).mono ?_; rintro e wc ⟨rfl, hKc⟩)
              | (go_at_call 44; refine (hH _).mono ?_; rintro e wc ⟨rfl, hKc⟩))
        go_wp2
        go_ret
        exact ⟨rfl, by (go_split_ands; assumption)⟩
      · have hx : (decide (b ≤ p)) = false := decide_eq_false h1
        have hH : ∀ W, Calls Try.prog 44 #[.agg #[.int .i64 b, .int .i64 s, .int .i64 (b + n)], .int .i64 p] W fun e w' => e = .returned (.bool false) ∧ Kept NoBlk W w' := fun W => (has_yes p hR W).mono fun e w' h => ⟨h.1.trans (by rw [hx]; rfl), h.2⟩
        refine wp_region_held_drew (S := (fun W => W.cell? ⟨w2.heap.size, 0, none⟩ = some (.int .i64 b) ∧ W.cell? ⟨w2.heap.size, 1, none⟩ = some (.int .i64 s) ∧ W.cell? ⟨w2.heap.size, 2, none⟩ = some (.int .i64 (b + n)) ∧ Kept NoBlk w W)) (by kernel_rfl) (by ((try dsimp only); exact ⟨c0, c1, c2, hKr.drew⟩)) (fun hHeld => ?_)
        ((first
          | (refine wpAnyH_takeL (i := 0) (v := ?hv2) rfl (by kernel_rfl) (by kernel_rfl) (by kernel_rfl) (fun _ _ _ h => h) (Or.inl (And.intro ?hw2 ?hy2)) (by assumption) ?rest2
             case hw2 => rfl
             case hy2 => (intro wHy hSw; (try dsimp only at hSw); go_simp; (first | done | with_reducible rfl)))
          | (refine wpAnyH_takeL (i := 0) (v := undef) rfl (by kernel_rfl) (by kernel_rfl) (by kernel_rfl) (fun _ _ _ h => h) (Or.inr (And.intro (by rfl) rfl)) (by assumption) ?rest2x))
         (try simp only [Act.put, List.setIfInBounds_toArray, List.set_cons_zero, List.set_cons_succ]))
        ((first
          | (refine wpAnyH_takeL (i := 1) (v := ?hv3) rfl (by kernel_rfl) (by kernel_rfl) (by kernel_rfl) (fun _ _ _ h => h) (Or.inl (And.intro ?hw3 ?hy3)) (by assumption) ?rest3
             case hw3 => rfl
             case hy3 => (intro wHy hSw; (try dsimp only at hSw); go_simp; (first | done | with_reducible rfl)))
          | (refine wpAnyH_takeL (i := 1) (v := undef) rfl (by kernel_rfl) (by kernel_rfl) (by kernel_rfl) (fun _ _ _ h => h) (Or.inr (And.intro (by rfl) rfl)) (by assumption) ?rest3x))
         (try simp only [Act.put, List.setIfInBounds_toArray, List.set_cons_zero, List.set_cons_succ]))
        ((first
          | (refine wpAnyH_takeL (i := 2) (v := ?hv4) rfl (by kernel_rfl) (by kernel_rfl) (by kernel_rfl) (fun _ _ _ h => h) (Or.inl (And.intro ?hw4 ?hy4)) (by assumption) ?rest4
             case hw4 => rfl
             case hy4 => (intro wHy hSw; (try dsimp only at hSw); go_simp; (first | done | with_reducible rfl)))
          | (refine wpAnyH_takeL (i := 2) (v := undef) rfl (by kernel_rfl) (by kernel_rfl) (by kernel_rfl) (fun _ _ _ h => h) (Or.inr (And.intro (by rfl) rfl)) (by assumption) ?rest4x))
         (try simp only [Act.put, List.setIfInBounds_toArray, List.set_cons_zero, List.set_cons_succ]))
        ((first
          | (refine wpAnyH_takeL (i := 3) (v := ?hv5) rfl (by kernel_rfl) (by kernel_rfl) (by kernel_rfl) (fun _ _ _ h => h) (Or.inl (And.intro ?hw5 ?hy5)) (by assumption) ?rest5
             case hw5 => rfl
             case hy5 => (intro wHy hSw; (try dsimp only at hSw); go_simp; (first | done | with_reducible rfl)))
          | (refine wpAnyH_takeL (i := 3) (v := undef) rfl (by kernel_rfl) (by kernel_rfl) (by kernel_rfl) (fun _ _ _ h => h) (Or.inr (And.intro (by rfl) rfl)) (by assumption) ?rest5x))
         (try simp only [Act.put, List.setIfInBounds_toArray, List.set_cons_zero, List.set_cons_succ]))
        refine wpAnyH_ready (rs := [4]) (by kernel_rfl) (by simp) ?_
        refine AllReadyH.consL rfl (fun K hKcc => ?_) AllReadyH.nil
        go_simp
        (go_at_call 46; refine (hU _).mono ?_; rintro e wc ⟨rfl, hKc⟩)
        refine hKcc.out _ _ ?held6 (fun hHeld => ?_)
        case held6 => ((try dsimp only); (go_split_ands; exact ⟨hKc.cell_some ‹_›, hKc.cell_some ‹_›, hKc.cell_some ‹_›, Kept.trans ‹Kept NoBlk w _› hKc⟩))
        clear hKcc K
        try simp only [Act.put, List.setIfInBounds_toArray, List.set_cons_zero, List.set_cons_succ]
        ((first
          | (refine wpAnyH_takeL (i := 5) (v := ?hv7) rfl (by kernel_rfl) (by kernel_rfl) (by kernel_rfl) (fun _ _ _ h => h) (Or.inl (And.intro ?hw7 ?hy7)) (by assumption) ?rest7
             case hw7 => rfl
             case hy7 => (intro wHy hSw; (try dsimp only at hSw); go_simp; (first | done | with_reducible rfl)))
          | (refine wpAnyH_takeL (i := 5) (v := undef) rfl (by kernel_rfl) (by kernel_rfl) (by kernel_rfl) (fun _ _ _ h => h) (Or.inr (And.intro (by rfl) rfl)) (by assumption) ?rest7x))
         (try simp only [Act.put, List.setIfInBounds_toArray, List.set_cons_zero, List.set_cons_succ]))
        ((first
          | (refine wpAnyH_takeL (i := 6) (v := ?hv8) rfl (by kernel_rfl) (by kernel_rfl) (by kernel_rfl) (fun _ _ _ h => h) (Or.inl (And.intro ?hw8 ?hy8)) (by assumption) ?rest8
             case hw8 => rfl
             case hy8 => (intro wHy hSw; (try dsimp only at hSw); go_simp; (first | done | with_reducible rfl)))
          | (refine wpAnyH_takeL (i := 6) (v := undef) rfl (by kernel_rfl) (by kernel_rfl) (by kernel_rfl) (fun _ _ _ h => h) (Or.inr (And.intro (by rfl) rfl)) (by assumption) ?rest8x))
         (try simp only [Act.put, List.setIfInBounds_toArray, List.set_cons_zero, List.set_cons_succ]))
        ((first
          | (refine wpAnyH_takeL (i := 7) (v := ?hv9) rfl (by kernel_rfl) (by kernel_rfl) (by kernel_rfl) (fun _ _ _ h => h) (Or.inl (And.intro ?hw9 ?hy9)) (by assumption) ?rest9
             case hw9 => rfl
             case hy9 => (intro wHy hSw; (try dsimp only at hSw); go_simp; (first | done | with_reducible rfl)))
          | (refine wpAnyH_takeL (i := 7) (v := undef) rfl (by kernel_rfl) (by kernel_rfl) (by kernel_rfl) (fun _ _ _ h => h) (Or.inr (And.intro (by rfl) rfl)) (by assumption) ?rest9x))
         (try simp only [Act.put, List.setIfInBounds_toArray, List.set_cons_zero, List.set_cons_succ]))
        ((first
          | (refine wpAnyH_takeL (i := 8) (v := ?hv10) rfl (by kernel_rfl) (by kernel_rfl) (by kernel_rfl) (fun _ _ _ h => h) (Or.inl (And.intro ?hw10 ?hy10)) (by assumption) ?rest10
             case hw10 => rfl
             case hy10 => (intro wHy hSw; (try dsimp only at hSw); go_simp; (first | done | with_reducible rfl)))
          | (refine wpAnyH_takeL (i := 8) (v := undef) rfl (by kernel_rfl) (by kernel_rfl) (by kernel_rfl) (fun _ _ _ h => h) (Or.inr (And.intro (by rfl) rfl)) (by assumption) ?rest10x))
         (try simp only [Act.put, List.setIfInBounds_toArray, List.set_cons_zero, List.set_cons_succ]))
        ((first
          | (refine wpAnyH_takeL (i := 9) (v := ?hv11) rfl (by kernel_rfl) (by kernel_rfl) (by kernel_rfl) (fun _ _ _ h => h) (Or.inl (And.intro ?hw11 ?hy11)) (by assumption) ?rest11
             case hw11 => rfl
             case hy11 => (intro wHy hSw; (try dsimp only at hSw); go_simp; (first | done | with_reducible rfl)))
          | (refine wpAnyH_takeL (i := 9) (v := undef) rfl (by kernel_rfl) (by kernel_rfl) (by kernel_rfl) (fun _ _ _ h => h) (Or.inr (And.intro (by rfl) rfl)) (by assumption) ?rest11x))
         (try simp only [Act.put, List.setIfInBounds_toArray, List.set_cons_zero, List.set_cons_succ]))
        ((first
          | (refine wpAnyH_takeL (i := 11) (v := ?hv12) rfl (by kernel_rfl) (by kernel_rfl) (by kernel_rfl) (fun _ _ _ h => h) (Or.inl (And.intro ?hw12 ?hy12)) (by assumption) ?rest12
             case hw12 => rfl
             case hy12 => (intro wHy hSw; (try dsimp only at hSw); go_simp; (first | done | with_reducible rfl)))
          | (refine wpAnyH_takeL (i := 11) (v := undef) rfl (by kernel_rfl) (by kernel_rfl) (by kernel_rfl) (fun _ _ _ h => h) (Or.inr (And.intro (by rfl) rfl)) (by assumption) ?rest12x))
         (try simp only [Act.put, List.setIfInBounds_toArray, List.set_cons_zero, List.set_cons_succ]))
        ((first
          | (refine wpAnyH_takeL (i := 12) (v := ?hv13) rfl (by kernel_rfl) (by kernel_rfl) (by kernel_rfl) (fun _ _ _ h => h) (Or.inl (And.intro ?hw13 ?hy13)) (by assumption) ?rest13
             case hw13 => rfl
             case hy13 => (intro wHy hSw; (try dsimp only at hSw); go_simp; (first | done | with_reducible rfl)))
          | (refine wpAnyH_takeL (i := 12) (v := undef) rfl (by kernel_rfl) (by kernel_rfl) (by kernel_rfl) (fun _ _ _ h => h) (Or.inr (And.intro (by rfl) rfl)) (by assumption) ?rest13x))
         (try simp only [Act.put, List.setIfInBounds_toArray, List.set_cons_zero, List.set_cons_succ]))
        ((first
          | (refine wpAnyH_takeL (i := 13) (v := ?hv14) rfl (by kernel_rfl) (by kernel_rfl) (by kernel_rfl) (fun _ _ _ h => h) (Or.inl (And.intro ?hw14 ?hy14)) (by assumption) ?rest14
             case hw14 => rfl
             case hy14 => (intro wHy hSw; (try dsimp only at hSw); go_simp; (first | done | with_reducible rfl)))
          | (refine wpAnyH_takeL (i := 13) (v := undef) rfl (by kernel_rfl) (by kernel_rfl) (by kernel_rfl) (fun _ _ _ h => h) (Or.inr (And.intro (by rfl) rfl)) (by assumption) ?rest14x))
         (try simp only [Act.put, List.setIfInBounds_toArray, List.set_cons_zero, List.set_cons_succ]))
        ((first
          | (refine wpAnyH_takeL (i := 14) (v := ?hv15) rfl (by kernel_rfl) (by kernel_rfl) (by kernel_rfl) (fun _ _ _ h => h) (Or.inl (And.intro ?hw15 ?hy15)) (by assumption) ?rest15
             case hw15 => rfl
             case hy15 => (intro wHy hSw; (try dsimp only at hSw); go_simp; (first | done | with_reducible rfl)))
          | (refine wpAnyH_takeL (i := 14) (v := undef) rfl (by kernel_rfl) (by kernel_rfl) (by kernel_rfl) (fun _ _ _ h => h) (Or.inr (And.intro (by rfl) rfl)) (by assumption) ?rest15x))
         (try simp only [Act.put, List.setIfInBounds_toArray, List.set_cons_zero, List.set_cons_succ]))
        refine wpAnyH_ready (rs := [10]) (by kernel_rfl) (by simp) ?_
        refine AllReadyH.consL rfl (fun K hKcc => ?_) AllReadyH.nil
        go_simp
        (go_at_call 44; refine (hH _).mono ?_; rintro e wc ⟨rfl, hKc⟩)
        refine hKcc.out _ _ ?held16 (fun hHeld => ?_)
        case held16 => ((try dsimp only); (go_split_ands; exact ⟨hKc.cell_some ‹_›, hKc.cell_some ‹_›, hKc.cell_some ‹_›, Kept.trans ‹Kept NoBlk w _› hKc⟩))
        clear hKcc K
        try simp only [Act.put, List.setIfInBounds_toArray, List.set_cons_zero, List.set_cons_succ]
        ((first
          | (refine wpAnyH_takeL (i := 15) (v := ?hv17) rfl (by kernel_rfl) (by kernel_rfl) (by kernel_rfl) (fun _ _ _ h => h) (Or.inl (And.intro ?hw17 ?hy17)) (by assumption) ?rest17
             case hw17 => rfl
             case hy17 => (intro wHy hSw; (try dsimp only at hSw); go_simp; (first | done | with_reducible rfl)))
          | (refine wpAnyH_takeL (i := 15) (v := undef) rfl (by kernel_rfl) (by kernel_rfl) (by kernel_rfl) (fun _ _ _ h => h) (Or.inr (And.intro (by rfl) rfl)) (by assumption) ?rest17x))
         (try simp only [Act.put, List.setIfInBounds_toArray, List.set_cons_zero, List.set_cons_succ]))
        ((refine wpAnyH_takeL (i := 16) (v := undef) rfl (by kernel_rfl) (by kernel_rfl) (by kernel_rfl) (fun _ _ _ h => h) (Or.inr (And.intro (by rfl) rfl)) (by assumption) ?rest18)
         (try simp only [Act.put, List.setIfInBounds_toArray, List.set_cons_zero, List.set_cons_succ]))
        ((refine wpAnyH_takeL (i := 17) (v := undef) rfl (by kernel_rfl) (by kernel_rfl) (by kernel_rfl) (fun _ _ _ h => h) (Or.inr (And.intro (by rfl) rfl)) (by assumption) ?rest19)
         (try simp only [Act.put, List.setIfInBounds_toArray, List.set_cons_zero, List.set_cons_succ]))
        ((refine wpAnyH_takeL (i := 18) (v := undef) rfl (by kernel_rfl) (by kernel_rfl) (by kernel_rfl) (fun _ _ _ h => h) (Or.inr (And.intro (by rfl) rfl)) (by assumption) ?rest20)
         (try simp only [Act.put, List.setIfInBounds_toArray, List.set_cons_zero, List.set_cons_succ]))
        ((refine wpAnyH_takeL (i := 19) (v := undef) rfl (by kernel_rfl) (by kernel_rfl) (by kernel_rfl) (fun _ _ _ h => h) (Or.inr (And.intro (by rfl) rfl)) (by assumption) ?rest21)
         (try simp only [Act.put, List.setIfInBounds_toArray, List.set_cons_zero, List.set_cons_succ]))
        ((refine wpAnyH_takeL (i := 20) (v := undef) rfl (by kernel_rfl) (by kernel_rfl) (by kernel_rfl) (fun _ _ _ h => h) (Or.inr (And.intro (by rfl) rfl)) (by assumption) ?rest22)
         (try simp only [Act.put, List.setIfInBounds_toArray, List.set_cons_zero, List.set_cons_succ]))
        ((refine wpAnyH_takeL (i := 21) (v := undef) rfl (by kernel_rfl) (by kernel_rfl) (by kernel_rfl) (fun _ _ _ h => h) (Or.inr (And.intro (by rfl) rfl)) (by assumption) ?rest23)
         (try simp only [Act.put, List.setIfInBounds_toArray, List.set_cons_zero, List.set_cons_succ]))
        ((first
          | (refine wpAnyH_takeL (i := 22) (v := ?hv24) rfl (by kernel_rfl) (by kernel_rfl) (by kernel_rfl) (fun _ _ _ h => h) (Or.inl (And.intro ?hw24 ?hy24)) (by assumption) ?rest24
             case hw24 => rfl
             case hy24 => (intro wHy hSw; (try dsimp only at hSw); go_simp; (first | done | with_reducible rfl)))
          | (refine wpAnyH_takeL (i := 22) (v := undef) rfl (by kernel_rfl) (by kernel_rfl) (by kernel_rfl) (fun _ _ _ h => h) (Or.inr (And.intro (by rfl) rfl)) (by assumption) ?rest24x))
         (try simp only [Act.put, List.setIfInBounds_toArray, List.set_cons_zero, List.set_cons_succ]))
        ((first
          | (refine wpAnyH_takeL (i := 23) (v := ?hv25) rfl (by kernel_rfl) (by kernel_rfl) (by kernel_rfl) (fun _ _ _ h => h) (Or.inl (And.intro ?hw25 ?hy25)) (by assumption) ?rest25
             case hw25 => rfl
             case hy25 => (intro wHy hSw; (try dsimp only at hSw); go_simp; (first | done | with_reducible rfl)))
          | (refine wpAnyH_takeL (i := 23) (v := undef) rfl (by kernel_rfl) (by kernel_rfl) (by kernel_rfl) (fun _ _ _ h => h) (Or.inr (And.intro (by rfl) rfl)) (by assumption) ?rest25x))
         (try simp only [Act.put, List.setIfInBounds_toArray, List.set_cons_zero, List.set_cons_succ]))
        ((first
          | (refine wpAnyH_takeL (i := 24) (v := ?hv26) rfl (by kernel_rfl) (by kernel_rfl) (by kernel_rfl) (fun _ _ _ h => h) (Or.inl (And.intro ?hw26 ?hy26)) (by assumption) ?rest26
             case hw26 => rfl
             case hy26 => (intro wHy hSw; (try dsimp only at hSw); go_simp; (first | done | with_reducible rfl)))
          | (refine wpAnyH_takeL (i := 24) (v := undef) rfl (by kernel_rfl) (by kernel_rfl) (by kernel_rfl) (fun _ _ _ h => h) (Or.inr (And.intro (by rfl) rfl)) (by assumption) ?rest26x))
         (try simp only [Act.put, List.setIfInBounds_toArray, List.set_cons_zero, List.set_cons_succ]))
        ((first
          | (refine wpAnyH_takeL (i := 25) (v := ?hv27) rfl (by kernel_rfl) (by kernel_rfl) (by kernel_rfl) (fun _ _ _ h => h) (Or.inl (And.intro ?hw27 ?hy27)) (by assumption) ?rest27
             case hw27 => rfl
             case hy27 => (intro wHy hSw; (try dsimp only at hSw); go_simp; (first | done | with_reducible rfl)))
          | (refine wpAnyH_takeL (i := 25) (v := undef) rfl (by kernel_rfl) (by kernel_rfl) (by kernel_rfl) (fun _ _ _ h => h) (Or.inr (And.intro (by rfl) rfl)) (by assumption) ?rest27x))
         (try simp only [Act.put, List.setIfInBounds_toArray, List.set_cons_zero, List.set_cons_succ]))
        refine wpAnyH_done (by kernel_rfl) ?_ _
        go_wp2
        go_ret
        exact ⟨rfl, by (go_split_ands; assumption)⟩

end Go.Proofs.Ytenphgmohhdjeaa
