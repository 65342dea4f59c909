/-
  The walks through the laws of layer 4 (ClassRounds, ClassRises, ClassDoubles, ClassNext).
  Conditions: none.
-/
import Derived.Test.YtenphgmohhdjeaaAwake04
import Derived.Test.YtenphgmohhdjeaaPick04
set_option linter.unusedVariables false
namespace Go.Proofs.Ytenphgmohhdjeaa
open Go.RowKit

set_option maxRecDepth 100000 in
set_option maxHeartbeats 1000000 in
theorem rounds_walk (n r : Int) (w : World) (Hr : Hid (r = pk n 65536)) (hr0 : 0 ≤ r) (hr1 : r < 65536) (b1 : -9223372036854775808 ≤ n) (b2 : n ≤ 9223372036854775807) :
    Calls Try.prog 9 #[.int .i64 n] w fun e w' => e = .returned (.bool true) ∧ Kept NoBlk w w' := by
  go_enter Try.func9, Try.ntmps9
  go_wp2_with fail
  refine (awake04 w).mono ?_
  rintro e w0 ⟨rfl, hK0⟩
  go_wp2_with fail
  refine (pick04r Hr (by omega) b1 b2 (by omega) _).mono ?_
  rintro e w0' ⟨rfl, rfl⟩
  go_wp2_with fail
  refine (round_yes (1 + r) (by omega) (by omega) _).mono ?_
  rintro e w1 ⟨k, hk, rfl, hK1⟩
  have hle := hk.1
  have hb := Int.le_trans (csz_le (hk.le28 (by omega))) (Int.le_of_eq csz_28)
  have hb4 := csz_pos k
  by_cases h3 : 3 ≤ 1 + r
  · have hw := hk.waste h3
    go_wp2_with fail
    refine (round_yes (csz k) (by omega) hb _).mono ?_
    rintro e w2 ⟨k2, hk2, rfl, hK2⟩
    obtain rfl := hk2.uniq (ClassOf.self k)
    go_wp2
    go_ret
    exact ⟨rfl, (hK0.trans hK1).trans hK2⟩
  · go_wp2_with fail
    refine (round_yes (csz k) (by omega) hb _).mono ?_
    rintro e w2 ⟨k2, hk2, rfl, hK2⟩
    obtain rfl := hk2.uniq (ClassOf.self k)
    go_wp2
    go_ret
    exact ⟨rfl, (hK0.trans hK1).trans hK2⟩

set_option maxRecDepth 100000 in
set_option maxHeartbeats 1000000 in
theorem rises_walk (n m r s : Int) (w : World) (Hr : Hid (r = pk n 65536)) (hr0 : 0 ≤ r) (hr1 : r < 65536) (Hs : Hid (s = pk m 65536)) (hs0 : 0 ≤ s) (hs1 : s < 65536) (b1 : -9223372036854775808 ≤ n) (b2 : n ≤ 9223372036854775807) (b3 : -9223372036854775808 ≤ m) (b4 : m ≤ 9223372036854775807) :
    Calls Try.prog 10 #[.int .i64 n, .int .i64 m] w fun e w' => e = .returned (.bool true) ∧ Kept NoBlk w w' := by
  go_enter Try.func10, Try.ntmps10
  go_wp2_with fail
  refine (awake04 w).mono ?_
  rintro e w0 ⟨rfl, hK0⟩
  go_wp2_with fail
  refine (pick04r Hr (by omega) b1 b2 (by omega) _).mono ?_
  rintro e w0' ⟨rfl, rfl⟩
  go_wp2_with fail
  refine (pick04r Hs (by omega) b3 b4 (by omega) _).mono ?_
  rintro e w0' ⟨rfl, rfl⟩
  rcases (show r < s ∨ r = s ∨ s < r by omega) with hm | rfl | hm
  · skip
    go_wp2_with fail
    refine (round_yes (1 + r) (by omega) (by omega) _).mono ?_
    rintro e w1 ⟨k, hk, rfl, hK1⟩
    go_wp2_with fail
    refine (round_yes (1 + s) (by omega) (by omega) _).mono ?_
    rintro e w2 ⟨l, hl, rfl, hK2⟩
    go_wp2_with fail
    refine (class_yes (1 + r) (by omega) (by omega) _).mono ?_
    rintro e w3 ⟨k', hk', rfl, hK3⟩
    obtain rfl := hk'.uniq hk
    go_wp2_with fail
    refine (class_yes (1 + s) (by omega) (by omega) _).mono ?_
    rintro e w4 ⟨l', hl', rfl, hK4⟩
    obtain rfl := hl'.uniq hl
    have hkl := hk.mono hl (by omega)
    have hle := csz_le hkl
    by_cases e : k' = l'
    · subst e
      go_wp2
      go_ret
      exact ⟨rfl, (((hK0.trans hK1).trans hK2).trans hK3).trans hK4⟩
    · have hlt := csz_mono (show k' < l' by omega)
      have t1 : (csz k' == csz l') = false := beq_eq_false_iff_ne.2 (by omega)
      have t2 : ((k' : Int) == (l' : Int)) = false := beq_eq_false_iff_ne.2 (by omega)
      go_wp2
      go_ret
      exact ⟨rfl, (((hK0.trans hK1).trans hK2).trans hK3).trans hK4⟩
  · skip
    go_wp2_with fail
    refine (round_yes (1 + r) (by omega) (by omega) _).mono ?_
    rintro e w1 ⟨k, hk, rfl, hK1⟩
    go_wp2_with fail
    refine (round_yes (1 + r) (by omega) (by omega) _).mono ?_
    rintro e w2 ⟨l, hl, rfl, hK2⟩
    go_wp2_with fail
    refine (class_yes (1 + r) (by omega) (by omega) _).mono ?_
    rintro e w3 ⟨k', hk', rfl, hK3⟩
    obtain rfl := hk'.uniq hk
    go_wp2_with fail
    refine (class_yes (1 + r) (by omega) (by omega) _).mono ?_
    rintro e w4 ⟨l', hl', rfl, hK4⟩
    obtain rfl := hl'.uniq hl
    have hkl := hk.mono hl (by omega)
    have hle := csz_le hkl
    by_cases e : k' = l'
    · subst e
      go_wp2
      go_ret
      exact ⟨rfl, (((hK0.trans hK1).trans hK2).trans hK3).trans hK4⟩
    · have hlt := csz_mono (show k' < l' by omega)
      have t1 : (csz k' == csz l') = false := beq_eq_false_iff_ne.2 (by omega)
      have t2 : ((k' : Int) == (l' : Int)) = false := beq_eq_false_iff_ne.2 (by omega)
      go_wp2
      go_ret
      exact ⟨rfl, (((hK0.trans hK1).trans hK2).trans hK3).trans hK4⟩
  · skip
    go_wp2_with fail
    refine (round_yes (1 + s) (by omega) (by omega) _).mono ?_
    rintro e w1 ⟨k, hk, rfl, hK1⟩
    go_wp2_with fail
    refine (round_yes (1 + r) (by omega) (by omega) _).mono ?_
    rintro e w2 ⟨l, hl, rfl, hK2⟩
    go_wp2_with fail
    refine (class_yes (1 + s) (by omega) (by omega) _).mono ?_
    rintro e w3 ⟨k', hk', rfl, hK3⟩
    obtain rfl := hk'.uniq hk
    go_wp2_with fail
    refine (class_yes (1 + r) (by omega) (by omega) _).mono ?_
    rintro e w4 ⟨l', hl', rfl, hK4⟩
    obtain rfl := hl'.uniq hl
    have hkl := hk.mono hl (by omega)
    have hle := csz_le hkl
    by_cases e : k' = l'
    · subst e
      go_wp2
      go_ret
      exact ⟨rfl, (((hK0.trans hK1).trans hK2).trans hK3).trans hK4⟩
    · have hlt := csz_mono (show k' < l' by omega)
      have t1 : (csz k' == csz l') = false := beq_eq_false_iff_ne.2 (by omega)
      have t2 : ((k' : Int) == (l' : Int)) = false := beq_eq_false_iff_ne.2 (by omega)
      go_wp2
      go_ret
      exact ⟨rfl, (((hK0.trans hK1).trans hK2).trans hK3).trans hK4⟩

set_option maxRecDepth 100000 in
set_option maxHeartbeats 1000000 in
theorem doubles_walk (n r : Int) (w : World) (Hr : Hid (r = pk n 32765)) (hr0 : 0 ≤ r) (hr1 : r < 32765) (b1 : -9223372036854775808 ≤ n) (b2 : n ≤ 9223372036854775807) :
    Calls Try.prog 11 #[.int .i64 n] w fun e w' => e = .returned (.bool true) ∧ Kept NoBlk w w' := by
  go_enter Try.func11, Try.ntmps11
  go_wp2_with fail
  refine (awake04 w).mono ?_
  rintro e w0 ⟨rfl, hK0⟩
  go_wp2_with fail
  refine (pick04r Hr (by omega) b1 b2 (by omega) _).mono ?_
  rintro e w0' ⟨rfl, rfl⟩
  go_wp2_with fail
  refine (round_yes (4 + r) (by omega) (by omega) _).mono ?_
  rintro e w1 ⟨k, hk, rfl, hK1⟩
  go_wp2_with fail
  refine (round_yes (2 * (4 + r)) (by omega) (by omega) _).mono ?_
  rintro e w2 ⟨l, hl, rfl, hK2⟩
  obtain rfl := hl.uniq (hk.double (by omega))
  go_wp2_with fail
  refine (class_yes (4 + r) (by omega) (by omega) _).mono ?_
  rintro e w3 ⟨k', hk', rfl, hK3⟩
  obtain rfl := hk'.uniq hk
  go_wp2_with fail
  refine (class_yes (2 * (4 + r)) (by omega) (by omega) _).mono ?_
  rintro e w4 ⟨l', hl', rfl, hK4⟩
  obtain rfl := hl'.uniq (hk.double (by omega))
  have hb := csz_40 (show k' ≤ 40 by have := hk.le28 (by omega); omega)
  have hb4 := csz_pos k'
  have hk28 := hk.le28 (by omega)
  have ht := csz_two k'
  have t1 : (csz (k' + 2) == 2 * csz k') = true := beq_iff_eq.2 (by omega)
  clear ht
  go_wp2
  go_ret
  exact ⟨rfl, (((hK0.trans hK1).trans hK2).trans hK3).trans hK4⟩

set_option maxRecDepth 100000 in
set_option maxHeartbeats 1000000 in
theorem next_walk (n r : Int) (w : World) (Hr : Hid (r = pk n 32768)) (hr0 : 0 ≤ r) (hr1 : r < 32768) (b1 : -9223372036854775808 ≤ n) (b2 : n ≤ 9223372036854775807) :
    Calls Try.prog 12 #[.int .i64 n] w fun e w' => e = .returned (.bool true) ∧ Kept NoBlk w w' := by
  go_enter Try.func12, Try.ntmps12
  go_wp2_with fail
  refine (awake04 w).mono ?_
  rintro e w0 ⟨rfl, hK0⟩
  go_wp2_with fail
  refine (pick04r Hr (by omega) b1 b2 (by omega) _).mono ?_
  rintro e w0' ⟨rfl, rfl⟩
  go_wp2_with fail
  refine (round_yes (1 + r) (by omega) (by omega) _).mono ?_
  rintro e w1 ⟨k, hk, rfl, hK1⟩
  have hk26 := hk.le26 (by omega)
  have hb := Int.le_trans (csz_le hk26) (Int.le_of_eq csz_26)
  have hb4 := csz_pos k
  go_wp2_with fail
  refine (round_yes (csz k + 1) (by omega) (by omega) _).mono ?_
  rintro e w2 ⟨l, hl, rfl, hK2⟩
  obtain rfl := hl.uniq (ClassOf.next k)
  go_wp2_with fail
  refine (class_yes (1 + r) (by omega) (by omega) _).mono ?_
  rintro e w3 ⟨k', hk', rfl, hK3⟩
  obtain rfl := hk'.uniq hk
  go_wp2_with fail
  refine (class_yes (csz k' + 1) (by omega) (by omega) _).mono ?_
  rintro e w4 ⟨l', hl', rfl, hK4⟩
  obtain rfl := hl'.uniq (ClassOf.next k')
  have hb5 := csz_pos (k' + 1)
  have hb6 := csz_40 (show k' + 1 ≤ 40 by omega)
  rcases Nat.mod_two_eq_zero_or_one k' with hp | hp
  · have h1 := csz_r0 hp
    have t1 : (2 * csz (k' + 1) == 3 * csz k') = true := beq_iff_eq.2 h1
    clear h1 hp
    go_wp2
    go_ret
    exact ⟨rfl, (((hK0.trans hK1).trans hK2).trans hK3).trans hK4⟩
  · have h1 := csz_r1 hp
    have t1 : (2 * csz (k' + 1) == 3 * csz k') = false := beq_eq_false_iff_ne.2 (by omega)
    have t2 : (3 * csz (k' + 1) == 4 * csz k') = true := beq_iff_eq.2 h1
    clear h1 hp
    go_wp2
    go_ret
    exact ⟨rfl, (((hK0.trans hK1).trans hK2).trans hK3).trans hK4⟩

end Go.Proofs.Ytenphgmohhdjeaa
