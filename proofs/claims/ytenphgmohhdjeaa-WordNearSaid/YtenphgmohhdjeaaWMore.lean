/-
  The walks through the laws WordZigs, WordNear and WordMasks.
  Conditions: none.
-/
import Derived.Test.YtenphgmohhdjeaaLaw01
import Derived.Test.YtenphgmohhdjeaaAwake01
set_option linter.unusedVariables false
namespace Go.Proofs.Ytenphgmohhdjeaa
open Go.RowKit Go.Shelf

theorem zig_is (n z : Int) (h1 : -9223372036854775808 ≤ n) (h2 : n ≤ 9223372036854775807) (hz : zigI n = z) (w : World) :
    Calls Try.prog 63 #[.int .i64 n] w fun e w' => e = .returned (.int .u64 z) ∧ w = w' := hz ▸ zig_any n h1 h2 w
theorem zag_is (n z : Int) (h1 : 0 ≤ n) (h2 : n < 18446744073709551616) (hz : zagI n = z) (w : World) :
    Calls Try.prog 62 #[.int .u64 n] w fun e w' => e = .returned (.int .i64 z) ∧ w = w' := hz ▸ zag_any n h1 h2 w

set_option maxRecDepth 100000 in
set_option maxHeartbeats 1000000 in
theorem zigs_walk (n x m : Int) (w : World) (Hm : Hid (m = pk n 1000000)) (hm0 : 0 ≤ m) (hm1 : m < 1000000) (h1 : -9223372036854775808 ≤ n) (h2 : n ≤ 9223372036854775807) (hx0 : 0 ≤ x) (hx1 : x < 18446744073709551616) :
    Calls Try.prog 20 #[.int .i64 n, .int .u64 x] w fun e w' => e = .returned (.bool true) ∧ Kept NoBlk w w' := by
  have hz := zig_bd n h1 h2
  have hy := zag_bd x hx0 hx1
  have c1 := fun W => zig_is n (zigI n) h1 h2 rfl W
  have c2 := fun W => zag_is (zigI n) n hz.1 hz.2 (zag_zig n) W
  have c3 := fun W => zag_is x (zagI x) hx0 hx1 rfl W
  have c4 := fun W => zig_is (zagI x) x hy.1 hy.2 (zig_zag x hx0) W
  have c5 := fun W => zig_is m (2 * m) (by omega) (by omega) (by unfold zigI; rw [if_neg (by omega)]) W
  have c6 := fun W => zig_is (-m - 1) (2 * m + 1) (by omega) (by omega) (by unfold zigI; rw [if_pos (by omega)]; omega) W
  generalize zigI n = z at *
  generalize zagI x = y at *
  have e1 : IntKind.u64.wrap (2 * m) = 2 * m := IntWalk.u64_in _ (by omega)
  have e2 : IntKind.u64.wrap (2 * m + 1) = 2 * m + 1 := IntWalk.u64_in _ (by omega)
  go_enter Try.func20, Try.ntmps20
  go_wp2_with fail
  refine (awake01 _).mono ?_
  rintro e w1 ⟨rfl, hK⟩
  go_wp2_with fail
  refine (pick01r Hm (by omega) h1 h2 (by omega) _).mono ?_
  rintro e w2 ⟨rfl, rfl⟩
  go_wp2_with fail
  refine (c1 _).mono ?_
  rintro e_ wc1 ⟨rfl, rfl⟩
  go_wp2_with fail
  refine (c2 _).mono ?_
  rintro e_ wc2 ⟨rfl, rfl⟩
  go_wp2_with fail
  refine (c3 _).mono ?_
  rintro e_ wc3 ⟨rfl, rfl⟩
  go_wp2_with fail
  refine (c4 _).mono ?_
  rintro e_ wc4 ⟨rfl, rfl⟩
  go_wp2_with fail
  refine (c5 _).mono ?_
  rintro e_ wc5 ⟨rfl, rfl⟩
  go_wp2_with fail
  refine (c6 _).mono ?_
  rintro e_ wc6 ⟨rfl, rfl⟩
  go_wp2
  go_ret
  exact ⟨rfl, hK⟩

set_option maxRecDepth 100000 in
set_option maxHeartbeats 1000000 in
theorem near_walk (a b m r : Int) (w : World) (Hm : Hid (m = pk a 1099511627776)) (hm0 : 0 ≤ m) (hm1 : m < 1099511627776) (Hr : Hid (r = pk b 1099511627776)) (hr0 : 0 ≤ r) (hr1 : r < 1099511627776)
    (h1 : -9223372036854775808 ≤ a) (h2 : a ≤ 9223372036854775807) (h3 : -9223372036854775808 ≤ b) (h4 : b ≤ 9223372036854775807) :
    Calls Try.prog 23 #[.int .i64 a, .int .i64 b] w fun e w' => e = .returned (.bool true) ∧ Kept NoBlk w w' := by
  have c1 := fun W => zig_is m (2 * m) (by omega) (by omega) (by unfold zigI; rw [if_neg (by omega)]) W
  have c2 := fun W => zig_is (m + 1 + r) (2 * (m + 1 + r)) (by omega) (by omega) (by unfold zigI; rw [if_neg (by omega)]) W
  have c3 := fun W => zig_is (-m - 1) (2 * m + 1) (by omega) (by omega) (by unfold zigI; rw [if_pos (by omega)]; omega) W
  have c4 := fun W => zig_is (-(m + 1 + r) - 1) (2 * (m + 1 + r) + 1) (by omega) (by omega) (by unfold zigI; rw [if_pos (by omega)]; omega) W
  go_enter Try.func23, Try.ntmps23
  go_wp2_with fail
  refine (awake01 _).mono ?_
  rintro e w1 ⟨rfl, hK⟩
  go_wp2_with fail
  refine (pick01r Hm (by omega) h1 h2 (by omega) _).mono ?_
  rintro e w2 ⟨rfl, rfl⟩
  go_wp2_with fail
  refine (pick01r Hr (by omega) h3 h4 (by omega) _).mono ?_
  rintro e w2 ⟨rfl, rfl⟩
  go_wp2_with fail
  refine (c1 _).mono ?_
  rintro e_ wc7 ⟨rfl, rfl⟩
  go_wp2_with fail
  refine (c2 _).mono ?_
  rintro e_ wc8 ⟨rfl, rfl⟩
  go_wp2_with fail
  refine (c3 _).mono ?_
  rintro e_ wc9 ⟨rfl, rfl⟩
  go_wp2_with fail
  refine (c4 _).mono ?_
  rintro e_ wc10 ⟨rfl, rfl⟩
  go_wp2_with fail
  refine (c1 _).mono ?_
  rintro e_ wc11 ⟨rfl, rfl⟩
  go_wp2_with fail
  refine (c4 _).mono ?_
  rintro e_ wc12 ⟨rfl, rfl⟩
  go_wp2_with fail
  refine (c3 _).mono ?_
  rintro e_ wc13 ⟨rfl, rfl⟩
  go_wp2_with fail
  refine (c2 _).mono ?_
  rintro e_ wc14 ⟨rfl, rfl⟩
  go_wp2
  go_ret
  exact ⟨ret_bool (decide_eq_true (by omega)), hK⟩

theorem or_msks (s n m : Nat) (h : s + n + m ≤ 64) : bits .or .u64 ((mskN s n : Nat) : Int) ((mskN (s + n) m : Nat) : Int) = ((mskN s (n + m) : Nat) : Int) := by
  rw [u64_or_nat _ _ (mskN_lt (by omega)) (mskN_lt (by omega)), msk_or]
theorem and_msk0 (s n m : Nat) (h : s + n + m ≤ 64) (hn : 0 < n) (hm : 0 < m) : bits .and .u64 ((mskN s n : Nat) : Int) ((mskN (s + n) m : Nat) : Int) = 0 := by
  rw [u64_and_nat _ _ (mskN_lt (by omega)) (mskN_lt (by omega)), (msk_and s n (s + n) m hn hm).2 (.inl (Nat.le_refl _))]; rfl

set_option maxRecDepth 100000 in
set_option maxHeartbeats 1000000 in
theorem masks_walk (x y z : Int) (s a b : Nat) (w : World) (Hs : Hid ((s : Int) = pk x 63)) (hs1 : s < 63) (Ha : Hid ((a : Int) = pk y (63 - s))) (ha1 : a < 63 - s) (Hb : Hid ((b : Int) = pk z (64 - s - (1 + a)))) (hb1 : b < 64 - s - (1 + a))
    (h1 : -9223372036854775808 ≤ x) (h2 : x ≤ 9223372036854775807) (h3 : -9223372036854775808 ≤ y) (h4 : y ≤ 9223372036854775807) (h5 : -9223372036854775808 ≤ z) (h6 : z ≤ 9223372036854775807) :
    Calls Try.prog 21 #[.int .i64 x, .int .i64 y, .int .i64 z] w fun e w' => e = .returned (.bool true) ∧ Kept NoBlk w w' := by
  have c1 := fun W => mask_part s (1 + a) (by omega) (by omega) W
  have c2 := fun W => mask_part (s + (1 + a)) (1 + b) (by omega) (by omega) W
  have c3 := fun W => mask_part s (1 + a + (1 + b)) (by omega) (by omega) W
  have e1 := or_msks s (1 + a) (1 + b) (by omega)
  have e2 := and_msk0 s (1 + a) (1 + b) (by omega) (by omega) (by omega)
  have p1 := msk_pos s (1 + a) (by omega)
  have p2 := msk_pos (s + (1 + a)) (1 + b) (by omega)
  simp only [Int.natCast_add, Int.natCast_one] at c1 c2 c3
  generalize mskN s (1 + a) = u at *
  generalize mskN (s + (1 + a)) (1 + b) = v at *
  generalize mskN s (1 + a + (1 + b)) = t at *
  go_enter Try.func21, Try.ntmps21
  go_wp2_with fail
  refine (awake01 _).mono ?_
  rintro e w1 ⟨rfl, hK⟩
  go_wp2_with fail
  refine (pick01r Hs (by omega) h1 h2 (by omega) _).mono ?_
  rintro e w2 ⟨rfl, rfl⟩
  go_wp2_with fail
  refine (pick01r Ha (by omega) h3 h4 (by omega) _).mono ?_
  rintro e w2 ⟨rfl, rfl⟩
  go_wp2_with fail
  refine (pick01r Hb (by omega) h5 h6 (by omega) _).mono ?_
  rintro e w2 ⟨rfl, rfl⟩
  go_wp2_with fail
  refine (c1 _).mono ?_
  rintro e_ wc15 ⟨rfl, hKn⟩
  replace hK := hK.trans hKn
  clear hKn
  go_wp2_with fail
  refine (c2 _).mono ?_
  rintro e_ wc16 ⟨rfl, hKn⟩
  replace hK := hK.trans hKn
  clear hKn
  go_wp2_with fail
  refine (c3 _).mono ?_
  rintro e_ wc17 ⟨rfl, hKn⟩
  replace hK := hK.trans hKn
  clear hKn
  go_wp2
  go_ret
  exact ⟨rfl, hK⟩

end Go.Proofs.Ytenphgmohhdjeaa
