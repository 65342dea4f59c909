/-
  The contracts of package word, of right parts: Right, low, Mask, Get, Set, Zig, Zag.
  Conditions: the part is a right one.
-/
import Derived.Test.YtccgnnnildedoaaRows
import Derived.Test.YtccgnnnildedoaaLen
import Derived.Deep.QuietTactic
import Derived.BigQuiet
import Derived.IntWalk
import Derived.Lib.Zigzag
import Derived.Deep.RegionHeld3
set_option linter.unusedVariables false
namespace Go.Proofs.Ytccgnnnildedoaa
open Go.RowKit

theorem Kept.cell_some {a c : World} (h : Kept NoBlk a c) {p : Addr} {v : Value} (hc : a.cell? p = some v) : c.cell? p = some v := by
  by_cases hp : p.block < a.heap.size
  · rw [← hc]; simp only [World.cell?]; rw [h.block _ hp id]
  · simp [World.cell?, Array.getElem?_eq_none (Nat.le_of_not_lt hp)] at hc

theorem ret_bool {a b : Bool} (h : a = b) : Ending.returned (.bool a) = .returned (.bool b) := by rw [h]
theorem all_shr (n : Nat) (h : n ≤ 64) : (18446744073709551615 : Int) / 2 ^ (64 - n) = ((2 ^ n - 1 : Nat) : Int) := by
  have e : (18446744073709551615 : Nat) / 2 ^ (64 - n) = 2 ^ n - 1 := by
    have h1 : (18446744073709551615 : Nat) + 1 = 2 ^ n * 2 ^ (64 - n) := by rw [← Nat.pow_add, show n + (64 - n) = 64 by omega]
    have hp := Nat.two_pow_pos (64 - n)
    have hq := Nat.two_pow_pos n
    have h2 : (18446744073709551615 : Nat) = 2 ^ (64 - n) * (2 ^ n - 1) + (2 ^ (64 - n) - 1) := by
      rw [Nat.mul_sub, Nat.mul_comm (2 ^ (64 - n)) (2 ^ n)]
      have : 2 ^ (64 - n) * 1 ≤ 2 ^ n * 2 ^ (64 - n) := by rw [Nat.mul_comm (2 ^ n)]; exact Nat.mul_le_mul_left _ hq
      omega
    rw [h2, Nat.mul_add_div hp, Nat.div_eq_of_lt (by omega), Nat.add_zero]
  rw [← e]; simp

set_option maxRecDepth 100000 in
set_option maxHeartbeats 400000 in
theorem low_any (n : Nat) (h1 : 1 ≤ n) (h : n ≤ 64) (w : World) :
    Calls Try.prog 109 #[.int .i64 n] w fun e w' => e = .returned (.int .u64 ((2 ^ n - 1 : Nat) : Int)) ∧ w' = w := by
  have hs := Lib.hid (all_shr n h)
  go_enter Try.func109, Try.ntmps109
  go_wp2
  go_ret
  exact ⟨ret_int hs.out, rfl⟩

set_option maxRecDepth 100000 in
set_option maxHeartbeats 400000 in
theorem right_part (s n : Nat) (h1 : 1 ≤ n) (h2 : s + n ≤ 64) (w : World) :
    Calls Try.prog 107 #[.agg #[.int .i64 s, .int .i64 n]] w fun e w' => e = .returned (.bool true) ∧ Kept NoBlk w w' := by
  go_enter Try.func107, Try.ntmps107
  go_wp2
  go_ret
  exact ⟨ret_bool (decide_eq_true (by omega)), (Kept.refl _ w).alloc _⟩

theorem mskI (s n : Nat) : ((2 ^ n - 1 : Nat) : Int) * 2 ^ s = (mskN s n : Nat) := by unfold mskN; simp
theorem wrap_msk (s n : Nat) (h : s + n ≤ 64) : IntKind.u64.wrap (((2 ^ n - 1 : Nat) : Int) * 2 ^ s) = (mskN s n : Nat) := by
  have := mskN_lt h
  rw [mskI, IntKind.wrap_u64]
  omega
theorem and_low (x s n : Nat) (hx : x < 18446744073709551616) (h : n ≤ 64) : bits .and .u64 ((x : Int) / 2 ^ s) ((2 ^ n - 1 : Nat) : Int) = (getN x s n : Nat) := by
  have h1 : 2 ^ n - 1 < 18446744073709551616 := by
    have := Nat.pow_le_pow_right (show 0 < 2 by omega) h
    omega
  have h2 : ((x : Int) / 2 ^ s) = ((x / 2 ^ s : Nat) : Int) := by simp
  rw [h2, u64_and_nat _ _ (Nat.lt_of_le_of_lt (Nat.div_le_self _ _) hx) h1, Nat.and_two_pow_sub_one_eq_mod]
  rfl
theorem bits_xor_comm (k : IntKind) (x y : Int) : bits .xor k x y = bits .xor k y x := by
  show k.wrap ((BitVec.ofInt k.bits x ^^^ BitVec.ofInt k.bits y).toNat : Int) = k.wrap ((BitVec.ofInt k.bits y ^^^ BitVec.ofInt k.bits x).toNat : Int)
  rw [BitVec.xor_comm]
theorem bits_xor_zero (x : Int) (h0 : 0 ≤ x) (h1 : x < 18446744073709551616) : bits .xor .u64 x 0 = x := by
  obtain ⟨x, rfl⟩ := Int.eq_ofNat_of_zero_le h0
  have := u64_xor_nat x 0 (by omega) (by omega)
  simpa using this
theorem bits_xor_zero_i (x : Int) (h0 : 0 ≤ x) (h1 : x < 9223372036854775808) : bits .xor .i64 x 0 = x := by
  obtain ⟨x, rfl⟩ := Int.eq_ofNat_of_zero_le h0
  show IntKind.i64.wrap ((BitVec.ofInt 64 (x : Int) ^^^ BitVec.ofInt 64 0).toNat : Int) = _
  have h2 : (BitVec.ofInt 64 (x : Int)).toNat = x := by
    rw [BitVec.ofInt_natCast, BitVec.toNat_ofNat]; exact Nat.mod_eq_of_lt (by omega)
  have h3 : (BitVec.ofInt 64 0).toNat = 0 := by decide
  rw [BitVec.toNat_xor, h2, h3, IntKind.wrap_i64]
  simp; omega
theorem zig_bits (n : Int) (h1 : -9223372036854775808 ≤ n) (h2 : n ≤ 9223372036854775807) :
    bits .xor .u64 (IntKind.u64.wrap (IntKind.u64.wrap n * 2)) (IntKind.u64.wrap (n / 9223372036854775808)) = zigI n := by
  unfold zigI
  by_cases h : n < 0
  · rw [if_pos h, show n / 9223372036854775808 = -1 by omega, show IntKind.u64.wrap (-1) = IntKind.u64.max by decide, bits_xor_comm, Lib.zigzag_neg h1 h]
    unfold Lib.zigzag
    split <;> omega
  · rw [if_neg h, show n / 9223372036854775808 = 0 by omega, show IntKind.u64.wrap 0 = 0 by decide]
    have e : IntKind.u64.wrap (IntKind.u64.wrap n * 2) = 2 * n := by rw [IntKind.wrap_u64, IntKind.wrap_u64]; omega
    rw [e, bits_xor_zero _ (by omega) (by omega)]
theorem zag_bits (n : Int) (h1 : 0 ≤ n) (h2 : n < 18446744073709551616) : bits .xor .i64 (n / 2) (wrap64 (-wrap64 (bits .and .u64 n 1))) = zagI n := by
  rw [Lib.u64_and1 n h1 h2]
  unfold zagI
  rcases (show n % 2 = 0 ∨ n % 2 = 1 by omega) with h | h
  · rw [h, if_pos rfl, show wrap64 (-wrap64 0) = 0 by unfold wrap64; decide, bits_xor_zero_i _ (by omega) (by omega)]
  · rw [h, if_neg (by decide), show wrap64 (-wrap64 1) = -1 by unfold wrap64; decide, bits_xor_comm]
    obtain ⟨k, hk⟩ := Int.eq_ofNat_of_zero_le (show 0 ≤ n / 2 by omega)
    rw [hk, Lib.i64_not k (by omega)]
theorem set_bits (x s n v : Nat) (h : s + n ≤ 64) (hx : x < 18446744073709551616) (hv : v < 2 ^ n) :
    bits .or .u64 (bits .andNot .u64 (x : Int) (mskN s n : Nat)) (IntKind.u64.wrap ((v : Int) * 2 ^ s)) = (setN x s n v : Nat) := by
  have hm := mskN_lt h
  have hvs : v * 2 ^ s < 2 ^ 64 := by
    have h1 : v * 2 ^ s < 2 ^ n * 2 ^ s := Nat.mul_lt_mul_of_pos_right hv (Nat.two_pow_pos s)
    have h2 : 2 ^ n * 2 ^ s ≤ 2 ^ 64 := by rw [← Nat.pow_add]; exact Nat.pow_le_pow_right (by omega) (by omega)
    omega
  have e : IntKind.u64.wrap ((v : Int) * 2 ^ s) = ((v * 2 ^ s : Nat) : Int) := by
    have : ((v : Int) * 2 ^ s) = ((v * 2 ^ s : Nat) : Int) := by simp
    rw [this, IntKind.wrap_u64]; omega
  have h3 : x &&& (18446744073709551615 - mskN s n) < 18446744073709551616 := Nat.lt_of_le_of_lt Nat.and_le_left hx
  rw [e, u64_andNot_nat _ _ hx (by omega), u64_or_nat _ _ h3 (by omega)]
  rfl

set_option maxRecDepth 100000 in
set_option maxHeartbeats 1000000 in
theorem mask_part (s n : Nat) (h1 : 1 ≤ n) (h2 : s + n ≤ 64) (w : World) :
    Calls Try.prog 108 #[.agg #[.int .i64 s, .int .i64 n]] w fun e w' => e = .returned (.int .u64 (mskN s n : Nat)) ∧ Kept NoBlk w w' := by
  go_enter Try.func108, Try.ntmps108
  go_wp2_with fail
  refine (right_part s n h1 h2 _).mono ?_
  rintro e w1 ⟨rfl, hK⟩
  have hb := (Bk.new w 147 (#[.int .i64 s, .int .i64 n] : Array Value)).kept hK id
  have hK' := ((Kept.refl NoBlk w).alloc _).trans hK
  clear hK
  have c0 := hb.cell 0
  have c1 := hb.cell 1
  go_wp2_with fail
  go_quiet ((go_at_call 109; exact Calls.quiet_of_same (low_any _ h1 (by omega) _)))
  go_wp2
  go_ret
  exact ⟨ret_int (wrap_msk s n h2), hK'.drewN _⟩

set_option maxRecDepth 100000 in
set_option maxHeartbeats 1000000 in
theorem get_part (x s n : Nat) (hx : x < 18446744073709551616) (h1 : 1 ≤ n) (h2 : s + n ≤ 64) (w : World) :
    Calls Try.prog 94 #[.int .u64 x, .agg #[.int .i64 s, .int .i64 n]] w fun e w' => e = .returned (.int .u64 (getN x s n : Nat)) ∧ Kept NoBlk w w' := by
  go_enter Try.func94, Try.ntmps94
  go_wp2_with fail
  refine (right_part s n h1 h2 _).mono ?_
  rintro e w1 ⟨rfl, hK⟩
  have hb := (Bk.new w 147 (#[.int .i64 s, .int .i64 n] : Array Value)).kept hK id
  have hK' := ((Kept.refl NoBlk w).alloc _).trans hK
  clear hK
  have c0 := hb.cell 0
  have c1 := hb.cell 1
  go_wp2_with fail
  go_quiet ((go_at_call 109; exact Calls.quiet_of_same (low_any _ h1 (by omega) _)))
  go_wp2
  go_ret
  exact ⟨ret_int (and_low x s n hx (by omega)), hK'.drewN _⟩

set_option maxRecDepth 100000 in
set_option maxHeartbeats 1000000 in
theorem set_part (x s n v : Nat) (hx : x < 18446744073709551616) (h1 : 1 ≤ n) (h2 : s + n ≤ 64) (hv : v < 2 ^ n) (w : World) :
    Calls Try.prog 92 #[.int .u64 x, .agg #[.int .i64 s, .int .i64 n], .int .u64 v] w fun e w' => e = .returned (.tuple #[.int .u64 (setN x s n v : Nat), .bool true]) ∧ Kept NoBlk w w' := by
  have hR := fun W => right_part s n h1 h2 W
  have hM := fun W => mask_part s n h1 h2 W
  have hv64 : v < 18446744073709551616 := by
    have := Nat.pow_le_pow_right (show 0 < 2 by omega) (show n ≤ 64 by omega)
    omega
  have hL := fun W => len64 v hv64 W
  have hbl := (bitLen_lt v n hv64).2 hv
  have hle : decide (n < Lib.bitLen v) = false := decide_eq_false (by omega)
  have HV := Lib.hid hv
  clear hv hbl
  go_enter Try.func92, Try.ntmps92
  go_wp2_with fail
  go_region_held3 (fun W => W.cell? ⟨w.heap.size, 0, none⟩ = some (.int .i64 s) ∧ W.cell? ⟨w.heap.size, 1, none⟩ = some (.int .i64 n) ∧ Kept NoBlk w W)
    (first
      | (have hb := (Bk.new w 147 (#[.int .i64 s, .int .i64 n] : Array Value)); exact ⟨hb.cell 0, hb.cell 1, ((Kept.refl _ w).alloc _).drew⟩)
      | (go_split_ands; exact ⟨‹_›, ‹_›, ‹_›⟩)
      | (go_split_ands; exact ⟨‹_›, ‹_›, Kept.drew ‹_›⟩)
      | (go_split_ands; exact ⟨hKc.cell_some ‹_›, hKc.cell_some ‹_›, Kept.trans ‹Kept NoBlk w _› hKc⟩))
    (first
      | (go_at_call 107; refine (hR _).mono ?_; rintro e wc ⟨rfl, hKc⟩)
      | (go_at_call 93; refine (hL _).mono ?_; rintro e wc ⟨rfl, rfl⟩))
  clear hle
  go_wp2_with fail
  go_region_held3 (fun W => W.cell? ⟨w.heap.size, 0, none⟩ = some (.int .i64 s) ∧ W.cell? ⟨w.heap.size, 1, none⟩ = some (.int .i64 n) ∧ Kept NoBlk w W)
    (first
      | (go_split_ands; exact ⟨‹_›, ‹_›, ‹_›⟩)
      | (go_split_ands; exact ⟨‹_›, ‹_›, Kept.drew ‹_›⟩)
      | (go_split_ands; exact ⟨hKd.cell_some ‹_›, hKd.cell_some ‹_›, Kept.trans ‹Kept NoBlk w _› hKd⟩))
    (first
      | (go_at_call 108; refine (hM _).mono ?_; rintro e wd ⟨rfl, hKd⟩))
  go_wp2
  go_ret2
  refine ⟨ret_eq ?_, by (go_split_ands; assumption)⟩
  exact congrArg (fun z => Value.tuple #[Value.int .u64 z, .bool true]) (set_bits x s n v h2 hx HV.out)

set_option maxRecDepth 100000 in
set_option maxHeartbeats 1000000 in
theorem zig_any (n : Int) (h1 : -9223372036854775808 ≤ n) (h2 : n ≤ 9223372036854775807) (w : World) :
    Calls Try.prog 75 #[.int .i64 n] w fun e w' => e = .returned (.int .u64 (zigI n)) ∧ w = w' := by
  go_enter Try.func75, Try.ntmps75
  go_wp2
  go_ret
  exact ⟨ret_int (zig_bits n h1 h2), rfl⟩

set_option maxRecDepth 100000 in
set_option maxHeartbeats 1000000 in
theorem zag_any (n : Int) (h1 : 0 ≤ n) (h2 : n < 18446744073709551616) (w : World) :
    Calls Try.prog 76 #[.int .u64 n] w fun e w' => e = .returned (.int .i64 (zagI n)) ∧ w = w' := by
  go_enter Try.func76, Try.ntmps76
  go_wp2
  go_ret
  exact ⟨ret_int (zag_bits n h1 h2), rfl⟩

end Go.Proofs.Ytccgnnnildedoaa
