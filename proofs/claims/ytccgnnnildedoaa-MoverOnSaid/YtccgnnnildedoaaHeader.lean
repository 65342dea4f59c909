/-
  The contracts of package header: Right, Size, Gone, Where, Free, Held, Owner.
  Conditions: as each statement says.
-/
import Derived.Test.YtccgnnnildedoaaHeadP
import Derived.Test.YtccgnnnildedoaaWord
set_option linter.unusedVariables false
namespace Go.Proofs.Ytccgnnnildedoaa
open Go.RowKit

theorem notStood_shape : Try.prog.stoodInHeld 25 = false := by kernel_rfl
theorem notGuard_shape : Try.prog.eqGuardType Try.prog.depth 25 = false := by kernel_rfl

set_option maxRecDepth 100000 in
set_option maxHeartbeats 1000000 in
theorem hright_any (p d : Int) (wk fin : Bool) (l0 : -9223372036854775808 ≤ p) (g0 : p ≤ 9223372036854775807) (l1 : -9223372036854775808 ≤ d) (g1 : d ≤ 9223372036854775807) (w : World) :
    Calls Try.prog 22 #[.agg #[.int .i64 p, .int .i64 d, .bool wk, .bool fin]] w fun e w' => e = .returned (.bool (okB p d wk fin)) ∧ Kept NoBlk w w' := by
  have hp := notStood_shape
  have hm := notGuard_shape
  cases wk
  · have hb : okB p d false fin = (decide (0 ≤ p) && decide (0 ≤ d) && decide (p ≤ 8) && decide (d ≤ 8)) := rfl
    obtain ⟨b, Hb⟩ : ∃ b, Hid (b = okB p d false fin) := ⟨_, rfl⟩
    rw [← Hb.out]
    rw [hb] at Hb
    clear hb
    by_cases h : 0 ≤ min p d
    · go_enter Try.func22, Try.ntmps22
      go_wp2
      go_ret
      exact ⟨ret_bool (by rw [Hb.out, Bool.eq_iff_iff]; simp; omega), (Kept.refl _ w).alloc _⟩
    · go_enter Try.func22, Try.ntmps22
      go_wp2
      go_ret
      exact ⟨ret_bool (by rw [Hb.out, Bool.eq_iff_iff]; simp; omega), (Kept.refl _ w).alloc _⟩
  · have hb : okB p d true fin = (decide (p = 1) && decide (d = 0) && !fin) := rfl
    obtain ⟨b, Hb⟩ : ∃ b, Hid (b = okB p d true fin) := ⟨_, rfl⟩
    rw [← Hb.out]
    rw [hb] at Hb
    clear hb
    go_enter Try.func22, Try.ntmps22
    go_wp2
    all_goals
      go_ret
      refine ⟨ret_bool (by have := Hb.out; simp_all), (Kept.refl _ w).alloc _⟩

set_option maxRecDepth 100000 in
set_option maxHeartbeats 1000000 in
theorem hsize_yes (p d : Int) (wk fin : Bool) (h : okB p d wk fin = true) (w : World) :
    Calls Try.prog 21 #[.agg #[.int .i64 p, .int .i64 d, .bool wk, .bool fin]] w fun e w' => e = .returned (.tuple #[.int .i64 (3 + p + d), .bool true]) ∧ Kept NoBlk w w' := by
  have hb : 0 ≤ p ∧ 0 ≤ d ∧ p ≤ 8 ∧ d ≤ 8 := by
    unfold okB at h
    split at h <;> simp at h <;> omega
  obtain ⟨h0, h1, h2, h3⟩ := hb
  have hR := fun W => hright_any p d wk fin (by omega) (by omega) (by omega) (by omega) W
  rw [h] at hR
  clear h
  go_enter Try.func21, Try.ntmps21
  have hK := Kept.refl NoBlk w
  have hb := Bk.new w 25 (#[.int .i64 p, .int .i64 d, .bool wk, .bool fin] : Array Value)
  replace hK := hK.alloc (.cells #[.int .i64 p, .int .i64 d, .bool wk, .bool fin] 25)
  have c_hb := hb.cell
  have f_hb := hb.frozen
  go_wp2_with fail
  refine (hR _).mono ?_
  rintro e_ wc1 ⟨rfl, hKn⟩
  replace hb := hb.kept hKn id
  replace hK := hK.trans hKn
  clear hKn
  replace c_hb := hb.cell
  replace f_hb := hb.frozen
  go_wp2
  go_ret2
  exact ⟨rfl, hK⟩

set_option maxRecDepth 100000 in
set_option maxHeartbeats 1000000 in
theorem hsize_no (p d : Int) (wk fin : Bool) (l0 : -9223372036854775808 ≤ p) (g0 : p ≤ 9223372036854775807) (l1 : -9223372036854775808 ≤ d) (g1 : d ≤ 9223372036854775807) (h : okB p d wk fin = false) (w : World) :
    Calls Try.prog 21 #[.agg #[.int .i64 p, .int .i64 d, .bool wk, .bool fin]] w fun e w' => e = .returned (.tuple #[.int .i64 0, .bool false]) ∧ Kept NoBlk w w' := by
  have hR := fun W => hright_any p d wk fin l0 g0 l1 g1 W
  rw [h] at hR
  clear h
  go_enter Try.func21, Try.ntmps21
  have hK := Kept.refl NoBlk w
  have hb := Bk.new w 25 (#[.int .i64 p, .int .i64 d, .bool wk, .bool fin] : Array Value)
  replace hK := hK.alloc (.cells #[.int .i64 p, .int .i64 d, .bool wk, .bool fin] 25)
  have c_hb := hb.cell
  have f_hb := hb.frozen
  go_wp2_with fail
  refine (hR _).mono ?_
  rintro e_ wc2 ⟨rfl, hKn⟩
  replace hb := hb.kept hKn id
  replace hK := hK.trans hKn
  clear hKn
  replace c_hb := hb.cell
  replace f_hb := hb.frozen
  go_wp2
  go_ret2
  exact ⟨rfl, hK⟩

theorem flag_any (b : Bool) (w : World) : Calls Try.prog 63 #[.bool b] w fun e w' => e = .returned (.int .u64 (b2n b : Nat)) ∧ w = w' := by
  cases b
  all_goals
    go_enter Try.func63, Try.ntmps63
    go_wp2
    go_ret
    exact ⟨rfl, rfl⟩

/-- A word of what is gone. -/
def goneI (k : Int) : Int := 4 * k + 2
theorem or_two (k : Nat) (h : k ≤ 131072) : bits .or .u64 ((k : Int) * 4) 2 = goneI k := by
  have e : (k : Int) * 4 = ((4 * k : Nat) : Int) := by omega
  have := u64_or_nat (4 * k) 2 (by omega) (by omega)
  rw [e]
  rw [show ((2 : Nat) : Int) = 2 from rfl] at this
  rw [this, nat_join 2 (4 * k) 2 (by omega) (by omega)]
  unfold goneI; omega

set_option maxHeartbeats 400000 in
theorem gone_yes (k : Int) (h1 : 1 ≤ k) (h2 : k ≤ 131072) (w : World) :
    Calls Try.prog 26 #[.int .i64 k] w fun e w' => e = .returned (.tuple #[.int .u64 (goneI k), .bool true]) ∧ w = w' := by
  obtain ⟨k, rfl⟩ := Int.eq_ofNat_of_zero_le (show 0 ≤ k by omega)
  have hs := Lib.hid (or_two k (by omega))
  go_enter Try.func26, Try.ntmps26
  go_wp2
  go_ret2
  exact ⟨congrArg (fun z => Ending.returned (.tuple #[.int .u64 z, .bool true])) hs.out, rfl⟩

set_option maxHeartbeats 400000 in
theorem gone_no (k : Int) (h1 : k < 1) (w : World) :
    Calls Try.prog 26 #[.int .i64 k] w fun e w' => e = .returned (.tuple #[.int .u64 0, .bool false]) ∧ w = w' := by
  go_enter Try.func26, Try.ntmps26
  go_wp2
  go_ret2
  exact ⟨rfl, rfl⟩

theorem and_three (x : Int) (h0 : 0 ≤ x) (h1 : x < 18446744073709551616) : bits .and .u64 x 3 = x % 4 := by
  obtain ⟨x, rfl⟩ := Int.eq_ofNat_of_zero_le h0
  have := u64_and_nat x 3 (by omega) (by omega)
  rw [show ((3 : Nat) : Int) = 3 from rfl] at this
  rw [this, nat_mask2]; simp

/-- Is a word one of what is gone? -/
def isGone (x : Int) : Bool := decide (x % 4 = 2) && decide (1 ≤ x / 4) && decide (x / 4 ≤ 131072)
theorem isGone_gone {k : Int} (h1 : 1 ≤ k) (h2 : k ≤ 131072) : isGone (goneI k) = true ∧ goneI k / 4 = k := by
  have h3 : goneI k / 4 = k := by unfold goneI; omega
  have h4 : goneI k % 4 = 2 := by unfold goneI; omega
  refine ⟨?_, h3⟩
  unfold isGone
  rw [h3, h4]; simp [h1, h2]
theorem isGone_of {x : Int} (h : isGone x = true) : goneI (x / 4) = x ∧ 1 ≤ x / 4 ∧ x / 4 ≤ 131072 := by
  unfold isGone at h
  simp at h
  unfold goneI; omega

set_option maxRecDepth 100000 in
set_option maxHeartbeats 400000 in
theorem where_yes (x : Int) (h0 : 0 ≤ x) (h1 : x < 18446744073709551616) (h : isGone x = true) (w : World) :
    Calls Try.prog 27 #[.int .u64 x] w fun e w' => e = .returned (.tuple #[.int .i64 (x / 4), .bool true]) ∧ w = w' := by
  have ha := and_three x h0 h1
  have h2 : x % 4 = 2 ∧ 1 ≤ x / 4 ∧ x / 4 ≤ 131072 := by unfold isGone at h; simp at h; omega
  clear h
  obtain ⟨h2, h3, h4⟩ := h2
  rw [h2] at ha
  clear h2
  go_enter Try.func27, Try.ntmps27
  go_wp2
  go_ret2
  exact ⟨rfl, rfl⟩

set_option maxRecDepth 100000 in
set_option maxHeartbeats 400000 in
theorem where_no (x : Int) (h0 : 0 ≤ x) (h1 : x < 18446744073709551616) (h : isGone x = false) (w : World) :
    Calls Try.prog 27 #[.int .u64 x] w fun e w' => e = .returned (.tuple #[.int .i64 0, .bool false]) ∧ w = w' := by
  have ha := and_three x h0 h1
  have h2 : ¬ x % 4 = 2 ∨ (x % 4 = 2 ∧ x / 4 < 1) ∨ (x % 4 = 2 ∧ ¬ x / 4 < 1 ∧ 131072 < x / 4) := by
    unfold isGone at h; simp at h; omega
  clear h
  rcases h2 with h2 | ⟨h2, h3⟩ | ⟨h2, h3, h4⟩
  · obtain ⟨y, hy⟩ : ∃ y, y = x % 4 := ⟨_, rfl⟩
    rw [← hy] at ha h2
    have Hy := Lib.hid hy
    clear hy
    go_enter Try.func27, Try.ntmps27
    go_wp2
    go_ret2
    exact ⟨rfl, rfl⟩
  · rw [h2] at ha
    clear h2
    go_enter Try.func27, Try.ntmps27
    go_wp2
    go_ret2
    exact ⟨rfl, rfl⟩
  · rw [h2] at ha
    clear h2
    go_enter Try.func27, Try.ntmps27
    go_wp2
    go_ret2
    exact ⟨rfl, rfl⟩

end Go.Proofs.Ytccgnnnildedoaa
