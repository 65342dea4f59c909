/-
  The sizes of classes: 4, 6, 8, 12, .. as numbers, and what follows of them. No program is looked at here.
  Conditions: none.
-/
import Derived.Test.YtccgnnnildedoaaBase
set_option linter.unusedVariables false
namespace Go.Proofs.Ytccgnnnildedoaa

/-- The size at a place. -/
def csz (k : Nat) : Int := (if k % 2 = 0 then 4 else 6) * 2 ^ (k / 2)

theorem csz_even {k : Nat} (h : k % 2 = 0) : csz k = 4 * 2 ^ (k / 2) := by unfold csz; rw [if_pos h]
theorem csz_odd {k : Nat} (h : k % 2 = 1) : csz k = 6 * 2 ^ (k / 2) := by unfold csz; rw [if_neg (by omega)]
theorem pow_pos2 (n : Nat) : (0 : Int) < 2 ^ n := Int.pow_pos (by omega)
theorem csz_next {k : Nat} (h : k % 2 = 0) : csz (k + 1) = csz k + csz k / 2 := by
  rw [csz_even h, csz_odd (by omega), show (k + 1) / 2 = k / 2 by omega]
  generalize (2 : Int) ^ (k / 2) = x
  omega
theorem csz_two (k : Nat) : csz (k + 2) = csz k * 2 := by
  unfold csz
  rw [show (k + 2) % 2 = k % 2 by omega, show (k + 2) / 2 = k / 2 + 1 by omega, Int.pow_succ, Int.mul_assoc]
theorem csz_pos (k : Nat) : 4 ≤ csz k := by
  unfold csz
  have := pow_pos2 (k / 2)
  split <;> omega
theorem csz_lt (k : Nat) : csz k < csz (k + 1) := by
  have := pow_pos2 (k / 2)
  rcases Nat.mod_two_eq_zero_or_one k with h | h
  · rw [csz_even h, csz_odd (by omega), show (k + 1) / 2 = k / 2 by omega]; omega
  · rw [csz_odd h, csz_even (by omega), show (k + 1) / 2 = k / 2 + 1 by omega, Int.pow_succ]; omega
theorem csz_mono {j k : Nat} (h : j < k) : csz j < csz k := by
  induction k with
  | zero => omega
  | succ k ih =>
    have := csz_lt k
    by_cases e : j = k
    · subst e; exact this
    · have := ih (by omega); omega
theorem csz_le {j k : Nat} (h : j ≤ k) : csz j ≤ csz k := by
  by_cases e : j = k
  · subst e; exact Int.le_refl _
  · exact Int.le_of_lt (csz_mono (by omega))
theorem csz_inj {j k : Nat} (h : csz j ≤ csz k) : j ≤ k := by
  rcases Nat.lt_or_ge k j with hlt | hge
  · have := csz_mono hlt; omega
  · exact hge
theorem csz_28 : csz 28 = 65536 := by decide
theorem csz_40 {k : Nat} (h : k ≤ 40) : csz k ≤ 4194304 := Int.le_trans (csz_le h) (by decide)

/-- k is the place of the least size that is n or above. -/
def ClassOf (n : Int) (k : Nat) : Prop := n ≤ csz k ∧ ∀ j, j < k → csz j < n
theorem ClassOf.le28 {n : Int} {k : Nat} (h : ClassOf n k) (hn : n ≤ 65536) : k ≤ 28 := by
  rcases Nat.lt_or_ge 28 k with hlt | hge
  · have := h.2 28 hlt; rw [csz_28] at this; omega
  · exact hge
theorem ClassOf.uniq {n : Int} {k k' : Nat} (h : ClassOf n k) (h' : ClassOf n k') : k = k' := by
  rcases Nat.lt_trichotomy k k' with hlt | rfl | hlt
  · have := h'.2 k hlt; have := h.1; omega
  · rfl
  · have := h.2 k' hlt; have := h'.1; omega
theorem ClassOf.mono {n m : Int} {k l : Nat} (h : ClassOf n k) (h' : ClassOf m l) (hnm : n ≤ m) : k ≤ l := by
  rcases Nat.lt_or_ge l k with hlt | hge
  · have := h.2 l hlt; have := h'.1; omega
  · exact hge
theorem ClassOf.self (k : Nat) : ClassOf (csz k) k := ⟨Int.le_refl _, fun _ h => csz_mono h⟩

theorem csz_r0 {k : Nat} (h : k % 2 = 0) : 2 * csz (k + 1) = 3 * csz k := by
  rw [csz_even h, csz_odd (by omega), show (k + 1) / 2 = k / 2 by omega]; omega
theorem csz_r1 {k : Nat} (h : k % 2 = 1) : 3 * csz (k + 1) = 4 * csz k := by
  rw [csz_odd h, csz_even (by omega), show (k + 1) / 2 = k / 2 + 1 by omega, Int.pow_succ]; omega
theorem csz_ratio (k : Nat) : 2 * csz (k + 1) ≤ 3 * csz k := by
  have := csz_pos k
  rcases Nat.mod_two_eq_zero_or_one k with h | h
  · have := csz_r0 h; omega
  · have := csz_r1 h; omega
theorem ClassOf.waste {n : Int} {k : Nat} (h : ClassOf n k) (h3 : 3 ≤ n) : 2 * csz k ≤ 3 * n := by
  cases k with
  | zero => have : csz 0 = 4 := by decide
            omega
  | succ k => have h1 := csz_ratio k; have h2 := h.2 k (by omega); omega
theorem ClassOf.double {n : Int} {k : Nat} (h : ClassOf n k) (h4 : 4 ≤ n) : ClassOf (2 * n) (k + 2) := by
  refine ⟨by rw [csz_two]; have := h.1; omega, fun j hj => ?_⟩
  by_cases e : j < 2
  · have := csz_le (show j ≤ 1 by omega)
    have h1 : csz 1 = 6 := by decide
    omega
  · have h2 := h.2 (j - 2) (by omega)
    have h3 := csz_two (j - 2)
    rw [show j - 2 + 2 = j by omega] at h3
    omega
theorem ClassOf.next (k : Nat) : ClassOf (csz k + 1) (k + 1) :=
  ⟨by have := csz_lt k; omega, fun j hj => by have := csz_le (show j ≤ k by omega); omega⟩
theorem csz_26 : csz 26 = 32768 := by decide
theorem ClassOf.le26 {n : Int} {k : Nat} (h : ClassOf n k) (hn : n ≤ 32768) : k ≤ 26 := by
  rcases Nat.lt_or_ge 26 k with hlt | hge
  · have := h.2 26 hlt; rw [csz_26] at this; omega
  · exact hge

end Go.Proofs.Ytccgnnnildedoaa
