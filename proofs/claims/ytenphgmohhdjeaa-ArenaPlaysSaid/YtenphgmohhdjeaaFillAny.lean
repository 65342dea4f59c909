/-
  The contracts of the arena at whatever numbers: what is left is an arena of as many words.
  Conditions: as each statement says; the arena has at most 65536 words.
-/
import Derived.Test.YtenphgmohhdjeaaArena2
import Derived.Test.YtenphgmohhdjeaaAwake02
set_option linter.unusedVariables false
namespace Go.Proofs.Ytenphgmohhdjeaa
open Go.RowKit

theorem fill_any {b g : Nat} {ws : List Int} {w : World} (hA : ArenaAt w b g ws) (hn : ws.length ≤ 65536) (at_ k x : Int)
    (bd1 : -9223372036854775808 ≤ at_) (bd2 : at_ ≤ 9223372036854775807) (bd3 : -9223372036854775808 ≤ k) (bd4 : k ≤ 9223372036854775807) :
    Calls Try.prog 30 #[.pointer (some ⟨b, 0, none⟩), .int .i64 at_, .int .i64 k, .int .u64 x] w fun e w' =>
      ∃ (c : Int) (ws' : List Int), e = .returned (.int .i64 c) ∧ Hid (ws'.length = ws.length) ∧ Hid (if fitsA ws.length at_ k then c = 0 ∧ ws' = fillN ws at_.toNat k.toNat x else c = 20 ∧ ws' = ws) ∧ ArenaAt w' b g ws' ∧ Kept (OneBlk g) w w' := by
  cases h : fitsA ws.length at_ k with
  | true =>
    obtain ⟨h0, h1, h2, h3⟩ := fitsA_t h
    exact (fill_yes hA hn at_ k x h0 h1 (by omega)).mono fun _ _ ⟨he, hA', hK⟩ => ⟨_, _, he, length_fillN _ _ _ _, by show ite _ _ _; rw [if_pos rfl]; exact ⟨rfl, rfl⟩, hA', hK⟩
  | false =>
    exact (fill_no hA hn at_ k x bd1 bd2 bd3 bd4 h).mono fun _ _ ⟨he, hw⟩ => ⟨_, ws, he, rfl, by show ite _ _ _; rw [if_neg (by simp)]; exact ⟨rfl, rfl⟩, hw ▸ hA, hw ▸ Kept.refl _ _⟩

theorem store_any {b g : Nat} {ws : List Int} {w : World} (hA : ArenaAt w b g ws) (hn : ws.length ≤ 65536) (at_ x : Int)
    (bd1 : -9223372036854775808 ≤ at_) (bd2 : at_ ≤ 9223372036854775807) :
    Calls Try.prog 28 #[.pointer (some ⟨b, 0, none⟩), .int .i64 at_, .int .u64 x] w fun e w' =>
      ∃ (c : Int) (ws' : List Int), e = .returned (.int .i64 c) ∧ Hid (ws'.length = ws.length) ∧ Hid (if fitsA ws.length at_ 1 then c = 0 ∧ ws' = ws.set at_.toNat x else c = 20 ∧ ws' = ws) ∧ ArenaAt w' b g ws' ∧ Kept (OneBlk g) w w' := by
  cases h : fitsA ws.length at_ 1 with
  | true =>
    obtain ⟨h0, h1, h2, h3⟩ := fitsA_t h
    exact (store_yes hA hn at_ x h0 (by omega)).mono fun _ _ ⟨he, hA', hK⟩ => ⟨_, _, he, List.length_set, by show ite _ _ _; rw [if_pos rfl]; exact ⟨rfl, rfl⟩, hA', hK⟩
  | false =>
    exact (store_no hA hn at_ x bd1 bd2 h).mono fun _ _ ⟨he, hw⟩ => ⟨_, ws, he, rfl, by show ite _ _ _; rw [if_neg (by simp)]; exact ⟨rfl, rfl⟩, hw ▸ hA, hw ▸ Kept.refl _ _⟩

end Go.Proofs.Ytenphgmohhdjeaa
