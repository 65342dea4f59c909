/-
  The contracts of the program's arena: what each of its functions answers, and what becomes of memory.
  Conditions: as each statement says; the arena has at most 65536 words.
-/
import Derived.Test.YtccgnnnildedoaaRows
import Derived.Test.YtccgnnnildedoaaBase
set_option linter.unusedVariables false
namespace Go.Proofs.Ytccgnnnildedoaa
open Go.RowKit

def fitsA (n : Nat) (at_ k : Int) : Bool := decide (0 ≤ at_ ∧ 0 ≤ k ∧ at_ ≤ n ∧ k ≤ n - at_)
theorem fitsA_t {n : Nat} {at_ k : Int} (h : fitsA n at_ k = true) : 0 ≤ at_ ∧ 0 ≤ k ∧ at_ ≤ n ∧ k ≤ n - at_ := of_decide_eq_true h
theorem fitsA_f {n : Nat} {at_ k : Int} (h : fitsA n at_ k = false) : ¬ (0 ≤ at_ ∧ 0 ≤ k ∧ at_ ≤ n ∧ k ≤ n - at_) := of_decide_eq_false h

set_option maxHeartbeats 400000 in
theorem run_yes {b g : Nat} {ws : List Int} {w : World} (hA : ArenaAt w b g ws) (hn : ws.length ≤ 65536) (at_ k : Int)
   (h0 : 0 ≤ at_) (h1 : 0 ≤ k) (h2 : at_ + k ≤ ws.length) :
    Calls Try.prog 67 #[.pointer (some ⟨b, 0, none⟩), .int .i64 at_, .int .i64 k] w fun e w' =>
      ∃ o : Nat, (0 < k → o = at_.toNat) ∧ e = .returned (.tuple #[.slice (some ⟨g, o, none⟩) k.toNat k.toNat, .bool true]) ∧ w = w' := by
  have hb := hA.hcell
  obtain ⟨n, hn'⟩ : ∃ n, ws.length = n := ⟨_, rfl⟩
  rw [hn'] at hb h2 hn
  clear hn' hA
  by_cases hk : k = 0
  · subst hk
    go_enter Try.func67, Try.ntmps67
    go_wp2
    go_ret2
    exact ⟨0, fun h => absurd h (by omega), rfl, rfl⟩
  · have hk' : ¬ (at_ + k).toNat = at_.toNat := by omega
    have hk2 : (at_ + k).toNat - at_.toNat = k.toNat := by omega
    go_enter Try.func67, Try.ntmps67
    go_wp2
    go_ret2
    exact ⟨at_.toNat, fun _ => rfl, rfl, rfl⟩

set_option maxHeartbeats 400000 in
theorem run_no {b g : Nat} {ws : List Int} {w : World} (hA : ArenaAt w b g ws) (hn : ws.length ≤ 65536) (at_ k : Int)
   (bd1 : -9223372036854775808 ≤ at_) (bd2 : at_ ≤ 9223372036854775807) (bd3 : -9223372036854775808 ≤ k) (bd4 : k ≤ 9223372036854775807)
   (h : fitsA ws.length at_ k = false) :
    Calls Try.prog 67 #[.pointer (some ⟨b, 0, none⟩), .int .i64 at_, .int .i64 k] w fun e w' =>
      e = .returned (.tuple #[.slice none 0 0, .bool false]) ∧ w = w' := by
  have hb := hA.hcell
  have h := fitsA_f h
  obtain ⟨n, hn'⟩ : ∃ n, ws.length = n := ⟨_, rfl⟩
  rw [hn'] at hb h hn
  clear hn' hA
  by_cases c1 : at_ < 0
  · clear h
    go_enter Try.func67, Try.ntmps67
    go_wp2
    go_ret2
    exact ⟨rfl, rfl⟩
  by_cases c2 : k < 0
  · clear h
    go_enter Try.func67, Try.ntmps67
    go_wp2
    go_ret2
    exact ⟨rfl, rfl⟩
  by_cases c3 : (n : Int) < at_
  · clear h
    go_enter Try.func67, Try.ntmps67
    go_wp2
    go_ret2
    exact ⟨rfl, rfl⟩
  · have c4 : (n : Int) - at_ < k := by omega
    clear h
    go_enter Try.func67, Try.ntmps67
    go_wp2
    go_ret2
    exact ⟨rfl, rfl⟩

set_option maxHeartbeats 400000 in
theorem len_any {b g : Nat} {ws : List Int} {w : World} (hA : ArenaAt w b g ws) :
    Calls Try.prog 71 #[.pointer (some ⟨b, 0, none⟩)] w fun e w' => e = .returned (.int .i64 ws.length) ∧ w = w' := by
  have hb := hA.hcell
  obtain ⟨n, hn'⟩ : ∃ n, ws.length = n := ⟨_, rfl⟩
  rw [hn'] at hb ⊢
  clear hn' hA
  go_enter Try.func71, Try.ntmps71
  go_wp2
  go_ret
  exact ⟨rfl, rfl⟩

set_option maxHeartbeats 400000 in
theorem load_yes {b g : Nat} {ws : List Int} {w : World} (hA : ArenaAt w b g ws) (hn : ws.length ≤ 65536) (at_ : Int) (h0 : 0 ≤ at_) (h1 : at_ < ws.length) :
    Calls Try.prog 34 #[.pointer (some ⟨b, 0, none⟩), .int .i64 at_] w fun e w' =>
      e = .returned (.tuple #[.int .u64 (wd ws at_.toNat), .int .i64 0]) ∧ w = w' := by
  have hw := hA.word (i := at_.toNat) (by omega)
  go_enter Try.func34, Try.ntmps34
  go_wp2_with fail
  refine (run_yes hA hn _ _ h0 (by omega) (by omega)).mono ?_
  rintro e w' ⟨o, ho, rfl, rfl⟩
  obtain rfl := ho (by omega)
  clear ho
  go_wp2
  go_ret2
  exact ⟨rfl, rfl⟩

set_option maxHeartbeats 400000 in
theorem load_no {b g : Nat} {ws : List Int} {w : World} (hA : ArenaAt w b g ws) (hn : ws.length ≤ 65536) (at_ : Int)
    (bd1 : -9223372036854775808 ≤ at_) (bd2 : at_ ≤ 9223372036854775807) (h : fitsA ws.length at_ 1 = false) :
    Calls Try.prog 34 #[.pointer (some ⟨b, 0, none⟩), .int .i64 at_] w fun e w' =>
      e = .returned (.tuple #[.int .u64 0, .int .i64 20]) ∧ w = w' := by
  have H := Lib.hid h
  clear h
  go_enter Try.func34, Try.ntmps34
  go_wp2_with fail
  refine (run_no hA hn _ _ bd1 bd2 (by omega) (by omega) H.out).mono ?_
  rintro e w' ⟨rfl, rfl⟩
  go_wp2
  go_ret2
  exact ⟨rfl, rfl⟩

set_option maxHeartbeats 1000000 in
theorem fill_yes {b g : Nat} {ws : List Int} {w : World} (hA : ArenaAt w b g ws) (hn : ws.length ≤ 65536) (at_ k x : Int)
   (h0 : 0 ≤ at_) (h1 : 0 ≤ k) (h2 : at_ + k ≤ ws.length) :
    Calls Try.prog 31 #[.pointer (some ⟨b, 0, none⟩), .int .i64 at_, .int .i64 k, .int .u64 x] w fun e w' =>
      e = .returned (.int .i64 0) ∧ ArenaAt w' b g (fillN ws at_.toNat k.toNat x) ∧ Kept (OneBlk g) w w' := by
  go_enter Try.func31, Try.ntmps31
  go_wp2_with fail
  refine (run_yes hA hn _ _ h0 h1 h2).mono ?_
  rintro e w' ⟨o, ho, rfl, rfl⟩
  have Ho := Lib.hid ho
  clear ho
  obtain ⟨k, rfl⟩ := Int.eq_ofNat_of_zero_le h1
  obtain ⟨p, rfl⟩ := Int.eq_ofNat_of_zero_le h0
  simp only [Int.toNat_natCast] at Ho ⊢
  go_wp2
  go_loopw [23] (fun i wr => ∃ j : Nat, j ≤ k ∧ i = .int .i64 j ∧ ArenaAt wr b g (fillN ws p j x) ∧ Kept (OneBlk g) w wr) (fun i _ => k - (intOf i).toNat)
  case atStart => exact ⟨0, by omega, rfl, hA, Kept.refl _ _⟩
  case round =>
    obtain ⟨j, hj, rfl, hA', hK⟩ := hrel
    by_cases hlt : j < k
    · obtain rfl : o = p := Ho.out (by omega)
      have hl := length_fillN ws o j x
      have hw := hA'.word (i := o + j) (by omega)
      have hf := hA'.free (o + j)
      have Hl := Lib.hid hl
      clear hl
      go_wp2
      go_roundw
      case rel => exact ⟨j + 1, by omega, by go_num, hA'.set_ _ _, hK.setCell (p := ⟨g, _, none⟩) (fun _ => rfl) _⟩
      case measure => simp [intOf]; omega
    · obtain rfl : j = k := by omega
      go_wp2
      go_ret
      exact ⟨rfl, hA', hK⟩

set_option maxHeartbeats 400000 in
theorem fill_no {b g : Nat} {ws : List Int} {w : World} (hA : ArenaAt w b g ws) (hn : ws.length ≤ 65536) (at_ k x : Int)
    (bd1 : -9223372036854775808 ≤ at_) (bd2 : at_ ≤ 9223372036854775807) (bd3 : -9223372036854775808 ≤ k) (bd4 : k ≤ 9223372036854775807) (h : fitsA ws.length at_ k = false) :
    Calls Try.prog 31 #[.pointer (some ⟨b, 0, none⟩), .int .i64 at_, .int .i64 k, .int .u64 x] w fun e w' =>
      e = .returned (.int .i64 20) ∧ w = w' := by
  have H := Lib.hid h
  clear h
  go_enter Try.func31, Try.ntmps31
  go_wp2_with fail
  refine (run_no hA hn _ _ bd1 bd2 bd3 bd4 H.out).mono ?_
  rintro e w' ⟨rfl, rfl⟩
  go_wp2
  go_ret
  exact ⟨rfl, rfl⟩

set_option maxHeartbeats 400000 in
theorem store_yes {b g : Nat} {ws : List Int} {w : World} (hA : ArenaAt w b g ws) (hn : ws.length ≤ 65536) (at_ x : Int)
   (h0 : 0 ≤ at_) (h1 : at_ < ws.length) :
    Calls Try.prog 68 #[.pointer (some ⟨b, 0, none⟩), .int .i64 at_, .int .u64 x] w fun e w' =>
      e = .returned (.int .i64 0) ∧ ArenaAt w' b g (ws.set at_.toNat x) ∧ Kept (OneBlk g) w w' := by
  go_enter Try.func68, Try.ntmps68
  go_wp2_with fail
  refine (fill_yes hA hn _ _ _ h0 (by omega) (by omega)).mono ?_
  rintro e w' ⟨rfl, hA', hK⟩
  go_wp2
  go_ret
  exact ⟨rfl, by simpa [fillN] using hA', hK⟩

set_option maxHeartbeats 400000 in
theorem store_no {b g : Nat} {ws : List Int} {w : World} (hA : ArenaAt w b g ws) (hn : ws.length ≤ 65536) (at_ x : Int)
    (bd1 : -9223372036854775808 ≤ at_) (bd2 : at_ ≤ 9223372036854775807) (h : fitsA ws.length at_ 1 = false) :
    Calls Try.prog 68 #[.pointer (some ⟨b, 0, none⟩), .int .i64 at_, .int .u64 x] w fun e w' =>
      e = .returned (.int .i64 20) ∧ w = w' := by
  have H := Lib.hid h
  clear h
  go_enter Try.func68, Try.ntmps68
  go_wp2_with fail
  refine (fill_no hA hn _ _ _ bd1 bd2 (by omega) (by omega) H.out).mono ?_
  rintro e w' ⟨rfl, rfl⟩
  go_wp2
  go_ret
  exact ⟨rfl, rfl⟩

end Go.Proofs.Ytccgnnnildedoaa
