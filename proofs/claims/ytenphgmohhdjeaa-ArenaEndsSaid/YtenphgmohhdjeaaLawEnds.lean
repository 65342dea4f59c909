/-
  ArenaEnds: what goes beyond an arena's last word, or begins ahead of its first one, is an error and changes nothing: the walk through the law, case by case.
  Conditions: none.
-/
import Derived.Test.YtenphgmohhdjeaaAwake02
namespace Go.Proofs.Ytenphgmohhdjeaa
open Go.RowKit

theorem fitsA_mk {n : Nat} {at_ k : Int} (h : 0 ≤ at_ ∧ 0 ≤ k ∧ at_ ≤ n ∧ k ≤ n - at_) : fitsA n at_ k = true := decide_eq_true h
theorem fitsA_mkf {n : Nat} {at_ k : Int} (h : ¬ (0 ≤ at_ ∧ 0 ≤ k ∧ at_ ≤ n ∧ k ≤ n - at_)) : fitsA n at_ k = false := decide_eq_false h

set_option maxRecDepth 100000 in
set_option maxHeartbeats 400000 in
theorem ends_a (words p n x r : Int) (w : World) (Hr : Hid (r = pk words 40)) (hr0 : 0 ≤ r) (hr1 : r < 40) (b1 : -9223372036854775808 ≤ words) (b2 : words ≤ 9223372036854775807) (b3 : -9223372036854775808 ≤ p) (b4 : p ≤ 9223372036854775807) (b5 : -9223372036854775808 ≤ n) (b6 : n ≤ 9223372036854775807)
    (h1 : p < 0) :
    Calls Try.prog 6 #[.int .i64 words, .int .i64 p, .int .i64 n, .int .u64 x] w fun e w' => e = .returned (.bool true) ∧ Kept NoBlk w w' := by
  go_enter Try.func6, Try.ntmps6
  go_wp2_with fail
  refine (awake02 w).mono ?_
  rintro e w0 ⟨rfl, hK0⟩
  go_wp2_with fail
  refine (pick02r Hr (by omega) b1 b2 (by omega) _).mono ?_
  rintro e w0' ⟨rfl, rfl⟩

  go_wp2_with fail
  refine (new_any (1 + r) (by omega) (by omega) _).mono ?_
  rintro e w1 ⟨b, g, ws, rfl, HW, HL, hA, hK, hb, hg⟩
  have hn : ws.length ≤ 65536 := by have := HL.out; omega
  go_wp2_with fail
  refine (load_no hA hn p b3 b4 (fitsA_mkf (by have := HL.out; omega))).mono ?_
  rintro e w2 ⟨rfl, rfl⟩
  go_wp2_with fail
  refine (fill_no hA hn p n x b3 b4 b5 b6 (fitsA_mkf (by have := HL.out; omega))).mono ?_
  rintro e w2 ⟨rfl, rfl⟩
  go_wp2_with fail
  refine (move_no hA hn p 0 n b3 b4 (by omega) (by omega) b5 b6 (.inl (fitsA_mkf (by have := HL.out; omega)))).mono ?_
  rintro e w2 ⟨rfl, rfl⟩
  go_wp2_with fail
  refine (move_no hA hn 0 p n (by omega) (by omega) b3 b4 b5 b6 (.inr (fitsA_mkf (by have := HL.out; omega)))).mono ?_
  rintro e w2 ⟨rfl, rfl⟩
  go_wp2_with fail
  refine (new_no _ (by omega) _).mono ?_
  rintro e w5 ⟨rfl, rfl⟩
  go_wp2_with fail
  refine (new_no _ (by omega) _).mono ?_
  rintro e w5 ⟨rfl, rfl⟩
  go_wp2
  go_ret
  exact ⟨rfl, hK0.over hK (fun _ h => h.elim)⟩

set_option maxRecDepth 100000 in
set_option maxHeartbeats 400000 in
theorem ends_b (words p n x r : Int) (w : World) (Hr : Hid (r = pk words 40)) (hr0 : 0 ≤ r) (hr1 : r < 40) (b1 : -9223372036854775808 ≤ words) (b2 : words ≤ 9223372036854775807) (b3 : -9223372036854775808 ≤ p) (b4 : p ≤ 9223372036854775807) (b5 : -9223372036854775808 ≤ n) (b6 : n ≤ 9223372036854775807)
    (h1 : 0 ≤ p) (h2 : p < 1 + r) (h3 : n < 0) :
    Calls Try.prog 6 #[.int .i64 words, .int .i64 p, .int .i64 n, .int .u64 x] w fun e w' => e = .returned (.bool true) ∧ Kept NoBlk w w' := by
  go_enter Try.func6, Try.ntmps6
  go_wp2_with fail
  refine (awake02 w).mono ?_
  rintro e w0 ⟨rfl, hK0⟩
  go_wp2_with fail
  refine (pick02r Hr (by omega) b1 b2 (by omega) _).mono ?_
  rintro e w0' ⟨rfl, rfl⟩

  go_wp2_with fail
  refine (new_any (1 + r) (by omega) (by omega) _).mono ?_
  rintro e w1 ⟨b, g, ws, rfl, HW, HL, hA, hK, hb, hg⟩
  have hn : ws.length ≤ 65536 := by have := HL.out; omega
  go_wp2_with fail
  refine (load_yes hA hn p (by omega) (by have := HL.out; omega)).mono ?_
  rintro e w2 ⟨rfl, rfl⟩
  have hz : wd ws p.toNat = 0 := by rw [HW.out]; exact wd_replicate _ _
  rw [hz]
  clear hz
  go_wp2_with fail
  refine (fill_no hA hn p n x b3 b4 b5 b6 (fitsA_mkf (by have := HL.out; omega))).mono ?_
  rintro e w2 ⟨rfl, rfl⟩
  go_wp2_with fail
  refine (move_no hA hn p 0 n b3 b4 (by omega) (by omega) b5 b6 (.inl (fitsA_mkf (by have := HL.out; omega)))).mono ?_
  rintro e w2 ⟨rfl, rfl⟩
  go_wp2_with fail
  refine (move_no hA hn 0 p n (by omega) (by omega) b3 b4 b5 b6 (.inr (fitsA_mkf (by have := HL.out; omega)))).mono ?_
  rintro e w2 ⟨rfl, rfl⟩
  go_wp2_with fail
  refine (new_no _ (by omega) _).mono ?_
  rintro e w5 ⟨rfl, rfl⟩
  go_wp2_with fail
  refine (new_no _ (by omega) _).mono ?_
  rintro e w5 ⟨rfl, rfl⟩
  go_wp2
  go_ret
  exact ⟨rfl, hK0.over hK (fun _ h => h.elim)⟩

set_option maxRecDepth 100000 in
set_option maxHeartbeats 400000 in
theorem ends_c (words p n x r : Int) (w : World) (Hr : Hid (r = pk words 40)) (hr0 : 0 ≤ r) (hr1 : r < 40) (b1 : -9223372036854775808 ≤ words) (b2 : words ≤ 9223372036854775807) (b3 : -9223372036854775808 ≤ p) (b4 : p ≤ 9223372036854775807) (b5 : -9223372036854775808 ≤ n) (b6 : n ≤ 9223372036854775807)
    (h1 : 0 ≤ p) (h2 : p < 1 + r) (h3 : 0 ≤ n) (h4 : n ≤ 1 + r - p) :
    Calls Try.prog 6 #[.int .i64 words, .int .i64 p, .int .i64 n, .int .u64 x] w fun e w' => e = .returned (.bool true) ∧ Kept NoBlk w w' := by
  go_enter Try.func6, Try.ntmps6
  go_wp2_with fail
  refine (awake02 w).mono ?_
  rintro e w0 ⟨rfl, hK0⟩
  go_wp2_with fail
  refine (pick02r Hr (by omega) b1 b2 (by omega) _).mono ?_
  rintro e w0' ⟨rfl, rfl⟩

  go_wp2_with fail
  refine (new_any (1 + r) (by omega) (by omega) _).mono ?_
  rintro e w1 ⟨b, g, ws, rfl, HW, HL, hA, hK, hb, hg⟩
  have hn : ws.length ≤ 65536 := by have := HL.out; omega
  go_wp2_with fail
  refine (load_yes hA hn p (by omega) (by have := HL.out; omega)).mono ?_
  rintro e w2 ⟨rfl, rfl⟩
  have hz : wd ws p.toNat = 0 := by rw [HW.out]; exact wd_replicate _ _
  rw [hz]
  clear hz
  go_wp2_with fail
  refine (fill_yes hA hn p n x (by omega) (by omega) (by have := HL.out; omega)).mono ?_
  rintro e w2 ⟨rfl, hA2, hK2⟩
  obtain ⟨ws2, HW2⟩ : ∃ ws2, Hid (ws2 = fillN ws p.toNat n.toNat x) := ⟨_, rfl⟩
  have HL2 := Lib.hid (show (ws2.length : Int) = 1 + r by rw [HW2.out, length_fillN]; exact HL.out)
  have hn2 : ws2.length ≤ 65536 := by have := HL2.out; omega
  rw [← HW2.out] at hA2
  go_wp2_with fail
  refine (move_yes hA2 hn2 p 0 n (by omega) (by omega) (by omega) (by have := HL2.out; omega) (by have := HL2.out; omega)).mono ?_
  rintro e w3 ⟨rfl, hA3, hK3⟩
  obtain ⟨ws3, HW3⟩ : ∃ ws3, Hid (ws3 = moveN ws2 p.toNat (0:Int).toNat n.toNat) := ⟨_, rfl⟩
  have HL3 := Lib.hid (show (ws3.length : Int) = 1 + r by rw [HW3.out, length_moveN _ _ _ _ (by have := HL2.out; omega) (by have := HL2.out; omega)]; exact HL2.out)
  have hn3 : ws3.length ≤ 65536 := by have := HL3.out; omega
  rw [← HW3.out] at hA3
  go_wp2_with fail
  refine (move_yes hA3 hn3 0 p n (by omega) (by omega) (by omega) (by have := HL3.out; omega) (by have := HL3.out; omega)).mono ?_
  rintro e w4 ⟨rfl, hA4, hK4⟩
  go_wp2_with fail
  refine (new_no _ (by omega) _).mono ?_
  rintro e w5 ⟨rfl, rfl⟩
  go_wp2_with fail
  refine (new_no _ (by omega) _).mono ?_
  rintro e w5 ⟨rfl, rfl⟩
  go_wp2
  go_ret
  exact ⟨rfl, hK0.over (hK.over (hK2.trans (hK3.trans hK4)) (OneBlk.over hg)) (fun _ h => h.elim)⟩

set_option maxRecDepth 100000 in
set_option maxHeartbeats 400000 in
theorem ends_d (words p n x r : Int) (w : World) (Hr : Hid (r = pk words 40)) (hr0 : 0 ≤ r) (hr1 : r < 40) (b1 : -9223372036854775808 ≤ words) (b2 : words ≤ 9223372036854775807) (b3 : -9223372036854775808 ≤ p) (b4 : p ≤ 9223372036854775807) (b5 : -9223372036854775808 ≤ n) (b6 : n ≤ 9223372036854775807)
    (h1 : 0 ≤ p) (h2 : p < 1 + r) (h3 : 0 ≤ n) (h4 : 1 + r - p < n) :
    Calls Try.prog 6 #[.int .i64 words, .int .i64 p, .int .i64 n, .int .u64 x] w fun e w' => e = .returned (.bool true) ∧ Kept NoBlk w w' := by
  go_enter Try.func6, Try.ntmps6
  go_wp2_with fail
  refine (awake02 w).mono ?_
  rintro e w0 ⟨rfl, hK0⟩
  go_wp2_with fail
  refine (pick02r Hr (by omega) b1 b2 (by omega) _).mono ?_
  rintro e w0' ⟨rfl, rfl⟩

  go_wp2_with fail
  refine (new_any (1 + r) (by omega) (by omega) _).mono ?_
  rintro e w1 ⟨b, g, ws, rfl, HW, HL, hA, hK, hb, hg⟩
  have hn : ws.length ≤ 65536 := by have := HL.out; omega
  go_wp2_with fail
  refine (load_yes hA hn p (by omega) (by have := HL.out; omega)).mono ?_
  rintro e w2 ⟨rfl, rfl⟩
  have hz : wd ws p.toNat = 0 := by rw [HW.out]; exact wd_replicate _ _
  rw [hz]
  clear hz
  go_wp2_with fail
  refine (fill_no hA hn p n x b3 b4 b5 b6 (fitsA_mkf (by have := HL.out; omega))).mono ?_
  rintro e w2 ⟨rfl, rfl⟩
  go_wp2_with fail
  refine (move_no hA hn p 0 n b3 b4 (by omega) (by omega) b5 b6 (.inl (fitsA_mkf (by have := HL.out; omega)))).mono ?_
  rintro e w2 ⟨rfl, rfl⟩
  go_wp2_with fail
  refine (move_no hA hn 0 p n (by omega) (by omega) b3 b4 b5 b6 (.inr (fitsA_mkf (by have := HL.out; omega)))).mono ?_
  rintro e w2 ⟨rfl, rfl⟩
  go_wp2_with fail
  refine (new_no _ (by omega) _).mono ?_
  rintro e w5 ⟨rfl, rfl⟩
  go_wp2_with fail
  refine (new_no _ (by omega) _).mono ?_
  rintro e w5 ⟨rfl, rfl⟩
  go_wp2
  go_ret
  exact ⟨rfl, hK0.over hK (fun _ h => h.elim)⟩

set_option maxRecDepth 100000 in
set_option maxHeartbeats 400000 in
theorem ends_e (words p n x r : Int) (w : World) (Hr : Hid (r = pk words 40)) (hr0 : 0 ≤ r) (hr1 : r < 40) (b1 : -9223372036854775808 ≤ words) (b2 : words ≤ 9223372036854775807) (b3 : -9223372036854775808 ≤ p) (b4 : p ≤ 9223372036854775807) (b5 : -9223372036854775808 ≤ n) (b6 : n ≤ 9223372036854775807)
    (h1 : 1 + r ≤ p) (h2 : p ≤ 1 + r) (h3 : n < 0) :
    Calls Try.prog 6 #[.int .i64 words, .int .i64 p, .int .i64 n, .int .u64 x] w fun e w' => e = .returned (.bool true) ∧ Kept NoBlk w w' := by
  go_enter Try.func6, Try.ntmps6
  go_wp2_with fail
  refine (awake02 w).mono ?_
  rintro e w0 ⟨rfl, hK0⟩
  go_wp2_with fail
  refine (pick02r Hr (by omega) b1 b2 (by omega) _).mono ?_
  rintro e w0' ⟨rfl, rfl⟩

  go_wp2_with fail
  refine (new_any (1 + r) (by omega) (by omega) _).mono ?_
  rintro e w1 ⟨b, g, ws, rfl, HW, HL, hA, hK, hb, hg⟩
  have hn : ws.length ≤ 65536 := by have := HL.out; omega
  go_wp2_with fail
  refine (load_no hA hn p b3 b4 (fitsA_mkf (by have := HL.out; omega))).mono ?_
  rintro e w2 ⟨rfl, rfl⟩
  go_wp2_with fail
  refine (fill_no hA hn p n x b3 b4 b5 b6 (fitsA_mkf (by have := HL.out; omega))).mono ?_
  rintro e w2 ⟨rfl, rfl⟩
  go_wp2_with fail
  refine (move_no hA hn p 0 n b3 b4 (by omega) (by omega) b5 b6 (.inl (fitsA_mkf (by have := HL.out; omega)))).mono ?_
  rintro e w2 ⟨rfl, rfl⟩
  go_wp2_with fail
  refine (move_no hA hn 0 p n (by omega) (by omega) b3 b4 b5 b6 (.inr (fitsA_mkf (by have := HL.out; omega)))).mono ?_
  rintro e w2 ⟨rfl, rfl⟩
  go_wp2_with fail
  refine (new_no _ (by omega) _).mono ?_
  rintro e w5 ⟨rfl, rfl⟩
  go_wp2_with fail
  refine (new_no _ (by omega) _).mono ?_
  rintro e w5 ⟨rfl, rfl⟩
  go_wp2
  go_ret
  exact ⟨rfl, hK0.over hK (fun _ h => h.elim)⟩

set_option maxRecDepth 100000 in
set_option maxHeartbeats 400000 in
theorem ends_f (words p n x r : Int) (w : World) (Hr : Hid (r = pk words 40)) (hr0 : 0 ≤ r) (hr1 : r < 40) (b1 : -9223372036854775808 ≤ words) (b2 : words ≤ 9223372036854775807) (b3 : -9223372036854775808 ≤ p) (b4 : p ≤ 9223372036854775807) (b5 : -9223372036854775808 ≤ n) (b6 : n ≤ 9223372036854775807)
    (h1 : 1 + r ≤ p) (h2 : p ≤ 1 + r) (h3 : 0 ≤ n) (h4 : n ≤ 0) :
    Calls Try.prog 6 #[.int .i64 words, .int .i64 p, .int .i64 n, .int .u64 x] w fun e w' => e = .returned (.bool true) ∧ Kept NoBlk w w' := by
  go_enter Try.func6, Try.ntmps6
  go_wp2_with fail
  refine (awake02 w).mono ?_
  rintro e w0 ⟨rfl, hK0⟩
  go_wp2_with fail
  refine (pick02r Hr (by omega) b1 b2 (by omega) _).mono ?_
  rintro e w0' ⟨rfl, rfl⟩

  go_wp2_with fail
  refine (new_any (1 + r) (by omega) (by omega) _).mono ?_
  rintro e w1 ⟨b, g, ws, rfl, HW, HL, hA, hK, hb, hg⟩
  have hn : ws.length ≤ 65536 := by have := HL.out; omega
  go_wp2_with fail
  refine (load_no hA hn p b3 b4 (fitsA_mkf (by have := HL.out; omega))).mono ?_
  rintro e w2 ⟨rfl, rfl⟩
  go_wp2_with fail
  refine (fill_yes hA hn p n x (by omega) (by omega) (by have := HL.out; omega)).mono ?_
  rintro e w2 ⟨rfl, hA2, hK2⟩
  obtain ⟨ws2, HW2⟩ : ∃ ws2, Hid (ws2 = fillN ws p.toNat n.toNat x) := ⟨_, rfl⟩
  have HL2 := Lib.hid (show (ws2.length : Int) = 1 + r by rw [HW2.out, length_fillN]; exact HL.out)
  have hn2 : ws2.length ≤ 65536 := by have := HL2.out; omega
  rw [← HW2.out] at hA2
  go_wp2_with fail
  refine (move_yes hA2 hn2 p 0 n (by omega) (by omega) (by omega) (by have := HL2.out; omega) (by have := HL2.out; omega)).mono ?_
  rintro e w3 ⟨rfl, hA3, hK3⟩
  obtain ⟨ws3, HW3⟩ : ∃ ws3, Hid (ws3 = moveN ws2 p.toNat (0:Int).toNat n.toNat) := ⟨_, rfl⟩
  have HL3 := Lib.hid (show (ws3.length : Int) = 1 + r by rw [HW3.out, length_moveN _ _ _ _ (by have := HL2.out; omega) (by have := HL2.out; omega)]; exact HL2.out)
  have hn3 : ws3.length ≤ 65536 := by have := HL3.out; omega
  rw [← HW3.out] at hA3
  go_wp2_with fail
  refine (move_yes hA3 hn3 0 p n (by omega) (by omega) (by omega) (by have := HL3.out; omega) (by have := HL3.out; omega)).mono ?_
  rintro e w4 ⟨rfl, hA4, hK4⟩
  go_wp2_with fail
  refine (new_no _ (by omega) _).mono ?_
  rintro e w5 ⟨rfl, rfl⟩
  go_wp2_with fail
  refine (new_no _ (by omega) _).mono ?_
  rintro e w5 ⟨rfl, rfl⟩
  go_wp2
  go_ret
  exact ⟨rfl, hK0.over (hK.over (hK2.trans (hK3.trans hK4)) (OneBlk.over hg)) (fun _ h => h.elim)⟩

set_option maxRecDepth 100000 in
set_option maxHeartbeats 400000 in
theorem ends_g (words p n x r : Int) (w : World) (Hr : Hid (r = pk words 40)) (hr0 : 0 ≤ r) (hr1 : r < 40) (b1 : -9223372036854775808 ≤ words) (b2 : words ≤ 9223372036854775807) (b3 : -9223372036854775808 ≤ p) (b4 : p ≤ 9223372036854775807) (b5 : -9223372036854775808 ≤ n) (b6 : n ≤ 9223372036854775807)
    (h1 : 1 + r ≤ p) (h2 : p ≤ 1 + r) (h3 : 0 < n) :
    Calls Try.prog 6 #[.int .i64 words, .int .i64 p, .int .i64 n, .int .u64 x] w fun e w' => e = .returned (.bool true) ∧ Kept NoBlk w w' := by
  go_enter Try.func6, Try.ntmps6
  go_wp2_with fail
  refine (awake02 w).mono ?_
  rintro e w0 ⟨rfl, hK0⟩
  go_wp2_with fail
  refine (pick02r Hr (by omega) b1 b2 (by omega) _).mono ?_
  rintro e w0' ⟨rfl, rfl⟩

  go_wp2_with fail
  refine (new_any (1 + r) (by omega) (by omega) _).mono ?_
  rintro e w1 ⟨b, g, ws, rfl, HW, HL, hA, hK, hb, hg⟩
  have hn : ws.length ≤ 65536 := by have := HL.out; omega
  go_wp2_with fail
  refine (load_no hA hn p b3 b4 (fitsA_mkf (by have := HL.out; omega))).mono ?_
  rintro e w2 ⟨rfl, rfl⟩
  go_wp2_with fail
  refine (fill_no hA hn p n x b3 b4 b5 b6 (fitsA_mkf (by have := HL.out; omega))).mono ?_
  rintro e w2 ⟨rfl, rfl⟩
  go_wp2_with fail
  refine (move_no hA hn p 0 n b3 b4 (by omega) (by omega) b5 b6 (.inl (fitsA_mkf (by have := HL.out; omega)))).mono ?_
  rintro e w2 ⟨rfl, rfl⟩
  go_wp2_with fail
  refine (move_no hA hn 0 p n (by omega) (by omega) b3 b4 b5 b6 (.inr (fitsA_mkf (by have := HL.out; omega)))).mono ?_
  rintro e w2 ⟨rfl, rfl⟩
  go_wp2_with fail
  refine (new_no _ (by omega) _).mono ?_
  rintro e w5 ⟨rfl, rfl⟩
  go_wp2_with fail
  refine (new_no _ (by omega) _).mono ?_
  rintro e w5 ⟨rfl, rfl⟩
  go_wp2
  go_ret
  exact ⟨rfl, hK0.over hK (fun _ h => h.elim)⟩

set_option maxRecDepth 100000 in
set_option maxHeartbeats 400000 in
theorem ends_h (words p n x r : Int) (w : World) (Hr : Hid (r = pk words 40)) (hr0 : 0 ≤ r) (hr1 : r < 40) (b1 : -9223372036854775808 ≤ words) (b2 : words ≤ 9223372036854775807) (b3 : -9223372036854775808 ≤ p) (b4 : p ≤ 9223372036854775807) (b5 : -9223372036854775808 ≤ n) (b6 : n ≤ 9223372036854775807)
    (h1 : 1 + r < p) (h3 : n < 0) :
    Calls Try.prog 6 #[.int .i64 words, .int .i64 p, .int .i64 n, .int .u64 x] w fun e w' => e = .returned (.bool true) ∧ Kept NoBlk w w' := by
  go_enter Try.func6, Try.ntmps6
  go_wp2_with fail
  refine (awake02 w).mono ?_
  rintro e w0 ⟨rfl, hK0⟩
  go_wp2_with fail
  refine (pick02r Hr (by omega) b1 b2 (by omega) _).mono ?_
  rintro e w0' ⟨rfl, rfl⟩

  go_wp2_with fail
  refine (new_any (1 + r) (by omega) (by omega) _).mono ?_
  rintro e w1 ⟨b, g, ws, rfl, HW, HL, hA, hK, hb, hg⟩
  have hn : ws.length ≤ 65536 := by have := HL.out; omega
  go_wp2_with fail
  refine (load_no hA hn p b3 b4 (fitsA_mkf (by have := HL.out; omega))).mono ?_
  rintro e w2 ⟨rfl, rfl⟩
  go_wp2_with fail
  refine (fill_no hA hn p n x b3 b4 b5 b6 (fitsA_mkf (by have := HL.out; omega))).mono ?_
  rintro e w2 ⟨rfl, rfl⟩
  go_wp2_with fail
  refine (move_no hA hn p 0 n b3 b4 (by omega) (by omega) b5 b6 (.inl (fitsA_mkf (by have := HL.out; omega)))).mono ?_
  rintro e w2 ⟨rfl, rfl⟩
  go_wp2_with fail
  refine (move_no hA hn 0 p n (by omega) (by omega) b3 b4 b5 b6 (.inr (fitsA_mkf (by have := HL.out; omega)))).mono ?_
  rintro e w2 ⟨rfl, rfl⟩
  go_wp2_with fail
  refine (new_no _ (by omega) _).mono ?_
  rintro e w5 ⟨rfl, rfl⟩
  go_wp2_with fail
  refine (new_no _ (by omega) _).mono ?_
  rintro e w5 ⟨rfl, rfl⟩
  go_wp2
  go_ret
  exact ⟨rfl, hK0.over hK (fun _ h => h.elim)⟩

set_option maxRecDepth 100000 in
set_option maxHeartbeats 400000 in
theorem ends_i (words p n x r : Int) (w : World) (Hr : Hid (r = pk words 40)) (hr0 : 0 ≤ r) (hr1 : r < 40) (b1 : -9223372036854775808 ≤ words) (b2 : words ≤ 9223372036854775807) (b3 : -9223372036854775808 ≤ p) (b4 : p ≤ 9223372036854775807) (b5 : -9223372036854775808 ≤ n) (b6 : n ≤ 9223372036854775807)
    (h1 : 1 + r < p) (h3 : 0 ≤ n) :
    Calls Try.prog 6 #[.int .i64 words, .int .i64 p, .int .i64 n, .int .u64 x] w fun e w' => e = .returned (.bool true) ∧ Kept NoBlk w w' := by
  go_enter Try.func6, Try.ntmps6
  go_wp2_with fail
  refine (awake02 w).mono ?_
  rintro e w0 ⟨rfl, hK0⟩
  go_wp2_with fail
  refine (pick02r Hr (by omega) b1 b2 (by omega) _).mono ?_
  rintro e w0' ⟨rfl, rfl⟩

  go_wp2_with fail
  refine (new_any (1 + r) (by omega) (by omega) _).mono ?_
  rintro e w1 ⟨b, g, ws, rfl, HW, HL, hA, hK, hb, hg⟩
  have hn : ws.length ≤ 65536 := by have := HL.out; omega
  go_wp2_with fail
  refine (load_no hA hn p b3 b4 (fitsA_mkf (by have := HL.out; omega))).mono ?_
  rintro e w2 ⟨rfl, rfl⟩
  go_wp2_with fail
  refine (fill_no hA hn p n x b3 b4 b5 b6 (fitsA_mkf (by have := HL.out; omega))).mono ?_
  rintro e w2 ⟨rfl, rfl⟩
  go_wp2_with fail
  refine (move_no hA hn p 0 n b3 b4 (by omega) (by omega) b5 b6 (.inl (fitsA_mkf (by have := HL.out; omega)))).mono ?_
  rintro e w2 ⟨rfl, rfl⟩
  go_wp2_with fail
  refine (move_no hA hn 0 p n (by omega) (by omega) b3 b4 b5 b6 (.inr (fitsA_mkf (by have := HL.out; omega)))).mono ?_
  rintro e w2 ⟨rfl, rfl⟩
  go_wp2_with fail
  refine (new_no _ (by omega) _).mono ?_
  rintro e w5 ⟨rfl, rfl⟩
  go_wp2_with fail
  refine (new_no _ (by omega) _).mono ?_
  rintro e w5 ⟨rfl, rfl⟩
  go_wp2
  go_ret
  exact ⟨rfl, hK0.over hK (fun _ h => h.elim)⟩

end Go.Proofs.Ytenphgmohhdjeaa
