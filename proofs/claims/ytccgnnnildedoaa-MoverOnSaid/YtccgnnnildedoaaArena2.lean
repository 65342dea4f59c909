/-
  The contracts of the program's arena, second part: New, Move, and the laws' own small functions.
  Conditions: as each statement says; the arena has at most 65536 words.
-/
import Derived.Test.YtccgnnnildedoaaRows
import Derived.Test.YtccgnnnildedoaaBase
import Derived.Test.YtccgnnnildedoaaArena
import Derived.Deep.OwnRows
set_option linter.unusedVariables false
namespace Go.Proofs.Ytccgnnnildedoaa
open Go.RowKit

theorem u64_info : (Try.prog.info? 27).map (fun i => (i.zero, i.size, i.bytes)) = some (some (.int .u64 0), 1, 8) := by kernel_rfl
theorem u64_size : (Try.prog.info? 27).map (·.size) = some 1 := by kernel_rfl

theorem madeCells_words (n : Nat) : madeCells #[Value.int .u64 0] n = (wordCells (List.replicate n 0)).toArray := by
  apply Array.ext
  · simp [madeCells, wordCells]
  · intro i h1 h2
    simp [madeCells, wordCells, Nat.mod_one]

set_option maxHeartbeats 400000 in
theorem new_yes (n : Nat) (h1 : 1 ≤ n) (h2 : n ≤ 65536) (w : World) :
    Calls Try.prog 30 #[.int .i64 n] w fun e w' =>
      ∃ b g : Nat, e = .returned (.tuple #[.pointer (some ⟨b, 0, none⟩), .int .i64 0]) ∧ ArenaAt w' b g (List.replicate n 0) ∧ Kept NoBlk w w' ∧ w.heap.size ≤ b ∧ w.heap.size ≤ g := by
  have hmk := fun W => run_make_row' (P := Try.prog) 44 27 (.int .u64 0) 8 Try.underlying44 u64_info rfl .i64 .i64 n (by omega) (by omega) W
  rw [madeCells_words] at hmk
  go_enter Try.func30, Try.ntmps30
  go_wp2
  go_ret2
  refine ⟨w.heap.size + 1, w.heap.size, rfl, ⟨⟨109, ?_⟩, ⟨27, (Bk.new w _ _).alloc _⟩, by omega⟩, ((Kept.refl _ _).alloc _).alloc _, Nat.le_succ _, Nat.le_refl _⟩
  have := Bk.new (w.alloc (.cells (wordCells (List.replicate n 0)).toArray 27)) 109 #[Value.slice (some ⟨w.heap.size, 0, none⟩) n n]
  simpa using this

set_option maxHeartbeats 400000 in
theorem new_no (n : Int) (h1 : n < 1 ∨ 65536 < n) (w : World) :
    Calls Try.prog 30 #[.int .i64 n] w fun e w' => e = .returned (.tuple #[.pointer none, .int .i64 1]) ∧ w = w' := by
  rcases h1 with h1 | h1
  · go_enter Try.func30, Try.ntmps30
    go_wp2
    go_ret2
    exact ⟨rfl, rfl⟩
  · have h2 : ¬ n < 1 := by omega
    go_enter Try.func30, Try.ntmps30
    go_wp2
    go_ret2
    exact ⟨rfl, rfl⟩

/-- What Move makes of an arena's words. -/
def moveN (ws : List Int) (from_ to n : Nat) : List Int := splice ws to ((ws.drop from_).take n)
theorem length_moveN (ws : List Int) (p q n : Nat) (h1 : p + n ≤ ws.length) (h2 : q + n ≤ ws.length) : (moveN ws p q n).length = ws.length := by
  unfold moveN; rw [length_splice]; simp; omega
theorem moveN_wd (ws : List Int) (p q n : Nat) (h1 : p + n ≤ ws.length) (h2 : q + n ≤ ws.length) (i : Nat) :
    wd (moveN ws p q n) i = if q ≤ i ∧ i < q + n then wd ws (p + (i - q)) else wd ws i := by
  unfold wd moveN splice
  simp only [List.getD_eq_getElem?_getD, List.getElem?_append, List.length_take, List.length_drop, List.getElem?_take, List.getElem?_drop]
  by_cases c1 : i < q
  · rw [if_pos (by omega), if_pos c1, if_neg (by omega)]
  · rw [if_neg (by omega)]
    by_cases c2 : i < q + n
    · rw [if_pos (by omega), if_pos (by omega), if_pos (by omega)]
      congr 2; omega
    · rw [if_neg (by omega), if_neg (by omega)]
      congr 2; omega

set_option maxRecDepth 100000 in
set_option maxHeartbeats 400000 in
theorem move_yes {b g : Nat} {ws : List Int} {w : World} (hA : ArenaAt w b g ws) (hn : ws.length ≤ 65536) (p q n : Int)
   (h0 : 0 ≤ p) (h1 : 0 ≤ q) (h2 : 0 ≤ n) (h3 : p + n ≤ ws.length) (h4 : q + n ≤ ws.length) :
    Calls Try.prog 81 #[.pointer (some ⟨b, 0, none⟩), .int .i64 p, .int .i64 q, .int .i64 n] w fun e w' =>
      e = .returned (.int .i64 0) ∧ ArenaAt w' b g (moveN ws p.toNat q.toNat n.toNat) ∧ Kept (OneBlk g) w w' := by
  obtain ⟨n, rfl⟩ := Int.eq_ofNat_of_zero_le h2
  obtain ⟨p, rfl⟩ := Int.eq_ofNat_of_zero_le h0
  obtain ⟨q, rfl⟩ := Int.eq_ofNat_of_zero_le h1
  simp only [Int.toNat_natCast]
  go_enter Try.func81, Try.ntmps81
  go_wp2_with fail
  refine (run_yes hA hn _ _ h0 h2 h3).mono ?_
  rintro e w' ⟨o, ho, rfl, rfl⟩
  have Ho := Lib.hid ho
  clear ho
  go_wp2_with fail
  refine (run_yes hA hn _ _ h1 h2 h4).mono ?_
  rintro e w' ⟨o', ho', rfl, rfl⟩
  have Ho' := Lib.hid ho'
  clear ho'
  obtain ⟨U, hU⟩ := hA.body
  have HA := Lib.hid hA
  clear hA
  have hlen : (wordCells ((ws.drop p).take n)).length = n := by simp [wordCells]; omega
  have Hlen := Lib.hid hlen
  clear hlen
  have Hpos := Lib.hid (show 0 < (wordCells ((ws.drop p).take n)).length → some (⟨g, o', none⟩ : Addr) = some ⟨g, q, none⟩ ∧ ∃ ad, some (⟨g, o, none⟩ : Addr) = some ad ∧ ∀ j v, (wordCells ((ws.drop p).take n))[j]? = some v → w.cell? (ad.add j) = some v from by
    intro h
    rw [Hlen.out] at h
    have e1 := Ho.out (by omega)
    have e2 := Ho'.out (by omega)
    simp only [Int.toNat_natCast] at e1 e2
    subst e1; subst e2
    refine ⟨rfl, _, rfl, fun j v hj => ?_⟩
    rw [addr_add, hU.cell]
    simp only [wordCells, List.getElem?_map, List.getElem?_take, List.getElem?_drop] at hj
    by_cases c : j < n
    · rw [if_pos c] at hj
      simpa [wordCells] using hj
    · rw [if_neg c] at hj; cases hj)
  have Hone := Lib.hid (show ∀ v ∈ wordCells ((ws.drop p).take n), v.oneCell' = true from fun v hv => by
    obtain ⟨x, _, rfl⟩ := List.mem_map.1 hv; rfl)
  go_wp2_with ((with_reducible refine wpList_copy_kept rfl (.tmp 33) (.tmp 34) 44 44 rfl 27 ?c1 ?c2 (some ⟨g, o', none⟩) (some ⟨g, o, none⟩) n n n n ?d1 ?d2 g q (wordCells ws) U hU (wordCells ((ws.drop p).take n)) ?d3 ?d4 ?d5 ?d6 (fun w1 hB1 hK1 => ?k)); (case c1 => exact Try.underlying44); (case c2 => exact u64_size); (case d1 => rfl); (case d2 => rfl); (case d3 => rw [Hlen.out]; simp); (case d4 => exact Hpos.out); (case d5 => rw [Hlen.out]; simp [wordCells]; omega); (case d6 => exact Hone.out))
  go_ret
  refine ⟨rfl, ⟨?_, ⟨U, ?_⟩, HA.out.ne⟩, hK1⟩
  · rw [length_moveN _ _ _ _ (by omega) (by omega)]
    obtain ⟨T, hT⟩ := HA.out.head
    exact ⟨T, hT.kept hK1 HA.out.ne⟩
  · have : wordCells (moveN ws p q n) = splice (wordCells ws) q (wordCells ((ws.drop p).take n)) := by
      simp [moveN, splice, wordCells, List.map_take, List.map_drop]
    rw [this]; exact hB1

set_option maxHeartbeats 400000 in
theorem move_no {b g : Nat} {ws : List Int} {w : World} (hA : ArenaAt w b g ws) (hn : ws.length ≤ 65536) (p q n : Int)
    (bd1 : -9223372036854775808 ≤ p) (bd2 : p ≤ 9223372036854775807) (bd3 : -9223372036854775808 ≤ q) (bd4 : q ≤ 9223372036854775807) (bd5 : -9223372036854775808 ≤ n) (bd6 : n ≤ 9223372036854775807)
    (h : fitsA ws.length p n = false ∨ fitsA ws.length q n = false) :
    Calls Try.prog 81 #[.pointer (some ⟨b, 0, none⟩), .int .i64 p, .int .i64 q, .int .i64 n] w fun e w' =>
      e = .returned (.int .i64 20) ∧ w = w' := by
  cases e1 : fitsA ws.length p n with
  | false =>
    clear h
    cases e2 : fitsA ws.length q n with
    | false =>
      have E1 := Lib.hid e1
      have E2 := Lib.hid e2
      clear e1 e2
      go_enter Try.func81, Try.ntmps81
      go_wp2_with fail
      refine (run_no hA hn _ _ bd1 bd2 bd5 bd6 E1.out).mono ?_
      rintro e w' ⟨rfl, rfl⟩
      go_wp2_with fail
      refine (run_no hA hn _ _ bd3 bd4 bd5 bd6 E2.out).mono ?_
      rintro e w' ⟨rfl, rfl⟩
      go_wp2
      go_ret
      exact ⟨rfl, rfl⟩
    | true =>
      have E1 := Lib.hid e1
      have E2 := Lib.hid e2
      clear e1 e2
      go_enter Try.func81, Try.ntmps81
      go_wp2_with fail
      refine (run_no hA hn _ _ bd1 bd2 bd5 bd6 E1.out).mono ?_
      rintro e w' ⟨rfl, rfl⟩
      obtain ⟨f1, f2, f3, f4⟩ := fitsA_t E2.out
      go_wp2_with fail
      refine (run_yes hA hn _ _ f1 f2 (by omega)).mono ?_
      rintro e w' ⟨o, ho, rfl, rfl⟩
      clear ho
      go_wp2
      go_ret
      exact ⟨rfl, rfl⟩
  | true =>
    have e2 : fitsA ws.length q n = false := by
      rcases h with h | h
      · rw [h] at e1; cases e1
      · exact h
    clear h
    have E1 := Lib.hid e1
    have E2 := Lib.hid e2
    clear e1 e2
    obtain ⟨f1, f2, f3, f4⟩ := fitsA_t E1.out
    go_enter Try.func81, Try.ntmps81
    go_wp2_with fail
    refine (run_yes hA hn _ _ f1 f2 (by omega)).mono ?_
    rintro e w' ⟨o, ho, rfl, rfl⟩
    clear ho
    go_wp2_with fail
    refine (run_no hA hn _ _ bd3 bd4 bd5 bd6 E2.out).mono ?_
    rintro e w' ⟨rfl, rfl⟩
    go_wp2
    go_ret
    exact ⟨rfl, rfl⟩

theorem new_any (n : Int) (h1 : 1 ≤ n) (h2 : n ≤ 65536) (w : World) :
    Calls Try.prog 30 #[.int .i64 n] w fun e w' =>
      ∃ (b g : Nat) (ws : List Int), e = .returned (.tuple #[.pointer (some ⟨b, 0, none⟩), .int .i64 0]) ∧ Hid (ws = List.replicate n.toNat 0) ∧ Hid ((ws.length : Int) = n) ∧ ArenaAt w' b g ws ∧ Kept NoBlk w w' ∧ w.heap.size ≤ b ∧ w.heap.size ≤ g := by
  obtain ⟨k, rfl⟩ := Int.eq_ofNat_of_zero_le (show 0 ≤ n by omega)
  exact (new_yes k (by omega) (by omega) w).mono fun _ _ ⟨b, g, he, hA, hK, h3, h4⟩ => ⟨b, g, _, he, rfl, by show _ = _; simp, by simpa using hA, hK, h3, h4⟩

theorem wd_replicate (n i : Nat) : wd (List.replicate n 0) i = 0 := by
  unfold wd; simp only [List.getD_eq_getElem?_getD, List.getElem?_replicate]; split <;> rfl

end Go.Proofs.Ytccgnnnildedoaa
