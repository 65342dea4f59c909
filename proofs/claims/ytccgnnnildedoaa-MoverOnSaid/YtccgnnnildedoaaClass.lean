/-
  The contracts of package class: the iterator over the sizes, find, Round, Class.
  Conditions: as each statement says.
-/
import Derived.Test.YtccgnnnildedoaaRows
import Derived.Test.YtccgnnnildedoaaClassP
import Derived.Test.YtccgnnnildedoaaRange
set_option linter.unusedVariables false
namespace Go.Proofs.Ytccgnnnildedoaa
open Go.RowKit Go.Shelf
attribute [local go_sem] Oper.semAt_some

set_option maxRecDepth 100000 in
set_option maxHeartbeats 1000000 in
theorem sizes_iter (n : Nat) (hn : 1 ≤ n) (I : Nat → World → Prop) (hIN : ∀ k W, I k W → k ≤ 30) :
    Iter Fence.wide n Try.prog 112 #[] (fun k => #[.int .i64 k, .int .i64 (csz k)]) I (fun _ => False) := by
  intro l J Jx W hJ hJx hJI hY h0
  have HY := Lib.hid hY
  have HJ := Lib.hid hJI
  clear hY hJI
  refine callsIn_of_wp Try.func112 rfl trivial ?_ rfl
  simp only [Try.ntmps112, List.size_toArray, List.length_cons, List.length_nil, Nat.reduceAdd, Nat.reduceSub, Array.replicate_succ, Array.replicate_zero, List.push_toArray, List.append_toArray, List.nil_append, List.cons_append]
  gi_wp2
  gi_loopw [2, 3] (fun a b wr => ∃ k : Nat, k % 2 = 0 ∧ a = .int .i64 k ∧ b = .int .i64 (csz k) ∧ J k wr) (fun a _ _ => 40 - (intOf a).toNat)
  case atStart => exact ⟨0, rfl, rfl, rfl, h0⟩
  case round =>
    obtain ⟨k, hk2, rfl, rfl, hj⟩ := hrel
    have hk := hIN _ _ (HJ.out _ _ hj)
    have hz0 := csz_pos k
    have hz1 := csz_40 (k := k) (by omega)
    have hne := csz_next hk2
    have htw := csz_two k
    have HK2 := Lib.hid hk2
    have HNE := Lib.hid hne
    have HTW := Lib.hid htw
    clear hk2 hne htw
    obtain ⟨fn, tmps, assign, body, hy, hR⟩ := HY.out k wr hj
    gi_wp2
    refine hR.mono ?_
    clear hR hy
    rintro e W' (⟨rfl, hj1⟩ | ⟨rfl, hx⟩)
    · obtain ⟨fn2, tmps2, assign2, body2, hy2, hR2⟩ := HY.out (k + 1) W' hj1
      simp only [Int.natCast_add, Int.natCast_one, HNE.out] at hy2
      gi_wp2
      refine hR2.mono ?_
      clear hR2 hy2
      rintro e W2 (⟨rfl, hj2⟩ | ⟨rfl, hx⟩)
      · gi_wp2
        go_roundw
        case rel => exact ⟨k + 2, by have := HK2.out; omega, by go_num, by rw [HTW.out], hj2⟩
        case measure => simp [intOf]; omega
      · gi_wp2
        refine bodyPost_ret (results_none rfl _ _ _) rfl ?_
        exact ⟨⟨_, rfl⟩, .inr ⟨_, hx⟩⟩
    · gi_wp2
      refine ⟨fun _ h => (by cases h), ?_⟩
      gi_wp2
      refine bodyPost_ret (results_none rfl _ _ _) rfl ?_
      exact ⟨⟨_, rfl⟩, .inr ⟨_, hx⟩⟩

theorem sizes_any (n : Nat) (w : World) : CallsIn Fence.wide n Try.prog 111 #[] w fun e w' => e = .returned (.func (.func 112) #[] #[]) ∧ w = w' := by
  refine callsIn_of_wp Try.func111 rfl trivial ?_ rfl
  simp only [Try.ntmps111, List.size_toArray, List.length_cons, List.length_nil, Nat.reduceAdd, Nat.reduceSub, Array.replicate_succ, Array.replicate_zero, List.push_toArray, List.append_toArray, List.nil_append, List.cons_append]
  gi_wp2
  go_ret
  exact ⟨rfl, rfl⟩

/-- Between two rounds of find: nothing found yet. -/
def FindI (n : Int) (w : World) (k : Nat) (W : World) : Prop :=
  (∀ j, j < k → csz j < n) ∧ (∃ T, Bk W w.heap.size T #[.int .i64 n]) ∧ (∃ T, Bk W (w.heap.size + 1) T #[.int .i64 0]) ∧ (∃ T, Bk W (w.heap.size + 1 + 1) T #[.int .i64 0]) ∧ (∃ T, Bk W (w.heap.size + 1 + 1 + 1) T #[.bool false]) ∧ Kept NoBlk w W
def FindX (n : Int) (w : World) (c : Code) (k : Nat) (W : World) : Prop :=
  c = .ret ∧ ∃ j, ClassOf n j ∧ (∃ T, Bk W (w.heap.size + 1) T #[.int .i64 j]) ∧ (∃ T, Bk W (w.heap.size + 1 + 1) T #[.int .i64 (csz j)]) ∧ (∃ T, Bk W (w.heap.size + 1 + 1 + 1) T #[.bool true]) ∧ Kept NoBlk w W

set_option maxRecDepth 100000 in
set_option maxHeartbeats 1000000 in
theorem find_yes (n : Int) (h1 : 1 ≤ n) (h2 : n ≤ 65536) (w : World) :
    Calls Try.prog 110 #[.int .i64 n] w fun e w' => ∃ k : Nat, ClassOf n k ∧ e = .returned (.tuple #[.int .i64 k, .int .i64 (csz k), .bool true]) ∧ Kept NoBlk w w' := by
  refine (callsIn_wide (n := 6)).1 ?_
  refine callsIn_of_wp_marks Try.func110 rfl trivial ?_ rfl
  simp only [Try.ntmps110, List.size_toArray, List.length_cons, List.length_nil, Nat.reduceAdd, Nat.reduceSub, Array.replicate_succ, Array.replicate_zero, List.push_toArray, List.append_toArray, List.nil_append, List.cons_append]
  gi_wp2_with (refine ⟨trivial, ?_⟩; gi_at_call 111; refine (sizes_any _ _).mono ?_; rintro e w' ⟨rfl, rfl⟩)
  refine rangeLoop' (gf := 112) (lb := #[]) rfl (by omega) rfl trivial (enters_of Try.func112 (by kernel_rfl) rfl) (FindI n w) (FindX n w)
    (sizes_iter _ (by decide) _ (fun k W h => ?few)) (fun _ => rfl) ?stay ?stayx ?start
    (fun k t => (((t.setIfInBounds 14 (.int .i64 k)).setIfInBounds 15 (.int .i64 (csz k))).setIfInBounds 5 (.int .i64 k)).setIfInBounds 6 (.int .i64 (csz k))) ?assign ?body ?done ?stop
  case few =>
    rcases Nat.lt_or_ge 30 k with hlt | hge
    · have := h.1 28 (by omega); rw [csz_28] at this; omega
    · exact hge
  case stay =>
    rintro k A B ⟨h1, ⟨T1, b1⟩, ⟨T2, b2⟩, ⟨T3, b3⟩, ⟨T4, b4⟩, hK⟩ hs
    exact ⟨h1, ⟨T1, hs.bk b1⟩, ⟨T2, hs.bk b2⟩, ⟨T3, hs.bk b3⟩, ⟨T4, hs.bk b4⟩, hs.kept hK (by simp; omega)⟩
  case stayx =>
    rintro c k A B ⟨hc, j, h1, ⟨T2, b2⟩, ⟨T3, b3⟩, ⟨T4, b4⟩, hK⟩ hs
    exact ⟨hc, j, h1, ⟨T2, hs.bk b2⟩, ⟨T3, hs.bk b3⟩, ⟨T4, hs.bk b4⟩, hs.kept hK (by simp; omega)⟩
  case start =>
    have hs1 : ∀ (W : World) (o : Obj), (W.alloc o).heap.size = W.heap.size + 1 := fun W o => by simp
    refine ⟨fun j hj => absurd hj (by omega), ⟨_, ((Bk.new w _ _).alloc _).alloc _ |>.alloc _⟩, ⟨3, ?_⟩, ⟨3, ?_⟩, ⟨4, ?_⟩, (((Kept.refl _ w).alloc _).alloc _ |>.alloc _).alloc _⟩
    · rw [← hs1 w]; exact ((Bk.new _ _ _).alloc _).alloc _
    · rw [← hs1 w, ← hs1 (w.alloc _)]; exact (Bk.new _ _ _).alloc _
    · rw [← hs1 w, ← hs1 (w.alloc _), ← hs1 ((w.alloc _).alloc _)]; exact Bk.new _ _ _
  case assign =>
    intro l k W K hK
    gi_wp2
    exact hK
  case body =>
    rintro l k W ⟨hI1, ⟨T1, b1⟩, ⟨T2, b2⟩, ⟨T3, b3⟩, ⟨T4, b4⟩, hK⟩
    simp only [List.setIfInBounds_toArray, List.set_cons_succ, List.set_cons_zero]
    have c1 := b1.cell 0
    have c2 := b2.cell 0
    have c3 := b3.cell 0
    have c4 := b4.cell 0
    have f2 := b2.frozen 0
    have f3 := b3.frozen 0
    have f4 := b4.frozen 0
    have HI1 := Lib.hid hI1
    clear hI1
    by_cases hn : n ≤ csz k
    · gi_wp2
      refine ⟨((KeepsOthers.setCell _ _ _).trans (KeepsOthers.setCell _ _ _)).trans (KeepsOthers.setCell _ _ _), rfl, k, ⟨hn, HI1.out⟩, ⟨T2, ?_⟩, ⟨T3, ?_⟩, ⟨T4, ?_⟩, ?_⟩
      · exact ((b2.set_ 0 _).far (p := ⟨_, 0, none⟩) (by simp) _).far (p := ⟨_, 0, none⟩) (by dsimp only; omega) _
      · exact ((b3.far (p := ⟨_, 0, none⟩) (by simp) _).set_ 0 _).far (p := ⟨_, 0, none⟩) (by simp) _
      · exact ((b4.far (p := ⟨_, 0, none⟩) (by dsimp only; omega) _).far (p := ⟨_, 0, none⟩) (by simp) _).set_ 0 _
      · exact ((hK.setCell (p := ⟨_, 0, none⟩) (fun h => absurd h (by dsimp only; omega)) _).setCell (p := ⟨_, 0, none⟩) (fun h => absurd h (by dsimp only; omega)) _).setCell (p := ⟨_, 0, none⟩) (fun h => absurd h (by dsimp only; omega)) _
    · gi_wp2
      refine ⟨KeepsOthers.refl _, fun j hj => ?_, ⟨T1, b1⟩, ⟨T2, b2⟩, ⟨T3, b3⟩, ⟨T4, b4⟩, hK⟩
      by_cases e : j = k
      · subst e; omega
      · exact HI1.out j (by omega)
  case done => rintro D k W hD hf; exact hf.elim
  case stop =>
    rintro D c k W hD ⟨rfl, j, hj, ⟨T2, b2⟩, ⟨T3, b3⟩, ⟨T4, b4⟩, hK⟩ hDef
    gi_wp2
    refine ⟨by simp, .inl ⟨_, _, rfl, run_takeDeferred hDef, ?_⟩⟩
    have hs : Same (w.heap.size + 4) W (W.putObj D (.deferred none)) := Same.putObj _ (by simp at hD; omega) hDef rfl
    have c2 := (hs.bk b2).cell 0
    have c3 := (hs.bk b3).cell 0
    have c4 := (hs.bk b4).cell 0
    refine ⟨.tuple #[.int .i64 j, .int .i64 (csz j), .bool true], ?_, j, hj, rfl, hs.kept hK (by omega)⟩
    simp [results, Try.results110, go_sem, c2, c3, c4]

set_option maxRecDepth 100000 in
set_option maxHeartbeats 1000000 in
theorem round_yes (n : Int) (h1 : 1 ≤ n) (h2 : n ≤ 65536) (w : World) :
    Calls Try.prog 101 #[.int .i64 n] w fun e w' => ∃ k : Nat, ClassOf n k ∧ e = .returned (.tuple #[.int .i64 (csz k), .bool true]) ∧ Kept NoBlk w w' := by
  go_enter Try.func101, Try.ntmps101
  go_wp2_with fail
  refine (find_yes n h1 h2 w).mono ?_
  rintro e w1 ⟨k, hk, rfl, hK⟩
  go_wp2
  go_ret2
  exact ⟨k, hk, rfl, hK⟩


end Go.Proofs.Ytccgnnnildedoaa
