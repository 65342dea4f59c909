/-
  The fixed first calls of the statements of layer 1 (awake) answer true, and change nothing that was there.
  Conditions: none.
-/
import Derived.Test.YtenphgmohhdjeaaPack
import Derived.Test.YtenphgmohhdjeaaSame01
set_option linter.unusedVariables false
namespace Go.Proofs.Ytenphgmohhdjeaa
open Go.RowKit Go.Shelf

/-- A list of numbers in a block of its own. -/
theorem Sl.nats {w : World} {g : Nat} {t : TypeId} {k : IntKind} {l : List Nat} {cs : Array Value} (h : Bk w g t cs) (hc : cs = (l.map fun x => Value.int k (x : Nat)).toArray) : Sl w k (some ⟨g, 0, none⟩) l.length (fun i => (nth l i : Nat)) := fun i hi => by
  refine ⟨g, 0, rfl, ?_⟩
  rw [h.cell, hc, Nat.zero_add]
  simp [nth, hi]

theorem ok34 : WidthsOk [3, 4] := ⟨fun k hk => by
  match k, hk with
  | 0, _ => decide
  | 1, _ => decide, by decide⟩

theorem pack34 (w : World) (g h : Nat) (T U : TypeId) (hg : Bk w g T #[.int .i64 3, .int .i64 4]) (hh : Bk w h U #[.int .u64 5, .int .u64 9]) :
    Calls Try.prog 58 #[.slice (some ⟨g, 0, none⟩) 2 2, .slice (some ⟨h, 0, none⟩) 2 2] w fun e w' => e = .returned (.tuple #[.int .u64 77, .bool true]) ∧ Kept NoBlk w w' :=
  pack_yes _ _ 2 2 2 [3, 4] [5, 9] ok34 (by simp [FitsN]) w rfl (Sl.nats (l := [3, 4]) hg rfl) (fun b o e => by injection e with e; injection e with e1 _ _; rw [← e1]; exact hg.lt) (Sl.nats (l := [5, 9]) hh rfl) (fun b o e => by injection e with e; injection e with e1 _ _; rw [← e1]; exact hh.lt)

theorem unpack34 (w : World) (g : Nat) (T : TypeId) (hg : Bk w g T #[.int .i64 3, .int .i64 4]) :
    Calls Try.prog 59 #[.slice (some ⟨g, 0, none⟩) 2 2, .int .u64 77] w fun e w' => ∃ q cap, e = .returned (.tuple #[.slice q 2 cap, .bool true]) ∧ Sl w' .u64 q 2 (fun i => (nth [5, 9] i : Nat)) ∧ Kept NoBlk w w' := by
  refine (unpack_yes _ 2 2 [3, 4] 77 ok34 (by decide) w rfl (Sl.nats (l := [3, 4]) hg rfl) (fun b o e => by injection e with e; injection e with e1 _ _; rw [← e1]; exact hg.lt)).mono ?_
  rintro e w' ⟨q, cap, rfl, ho, hK⟩
  refine ⟨q, cap, rfl, Sl.own ho fun i hi => ?_, hK⟩
  match i, hi with
  | 0, _ => rfl
  | 1, _ => rfl

set_option maxRecDepth 100000 in
set_option maxHeartbeats 1000000 in
theorem awake01 (w : World) :
    Calls Try.prog 52 #[] w fun e w' => e = .returned (.bool true) ∧ Kept NoBlk w w' := by
  have hG : ∀ W, Calls Try.prog 56 #[.int .u64 77, .agg #[.int .i64 3, .int .i64 4]] W fun e w' => e = .returned (.int .u64 9) ∧ Kept NoBlk W w' := fun W => get_part 77 3 4 (by omega) (by omega) (by omega) W
  have hR : ∀ W, Calls Try.prog 70 #[.agg #[.int .i64 0, .int .i64 64]] W fun e w' => e = .returned (.bool true) ∧ Kept NoBlk W w' := fun W => right_part 0 64 (by omega) (by omega) W
  have hM : ∀ W, Calls Try.prog 54 #[.agg #[.int .i64 1, .int .i64 2]] W fun e w' => e = .returned (.int .u64 6) ∧ Kept NoBlk W w' := fun W => mask_part 1 2 (by omega) (by omega) W
  have hZ : ∀ W, Calls Try.prog 63 #[.int .i64 (-1)] W fun e w' => e = .returned (.int .u64 1) ∧ W = w' := fun W => zig_any (-1) (by omega) (by omega) W
  have hz : ∀ W, Calls Try.prog 62 #[.int .u64 1] W fun e w' => e = .returned (.int .i64 (-1)) ∧ W = w' := fun W => zag_any 1 (by omega) (by omega) W
  go_enter Try.func52, Try.ntmps52
  go_wp2_with fail
  have hs1 : ∀ (W : World) (o : Obj), (W.alloc o).heap.size = W.heap.size + 1 := fun W o => by simp
  have b1 := (Bk.new w 3 (#[.int .i64 3, .int .i64 4] : Array Value)).alloc (.cells #[.int .u64 5, .int .u64 9] 32)
  have b2 := Bk.new (w.alloc (.cells #[.int .i64 3, .int .i64 4] 3)) 32 (#[.int .u64 5, .int .u64 9] : Array Value)
  rw [hs1] at b2
  clear hs1
  have hK : Kept NoBlk w ((w.alloc (.cells #[.int .i64 3, .int .i64 4] 3)).alloc (.cells #[.int .u64 5, .int .u64 9] 32)) := ((Kept.refl NoBlk w).alloc _).alloc _
  refine (pack34 _ _ _ _ _ b1 b2).mono ?_
  rintro e w1 ⟨rfl, hKn⟩
  replace hK := hK.trans hKn
  clear hKn b1 b2
  go_wp2_with fail
  have b1 := Bk.new w1 3 (#[.int .i64 3, .int .i64 4] : Array Value)
  replace hK := hK.alloc (.cells #[.int .i64 3, .int .i64 4] 3)
  refine (unpack34 _ _ _ b1).mono ?_
  rintro e w2 ⟨q, cap, rfl, hSl, hKn⟩
  replace hK := hK.trans hKn
  clear hKn b1
  have HSl := Lib.hid hSl
  clear hSl
  go_wp2_with fail
  have b1 := Bk.new w2 32 (#[.int .u64 5, .int .u64 9] : Array Value)
  have hKa := (Kept.refl NoBlk w2).alloc (.cells #[.int .u64 5, .int .u64 9] 32)
  refine (same01 (f := fun i => (nth [5, 9] i : Nat)) (by omega) (HSl.out.kept hKa (fun _ _ _ => id)) (Sl.nats (l := [5, 9]) b1 rfl)).mono ?_
  rintro e w3 ⟨rfl, hKn⟩
  replace hK := hK.trans (hKa.trans hKn)
  clear hKn hKa b1
  go_wp2_with fail
  refine (hZ _).mono ?_
  rintro e_ wc1 ⟨rfl, rfl⟩
  go_wp2_with fail
  refine (hz _).mono ?_
  rintro e_ wc2 ⟨rfl, rfl⟩
  go_wp2_with fail
  refine (hG _).mono ?_
  rintro e_ wc3 ⟨rfl, hKn⟩
  replace hK := hK.trans hKn
  clear hKn
  go_wp2_with fail
  refine (hR _).mono ?_
  rintro e_ wc4 ⟨rfl, hKn⟩
  replace hK := hK.trans hKn
  clear hKn
  go_wp2_with fail
  refine (hM _).mono ?_
  rintro e_ wc5 ⟨rfl, hKn⟩
  replace hK := hK.trans hKn
  clear hKn
  go_wp2
  go_ret
  exact ⟨rfl, hK⟩

end Go.Proofs.Ytenphgmohhdjeaa
