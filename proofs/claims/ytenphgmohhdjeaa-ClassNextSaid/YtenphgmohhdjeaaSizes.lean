/-
  class.Sizes: the sizes up to the first one that is large enough; two lists of numbers that are the same.
  Conditions: as each statement says.
-/
import Derived.Test.YtenphgmohhdjeaaClass
set_option linter.unusedVariables false
namespace Go.Proofs.Ytenphgmohhdjeaa
open Go.RowKit Go.Shelf
attribute [local go_sem] Oper.semAt_some

def sizesL (k : Nat) : List Value := (List.range k).map fun j => .int .i64 (csz j)
theorem sizesL_snoc (k : Nat) : sizesL k ++ [.int .i64 (csz k)] = sizesL (k + 1) := by simp [sizesL, List.range_succ]

theorem int_info : (Try.prog.info? 3).map (fun i => (i.zero, i.size, i.bytes)) = some (some (.int .i64 0), 1, 8) := by kernel_rfl

def SizesI (n : Int) (w : World) (k : Nat) (W : World) : Prop :=
  (∀ j, j < k → csz j < n) ∧ (∃ T, Bk W w.heap.size T #[.int .i64 n]) ∧ (∃ T v, Bk W (w.heap.size + 1) T #[v] ∧ (v = .slice none 0 0 ∨ ∃ a n c, v = .slice (some a) n c) ∧ W.ownsRow (w.heap.size + 2) 3 1 v k (sizesL k)) ∧ Kept NoBlk w W
def SizesX (n : Int) (w : World) (c : Code) (k : Nat) (W : World) : Prop :=
  c = .exit 0 ∧ ∃ j, ClassOf n j ∧ (∃ T g cap, Bk W (w.heap.size + 1) T #[.slice (some ⟨g, 0, none⟩) (j + 1) cap] ∧ W.ownsRow (w.heap.size + 2) 3 1 (.slice (some ⟨g, 0, none⟩) (j + 1) cap) (j + 1) (sizesL (j + 1))) ∧ Kept NoBlk w W

set_option maxRecDepth 100000 in
set_option maxHeartbeats 1000000 in
theorem sizes_yes (n : Int) (h1 : 1 ≤ n) (h2 : n ≤ 65536) (w : World) :
    Calls Try.prog 67 #[.int .i64 n] w fun e w' => ∃ (k g cap : Nat), ClassOf n k ∧ e = .returned (.slice (some ⟨g, 0, none⟩) (k + 1) cap) ∧ w'.ownsRow (w.heap.size + 2) 3 1 (.slice (some ⟨g, 0, none⟩) (k + 1) cap) (k + 1) (sizesL (k + 1)) ∧ Kept NoBlk w w' := by
  obtain ⟨i0, hi, hz0, hz1, hz2⟩ := info_parts int_info
  have HI := Lib.hid (And.intro hi (And.intro hz0 (And.intro hz1 hz2)))
  clear hi hz0 hz1 hz2
  refine (callsIn_wide (n := 6)).1 ?_
  refine callsIn_of_wp_marks Try.func67 rfl trivial ?_ rfl
  simp only [Try.ntmps67, List.size_toArray, List.length_cons, List.length_nil, Nat.reduceAdd, Nat.reduceSub, Array.replicate_succ, Array.replicate_zero, List.push_toArray, List.append_toArray, List.nil_append, List.cons_append]
  gi_wp2_with (refine ⟨trivial, ?_⟩; gi_at_call 75; refine (sizes_any _ _).mono ?_; rintro e w' ⟨rfl, rfl⟩)
  have hs1 : ∀ (W : World) (o : Obj), (W.alloc o).heap.size = W.heap.size + 1 := fun W o => by simp
  have HS1 := Lib.hid hs1
  clear hs1
  refine rangeLoop' (gf := 77) (lb := #[]) rfl (by omega) rfl trivial (enters_of Try.func77 (by kernel_rfl) rfl) (SizesI n w) (SizesX n w)
    (sizes_iter _ (by decide) _ (fun k W h => ?few)) (fun _ => rfl) ?stay ?stayx ?start
    (fun k t => ((t.setIfInBounds 10 (.int .i64 k)).setIfInBounds 11 (.int .i64 (csz k))).setIfInBounds 4 (.int .i64 (csz k))) ?assign ?body ?done ?stop
  case few =>
    rcases Nat.lt_or_ge 30 k with hlt | hge
    · have := h.1 28 (by omega); rw [csz_28] at this; omega
    · exact hge
  case stay =>
    rintro k A B ⟨h1, ⟨T1, b1⟩, ⟨T2, v, b2, hv, ho⟩, hK⟩ hs
    exact ⟨h1, ⟨T1, hs.bk b1⟩, ⟨T2, v, hs.bk b2, hv, hs.own ho⟩, hs.kept hK (by simp [World.setCell]; omega)⟩
  case stayx =>
    rintro c k A B ⟨hc, j, h1, ⟨T2, g, cap, b2, ho⟩, hK⟩ hs
    exact ⟨hc, j, h1, ⟨T2, g, cap, hs.bk b2, hs.own ho⟩, hs.kept hK (by simp [World.setCell]; omega)⟩
  case start =>
    refine ⟨fun j hj => absurd hj (by omega), ⟨3, (Bk.new w _ _).alloc _⟩, ⟨58, .slice none 0 0, ?_, .inl rfl, World.ownsRow_nil _ _ _ _⟩, ((Kept.refl _ w).alloc _).alloc _⟩
    rw [← HS1.out w]; exact Bk.new _ _ _
  case assign =>
    intro l k W K hK
    gi_wp2
    exact hK
  case body =>
    rintro l k W ⟨hI1, ⟨T1, b1⟩, ⟨T2, v, b2, hv, ho⟩, hK⟩
    simp only [List.setIfInBounds_toArray, List.set_cons_succ, List.set_cons_zero]
    have hk : k ≤ 28 := by
      rcases Nat.lt_or_ge 28 k with hlt | hge
      · have := hI1 28 hlt; rw [csz_28] at this; omega
      · exact hge
    have HI1 := Lib.hid hI1
    clear hI1
    have c1 := b1.cell 0
    have c2 := b2.cell 0
    have f2 := b2.frozen 0
    have hsz := b2.lt
    have hlow : ∀ i, v.ownBlock = some i → w.heap.size + 2 ≤ i := fun i hi => (ho.lt i hi).1
    have HLOW := Lib.hid hlow
    clear hlow
    by_cases hn : n ≤ csz k
    · gi_wp2_with (gi_at_builtin; refine wpListIn_append_one rfl (.tmp 12) (.tmp 14) 58 rfl (w.heap.size + 2) 3 i0 (.int .i64 0) 8 Try.underlying58 HI.out.1 HI.out.2.1 HI.out.2.2.1 HI.out.2.2.2 rfl v k (sizesL k) rfl (ho.alloc _) W.heap.size 3 (.int .i64 (csz k)) rfl (Bk.new _ _ _) rfl (by omega) (by omega) (by simp; omega) ?_; intro g1 cap1 w5 hown5 hK5; have b1' := (b1.alloc _).kept hK5 (fun h => by have := (ho.lt _ h).1; omega); have b2' := (b2.alloc _).kept hK5 (fun h => by have := (ho.lt _ h).1; omega); have c1' := b1'.cell 0; have c2' := b2'.cell 0; have f2' := b2'.frozen 0)
      rw [sizesL_snoc] at hown5
      have hgl := (hown5.lt g1 rfl).1
      have hKK : Kept NoBlk w w5 := (hK.alloc _).over hK5 (fun i hi => by have := HLOW.out i hi; omega)
      refine ⟨(((KeepsOthers.alloc _ _).trans (others_of_kept' hK5 (fun i o hi ho' => own_cells (ho.alloc _) hi ho'))).trans (KeepsOthers.setCell _ _ _)), rfl, k, ⟨hn, HI1.out⟩, ⟨_, g1, cap1, b2'.set_ 0 _, ?_⟩, ?_⟩
      · exact own_kept hown5 ((Kept.refl (OneBlk (w.heap.size + 1)) w5).setCell (p := ⟨w.heap.size + 1, 0, none⟩) (fun _ => rfl) _) (fun i hi => by rw [show i = w.heap.size + 1 from hi]; omega)
      · exact hKK.setCell (p := ⟨w.heap.size + 1, 0, none⟩) (fun h => absurd h (by dsimp only; omega)) _
    · gi_wp2_with (gi_at_builtin; refine wpListIn_append_one rfl (.tmp 12) (.tmp 14) 58 rfl (w.heap.size + 2) 3 i0 (.int .i64 0) 8 Try.underlying58 HI.out.1 HI.out.2.1 HI.out.2.2.1 HI.out.2.2.2 rfl v k (sizesL k) rfl (ho.alloc _) W.heap.size 3 (.int .i64 (csz k)) rfl (Bk.new _ _ _) rfl (by omega) (by omega) (by simp; omega) ?_; intro g1 cap1 w5 hown5 hK5; have b1' := (b1.alloc _).kept hK5 (fun h => by have := (ho.lt _ h).1; omega); have b2' := (b2.alloc _).kept hK5 (fun h => by have := (ho.lt _ h).1; omega); have c1' := b1'.cell 0; have c2' := b2'.cell 0; have f2' := b2'.frozen 0)
      rw [sizesL_snoc] at hown5
      have hKK : Kept NoBlk w w5 := (hK.alloc _).over hK5 (fun i hi => by have := HLOW.out i hi; omega)
      refine ⟨(((KeepsOthers.alloc _ _).trans (others_of_kept' hK5 (fun i o hi ho' => own_cells (ho.alloc _) hi ho'))).trans (KeepsOthers.setCell _ _ _)), fun j hj => ?_, ⟨T1, ?_⟩, ⟨_, _, b2'.set_ 0 _, .inr ⟨_, _, _, rfl⟩, ?_⟩, ?_⟩
      · by_cases e : j = k
        · subst e; omega
        · exact HI1.out j (by omega)
      · exact b1'.far (p := ⟨w.heap.size + 1, 0, none⟩) (by dsimp only; omega) _
      · exact own_kept hown5 ((Kept.refl (OneBlk (w.heap.size + 1)) w5).setCell (p := ⟨w.heap.size + 1, 0, none⟩) (fun _ => rfl) _) (fun i hi => by rw [show i = w.heap.size + 1 from hi]; omega)
      · exact hKK.setCell (p := ⟨w.heap.size + 1, 0, none⟩) (fun h => absurd h (by dsimp only; omega)) _
  case done => rintro D k W hD hf; exact hf.elim
  case stop =>
    rintro D c k W hD ⟨rfl, j, hj, ⟨T2, g, cap, b2, ho⟩, hK⟩ hDef
    gi_wp2
    refine ⟨by simp, .inl ⟨_, _, rfl, run_takeDeferred hDef, ?_⟩⟩
    have hs : Same (w.heap.size + 2) W (W.putObj D (.deferred none)) := Same.putObj _ (by simp [World.setCell] at hD; omega) hDef rfl
    have c2 := (hs.bk b2).cell 0
    refine ⟨.slice (some ⟨g, 0, none⟩) (j + 1) cap, ?_, j, g, cap, hj, rfl, hs.own ho, hs.kept hK (by omega)⟩
    simp [results, Try.results67, go_sem, c2]

end Go.Proofs.Ytenphgmohhdjeaa
