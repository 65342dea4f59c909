/-
  The raw objects of layer 8's statements as a walk reads them.
  Conditions: none.
-/
import Derived.Test.YtccgnnnildedoaaRows
import Derived.Test.YtccgnnnildedoaaOpen
import Derived.Test.YtccgnnnildedoaaInts
import Derived.Test.YtccgnnnildedoaaRow
set_option linter.unusedVariables false
namespace Go.Proofs.Ytccgnnnildedoaa
open Go.RowKit

/-- Element i of a slice of raw objects lies in memory below block B. -/
def Raw08 (w : World) (B : Nat) (A : Option Addr) (i : Nat) : Prop :=
  ∃ (b off : Nat) (x y z : Int) (F : Option Addr) (n c : Nat) (fr : Bool), A = some ⟨b, off, none⟩ ∧ b < B ∧
    w.cell? ⟨b, off + i * 5, none⟩ = some (.int .i64 x) ∧ w.cell? ⟨b, off + i * 5 + 1, none⟩ = some (.int .i64 y) ∧ w.cell? ⟨b, off + i * 5 + 2, none⟩ = some (.int .i64 z) ∧
    w.cell? ⟨b, off + i * 5 + 3, none⟩ = some (.slice F n c) ∧ w.cell? ⟨b, off + i * 5 + 4, none⟩ = some (.bool fr) ∧
    (-9223372036854775808 ≤ x ∧ x ≤ 9223372036854775807) ∧ (-9223372036854775808 ≤ y ∧ y ≤ 9223372036854775807) ∧ (-9223372036854775808 ≤ z ∧ z ≤ 9223372036854775807) ∧
    n ≤ 9223372036854775807 ∧ ∀ j, j < n → I64In w B F j

theorem cells_raw08 : Try.prog.cellsOf 121 = 5 := by kernel_rfl
theorem pos_raw08 : 0 < Try.prog.cellsOf 121 := of_decide_eq_true (by kernel_rfl)
theorem cells_arr3 : Try.prog.cellsOf 22 = 3 := by kernel_rfl
theorem cells_ints08 : Try.prog.cellsOf 74 = 1 := by kernel_rfl
theorem cells_bool08 : Try.prog.cellsOf 4 = 1 := by kernel_rfl

theorem fields_raw08 : ∃ fs : Array Field, Try.prog.underlying 121 = some (.struct fs) ∧ fs.map (fun f : Field => (f.type, f.offset)) = #[(22, 0), (74, 3), (4, 4)] := ⟨_, Try.underlying121, by kernel_rfl⟩

theorem raw08_of {w : World} {B : Nat} {A : Option Addr} {len cap : Nat} (h : ReadsT Try.prog w B 4 73 [.slice A len cap]) : len ≤ cap ∧ cap ≤ maxLen ∧ ∀ i, i < len → Raw08 w B A i := by
  obtain ⟨A', len', cap', e, h1, h2, h⟩ := readsT_slice (P := Try.prog) (n := 3) (e := 121) Try.underlying73 pos_raw08 h
  rw [cells_raw08] at h
  injection e with e
  injection e with e1 e2 e3
  subst e1; subst e2; subst e3
  refine ⟨h1, h2, fun i hi => ?_⟩
  obtain ⟨b, off, cs, hA, hb, hl, hc, hr⟩ := h i hi
  obtain ⟨c0, c1, c2, c3, c4, rfl⟩ := list5 hl
  obtain ⟨fs, hu, hfs⟩ := fields_raw08
  obtain ⟨_, hf⟩ := readsT_struct hu hr
  have get : ∀ (k : Nat) (t : TypeId) (o : Nat), (#[(22, 0), (74, 3), (4, 4)] : Array (TypeId × Nat))[k]? = some (t, o) → ∃ f : Field, fs[k]? = some f ∧ f.type = t ∧ f.offset = o := fun k t o hk => by
    rw [← hfs, Array.getElem?_map] at hk
    obtain ⟨f, h1, h2⟩ := Option.map_eq_some_iff.1 hk
    simp at h2
    exact ⟨f, h1, h2.1, h2.2⟩
  obtain ⟨f0, g0, t0, o0⟩ := get 0 _ _ rfl
  obtain ⟨f1, g1, t1, o1⟩ := get 1 _ _ rfl
  obtain ⟨f2, g2, t2, o2⟩ := get 2 _ _ rfl
  have r0 := hf 0 f0 g0
  have r1 := hf 1 f1 g1
  have r2 := hf 2 f2 g2
  rw [t0, o0, cells_arr3] at r0
  rw [t1, o1, cells_ints08] at r1
  rw [t2, o2, cells_bool08] at r2
  simp only [List.drop_zero, List.take_succ_cons, List.take_zero, List.drop_succ_cons] at r0 r1 r2
  obtain ⟨_, ra⟩ := readsT_array (n := 1) Try.underlying22 r0
  rw [cells_int] at ra
  obtain ⟨x, e0, w0⟩ := readsT_int (n := 0) Try.underlying3 (ra 0 (by omega))
  obtain ⟨y, e1, w1⟩ := readsT_int (n := 0) Try.underlying3 (ra 1 (by omega))
  obtain ⟨z, e2, w2⟩ := readsT_int (n := 0) Try.underlying3 (ra 2 (by omega))
  simp at e0 e1 e2
  subst e0 e1 e2
  obtain ⟨F, n, c, e3, q1, q2, hF⟩ := readsT_slice (n := 1) (e := 3) Try.underlying74 pos_int r1
  rw [cells_int] at hF
  injection e3 with e3
  subst e3
  obtain ⟨fr, e4⟩ := readsT_bool (n := 1) Try.underlying4 r2
  injection e4 with e4
  subst e4
  refine ⟨b, off, x, y, z, F, n, c, fr, hA, hb, hc 0 _ rfl, hc 1 _ rfl, hc 2 _ rfl, hc 3 _ rfl, hc 4 _ rfl, bd_i64 w0, bd_i64 w1, bd_i64 w2, by unfold maxLen at q2; omega, fun j hj => ?_⟩
  obtain ⟨b2, off2, cs2, hA2, hb2, hl2, hc2, hr2⟩ := hF j hj
  obtain ⟨v, rfl, hw⟩ := readsT_int (n := 0) Try.underlying3 hr2
  have := hc2 0 _ rfl
  exact ⟨b2, off2, v, hA2, hb2, by simpa using this, hw⟩

end Go.Proofs.Ytccgnnnildedoaa
