/-
  Layer 08: two lists that are the same (Ints), an object's words but the first one (words), the example (awake).
  Conditions: as each statement says.
-/
import Derived.Test.YtccgnnnildedoaaLay
import Derived.Test.YtccgnnnildedoaaWalk
import Derived.Test.YtccgnnnildedoaaSl
set_option linter.unusedVariables false
namespace Go.Proofs.Ytccgnnnildedoaa
open Go.RowKit

set_option maxRecDepth 100000 in
set_option maxHeartbeats 1000000 in
theorem ints_yes {A B : Option Addr} {n c d : Nat} {f : Nat → Int} {w : World} (hn : n ≤ 9223372036854775807) (hA : Sl w .i64 A n f) (hB : Sl w .i64 B n f) :
    Calls Try.prog 52 #[.slice A n c, .slice B n d] w fun e w' => e = .returned (.bool true) ∧ Kept NoBlk w w' := by
  have HA := Lib.hid hA
  have HB := Lib.hid hB
  clear hA hB
  go_enter Try.func52, Try.ntmps52
  go_wp2_with fail
  go_loopw [5] (fun i wr => ∃ j : Nat, j ≤ n ∧ i = .int .i64 j ∧ Kept NoBlk w wr) (fun i _ => n - (intOf i).toNat)
  case atStart => exact ⟨0, by omega, rfl, Kept.refl _ _⟩
  case round =>
    obtain ⟨j, hj, rfl, hK⟩ := hrel
    by_cases hlt : j < n
    · obtain ⟨b1, o1, rfl, c1⟩ := HA.out j hlt
      obtain ⟨b2, o2, rfl, c2⟩ := HB.out j hlt
      have d1 := hK.cell id c1
      have d2 := hK.cell id c2
      have e0 : (0 : Int) ≤ (j : Int) := by omega
      have e1 : (j : Int) < (n : Int) := by omega
      generalize f j = x at *
      go_wp2_with fail
      go_quiet (skip)
      go_wp2
      go_roundw
      case rel => exact ⟨j + 1, by omega, by go_num, by first | exact hK | exact hK.drew | exact hK.drewN _⟩
      case measure => simp [intOf]; omega
    · go_wp2
      go_ret
      exact ⟨rfl, hK⟩

theorem Sl.ownI {w : World} {base : Nat} {e : TypeId} {A : Option Addr} {n c : Nat} {l : List Int} (h : w.ownsRow base e 1 (.slice A n c) n (intCells l)) : Sl w .i64 A n (wd l) := by
  have hl : n = l.length := by have := h.1; simpa [intCells] using this.symm
  exact Sl.own h fun i hi => intCells_at l i (by omega)

theorem u64_infoM : (Try.prog.info? 27).map (fun i => (i.zero, i.size, i.bytes)) = some (some (.int .u64 0), 1, 8) := by kernel_rfl

/-- An object's words but the first one. -/
def Obj.rest (o : Obj) : List Int := o.words.drop 1
theorem Obj.rest_len {o : Obj} (h : o.Ok) : o.rest.length = o.size - 1 := by unfold Obj.rest; rw [List.length_drop, h.length]
theorem Obj.rest_wd (o : Obj) (k : Nat) : wd o.rest k = wd o.words (k + 1) := by
  unfold Obj.rest wd
  simp only [List.getD_eq_getElem?_getD, List.getElem?_drop]
  congr 2; omega

set_option maxRecDepth 100000 in
set_option maxHeartbeats 2000000 in
theorem words_yes {b g : Nat} {ws : List Int} {w : World} (hA : ArenaAt w b g ws) (hn : ws.length ≤ 65536) {p : Nat} {o : Obj} (ho : ObjAt ws p o) :
    Calls Try.prog 51 #[.pointer (some ⟨b, 0, none⟩), .int .i64 p] w fun e w' => ∃ v, e = .returned v ∧ w'.ownsRow w.heap.size 27 1 v o.rest.length (wordCells o.rest) ∧ Kept NoBlk w w' := by
  have hf := ho.fit
  have h3 := o.size3
  have hz := Shp.size_le ho.ok.shp
  have hsz : ((o.size : Nat) : Int) = 3 + (o.shp.p : Int) + o.shp.d := by unfold Obj.size Shp.size; omega
  have c1 : ∀ W, Kept NoBlk w W → _ := fun W kk => oshape_yes (hA.kept kk id id) hn ho
  have c2 : ∀ W, Kept NoBlk w W → _ := fun W kk (k : Nat) (hk : k < o.rest.length) => load_v (hA.kept kk id id) hn (p + (1 + k)) (wd o.rest k) (by rw [o.rest_wd k]; have := Obj.rest_len ho.ok; rw [show 1 + k = k + 1 by omega]; exact ho.w (k + 1) (by omega)) (by have := Obj.rest_len ho.ok; omega)
  have hl := Obj.rest_len ho.ok
  generalize o.rest = r at *
  obtain ⟨n, hr⟩ : ∃ n, r.length = n := ⟨_, rfl⟩
  rw [hr] at hl c2 ⊢
  have hpb : p < 65536 := by omega
  have hn20 : n ≤ 20 := by have : o.size = o.shp.size := rfl; omega
  have hsn : (3 : Int) + o.shp.p + o.shp.d ≤ 1 + n := by omega
  have hsm : 1 + (n : Int) ≤ (3 : Int) + o.shp.p + o.shp.d := by omega
  obtain ⟨i0, hi, hz0, hz1, hz2⟩ := info_parts u64_infoM
  have HI := Lib.hid (And.intro hi (And.intro hz0 (And.intro hz1 hz2)))
  have HRL := Lib.hid hr
  clear hi hz0 hz1 hz2 hA ho hz hr hl hsz h3
  obtain ⟨⟨P, D, wk, fn⟩, fr, sc, sr, ps, ns⟩ := o
  dsimp only at *
  clear hf
  go_enter Try.func51, Try.ntmps51
  have hK := Kept.refl NoBlk w
  go_wp2_with fail
  refine (c1 _ hK).mono ?_
  rintro e v1 ⟨rfl, hKn⟩
  replace hK := hK.trans hKn
  clear hKn
  have hv1 := hK.size
  have hS := Bk.new (v1) 25 (#[.int .i64 P, .int .i64 D, .bool wk, .bool fn] : Array Value)
  replace hK := hK.alloc (.cells #[.int .i64 P, .int .i64 D, .bool wk, .bool fn] 25)
  have c_hS := hS.cell
  have f_hS := hS.frozen
  go_wp2_with fail
  go_loopw [8, 9] (fun v i wr => ∃ k : Nat, k ≤ n ∧ i = .int .i64 (1 + (k : Int)) ∧ Bk wr v1.heap.size 25 #[.int .i64 P, .int .i64 D, .bool wk, .bool fn] ∧ wr.ownsRow (v1.heap.size + 1) 27 1 v k (wordCells (r.take k)) ∧ Kept NoBlk w wr) (fun _ i _ => 30 - (intOf i).toNat)
  case atStart => exact ⟨0, by omega, rfl, hS, World.ownsRow_nil _ _ _ _, hK⟩
  case round =>
    clear hS c_hS f_hS hK
    obtain ⟨k, hk, rfl, hS, hown, hK⟩ := hrel
    have cS := hS.cell
    by_cases hlt : k < n
    · have c3 := c2 _ hK k hlt
      rw [show ((p + (1 + k) : Nat) : Int) = (p : Int) + (1 + (k : Int)) by omega] at c3
      go_wp2_with fail
      refine c3.mono ?_
      rintro e w4 ⟨rfl, rfl⟩
      have hbn := hS.lt
      go_wp2_with (at_builtin; refine wpList_append_one rfl (.tmp 37) (.tmp 39) 44 rfl (v1.heap.size + 1) 27 i0 (.int .u64 0) 8 Try.underlying44 HI.out.1 HI.out.2.1 HI.out.2.2.1 HI.out.2.2.2 rfl _ k (wordCells (r.take k)) rfl (hown.alloc _) wr.heap.size 27 (.int .u64 (wd r k)) rfl (Bk.new _ _ _) rfl (by omega) (by omega) (by simp; omega) ?_; intro g1 cap1 w5 hown5 hK5)
      go_roundw
      case rel =>
        refine ⟨k + 1, by omega, by go_num, (hS.alloc _).kept hK5 (fun h => by have := (hown.lt _ h).1; omega), ?_, ?_⟩
        · rw [wordCells_snoc _ _ (by have := HRL.out; omega)] at hown5; exact hown5
        · exact (hK.alloc _).over hK5 (fun i hi => by have := (hown.lt i hi).1; omega)
      case measure => simp [intOf]; omega
    · obtain rfl : k = n := by omega
      have hws : r.take k = r := List.take_of_length_le (by have := HRL.out; omega)
      rw [hws] at hown
      clear hws
      go_wp2
      go_ret
      exact ⟨_, rfl, own_base hown (by omega), hK⟩

end Go.Proofs.Ytccgnnnildedoaa
