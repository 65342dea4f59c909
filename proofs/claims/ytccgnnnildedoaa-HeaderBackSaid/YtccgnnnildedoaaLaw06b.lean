/-
  The walk through the law HeaderBack.
  Conditions: none.
-/
import Derived.Test.YtccgnnnildedoaaLaw06
set_option linter.unusedVariables false
namespace Go.Proofs.Ytccgnnnildedoaa
open Go.RowKit Go.Shelf

set_option maxRecDepth 100000 in
set_option maxHeartbeats 4000000 in
theorem back_walk6 (X : Nat) (hX : X < 18446744073709551616) (w : World) :
    Calls Try.prog 7 #[.int .u64 X] w fun e w' => e = .returned (.bool true) ∧ Kept NoBlk w w' := by
  go_enter Try.func7, Try.ntmps7
  go_wp2_with fail
  refine (awake06 _).mono ?_
  rintro e w1 ⟨rfl, hK⟩
  go_wp2_with fail
  have hb := Bk.new w1 27 (#[.int .u64 X, .int .u64 (X % 4096), .int .u64 (X % 524300)] : Array Value)
  replace hK := hK.alloc (.cells #[.int .u64 X, .int .u64 (X % 4096), .int .u64 (X % 524300)] 27)
  generalize w1.alloc (.cells #[.int .u64 X, .int .u64 (X % 4096), .int .u64 (X % 524300)] 27) = w2 at hb hK ⊢
  have hc : ∀ k, k < 3 → ∃ Y : Nat, Y < 18446744073709551616 ∧ w2.cell? ⟨w1.heap.size, k, none⟩ = some (.int .u64 Y) := fun k hk => by
    match k, hk with
    | 0, _ => exact ⟨X, hX, hb.cell 0⟩
    | 1, _ => exact ⟨X % 4096, by omega, by rw [hb.cell 1]; rfl⟩
    | 2, _ => exact ⟨X % 524300, by omega, by rw [hb.cell 2]; rfl⟩
  have Hc := Lib.hid hc
  clear hc hb
  go_loopw [23] (fun i wr => ∃ k : Nat, k ≤ 3 ∧ i = .int .i64 k ∧ Kept NoBlk w2 wr) (fun i _ => 3 - (intOf i).toNat)
  case atStart => exact ⟨0, by omega, rfl, Kept.refl _ _⟩
  case round =>
    obtain ⟨k, hk, rfl, hKr⟩ := hrel
    by_cases hlt : k < 3
    · obtain ⟨Y, hY, cY⟩ := Hc.out k hlt
      have cY' := hKr.cell id cY
      clear cY
      have e0 : (0 : Int) ≤ (k : Int) := by omega
      have e1 : (k : Int) < 3 := by omega
      cases hh : isHead Y with
      | true =>
        obtain ⟨ho, he⟩ := isHead_of hh
        have c1 := fun W => shape_yes Y hh W
        have c2 := fun W => head_yes (shpOf Y) (frdOf Y) ho W
        rw [he] at c2
        have hng : isGone (Y : Int) = false := by
          cases hg : isGone (Y : Int) with
          | false => rfl
          | true =>
            have hev : Y % 2 = 0 := by unfold isGone at hg; simp at hg; omega
            rw [isHead_even hev] at hh; cases hh
        have c3 := fun W => where_no (Y : Int) (by omega) (by omega) hng W
        generalize (shpOf Y).p = p at *
        generalize (shpOf Y).d = d at *
        generalize (shpOf Y).wk = wk at *
        generalize (shpOf Y).fin = fn at *
        generalize frdOf Y = fr at *
        clear hh he hng ho
        go_wp2_with fail
        refine (c1 _).mono ?_
        rintro e w3 ⟨rfl, hKn⟩
        replace hKr := hKr.trans hKn
        clear hKn
        have hS := (Bk.new w3 25 (#[.int .i64 (p : Nat), .int .i64 (d : Nat), .bool wk, .bool fn] : Array Value)).cell
        replace hKr := hKr.alloc (.cells #[.int .i64 (p : Nat), .int .i64 (d : Nat), .bool wk, .bool fn] 25)
        go_wp2_with fail
        refine (c2 _).mono ?_
        rintro e w4 ⟨rfl, hKn⟩
        replace hKr := hKr.trans hKn
        clear hKn hS
        go_wp2_with fail
        refine (c3 _).mono ?_
        rintro e w5 ⟨rfl, rfl⟩
        go_wp2
        go_roundw
        case rel => exact ⟨k + 1, by omega, by go_num, hKr⟩
        case measure => simp [intOf]; omega
      | false =>
        have c1 := fun W => shape_no Y hY hh W
        clear hh
        cases hg : isGone (Y : Int) with
        | true =>
          obtain ⟨g1, g2, g3⟩ := isGone_of hg
          have c3 := fun W => where_yes (Y : Int) (by omega) (by omega) hg W
          have c4 := fun W => gone_yes ((Y : Int) / 4) g2 g3 W
          rw [g1] at c4
          generalize (Y : Int) / 4 = y at *
          clear hg g1
          go_wp2_with fail
          refine (c1 _).mono ?_
          rintro e w3 ⟨rfl, hKn⟩
          replace hKr := hKr.trans hKn
          clear hKn
          replace hKr := hKr.alloc (.cells #[.int .i64 0, .int .i64 0, .bool false, .bool false] 25)
          go_wp2_with fail
          refine (c3 _).mono ?_
          rintro e w5 ⟨rfl, rfl⟩
          go_wp2_with fail
          refine (c4 _).mono ?_
          rintro e w5 ⟨rfl, rfl⟩
          go_wp2
          go_roundw
          case rel => exact ⟨k + 1, by omega, by go_num, hKr⟩
          case measure => simp [intOf]; omega
        | false =>
          have c3 := fun W => where_no (Y : Int) (by omega) (by omega) hg W
          clear hg
          go_wp2_with fail
          refine (c1 _).mono ?_
          rintro e w3 ⟨rfl, hKn⟩
          replace hKr := hKr.trans hKn
          clear hKn
          replace hKr := hKr.alloc (.cells #[.int .i64 0, .int .i64 0, .bool false, .bool false] 25)
          go_wp2_with fail
          refine (c3 _).mono ?_
          rintro e w5 ⟨rfl, rfl⟩
          go_wp2
          go_roundw
          case rel => exact ⟨k + 1, by omega, by go_num, hKr⟩
          case measure => simp [intOf]; omega
    · have e1 : (3 : Int) ≤ (k : Int) := by omega
      go_wp2
      go_ret
      exact ⟨rfl, hK.trans hKr⟩

end Go.Proofs.Ytccgnnnildedoaa
