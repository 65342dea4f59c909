/-
  The contracts of package header, fourth part; the small functions of the statements of layer 6.
  Conditions: as each statement says.
-/
import Derived.Test.YtccgnnnildedoaaHeader3
import Derived.Test.YtccgnnnildedoaaPick06
set_option linter.unusedVariables false
namespace Go.Proofs.Ytccgnnnildedoaa
open Go.RowKit Go.Shelf

theorem shape_yes (x : Nat) (h : isHead x = true) (w : World) :
    Calls Try.prog 28 #[.int .u64 x] w fun e w' => e = .returned (.tuple #[.agg #[.int .i64 ((shpOf x).p : Nat), .int .i64 ((shpOf x).d : Nat), .bool (shpOf x).wk, .bool (shpOf x).fin], .bool (frdOf x), .bool true]) ∧ Kept NoBlk w w' := by
  unfold isHead at h
  simp only [Bool.and_eq_true, decide_eq_true_eq] at h
  exact shape_odd x h.1.1 h.1.2 true h.2 w
theorem shape_no (x : Nat) (hx : x < 18446744073709551616) (h : isHead x = false) (w : World) :
    Calls Try.prog 28 #[.int .u64 x] w fun e w' => e = .returned (.tuple #[.agg #[.int .i64 0, .int .i64 0, .bool false, .bool false], .bool false, .bool false]) ∧ Kept NoBlk w w' := by
  by_cases h1 : x < 4096
  · rcases (show x % 2 = 0 ∨ x % 2 = 1 by omega) with h2 | h2
    · exact shape_even x h1 h2 w
    · have h3 : okB (shpOf x).p (shpOf x).d (shpOf x).wk (shpOf x).fin = false := by
        unfold isHead at h
        simpa [h1, h2] using h
      exact shape_odd x h1 h2 false h3 w
  · exact shape_big x (by omega) hx w

set_option maxRecDepth 100000 in
set_option maxHeartbeats 1000000 in
theorem head_no (p d : Int) (wk fin f : Bool) (l0 : -9223372036854775808 ≤ p) (g0 : p ≤ 9223372036854775807) (l1 : -9223372036854775808 ≤ d) (g1 : d ≤ 9223372036854775807) (h : okB p d wk fin = false) (w : World) :
    Calls Try.prog 19 #[.agg #[.int .i64 p, .int .i64 d, .bool wk, .bool fin], .bool f] w fun e w' => e = .returned (.tuple #[.int .u64 0, .bool false]) ∧ Kept NoBlk w w' := by
  have hR := fun W => hright_any p d wk fin l0 g0 l1 g1 W
  rw [h] at hR
  clear h
  go_enter Try.func19, Try.ntmps19
  have hK := Kept.refl NoBlk w
  have hb := Bk.new w 25 (#[.int .i64 p, .int .i64 d, .bool wk, .bool fin] : Array Value)
  replace hK := hK.alloc (.cells #[.int .i64 p, .int .i64 d, .bool wk, .bool fin] 25)
  have c_hb := hb.cell
  have f_hb := hb.frozen
  go_wp2_with fail
  refine (hR _).mono ?_
  rintro e_ wc1 ⟨rfl, hKn⟩
  replace hb := hb.kept hKn id
  replace hK := hK.trans hKn
  clear hKn
  replace c_hb := hb.cell
  replace f_hb := hb.frozen
  go_wp2
  go_ret2
  exact ⟨rfl, hK⟩

theorem or_one (k : Nat) (h : k < 9223372036854775808) : bits .or .u64 ((k : Int) * 2) 1 = 2 * k + 1 := by
  have := u64_or_nat (2 * k) 1 (by omega) (by omega)
  rw [show ((1 : Nat) : Int) = 1 from rfl] at this
  rw [show (k : Int) * 2 = ((2 * k : Nat) : Int) by omega, this, nat_join 1 (2 * k) 1 (by omega) (by omega)]
  omega

set_option maxHeartbeats 400000 in
theorem held_yes (k : Nat) (h : k < 8) (w : World) :
    Calls Try.prog 23 #[.int .i64 k] w fun e w' => e = .returned (.tuple #[.int .u64 (2 * k + 1), .bool true]) ∧ w = w' := by
  have hs := Lib.hid (or_one k (by omega))
  go_enter Try.func23, Try.ntmps23
  go_wp2
  go_ret2
  exact ⟨congrArg (fun z => Ending.returned (.tuple #[.int .u64 z, .bool true])) hs.out, rfl⟩

set_option maxHeartbeats 400000 in
theorem free_yes (k : Nat) (h : k ≤ 1099511627776) (w : World) :
    Calls Try.prog 24 #[.int .i64 k] w fun e w' => e = .returned (.tuple #[.int .u64 (2 * k), .bool true]) ∧ w = w' := by
  have hs := Lib.hid (show (k : Int) * 2 = 2 * k by omega)
  go_enter Try.func24, Try.ntmps24
  go_wp2
  go_ret2
  exact ⟨congrArg (fun z => Ending.returned (.tuple #[.int .u64 z, .bool true])) hs.out, rfl⟩

set_option maxRecDepth 100000 in
set_option maxHeartbeats 1000000 in
theorem owner_held (k : Nat) (h : k < 8) (w : World) :
    Calls Try.prog 25 #[.int .u64 (2 * k + 1)] w fun e w' => e = .returned (.tuple #[.int .i64 k, .int .i64 0, .bool true]) ∧ w = w' := by
  have hd : (2 * (k : Int) + 1) / 2 = k := by omega
  have hm : bits .and .u64 (2 * (k : Int) + 1) 1 = 1 := by rw [Lib.u64_and1 _ (by omega) (by omega)]; omega
  generalize 2 * (k : Int) + 1 = x at *
  have hw : wrap64 (k : Int) = (k : Int) := by unfold wrap64; omega
  go_enter Try.func25, Try.ntmps25
  go_wp2
  go_ret3
  exact ⟨rfl, rfl⟩

set_option maxRecDepth 100000 in
set_option maxHeartbeats 1000000 in
theorem owner_free (k : Nat) (h : k ≤ 1099511627776) (w : World) :
    Calls Try.prog 25 #[.int .u64 (2 * k)] w fun e w' => e = .returned (.tuple #[.int .i64 0, .int .i64 k, .bool false]) ∧ w = w' := by
  have hd : (2 * (k : Int)) / 2 = k := by omega
  have hm : bits .and .u64 (2 * (k : Int)) 1 = 0 := by rw [Lib.u64_and1 _ (by omega) (by omega)]; omega
  generalize 2 * (k : Int) = x at *
  have hw : wrap64 (k : Int) = (k : Int) := by unfold wrap64; omega
  go_enter Try.func25, Try.ntmps25
  go_wp2
  go_ret3
  exact ⟨rfl, rfl⟩

/-- The right shape that raw numbers speak of. -/
def fitShp (x y z : Int) : Shp := if pk z 5 = 4 then ⟨1, 0, true, false⟩ else ⟨(pk x 9).toNat, (pk y 9).toNat, false, decide (pk z 5 = 3)⟩
theorem fitShp_ok (x y z : Int) : (fitShp x y z).ok := by
  unfold fitShp
  split
  · rfl
  · have h1 := pk_bd x 9 (by omega)
    have h2 := pk_bd y 9 (by omega)
    unfold Shp.ok okB
    simp; omega

set_option maxRecDepth 100000 in
set_option maxHeartbeats 1000000 in
theorem fit06 (x y z : Int) (l0 : -9223372036854775808 ≤ x) (g0 : x ≤ 9223372036854775807) (l1 : -9223372036854775808 ≤ y) (g1 : y ≤ 9223372036854775807) (l2 : -9223372036854775808 ≤ z) (g2 : z ≤ 9223372036854775807) (w : World) :
    Calls Try.prog 18 #[.int .i64 x, .int .i64 y, .int .i64 z] w fun e w' => e = .returned (.agg #[.int .i64 ((fitShp x y z).p : Nat), .int .i64 ((fitShp x y z).d : Nat), .bool (fitShp x y z).wk, .bool (fitShp x y z).fin]) ∧ Kept NoBlk w w' := by
  have hx := pk_bd x 9 (by omega)
  have hy := pk_bd y 9 (by omega)
  have hz := pk_bd z 5 (by omega)
  obtain ⟨a, Ha⟩ : ∃ a : Nat, Hid ((a : Int) = pk x 9) := ⟨(pk x 9).toNat, by show _ = _; omega⟩
  obtain ⟨b, Hb⟩ : ∃ b : Nat, Hid ((b : Int) = pk y 9) := ⟨(pk y 9).toNat, by show _ = _; omega⟩
  obtain ⟨c, Hc⟩ : ∃ c : Int, Hid (c = pk z 5) := ⟨_, rfl⟩
  by_cases h4 : c = 4
  · have hs : fitShp x y z = ⟨1, 0, true, false⟩ := by unfold fitShp; rw [← Hc.out, if_pos h4]
    rw [hs]
    subst h4
    go_enter Try.func18, Try.ntmps18
    go_wp2_with fail
    refine (pick06r Hc (by omega) l2 g2 (by omega) _).mono ?_
    rintro e w1 ⟨rfl, rfl⟩
    go_wp2
    have hb := (Bk.new w 25 (#[.int .i64 1, .int .i64 0, .bool true, .bool false] : Array Value)).cell
    refine bodyPost_ret (v := .agg #[.int .i64 1, .int .i64 0, .bool true, .bool false]) (by simp [results, Try.results18, go_sem, hb]) rfl ⟨rfl, (Kept.refl NoBlk w).alloc _⟩
  · have hs : fitShp x y z = ⟨a, b, false, decide (c = 3)⟩ := by
      unfold fitShp; rw [← Hc.out, if_neg h4, ← Ha.out, ← Hb.out]; simp
    rw [hs]
    rw [← Ha.out] at hx
    rw [← Hb.out] at hy
    clear hs
    go_enter Try.func18, Try.ntmps18
    go_wp2_with fail
    refine (pick06r Hc (by omega) l2 g2 (by omega) _).mono ?_
    rintro e w1 ⟨rfl, rfl⟩
    go_wp2_with fail
    refine (pick06r Ha (by omega) l0 g0 (by omega) _).mono ?_
    rintro e w1 ⟨rfl, rfl⟩
    go_wp2_with fail
    refine (pick06r Hb (by omega) l1 g1 (by omega) _).mono ?_
    rintro e w1 ⟨rfl, rfl⟩
    go_wp2_with fail
    refine (pick06r Hc (by omega) l2 g2 (by omega) _).mono ?_
    rintro e w1 ⟨rfl, rfl⟩
    go_wp2
    have hd : (c == 3) = decide (c = 3) := by
      by_cases h : c = 3
      · subst h; rfl
      · rw [decide_eq_false h]; exact beq_eq_false_iff_ne.2 h
    have hb := (Bk.new w 25 (#[.int .i64 (a : Nat), .int .i64 (b : Nat), .bool false, .bool (c == 3)] : Array Value)).cell
    refine bodyPost_ret (v := .agg #[.int .i64 (a : Nat), .int .i64 (b : Nat), .bool false, .bool (c == 3)]) (by simp [results, Try.results18, go_sem, hb]) rfl ⟨by rw [hd], (Kept.refl NoBlk w).alloc _⟩

set_option maxRecDepth 100000 in
set_option maxHeartbeats 2000000 in
theorem awake06 (w : World) :
    Calls Try.prog 17 #[] w fun e w' => e = .returned (.bool true) ∧ Kept NoBlk w w' := by
  have h1 : ∀ W, Calls Try.prog 19 #[.agg #[.int .i64 2, .int .i64 1, .bool false, .bool false], .bool false] W fun e w' => e = .returned (.tuple #[.int .u64 37, .bool true]) ∧ Kept NoBlk W w' := fun W => head_yes ⟨2, 1, false, false⟩ false rfl W
  have h2 : ∀ W, Calls Try.prog 28 #[.int .u64 37] W fun e w' => e = .returned (.tuple #[.agg #[.int .i64 2, .int .i64 1, .bool false, .bool false], .bool false, .bool true]) ∧ Kept NoBlk W w' := fun W => shape_yes 37 rfl W
  have h3 : ∀ W, Calls Try.prog 26 #[.int .i64 5] W fun e w' => e = .returned (.tuple #[.int .u64 22, .bool true]) ∧ W = w' := fun W => gone_yes 5 (by omega) (by omega) W
  have h4 : ∀ W, Calls Try.prog 23 #[.int .i64 3] W fun e w' => e = .returned (.tuple #[.int .u64 7, .bool true]) ∧ W = w' := fun W => held_yes 3 (by omega) W
  have h5 : ∀ W, Calls Try.prog 25 #[.int .u64 7] W fun e w' => e = .returned (.tuple #[.int .i64 3, .int .i64 0, .bool true]) ∧ W = w' := fun W => owner_held 3 (by omega) W
  have h6 : ∀ W, Calls Try.prog 21 #[.agg #[.int .i64 2, .int .i64 1, .bool false, .bool false]] W fun e w' => e = .returned (.tuple #[.int .i64 6, .bool true]) ∧ Kept NoBlk W w' := fun W => hsize_yes 2 1 false false rfl W
  have hp := notStood_shape
  have hm := notGuard_shape
  go_enter Try.func17, Try.ntmps17
  go_wp2_with fail
  refine (h1 _).mono ?_
  rintro e w1 ⟨rfl, hK⟩
  go_wp2_with fail
  refine (h2 _).mono ?_
  rintro e w2 ⟨rfl, hKn⟩
  replace hK := hK.trans hKn
  clear hKn
  have hs := Bk.new (w2) 25 (#[.int .i64 2, .int .i64 1, .bool false, .bool false] : Array Value)
  replace hK := hK.alloc (.cells #[.int .i64 2, .int .i64 1, .bool false, .bool false] 25)
  have c_hs := hs.cell
  have f_hs := hs.frozen
  go_wp2_with fail
  refine (h3 _).mono ?_
  rintro e_ wc2 ⟨rfl, rfl⟩
  go_wp2_with fail
  refine (h4 _).mono ?_
  rintro e_ wc3 ⟨rfl, rfl⟩
  go_wp2_with fail
  refine (h5 _).mono ?_
  rintro e_ wc4 ⟨rfl, rfl⟩
  go_wp2_with fail
  refine (h6 _).mono ?_
  rintro e_ wc5 ⟨rfl, hKn⟩
  replace hs := hs.kept hKn id
  replace hK := hK.trans hKn
  clear hKn
  replace c_hs := hs.cell
  replace f_hs := hs.frozen
  go_wp2
  go_ret
  exact ⟨rfl, hK⟩

end Go.Proofs.Ytccgnnnildedoaa
