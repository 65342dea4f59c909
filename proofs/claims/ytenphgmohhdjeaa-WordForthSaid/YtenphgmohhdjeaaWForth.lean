/-
  The walk through the law WordForth: Pack undoes Unpack.
  Conditions: none.
-/
import Derived.Test.YtenphgmohhdjeaaWBack
set_option linter.unusedVariables false
namespace Go.Proofs.Ytenphgmohhdjeaa
open Go.RowKit Go.Shelf

set_option maxRecDepth 100000 in
set_option maxHeartbeats 2000000 in
theorem forth_walk (A : Option Addr) (len cap x : Nat) (w : World) (hlen : len ≤ 9223372036854775807) (hL : ∀ i, i < len → I64In w w.heap.size A i) (hx : x < 18446744073709551616) :
    Calls Try.prog 19 #[.slice A len cap, .int .u64 x] w fun e w' => e = .returned (.bool true) ∧ Kept NoBlk w w' := by
  have HL := Lib.hid hL
  clear hL
  go_enter Try.func19, Try.ntmps19
  go_wp2_with fail
  refine (awake01 _).mono ?_
  rintro e w1 ⟨rfl, hK⟩
  have HI64 : ∀ i, i < len → I64In w1 w1.heap.size A i := fun i hi => by
    obtain ⟨b, o, x, h1, h2, h3, h4⟩ := HL.out i hi
    exact ⟨b, o, x, h1, Nat.lt_of_lt_of_le h2 hK.size, hK.cell id h3, h4⟩
  go_wp2_with fail
  refine (widths01 A len cap w1 hlen HI64).mono ?_
  rintro e w2 ⟨ws, q, c, hW, hl, rfl, hown, hKn⟩
  clear HI64
  replace hK := hK.trans hKn
  clear hKn
  have Hown := Lib.hid hown
  clear hown
  have hl20 := hl.out
  have hsum := hW.out.sum
  go_wp2_with fail
  go_loop [7, 8] (fun s i => ∃ k : Nat, k ≤ ws.length ∧ i = .int .i64 k ∧ s = .int .i64 (atN ws k : Nat)) (fun _ i => ws.length - (intOf i).toNat)
  case atStart => exact ⟨0, by omega, rfl, rfl⟩
  case round =>
    obtain ⟨k, hk, rfl, rfl⟩ := hrel
    have hat := at_bd hW.out.ok k
    by_cases hlt : k < ws.length
    · obtain ⟨b1, o1, rfl, c1⟩ := Sl.ownN Hown.out k hlt
      dsimp only at c1
      have hps := hW.out.pos _ hlt
      have hs := Lib.hid (nth_succ hlt)
      obtain ⟨n, Hn⟩ : ∃ n, Hid (n = nth ws k) := ⟨_, rfl⟩
      rw [← Hn.out] at c1 hps
      obtain ⟨hn1, hn2⟩ := hps
      have e0 : (0 : Int) ≤ (k : Int) := by omega
      have e1 : (k : Int) < (ws.length : Int) := by omega
      go_wp2
      go_round
      case rel => exact ⟨k + 1, by omega, by go_num, by rw [hs.out, ← Hn.out]; go_num⟩
      case measure => simp [intOf]; omega
    · have hkl : atN ws k = ws.sum := atN_all ws k (by omega)
      rw [hkl]
      clear hkl hat
      have e1 : (ws.length : Int) ≤ (k : Int) := by omega
      have hS1 := Sl.ownN Hown.out
      have hA := fun b o h => (own_lt Hown.out b o h).2
      by_cases hxs : x < 2 ^ ws.sum
      · have hunp := unpack_yes q ws.length c ws x hW.out.ok hxs w2 rfl hS1 hA
        have hpk := fun W (hKw : Kept NoBlk w2 W) p d h1 h2 => pack_yes q p ws.length c d ws (unpackN ws x) hW.out.ok (fits_unpack ws x) W rfl (hS1.kept hKw (fun _ _ _ => id)) (fun b o h => Nat.lt_of_lt_of_le (hA b o h) hKw.size) h1 h2
        rw [pack_unpack, Nat.mod_eq_of_lt hxs] at hpk
        have Hpk := Lib.hid hpk
        have hd0 : ((x : Int) / 2 ^ ws.sum) = 0 := by
          have h : ((x : Int) / 2 ^ ws.sum) = ((x / 2 ^ ws.sum : Nat) : Int) := by simp
          rw [h, Nat.div_eq_of_lt hxs]; rfl
        clear hS1 hA hpk
        by_cases h64 : ws.sum < 64
        all_goals
          go_wp2_with fail
          refine hunp.mono ?_
          clear hunp
          rintro e w4 ⟨q4, c4, rfl, hown4, hK4⟩
          have hS4 : Sl w4 .u64 q4 ws.length (fun i => (nth (unpackN ws x) i : Nat)) := Sl.own hown4 fun i hi => unpackV_at hi (Nat.le_refl _)
          have hA4 := fun b o h => (own_lt hown4 b o h).2
          have HS4 := Lib.hid hS4
          have HA4 := Lib.hid hA4
          clear hS4 hA4 hown4
          go_wp2_with fail
          refine (Hpk.out w4 hK4 _ _ HS4.out HA4.out).mono ?_
          rintro e w5 ⟨rfl, hK5⟩
          go_wp2
          go_ret
          exact ⟨rfl, (hK.trans hK4).trans hK5⟩
      · have h64 : ws.sum < 64 := by
          rcases Nat.lt_or_ge ws.sum 64 with h | h
          · exact h
          · have e : ws.sum = 64 := by omega
            rw [e] at hxs; exact absurd hx hxs
        have hunp := unpack_no q ws.length c ws x hW.out.ok (by omega) hx w2 rfl hS1 hA
        have hd0 : decide ((0 : Int) < ((x : Int) / 2 ^ ws.sum)) = true := by
          have h : ((x : Int) / 2 ^ ws.sum) = ((x / 2 ^ ws.sum : Nat) : Int) := by simp
          have := Nat.div_pos (show 2 ^ ws.sum ≤ x by omega) (Nat.two_pow_pos _)
          rw [h]; exact decide_eq_true (by omega)
        clear hS1 hA
        go_wp2_with fail
        refine hunp.mono ?_
        clear hunp
        rintro e w4 ⟨rfl, hK4⟩
        go_wp2
        go_ret
        exact ⟨rfl, hK.trans hK4⟩

end Go.Proofs.Ytenphgmohhdjeaa
