/-
  ArenaApart: arenas know nothing of one another; a new one is all 0: the walk through the law.
  Conditions: none.
-/
import Derived.Test.YtenphgmohhdjeaaFillAny
import Derived.Test.YtenphgmohhdjeaaOps02
import Derived.StillTailTactics
namespace Go.Proofs.Ytenphgmohhdjeaa
open Go.RowKit

set_option maxRecDepth 100000 in
set_option maxHeartbeats 1000000 in
theorem apart_walk (words r : Int) (A : Option Addr) (len cap : Nat) (w : World) (Hr : Hid (r = pk words 40)) (hr0 : 0 ≤ r) (hr1 : r < 40)
    (b1 : -9223372036854775808 ≤ words) (b2 : words ≤ 9223372036854775807) (hlc : len ≤ 9223372036854775807) (hops : ∀ i, i < len → Op02 w w.heap.size A i) :
    Calls Try.prog 8 #[.int .i64 words, .slice A len cap] w fun e w' => e = .returned (.bool true) ∧ Kept NoBlk w w' := by
  have HOPS := Lib.hid hops
  clear hops
  go_enter Try.func8, Try.ntmps8
  go_wp2_with fail
  refine (awake02 w).mono ?_
  rintro e w0 ⟨rfl, hK0⟩
  go_wp2_with fail
  refine (pick02r Hr (by omega) b1 b2 (by omega) _).mono ?_
  rintro e w0' ⟨rfl, rfl⟩
  go_wp2_with fail
  refine (new_any (1 + r) (by omega) (by omega) _).mono ?_
  rintro e w1 ⟨b, g, ws, rfl, HW, HL, hA, hK1, hb, hg⟩
  have hn : ws.length ≤ 65536 := by have := HL.out; omega
  go_wp2_with fail
  refine (new_any (1 + r) (by omega) (by omega) _).mono ?_
  rintro e w2 ⟨b', g', ws', rfl, HW', HL', hB, hK2, hb', hg'⟩
  have hn' : ws'.length ≤ 65536 := by have := HL'.out; omega
  have hA2 := hA.kept hK2 id id
  go_wp2_with fail
  refine (len_any hA2).mono ?_
  rintro e w3 ⟨rfl, rfl⟩
  rw [HL.out]
  have hgne : g' ≠ g := by have := hA.glt; omega
  have hbne : b' ≠ g := by have := hA.glt; omega
  have hKw : Kept NoBlk w w2 := hK0.over (hK1.over hK2 (fun _ h => h.elim)) (fun _ h => h.elim)
  have hgw : w.heap.size ≤ g := by have := hK0.size; omega
  go_wp2_with fail
  go_loopw [11] (fun i wr => ∃ (j : Nat) (ws1 : List Int), j ≤ 20 ∧ i = .int .i64 j ∧ ws1.length ≤ 65536 ∧ ArenaAt wr b g ws1 ∧ Kept (OneBlk g) w2 wr) (fun i _ => 20 - (intOf i).toNat)
  case atStart => exact ⟨0, ws, by omega, rfl, hn, hA2, Kept.refl _ _⟩
  case round =>
    obtain ⟨j, ws1, hj, rfl, hn1, hA1, hK⟩ := hrel
    by_cases hlt : j < len ∧ j < 20
    · obtain ⟨hlt, hlt2⟩ := hlt
      obtain ⟨bb, off, k, p, q, m, x, rfl, hbb, c0, c1, c2, c3, c4, v0, v1, v2, v3, v4⟩ := HOPS.out j hlt
      have hI : Kept NoBlk w wr := hKw.over hK (OneBlk.over hgw)
      have d1 := hI.cell id c1
      have d3 := hI.cell id c3
      have d4 := hI.cell id c4
      clear c0 c1 c2 c3 c4 v0 v2 v4
      simp only [Lit.wf, Bool.and_eq_true, decide_eq_true_eq] at v1 v3
      have e0 : (0 : Int) ≤ (j : Int) := by omega
      have e1 : (j : Int) < (len : Int) := by omega
      go_wp2_with fail
      go_still_tail 16, (by kernel_rfl)
      go_wp2_with fail
      refine (fill_any hA1.drew hn1 p m x v1.1 v1.2 v3.1 v3.2).mono ?_
      rintro e w3 ⟨c, ws2, rfl, HL2, _, hA3, hK3⟩
      have hn2 : ws2.length ≤ 65536 := by have := HL2.out; omega
      go_wp2
      go_roundw
      case rel => exact ⟨j + 1, ws2, by omega, by go_num, hn2, hA3, hK.drew.trans hK3⟩
      case measure => simp [intOf]; omega
    · have hI : Kept NoBlk w wr := hKw.over hK (OneBlk.over hgw)
      have hB1 := hB.kept hK hbne hgne
      by_cases hl0 : j < len
      · have hl1 : ¬ j < 20 := by omega
        clear hlt
        go_wp2_with fail
        go_loop [12] (fun i => ∃ q : Nat, (q : Int) ≤ 1 + r ∧ i = .int .i64 q) (fun i => ((1 + r) - intOf i).toNat)
        case atStart => exact ⟨0, by omega, rfl⟩
        case round =>
          obtain ⟨q, hq, rfl⟩ := hrel
          by_cases hlt : (q : Int) < 1 + r
          · have hz : wd ws' (q : Int).toNat = 0 := by rw [HW'.out]; exact wd_replicate _ _
            have HZ := Lib.hid hz
            clear hz
            go_wp2_with fail
            refine (load_yes hB1 hn' q (by omega) (by have := HL'.out; omega)).mono ?_
            rintro e w4 ⟨rfl, rfl⟩
            rw [HZ.out]
            go_wp2
            go_round
            case rel => exact ⟨q + 1, by omega, by go_num⟩
            case measure => simp [intOf]; omega
          · go_wp2
            go_ret
            exact ⟨rfl, hI⟩
      · clear hlt
        go_wp2_with fail
        go_loop [12] (fun i => ∃ q : Nat, (q : Int) ≤ 1 + r ∧ i = .int .i64 q) (fun i => ((1 + r) - intOf i).toNat)
        case atStart => exact ⟨0, by omega, rfl⟩
        case round =>
          obtain ⟨q, hq, rfl⟩ := hrel
          by_cases hlt : (q : Int) < 1 + r
          · have hz : wd ws' (q : Int).toNat = 0 := by rw [HW'.out]; exact wd_replicate _ _
            have HZ := Lib.hid hz
            clear hz
            go_wp2_with fail
            refine (load_yes hB1 hn' q (by omega) (by have := HL'.out; omega)).mono ?_
            rintro e w4 ⟨rfl, rfl⟩
            rw [HZ.out]
            go_wp2
            go_round
            case rel => exact ⟨q + 1, by omega, by go_num⟩
            case measure => simp [intOf]; omega
          · go_wp2
            go_ret
            exact ⟨rfl, hI⟩

end Go.Proofs.Ytenphgmohhdjeaa
