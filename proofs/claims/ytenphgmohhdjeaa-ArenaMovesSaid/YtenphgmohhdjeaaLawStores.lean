/-
  ArenaStores: what was stored is loaded; no other word is touched: the walk through the law.
  Conditions: none.
-/
import Derived.Test.YtenphgmohhdjeaaFillAny
import Derived.Test.YtenphgmohhdjeaaOps02
import Derived.StillTailTactics
namespace Go.Proofs.Ytenphgmohhdjeaa
open Go.RowKit

theorem wd_set (ws : List Int) (p : Nat) (x : Int) (k : Nat) (hp : p < ws.length) : wd (ws.set p x) k = if k = p then x else wd ws k := by
  unfold wd
  simp only [List.getD_eq_getElem?_getD, List.getElem?_set]
  by_cases e : p = k
  · subst e; rw [if_pos rfl, if_pos rfl, if_pos hp]; rfl
  · rw [if_neg e, if_neg (fun h => e h.symm)]

set_option maxRecDepth 100000 in
set_option maxHeartbeats 2000000 in
theorem stores_walk (words r p s x : Int) (A : Option Addr) (len cap : Nat) (w : World) (Hr : Hid (r = pk words 40)) (hr0 : 0 ≤ r) (hr1 : r < 40) (Hs : Hid (s = pk p (1 + r))) (hs0 : 0 ≤ s) (hs1 : s < 1 + r)
    (b1 : -9223372036854775808 ≤ words) (b2 : words ≤ 9223372036854775807) (b3 : -9223372036854775808 ≤ p) (b4 : p ≤ 9223372036854775807)
    (hlc : len ≤ 9223372036854775807) (hops : ∀ i, i < len → Op02 w w.heap.size A i) :
    Calls Try.prog 4 #[.int .i64 words, .slice A len cap, .int .i64 p, .int .u64 x] w fun e w' => e = .returned (.bool true) ∧ Kept NoBlk w w' := by
  have HOPS := Lib.hid hops
  clear hops
  obtain ⟨i0, hi, hz0, hz1, hz2⟩ := info_parts u64_info
  have HI := Lib.hid (And.intro hi (And.intro hz0 (And.intro hz1 hz2)))
  clear hi hz0 hz1 hz2
  go_enter Try.func4, Try.ntmps4
  go_wp2_with fail
  refine (awake02 w).mono ?_
  rintro e w0 ⟨rfl, hK0⟩
  go_wp2_with fail
  refine (pick02r Hr (by omega) b1 b2 (by omega) _).mono ?_
  rintro e w0' ⟨rfl, rfl⟩
  go_wp2_with fail
  refine (new_any (1 + r) (by omega) (by omega) _).mono ?_
  rintro e w1 ⟨b, g, ws, rfl, HW, HL, hA, hK1, hb, hg⟩
  have hn : ws.length ≤ 65536 := by have := HL.out; omega
  have hKw : Kept NoBlk w w1 := hK0.over hK1 (fun _ h => h.elim)
  have hgw : w.heap.size ≤ g := by have := hK0.size; omega
  have hgl := hA.glt
  go_wp2_with fail
  go_loopw [13] (fun i wr => ∃ (j : Nat) (ws1 : List Int), j ≤ 20 ∧ i = .int .i64 j ∧ Hid ((ws1.length : Int) = 1 + r) ∧ ArenaAt wr b g ws1 ∧ Kept (OneBlk g) w1 wr) (fun i _ => 20 - (intOf i).toNat)
  case atStart => exact ⟨0, ws, by omega, rfl, HL, hA, Kept.refl _ _⟩
  case round =>
    obtain ⟨j, ws1, hj, rfl, HL1, hA1, hK⟩ := hrel
    have hn1 : ws1.length ≤ 65536 := by have := HL1.out; omega
    by_cases hlt : j < len ∧ j < 20
    · obtain ⟨hlt, hlt2⟩ := hlt
      obtain ⟨bb, off, k, p, q, m, x, rfl, hbb, c0, c1, c2, c3, c4, v0, v1, v2, v3, v4⟩ := HOPS.out j hlt
      have hI : Kept NoBlk w wr := hKw.over hK (OneBlk.over hgw)
      have d1 := hI.cell id c1
      have d3 := hI.cell id c3
      have d4 := hI.cell id c4
      clear c0 c1 c2 c3 c4 v0 v2 v4
      simp only [Lit.wf, Bool.and_eq_true, decide_eq_true_eq] at v1 v3
      have e0 : (0 : Int) ≤ (j : Int) := by omega
      have e1 : (j : Int) < (len : Int) := by omega
      go_wp2_with fail
      go_still_tail 16, (by kernel_rfl)
      go_wp2_with fail
      refine (fill_any hA1.drew hn1 p m x v1.1 v1.2 v3.1 v3.2).mono ?_
      rintro e w3 ⟨c, ws2, rfl, HL2, _, hA3, hK3⟩
      go_wp2
      go_roundw
      case rel => exact ⟨j + 1, ws2, by omega, by go_num, (by show _ = _; rw [HL2.out]; exact HL1.out), hA3, hK.drew.trans hK3⟩
      case measure => simp [intOf]; omega
    · have hI : Kept NoBlk w wr := hKw.over hK (OneBlk.over hgw)
      obtain ⟨w3, hw3⟩ : ∃ w3, w3 = wr := ⟨_, rfl⟩
      rw [← hw3] at hA1 hI hK ⊢
      clear hw3
      have hg3 : g < w3.heap.size := by have := hK.size; omega
      rcases (show (j < len ∧ ¬ j < 20) ∨ ¬ j < len from by omega) with ⟨hl0, hl1⟩ | hl0
      all_goals
        clear hlt
        go_wp2_with fail
        go_loopw [14, 15] (fun v i wr => ∃ k : Nat, (k : Int) ≤ 1 + r ∧ i = .int .i64 k ∧ wr.ownsRow w3.heap.size 32 1 v k (wordCells (ws1.take k)) ∧ Kept NoBlk w3 wr) (fun _ i _ => ((1 + r) - intOf i).toNat)
        case atStart => exact ⟨0, by omega, rfl, World.ownsRow_nil _ _ _ _, Kept.refl _ _⟩
        case round =>
          obtain ⟨k, hk, rfl, hown, hK3⟩ := hrel
          have hA3 := hA1.kept hK3 id id
          by_cases hlt : (k : Int) < 1 + r
          · go_wp2_with fail
            refine (load_yes hA3 hn1 k (by omega) (by have := HL1.out; omega)).mono ?_
            rintro e w4 ⟨rfl, rfl⟩
            have hkn : k ≤ 1000000000 := by omega
            have hbs := hK3.size
            go_wp2_with (at_builtin; refine wpList_append_one rfl (.tmp 75) (.tmp 77) 42 rfl w3.heap.size 32 i0 (.int .u64 0) 8 Try.underlying42 HI.out.1 HI.out.2.1 HI.out.2.2.1 HI.out.2.2.2 rfl _ k (wordCells (ws1.take k)) rfl (hown.alloc _) wr.heap.size 32 (.int .u64 (wd ws1 k)) rfl (Bk.new _ _ _) rfl hkn (by omega) (by simp; omega) ?_; intro g1 cap1 w5 hown5 hK5)
            go_roundw
            case rel =>
              refine ⟨k + 1, by omega, by go_num, ?_, ?_⟩
              · rw [wordCells_snoc _ _ (by have := HL1.out; omega)] at hown5; exact hown5
              · exact (hK3.alloc _).over hK5 (fun i hi => (hown.lt i hi).1)
            case measure => simp [intOf]; omega
          · have hk' : (k : Int) = 1 + r := by omega
            obtain ⟨g1, cap1, rfl, hb1, hlt1⟩ := hown.form (by omega)
            have hws : ws1.take k = ws1 := List.take_of_length_le (by have := HL1.out; omega)
            rw [hws] at hown
            have HK' := Lib.hid hk'
            clear hk' hws
            have hne1 : g1 ≠ g := by omega
            have hI3 : Kept NoBlk w wr := hI.over hK3 (fun _ h => h.elim)
            go_wp2_with fail
            refine (pick02r Hs (by omega) b3 b4 (by omega) _).mono ?_
            rintro e w4 ⟨rfl, rfl⟩
            go_wp2_with fail
            refine (store_yes hA3 hn1 s x (by omega) (by have := HL1.out; omega)).mono ?_
            rintro e w5 ⟨rfl, hA5, hK5⟩
            have hown5 := own_kept hown hK5 (fun k hk => by rw [show k = g from hk]; exact hg3)
            have hI5 := hI3.over hK5 (OneBlk.over hgw)
            have hn5 : (ws1.set s.toNat x).length ≤ 65536 := by rw [List.length_set]; exact hn1
            go_wp2_with fail
            go_loop [19] (fun i => ∃ q : Nat, (q : Int) ≤ 1 + r ∧ i = .int .i64 q) (fun i => ((1 + r) - intOf i).toNat)
            case atStart => exact ⟨0, by omega, rfl⟩
            case round =>
              obtain ⟨q, hq, rfl⟩ := hrel
              by_cases hlt : (q : Int) < 1 + r
              · have hql : q < ws1.length := by have := HL1.out; omega
                have hc := own_cell hown5 (wordCells_at ws1 q hql)
                have hwd := wd_set ws1 s.toNat x q (by have := HL1.out; omega)
                by_cases heq : (q : Int) = s
                · rw [if_pos (by omega)] at hwd
                  have HWD := Lib.hid hwd
                  have HEQ := Lib.hid heq
                  have t1 : ((q : Int) == s) = true := by rw [heq]; exact beq_self_eq_true _
                  have t2 : ((q : Int) != s) = false := by rw [heq]; exact bne_self_eq_false _
                  clear hwd heq
                  go_wp2_with fail
                  refine (load_yes hA5 hn5 q (by omega) (by rw [List.length_set]; omega)).mono ?_
                  rintro e w6 ⟨rfl, rfl⟩
                  rw [Int.toNat_natCast, HWD.out]
                  go_wp2
                  go_round
                  case rel => exact ⟨q + 1, by omega, by go_num⟩
                  case measure => simp [intOf]; omega
                · rw [if_neg (by omega)] at hwd
                  have HWD := Lib.hid hwd
                  have t1 : ((q : Int) == s) = false := beq_eq_false_iff_ne.2 heq
                  have t2 : ((q : Int) != s) = true := bne_iff_ne.2 heq
                  clear hwd heq
                  go_wp2_with fail
                  refine (load_yes hA5 hn5 q (by omega) (by rw [List.length_set]; omega)).mono ?_
                  rintro e w6 ⟨rfl, rfl⟩
                  rw [Int.toNat_natCast, HWD.out]
                  go_wp2
                  go_round
                  case rel => exact ⟨q + 1, by omega, by go_num⟩
                  case measure => simp [intOf]; omega
              · go_wp2
                go_ret
                exact ⟨rfl, hI5⟩

end Go.Proofs.Ytenphgmohhdjeaa
