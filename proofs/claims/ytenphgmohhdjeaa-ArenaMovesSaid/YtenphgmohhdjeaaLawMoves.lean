/-
  ArenaMoves: what was moved stands there as it stood ahead; the others are as they were: the walk through the law.
  Conditions: none.
-/
import Derived.Test.YtenphgmohhdjeaaFillAny
import Derived.Test.YtenphgmohhdjeaaU64s
import Derived.Test.YtenphgmohhdjeaaLawStores
namespace Go.Proofs.Ytenphgmohhdjeaa
open Go.RowKit

set_option maxRecDepth 100000 in
set_option maxHeartbeats 2000000 in
theorem moves_walk (words r p s q' t m' u : Int) (A : Option Addr) (len cap : Nat) (w : World) (Hr : Hid (r = pk words 40)) (hr0 : 0 ≤ r) (hr1 : r < 40) (Hs : Hid (s = pk p (1 + r))) (hs0 : 0 ≤ s) (hs1 : s < 1 + r)
    (Ht : Hid (t = pk q' (1 + r))) (ht0 : 0 ≤ t) (ht1 : t < 1 + r) (Hu : Hid (u = pk m' (min (1 + r - s) (1 + r - t) + 1))) (hu0 : 0 ≤ u) (hu1 : u ≤ 1 + r - s) (hu2 : u ≤ 1 + r - t)
    (b1 : -9223372036854775808 ≤ words) (b2 : words ≤ 9223372036854775807) (b3 : -9223372036854775808 ≤ p) (b4 : p ≤ 9223372036854775807)
    (b5 : -9223372036854775808 ≤ q') (b6 : q' ≤ 9223372036854775807) (b7 : -9223372036854775808 ≤ m') (b8 : m' ≤ 9223372036854775807)
    (hlc : len ≤ 9223372036854775807) (hops : ∀ i, i < len → U64In w w.heap.size A i) :
    Calls Try.prog 5 #[.int .i64 words, .slice A len cap, .int .i64 p, .int .i64 q', .int .i64 m'] w fun e w' => e = .returned (.bool true) ∧ Kept NoBlk w w' := by
  have HOPS := Lib.hid hops
  clear hops
  obtain ⟨i0, hi, hz0, hz1, hz2⟩ := info_parts u64_info
  have HI := Lib.hid (And.intro hi (And.intro hz0 (And.intro hz1 hz2)))
  clear hi hz0 hz1 hz2
  go_enter Try.func5, Try.ntmps5
  go_wp2_with fail
  refine (awake02 w).mono ?_
  rintro e w0 ⟨rfl, hK0⟩
  go_wp2_with fail
  refine (pick02r Hr (by omega) b1 b2 (by omega) _).mono ?_
  rintro e w0' ⟨rfl, rfl⟩
  go_wp2_with fail
  refine (new_any (1 + r) (by omega) (by omega) _).mono ?_
  rintro e w1 ⟨b, g, ws, rfl, HW, HL, hA, hK1, hb, hg⟩
  have hKw : Kept NoBlk w w1 := hK0.over hK1 (fun _ h => h.elim)
  have hgw : w.heap.size ≤ g := by have := hK0.size; omega
  have hgl := hA.glt
  have hbl := hA.blt
  go_wp2_with fail
  go_loopw [15, 16] (fun v i wr => ∃ (k : Nat) (ws1 : List Int), (k : Int) ≤ 1 + r ∧ i = .int .i64 k ∧ Hid ((ws1.length : Int) = 1 + r) ∧ ArenaAt wr b g ws1 ∧ wr.ownsRow w1.heap.size 32 1 v k (wordCells (ws1.take k)) ∧ Kept (OneBlk g) w1 wr) (fun _ i _ => ((1 + r) - intOf i).toNat)
  case atStart => exact ⟨0, ws, by omega, rfl, HL, hA, World.ownsRow_nil _ _ _ _, Kept.refl _ _⟩
  case round =>
    obtain ⟨k, ws1, hk, rfl, HL1, hA1, hown, hK⟩ := hrel
    have hn1 : ws1.length ≤ 65536 := by have := HL1.out; omega
    have hI : Kept NoBlk w wr := hKw.over hK (OneBlk.over hgw)
    by_cases hlt : (k : Int) < 1 + r
    · have hk2 : k < 100 := by omega
      by_cases hlen : k < len
      · obtain ⟨bb, off, x, rfl, hbb, c0, v0⟩ := HOPS.out k hlen
        have d0 := hI.cell id c0
        clear c0 v0
        go_wp2_with fail
        refine (store_yes hA1 hn1 k x (by omega) (by have := HL1.out; omega)).mono ?_
        rintro e w4 ⟨rfl, hA4, hK4⟩
        rw [Int.toNat_natCast] at hA4
        have hown4 := own_kept hown hK4 (fun i hi => by rw [show i = g from hi]; exact hgl)
        have hkn : k ≤ 1000000000 := by omega
        have hbs : w1.heap.size ≤ w4.heap.size := Nat.le_trans hK.size hK4.size
        have hwd := wd_set ws1 k x k (by have := HL1.out; omega)
        rw [if_pos rfl] at hwd
        have HWD := Lib.hid hwd
        clear hwd
        go_wp2_with (at_builtin; refine wpList_append_one rfl (.tmp 60) (.tmp 62) 42 rfl w1.heap.size 32 i0 (.int .u64 0) 8 Try.underlying42 HI.out.1 HI.out.2.1 HI.out.2.2.1 HI.out.2.2.2 rfl _ k (wordCells (ws1.take k)) rfl (hown4.alloc _) w4.heap.size 32 (.int .u64 x) rfl (Bk.new _ _ _) rfl hkn (by omega) (by simp; omega) ?_; intro g1 cap1 w5 hown5 hK5)
        have hlt5 : ∀ i, u15.ownBlock = some i → w1.heap.size ≤ i := fun i hi => (hown.lt i hi).1
        go_roundw
        case rel =>
          refine ⟨k + 1, ws1.set k x, by omega, by go_num, (by show _ = _; rw [List.length_set]; exact HL1.out), ?_, ?_, ?_⟩
          · exact (hA4.alloc _).kept hK5 (fun h => by have := hlt5 _ h; omega) (fun h => by have := hlt5 _ h; omega)
          · have e1 : ws1.take k = (ws1.set k x).take k := by rw [List.take_set, List.set_eq_of_length_le (by rw [List.length_take]; omega)]
            have hown6 := hown5
            rw [e1] at hown6
            have e2 : (Value.int .u64 x) = .int .u64 (wd (ws1.set k x) k) := by rw [HWD.out]
            rw [e2, wordCells_snoc _ _ (by rw [List.length_set]; have := HL1.out; omega)] at hown6
            exact hown6
          · exact ((hK.trans hK4).alloc _).over hK5 hlt5
        case measure => simp [intOf]; omega
      · go_wp2_with fail
        refine (store_yes hA1 hn1 k (k : Int) (by omega) (by have := HL1.out; omega)).mono ?_
        rintro e w4 ⟨rfl, hA4, hK4⟩
        rw [Int.toNat_natCast] at hA4
        have hown4 := own_kept hown hK4 (fun i hi => by rw [show i = g from hi]; exact hgl)
        have hkn : k ≤ 1000000000 := by omega
        have hbs : w1.heap.size ≤ w4.heap.size := Nat.le_trans hK.size hK4.size
        have hwd := wd_set ws1 k (k : Int) k (by have := HL1.out; omega)
        rw [if_pos rfl] at hwd
        have HWD := Lib.hid hwd
        clear hwd
        go_wp2_with (at_builtin; refine wpList_append_one rfl (.tmp 60) (.tmp 62) 42 rfl w1.heap.size 32 i0 (.int .u64 0) 8 Try.underlying42 HI.out.1 HI.out.2.1 HI.out.2.2.1 HI.out.2.2.2 rfl _ k (wordCells (ws1.take k)) rfl (hown4.alloc _) w4.heap.size 32 (.int .u64 (k : Int)) rfl (Bk.new _ _ _) rfl hkn (by omega) (by simp; omega) ?_; intro g1 cap1 w5 hown5 hK5)
        have hlt5 : ∀ i, u15.ownBlock = some i → w1.heap.size ≤ i := fun i hi => (hown.lt i hi).1
        go_roundw
        case rel =>
          refine ⟨k + 1, ws1.set k (k : Int), by omega, by go_num, (by show _ = _; rw [List.length_set]; exact HL1.out), ?_, ?_, ?_⟩
          · exact (hA4.alloc _).kept hK5 (fun h => by have := hlt5 _ h; omega) (fun h => by have := hlt5 _ h; omega)
          · have e1 : ws1.take k = (ws1.set k (k : Int)).take k := by rw [List.take_set, List.set_eq_of_length_le (by rw [List.length_take]; omega)]
            have hown6 := hown5
            rw [e1] at hown6
            have e2 : (Value.int .u64 (k : Int)) = .int .u64 (wd (ws1.set k (k : Int)) k) := by rw [HWD.out]
            rw [e2, wordCells_snoc _ _ (by rw [List.length_set]; have := HL1.out; omega)] at hown6
            exact hown6
          · exact ((hK.trans hK4).alloc _).over hK5 hlt5
        case measure => simp [intOf]; omega
    · have hk' : (k : Int) = 1 + r := by omega
      obtain ⟨g1, cap1, rfl, hb1, hlt1⟩ := hown.form (by omega)
      have hws : ws1.take k = ws1 := List.take_of_length_le (by have := HL1.out; omega)
      rw [hws] at hown
      have HK' := Lib.hid hk'
      clear hk' hws
      have hne1 : g1 ≠ g := by omega
      go_wp2_with fail
      refine (pick02r Hs (by omega) b3 b4 (by omega) _).mono ?_
      rintro e w4 ⟨rfl, rfl⟩
      go_wp2_with fail
      refine (pick02r Ht (by omega) b5 b6 (by omega) _).mono ?_
      rintro e w4 ⟨rfl, rfl⟩
      rcases (show 1 + r - t < 1 + r - s ∨ 1 + r - s ≤ 1 + r - t by omega) with hm | hm
      · have HU := Lib.hid (show u = pk m' (1 + r - t + 1) by rw [Hu.out, Int.min_eq_right (Int.le_of_lt hm)])
        go_wp2_with fail
        refine (pick02r HU (by omega) b7 b8 (by omega) _).mono ?_
        rintro e w4 ⟨rfl, rfl⟩
        go_wp2_with fail
        refine (move_yes hA1 hn1 s t u (by omega) (by omega) (by omega) (by have := HL1.out; omega) (by have := HL1.out; omega)).mono ?_
        rintro e w5 ⟨rfl, hA5, hK5⟩
        have hown5 := own_kept hown hK5 (fun i hi => by rw [show i = g from hi]; exact hgl)
        have hI5 := hI.over hK5 (OneBlk.over hgw)
        have HL5 := Lib.hid (show ((moveN ws1 s.toNat t.toNat u.toNat).length : Int) = 1 + r by rw [length_moveN _ _ _ _ (by have := HL1.out; omega) (by have := HL1.out; omega)]; exact HL1.out)
        have hn5 : (moveN ws1 s.toNat t.toNat u.toNat).length ≤ 65536 := by have := HL5.out; omega
        go_wp2_with fail
        go_loop [21] (fun i => ∃ q : Nat, (q : Int) ≤ 1 + r ∧ i = .int .i64 q) (fun i => ((1 + r) - intOf i).toNat)
        case atStart => exact ⟨0, by omega, rfl⟩
        case round =>
          obtain ⟨q, hq, rfl⟩ := hrel
          by_cases hlt : (q : Int) < 1 + r
          · have hql : q < ws1.length := by have := HL1.out; omega
            have hc := own_cell hown5 (wordCells_at ws1 q hql)
            have hwd := moveN_wd ws1 s.toNat t.toNat u.toNat (by have := HL1.out; omega) (by have := HL1.out; omega) q
            by_cases c1 : t ≤ (q : Int)
            · by_cases c2 : (q : Int) < t + u
              · rw [if_pos (by omega)] at hwd
                have e1 : s.toNat + (q - t.toNat) = (s + (q : Int) - t).toNat := by omega
                rw [e1] at hwd
                have hc2 := own_cell hown5 (wordCells_at ws1 (s + (q : Int) - t).toNat (by have := HL1.out; omega))
                have HWD := Lib.hid hwd
                clear hwd e1
                go_wp2_with fail
                refine (load_yes hA5 hn5 q (by omega) (by have := HL5.out; omega)).mono ?_
                rintro e w6 ⟨rfl, rfl⟩
                rw [Int.toNat_natCast, HWD.out]
                go_wp2
                go_round
                case rel => exact ⟨q + 1, by omega, by go_num⟩
                case measure => simp [intOf]; omega
              · rw [if_neg (by omega)] at hwd
                have HWD := Lib.hid hwd
                clear hwd
                go_wp2_with fail
                refine (load_yes hA5 hn5 q (by omega) (by have := HL5.out; omega)).mono ?_
                rintro e w6 ⟨rfl, rfl⟩
                rw [Int.toNat_natCast, HWD.out]
                go_wp2
                go_round
                case rel => exact ⟨q + 1, by omega, by go_num⟩
                case measure => simp [intOf]; omega
            · rw [if_neg (by omega)] at hwd
              have HWD := Lib.hid hwd
              clear hwd
              go_wp2_with fail
              refine (load_yes hA5 hn5 q (by omega) (by have := HL5.out; omega)).mono ?_
              rintro e w6 ⟨rfl, rfl⟩
              rw [Int.toNat_natCast, HWD.out]
              go_wp2
              go_round
              case rel => exact ⟨q + 1, by omega, by go_num⟩
              case measure => simp [intOf]; omega
          · by_cases p1 : s ≤ 0
            · by_cases p2 : t ≤ 0
              · have t1 : (s == 0) = true := beq_iff_eq.2 (by omega)
                have t2 : (t == 0) = true := beq_iff_eq.2 (by omega)
                go_wp2_with fail
                refine (move_yes hA5 hn5 t t u (by omega) (by omega) (by omega) (by have := HL5.out; omega) (by have := HL5.out; omega)).mono ?_
                rintro e w6 ⟨rfl, hA6, hK6⟩
                have hn6 : (moveN (moveN ws1 s.toNat t.toNat u.toNat) t.toNat t.toNat u.toNat).length ≤ 65536 := by rw [length_moveN _ _ _ _ (by have := HL5.out; omega) (by have := HL5.out; omega)]; exact hn5
                have HL6 := Lib.hid (show ((moveN (moveN ws1 s.toNat t.toNat u.toNat) t.toNat t.toNat u.toNat).length : Int) = 1 + r by rw [length_moveN _ _ _ _ (by have := HL5.out; omega) (by have := HL5.out; omega)]; exact HL5.out)
                go_wp2_with fail
                refine (move_yes hA6 hn6 s t (1 + r) (by omega) (by omega) (by omega) (by have := HL6.out; omega) (by have := HL6.out; omega)).mono ?_
                rintro e w7 ⟨rfl, hA7, hK7⟩
                go_wp2
                go_ret
                exact ⟨rfl, hI5.over (hK6.trans hK7) (OneBlk.over hgw)⟩
              · have t1 : (s == 0) = true := beq_iff_eq.2 (by omega)
                have t2 : (t == 0) = false := beq_eq_false_iff_ne.2 (by omega)
                go_wp2_with fail
                refine (move_yes hA5 hn5 t t u (by omega) (by omega) (by omega) (by have := HL5.out; omega) (by have := HL5.out; omega)).mono ?_
                rintro e w6 ⟨rfl, hA6, hK6⟩
                have hn6 : (moveN (moveN ws1 s.toNat t.toNat u.toNat) t.toNat t.toNat u.toNat).length ≤ 65536 := by rw [length_moveN _ _ _ _ (by have := HL5.out; omega) (by have := HL5.out; omega)]; exact hn5
                have HL6 := Lib.hid (show ((moveN (moveN ws1 s.toNat t.toNat u.toNat) t.toNat t.toNat u.toNat).length : Int) = 1 + r by rw [length_moveN _ _ _ _ (by have := HL5.out; omega) (by have := HL5.out; omega)]; exact HL5.out)
                go_wp2_with fail
                refine (move_no hA6 hn6 s t (1 + r) (by omega) (by omega) (by omega) (by omega) (by omega) (by omega) (.inr (by unfold fitsA; exact decide_eq_false (by have := HL6.out; omega)))).mono ?_
                rintro e w7 ⟨rfl, rfl⟩
                go_wp2
                go_ret
                exact ⟨rfl, hI5.over hK6 (OneBlk.over hgw)⟩
            · have t1 : (s == 0) = false := beq_eq_false_iff_ne.2 (by omega)
              go_wp2_with fail
              refine (move_yes hA5 hn5 t t u (by omega) (by omega) (by omega) (by have := HL5.out; omega) (by have := HL5.out; omega)).mono ?_
              rintro e w6 ⟨rfl, hA6, hK6⟩
              have hn6 : (moveN (moveN ws1 s.toNat t.toNat u.toNat) t.toNat t.toNat u.toNat).length ≤ 65536 := by rw [length_moveN _ _ _ _ (by have := HL5.out; omega) (by have := HL5.out; omega)]; exact hn5
              have HL6 := Lib.hid (show ((moveN (moveN ws1 s.toNat t.toNat u.toNat) t.toNat t.toNat u.toNat).length : Int) = 1 + r by rw [length_moveN _ _ _ _ (by have := HL5.out; omega) (by have := HL5.out; omega)]; exact HL5.out)
              go_wp2_with fail
              refine (move_no hA6 hn6 s t (1 + r) (by omega) (by omega) (by omega) (by omega) (by omega) (by omega) (.inl (by unfold fitsA; exact decide_eq_false (by have := HL6.out; omega)))).mono ?_
              rintro e w7 ⟨rfl, rfl⟩
              go_wp2
              go_ret
              exact ⟨rfl, hI5.over hK6 (OneBlk.over hgw)⟩
      · have HU := Lib.hid (show u = pk m' (1 + r - s + 1) by rw [Hu.out, Int.min_eq_left hm])
        go_wp2_with fail
        refine (pick02r HU (by omega) b7 b8 (by omega) _).mono ?_
        rintro e w4 ⟨rfl, rfl⟩
        go_wp2_with fail
        refine (move_yes hA1 hn1 s t u (by omega) (by omega) (by omega) (by have := HL1.out; omega) (by have := HL1.out; omega)).mono ?_
        rintro e w5 ⟨rfl, hA5, hK5⟩
        have hown5 := own_kept hown hK5 (fun i hi => by rw [show i = g from hi]; exact hgl)
        have hI5 := hI.over hK5 (OneBlk.over hgw)
        have HL5 := Lib.hid (show ((moveN ws1 s.toNat t.toNat u.toNat).length : Int) = 1 + r by rw [length_moveN _ _ _ _ (by have := HL1.out; omega) (by have := HL1.out; omega)]; exact HL1.out)
        have hn5 : (moveN ws1 s.toNat t.toNat u.toNat).length ≤ 65536 := by have := HL5.out; omega
        go_wp2_with fail
        go_loop [21] (fun i => ∃ q : Nat, (q : Int) ≤ 1 + r ∧ i = .int .i64 q) (fun i => ((1 + r) - intOf i).toNat)
        case atStart => exact ⟨0, by omega, rfl⟩
        case round =>
          obtain ⟨q, hq, rfl⟩ := hrel
          by_cases hlt : (q : Int) < 1 + r
          · have hql : q < ws1.length := by have := HL1.out; omega
            have hc := own_cell hown5 (wordCells_at ws1 q hql)
            have hwd := moveN_wd ws1 s.toNat t.toNat u.toNat (by have := HL1.out; omega) (by have := HL1.out; omega) q
            by_cases c1 : t ≤ (q : Int)
            · by_cases c2 : (q : Int) < t + u
              · rw [if_pos (by omega)] at hwd
                have e1 : s.toNat + (q - t.toNat) = (s + (q : Int) - t).toNat := by omega
                rw [e1] at hwd
                have hc2 := own_cell hown5 (wordCells_at ws1 (s + (q : Int) - t).toNat (by have := HL1.out; omega))
                have HWD := Lib.hid hwd
                clear hwd e1
                go_wp2_with fail
                refine (load_yes hA5 hn5 q (by omega) (by have := HL5.out; omega)).mono ?_
                rintro e w6 ⟨rfl, rfl⟩
                rw [Int.toNat_natCast, HWD.out]
                go_wp2
                go_round
                case rel => exact ⟨q + 1, by omega, by go_num⟩
                case measure => simp [intOf]; omega
              · rw [if_neg (by omega)] at hwd
                have HWD := Lib.hid hwd
                clear hwd
                go_wp2_with fail
                refine (load_yes hA5 hn5 q (by omega) (by have := HL5.out; omega)).mono ?_
                rintro e w6 ⟨rfl, rfl⟩
                rw [Int.toNat_natCast, HWD.out]
                go_wp2
                go_round
                case rel => exact ⟨q + 1, by omega, by go_num⟩
                case measure => simp [intOf]; omega
            · rw [if_neg (by omega)] at hwd
              have HWD := Lib.hid hwd
              clear hwd
              go_wp2_with fail
              refine (load_yes hA5 hn5 q (by omega) (by have := HL5.out; omega)).mono ?_
              rintro e w6 ⟨rfl, rfl⟩
              rw [Int.toNat_natCast, HWD.out]
              go_wp2
              go_round
              case rel => exact ⟨q + 1, by omega, by go_num⟩
              case measure => simp [intOf]; omega
          · by_cases p1 : s ≤ 0
            · by_cases p2 : t ≤ 0
              · have t1 : (s == 0) = true := beq_iff_eq.2 (by omega)
                have t2 : (t == 0) = true := beq_iff_eq.2 (by omega)
                go_wp2_with fail
                refine (move_yes hA5 hn5 t t u (by omega) (by omega) (by omega) (by have := HL5.out; omega) (by have := HL5.out; omega)).mono ?_
                rintro e w6 ⟨rfl, hA6, hK6⟩
                have hn6 : (moveN (moveN ws1 s.toNat t.toNat u.toNat) t.toNat t.toNat u.toNat).length ≤ 65536 := by rw [length_moveN _ _ _ _ (by have := HL5.out; omega) (by have := HL5.out; omega)]; exact hn5
                have HL6 := Lib.hid (show ((moveN (moveN ws1 s.toNat t.toNat u.toNat) t.toNat t.toNat u.toNat).length : Int) = 1 + r by rw [length_moveN _ _ _ _ (by have := HL5.out; omega) (by have := HL5.out; omega)]; exact HL5.out)
                go_wp2_with fail
                refine (move_yes hA6 hn6 s t (1 + r) (by omega) (by omega) (by omega) (by have := HL6.out; omega) (by have := HL6.out; omega)).mono ?_
                rintro e w7 ⟨rfl, hA7, hK7⟩
                go_wp2
                go_ret
                exact ⟨rfl, hI5.over (hK6.trans hK7) (OneBlk.over hgw)⟩
              · have t1 : (s == 0) = true := beq_iff_eq.2 (by omega)
                have t2 : (t == 0) = false := beq_eq_false_iff_ne.2 (by omega)
                go_wp2_with fail
                refine (move_yes hA5 hn5 t t u (by omega) (by omega) (by omega) (by have := HL5.out; omega) (by have := HL5.out; omega)).mono ?_
                rintro e w6 ⟨rfl, hA6, hK6⟩
                have hn6 : (moveN (moveN ws1 s.toNat t.toNat u.toNat) t.toNat t.toNat u.toNat).length ≤ 65536 := by rw [length_moveN _ _ _ _ (by have := HL5.out; omega) (by have := HL5.out; omega)]; exact hn5
                have HL6 := Lib.hid (show ((moveN (moveN ws1 s.toNat t.toNat u.toNat) t.toNat t.toNat u.toNat).length : Int) = 1 + r by rw [length_moveN _ _ _ _ (by have := HL5.out; omega) (by have := HL5.out; omega)]; exact HL5.out)
                go_wp2_with fail
                refine (move_no hA6 hn6 s t (1 + r) (by omega) (by omega) (by omega) (by omega) (by omega) (by omega) (.inr (by unfold fitsA; exact decide_eq_false (by have := HL6.out; omega)))).mono ?_
                rintro e w7 ⟨rfl, rfl⟩
                go_wp2
                go_ret
                exact ⟨rfl, hI5.over hK6 (OneBlk.over hgw)⟩
            · have t1 : (s == 0) = false := beq_eq_false_iff_ne.2 (by omega)
              go_wp2_with fail
              refine (move_yes hA5 hn5 t t u (by omega) (by omega) (by omega) (by have := HL5.out; omega) (by have := HL5.out; omega)).mono ?_
              rintro e w6 ⟨rfl, hA6, hK6⟩
              have hn6 : (moveN (moveN ws1 s.toNat t.toNat u.toNat) t.toNat t.toNat u.toNat).length ≤ 65536 := by rw [length_moveN _ _ _ _ (by have := HL5.out; omega) (by have := HL5.out; omega)]; exact hn5
              have HL6 := Lib.hid (show ((moveN (moveN ws1 s.toNat t.toNat u.toNat) t.toNat t.toNat u.toNat).length : Int) = 1 + r by rw [length_moveN _ _ _ _ (by have := HL5.out; omega) (by have := HL5.out; omega)]; exact HL5.out)
              go_wp2_with fail
              refine (move_no hA6 hn6 s t (1 + r) (by omega) (by omega) (by omega) (by omega) (by omega) (by omega) (.inl (by unfold fitsA; exact decide_eq_false (by have := HL6.out; omega)))).mono ?_
              rintro e w7 ⟨rfl, rfl⟩
              go_wp2
              go_ret
              exact ⟨rfl, hI5.over hK6 (OneBlk.over hgw)⟩

end Go.Proofs.Ytenphgmohhdjeaa
