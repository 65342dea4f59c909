/-
  The walk through the law ArenaPlays: words are loaded, stored, filled and moved as the document says.
  Conditions: none.
-/
import Derived.Test.YtenphgmohhdjeaaRef02
import Derived.Test.YtenphgmohhdjeaaOps02
set_option linter.unusedVariables false
namespace Go.Proofs.Ytenphgmohhdjeaa
open Go.RowKit

theorem move_any {b g : Nat} {ws : List Int} {w : World} (hA : ArenaAt w b g ws) (hn : ws.length ≤ 65536) (p q n : Int)
    (bd1 : -9223372036854775808 ≤ p) (bd2 : p ≤ 9223372036854775807) (bd3 : -9223372036854775808 ≤ q) (bd4 : q ≤ 9223372036854775807) (bd5 : -9223372036854775808 ≤ n) (bd6 : n ≤ 9223372036854775807) :
    Calls Try.prog 32 #[.pointer (some ⟨b, 0, none⟩), .int .i64 p, .int .i64 q, .int .i64 n] w fun e w' =>
      ∃ (c : Int) (ws' : List Int), e = .returned (.int .i64 c) ∧ Hid (ws'.length = ws.length) ∧ Hid (if fitsA ws.length p n && fitsA ws.length q n then c = 0 ∧ ws' = moveN ws p.toNat q.toNat n.toNat else c = 20 ∧ ws' = ws) ∧ ArenaAt w' b g ws' ∧ Kept (OneBlk g) w w' := by
  cases h1 : fitsA ws.length p n with
  | true =>
    cases h2 : fitsA ws.length q n with
    | true =>
      obtain ⟨f0, f1, f2, f3⟩ := fitsA_t h1
      obtain ⟨g0, g1, g2, g3⟩ := fitsA_t h2
      exact (move_yes hA hn p q n f0 g0 f1 (by omega) (by omega)).mono fun _ _ ⟨he, hA', hK⟩ => ⟨_, _, he, length_moveN _ _ _ _ (by omega) (by omega), by show ite _ _ _; rw [if_pos (show (true && true) = true from rfl)]; exact ⟨rfl, rfl⟩, hA', hK⟩
    | false => exact (move_no hA hn p q n bd1 bd2 bd3 bd4 bd5 bd6 (.inr h2)).mono fun _ _ ⟨he, hw⟩ => ⟨_, ws, he, rfl, by show ite _ _ _; rw [if_neg (by simp)]; exact ⟨rfl, rfl⟩, hw ▸ hA, hw ▸ Kept.refl _ _⟩
  | false => exact (move_no hA hn p q n bd1 bd2 bd3 bd4 bd5 bd6 (.inl h1)).mono fun _ _ ⟨he, hw⟩ => ⟨_, ws, he, rfl, by show ite _ _ _; rw [if_neg (by simp)]; exact ⟨rfl, rfl⟩, hw ▸ hA, hw ▸ Kept.refl _ _⟩

theorem rmove_any {b g : Nat} {ws : List Int} {w : World} (hA : ArenaAt w b g ws) (hn : ws.length ≤ 65536) (p q n : Int)
    (bd1 : -9223372036854775808 ≤ p) (bd2 : p ≤ 9223372036854775807) (bd3 : -9223372036854775808 ≤ q) (bd4 : q ≤ 9223372036854775807) (bd5 : -9223372036854775808 ≤ n) (bd6 : n ≤ 9223372036854775807) :
    Calls Try.prog 33 #[.pointer (some ⟨b, 0, none⟩), .int .i64 p, .int .i64 q, .int .i64 n] w fun e w' =>
      ∃ (c : Int) (ws' : List Int), e = .returned (.int .i64 c) ∧ Hid (ws'.length = ws.length) ∧ Hid (if fitsA ws.length p n && fitsA ws.length q n then c = 0 ∧ ws' = moveN ws p.toNat q.toNat n.toNat else c = 20 ∧ ws' = ws) ∧ ArenaAt w' b g ws' ∧ Kept (OneBlk g) w w' := by
  cases h1 : fitsA ws.length p n with
  | true =>
    cases h2 : fitsA ws.length q n with
    | true =>
      obtain ⟨f0, f1, f2, f3⟩ := fitsA_t h1
      obtain ⟨g0, g1, g2, g3⟩ := fitsA_t h2
      exact (rmove_yes hA hn p q n f0 g0 f1 (by omega) (by omega)).mono fun _ _ ⟨he, hA', hK⟩ => ⟨_, _, he, length_moveN _ _ _ _ (by omega) (by omega), by show ite _ _ _; rw [if_pos (show (true && true) = true from rfl)]; exact ⟨rfl, rfl⟩, hA', hK⟩
    | false => exact (rmove_no hA hn p q n bd1 bd2 bd3 bd4 bd5 bd6 (.inr h2)).mono fun _ _ ⟨he, hw⟩ => ⟨_, ws, he, rfl, by show ite _ _ _; rw [if_neg (by simp)]; exact ⟨rfl, rfl⟩, hw ▸ hA, hw ▸ Kept.refl _ _⟩
  | false => exact (rmove_no hA hn p q n bd1 bd2 bd3 bd4 bd5 bd6 (.inl h1)).mono fun _ _ ⟨he, hw⟩ => ⟨_, ws, he, rfl, by show ite _ _ _; rw [if_neg (by simp)]; exact ⟨rfl, rfl⟩, hw ▸ hA, hw ▸ Kept.refl _ _⟩

theorem load_any {b g : Nat} {ws : List Int} {w : World} (hA : ArenaAt w b g ws) (hn : ws.length ≤ 65536) (at_ : Int)
    (bd1 : -9223372036854775808 ≤ at_) (bd2 : at_ ≤ 9223372036854775807) :
    Calls Try.prog 34 #[.pointer (some ⟨b, 0, none⟩), .int .i64 at_] w fun e w' =>
      ∃ c u : Int, e = .returned (.tuple #[.int .u64 u, .int .i64 c]) ∧ Hid (if fitsA ws.length at_ 1 then c = 0 ∧ u = wd ws at_.toNat else c = 20 ∧ u = 0) ∧ w = w' := by
  cases h : fitsA ws.length at_ 1 with
  | true =>
    obtain ⟨h0, h1, h2, h3⟩ := fitsA_t h
    exact (load_yes hA hn at_ h0 (by omega)).mono fun _ _ ⟨he, hw⟩ => ⟨_, _, he, by show ite _ _ _; rw [if_pos rfl]; exact ⟨rfl, rfl⟩, hw⟩
  | false => exact (load_no hA hn at_ bd1 bd2 h).mono fun _ _ ⟨he, hw⟩ => ⟨_, _, he, by show ite _ _ _; rw [if_neg (by simp)]; exact ⟨rfl, rfl⟩, hw⟩
theorem rload_any {b g : Nat} {ws : List Int} {w : World} (hA : ArenaAt w b g ws) (hn : ws.length ≤ 65536) (at_ : Int)
    (bd1 : -9223372036854775808 ≤ at_) (bd2 : at_ ≤ 9223372036854775807) :
    Calls Try.prog 35 #[.pointer (some ⟨b, 0, none⟩), .int .i64 at_] w fun e w' =>
      ∃ c u : Int, e = .returned (.tuple #[.int .u64 u, .int .i64 c]) ∧ Hid (if fitsA ws.length at_ 1 then c = 0 ∧ u = wd ws at_.toNat else c = 20 ∧ u = 0) ∧ w = w' := by
  cases h : fitsA ws.length at_ 1 with
  | true =>
    obtain ⟨h0, h1, h2, h3⟩ := fitsA_t h
    exact (rload_yes hA hn at_ h0 (by omega)).mono fun _ _ ⟨he, hw⟩ => ⟨_, _, he, by show ite _ _ _; rw [if_pos rfl]; exact ⟨rfl, rfl⟩, hw⟩
  | false => exact (rload_no hA hn at_ bd1 bd2 h).mono fun _ _ ⟨he, hw⟩ => ⟨_, _, he, by show ite _ _ _; rw [if_neg (by simp)]; exact ⟨rfl, rfl⟩, hw⟩

/-- What both have done is the same. -/
theorem same_end {α : Type} {t : Bool} {c c' : Int} {x y z z' : α} (h : if t = true then c = 0 ∧ x = z else c = 20 ∧ x = z') (h' : if t = true then c' = 0 ∧ y = z else c' = 20 ∧ y = z') : c = c' ∧ x = y := by
  cases t
  · rw [if_neg (by simp)] at h h'; exact ⟨h.1.trans h'.1.symm, h.2.trans h'.2.symm⟩
  · rw [if_pos rfl] at h h'; exact ⟨h.1.trans h'.1.symm, h.2.trans h'.2.symm⟩

set_option maxRecDepth 100000 in
set_option maxHeartbeats 8000000 in
theorem plays_walk (words r : Int) (A : Option Addr) (len cap : Nat) (w : World) (Hr : Hid (r = pk words 40)) (hr0 : 0 ≤ r) (hr1 : r < 40)
    (b1 : -9223372036854775808 ≤ words) (b2 : words ≤ 9223372036854775807)
    (hlc : len ≤ 9223372036854775807) (hops : ∀ i, i < len → Op02 w w.heap.size A i) :
    Calls Try.prog 3 #[.int .i64 words, .slice A len cap] w fun e w' => e = .returned (.bool true) ∧ Kept NoBlk w w' := by
  have HOPS := Lib.hid hops
  clear hops
  go_enter Try.func3, Try.ntmps3
  go_wp2_with fail
  refine (awake02 w).mono ?_
  rintro e w0 ⟨rfl, hK⟩
  rcases (show (1 ≤ words ∧ words ≤ 65536) ∨ (words < 1 ∨ 65536 < words) by omega) with ⟨hw1, hw2⟩ | hw1
  · go_wp2_with fail
    refine (new_any words hw1 hw2 _).mono ?_
    rintro e w1 ⟨b0, g0, ws0, rfl, _, _, _, hKn, _, _⟩
    replace hK := hK.trans hKn
    clear hKn
    go_wp2_with fail
    refine (rnew_any words hw1 hw2 _).mono ?_
    rintro e w2 ⟨b0', g0', ws0', rfl, _, _, hKn, _, _⟩
    replace hK := hK.trans hKn
    clear hKn hw1 hw2
    go_wp2_with fail
    refine (pick02r Hr (by omega) b1 b2 (by omega) _).mono ?_
    rintro e w0' ⟨rfl, rfl⟩
    go_wp2_with fail
    refine (new_any (1 + r) (by omega) (by omega) _).mono ?_
    rintro e w3 ⟨b, g, ws, rfl, HW, HL, hA, hKn, hb, hg⟩
    have hsz := hK.size
    replace hK := hK.trans hKn
    go_wp2_with fail
    refine (rnew_any (1 + r) (by omega) (by omega) _).mono ?_
    rintro e w4 ⟨b', g', ws', rfl, HW', hA', hKn', hb', hg'⟩
    have hws : ws' = ws := HW'.out.trans HW.out.symm
    subst hws
    have hsz3 := hKn.size
    have hgl := hA.glt
    have hbl := hA.blt
    have hA := hA.kept hKn' id id
    replace hK := hK.trans hKn'
    have hg1 : w.heap.size ≤ g := by omega
    have hg2 : w.heap.size ≤ g' := by omega
    have hne1 : b' ≠ g := by omega
    have hne2 : g' ≠ g := by omega
    have hne3 : b ≠ g' := by omega
    clear hKn hKn' HW HW' hsz hsz3 hgl hbl hb hb' hg hg'
    go_wp2_with fail
    go_loopw [14] (fun i wr => ∃ (j : Nat) (ws1 : List Int), j ≤ 60 ∧ i = .int .i64 j ∧ Hid ((ws1.length : Int) = 1 + r) ∧ ArenaAt wr b g ws1 ∧ ArenaAt wr b' g' ws1 ∧ Kept NoBlk w wr) (fun i _ => 60 - (intOf i).toNat)
    case atStart => exact ⟨0, ws', by omega, rfl, HL, hA, hA', hK⟩
    case round =>
      obtain ⟨j, ws1, hj, rfl, HL1, hA1, hA2, hKr⟩ := hrel
      have hn1 : ws1.length ≤ 65536 := by have := HL1.out; omega
      by_cases hlt : j < len ∧ j < 60
      · obtain ⟨hlt, hlt2⟩ := hlt
        obtain ⟨bb, off, k, p, q, m, x, rfl, hbb, c0, c1, c2, c3, c4, v0, v1, v2, v3, v4⟩ := HOPS.out j hlt
        have d0 := hKr.cell id c0
        have d1 := hKr.cell id c1
        have d2 := hKr.cell id c2
        have d3 := hKr.cell id c3
        have d4 := hKr.cell id c4
        clear c0 c1 c2 c3 c4
        simp only [Lit.wf, Bool.and_eq_true, decide_eq_true_eq] at v0 v1 v2 v3
        have e0 : (0 : Int) ≤ (j : Int) := by omega
        have e1 : (j : Int) < (len : Int) := by omega
        have hpk := pk_bd k 4 (by omega)
        obtain ⟨z, Hz⟩ : ∃ z, Hid (z = pk k 4) := ⟨_, rfl⟩
        rw [← Hz.out] at hpk
        obtain ⟨hz0, hz1⟩ := hpk
        go_wp2_with fail
        refine (pick02r Hz (by omega) v0.1 v0.2 (by omega) _).mono ?_
        rintro e w5 ⟨rfl, rfl⟩
        have ho := Bk.new wr 34 (#[.int .i64 k, .int .i64 p, .int .i64 q, .int .i64 m, .int .u64 x] : Array Value)
        have hA1a := hA1.alloc (.cells #[.int .i64 k, .int .i64 p, .int .i64 q, .int .i64 m, .int .u64 x] 34)
        have hA2a := hA2.alloc (.cells #[.int .i64 k, .int .i64 p, .int .i64 q, .int .i64 m, .int .u64 x] 34)
        have hKa := hKr.alloc (.cells #[.int .i64 k, .int .i64 p, .int .i64 q, .int .i64 m, .int .u64 x] 34)
        generalize wr.alloc (.cells #[.int .i64 k, .int .i64 p, .int .i64 q, .int .i64 m, .int .u64 x] 34) = wa at ho hA1a hA2a hKa ⊢
        have hgo1 := hA1.glt
        have hgo2 := hA2.glt
        have hog : wr.heap.size ≠ g := by omega
        have hog' : wr.heap.size ≠ g' := by omega
        clear hA1 hA2 hKr d0 d1 d2 d3 d4 hgo1 hgo2
        have co := ho.cell
        rcases (show z = 0 ∨ z = 1 ∨ z = 2 ∨ z = 3 by omega) with rfl | rfl | rfl | rfl
        · go_wp2_with fail
          refine (store_any hA1a hn1 p x v1.1 v1.2).mono ?_
          rintro e w6 ⟨c, ws2, rfl, HL2, HE, hA3, hK3⟩
          have hA4 := hA2a.kept hK3 (fun h => hne1 h) (fun h => hne2 h)
          replace ho := ho.kept hK3 (fun h => hog h)
          replace hKa := hKa.over hK3 (OneBlk.over hg1)
          replace co := ho.cell
          clear hA1a hA2a hK3
          go_wp2_with fail
          refine (rstore_any hA4 hn1 p x v1.1 v1.2).mono ?_
          rintro e w7 ⟨c', ws2', rfl, HL2', HE', hA5, hK5⟩
          obtain ⟨rfl, rfl⟩ := same_end HE.out HE'.out
          have hA6 := hA3.kept hK5 (fun h => hne3 h) (fun h => hne2 h.symm)
          have hK6 := hKa.over hK5 (OneBlk.over hg2)
          clear hA3 hA4 hK5 hKa co ho
          have hn2 : ws2.length ≤ 65536 := by rw [HL2.out]; exact hn1
          go_wp2_with fail
          refine (len_any hA6).mono ?_
          rintro e w8 ⟨rfl, rfl⟩
          go_wp2_with fail
          refine (rlen_any hA5).mono ?_
          rintro e w8 ⟨rfl, rfl⟩
          go_wp2_with fail
          obtain ⟨wo, rfl⟩ : ∃ wo : World, wo = w7 := ⟨_, rfl⟩
          go_loop [22] (fun i => ∃ q : Nat, (q : Int) ≤ 1 + r ∧ i = .int .i64 q) (fun i => ((1 + r) - intOf i).toNat)
          case atStart => exact ⟨0, by omega, rfl⟩
          case round =>
            obtain ⟨q, hq, rfl⟩ := hrel
            by_cases hlq : (q : Int) < 1 + r
            · go_wp2_with fail
              refine (load_yes hA6 hn2 q (by omega) (by have := HL1.out; have := HL2.out; omega)).mono ?_
              rintro e w8 ⟨rfl, rfl⟩
              go_wp2_with fail
              refine (rload_yes hA5 hn2 q (by omega) (by have := HL1.out; have := HL2.out; omega)).mono ?_
              rintro e w8 ⟨rfl, rfl⟩
              go_wp2
              go_round
              case rel => exact ⟨q + 1, by omega, by go_num⟩
              case measure => simp [intOf]; omega
            · go_wp2
              go_roundw
              case rel => exact ⟨j + 1, _, by omega, by go_num, (by show _ = _; rw [HL2.out]; exact HL1.out), hA6, hA5, hK6⟩
              case measure => simp [intOf]; omega
        · go_wp2_with fail
          refine (fill_any hA1a hn1 p m x v1.1 v1.2 v3.1 v3.2).mono ?_
          rintro e w6 ⟨c, ws2, rfl, HL2, HE, hA3, hK3⟩
          have hA4 := hA2a.kept hK3 (fun h => hne1 h) (fun h => hne2 h)
          replace ho := ho.kept hK3 (fun h => hog h)
          replace hKa := hKa.over hK3 (OneBlk.over hg1)
          replace co := ho.cell
          clear hA1a hA2a hK3
          go_wp2_with fail
          refine (rfill_any hA4 hn1 p m x v1.1 v1.2 v3.1 v3.2).mono ?_
          rintro e w7 ⟨c', ws2', rfl, HL2', HE', hA5, hK5⟩
          obtain ⟨rfl, rfl⟩ := same_end HE.out HE'.out
          have hA6 := hA3.kept hK5 (fun h => hne3 h) (fun h => hne2 h.symm)
          have hK6 := hKa.over hK5 (OneBlk.over hg2)
          clear hA3 hA4 hK5 hKa co ho
          have hn2 : ws2.length ≤ 65536 := by rw [HL2.out]; exact hn1
          go_wp2_with fail
          refine (len_any hA6).mono ?_
          rintro e w8 ⟨rfl, rfl⟩
          go_wp2_with fail
          refine (rlen_any hA5).mono ?_
          rintro e w8 ⟨rfl, rfl⟩
          go_wp2_with fail
          obtain ⟨wo, rfl⟩ : ∃ wo : World, wo = w7 := ⟨_, rfl⟩
          go_loop [22] (fun i => ∃ q : Nat, (q : Int) ≤ 1 + r ∧ i = .int .i64 q) (fun i => ((1 + r) - intOf i).toNat)
          case atStart => exact ⟨0, by omega, rfl⟩
          case round =>
            obtain ⟨q, hq, rfl⟩ := hrel
            by_cases hlq : (q : Int) < 1 + r
            · go_wp2_with fail
              refine (load_yes hA6 hn2 q (by omega) (by have := HL1.out; have := HL2.out; omega)).mono ?_
              rintro e w8 ⟨rfl, rfl⟩
              go_wp2_with fail
              refine (rload_yes hA5 hn2 q (by omega) (by have := HL1.out; have := HL2.out; omega)).mono ?_
              rintro e w8 ⟨rfl, rfl⟩
              go_wp2
              go_round
              case rel => exact ⟨q + 1, by omega, by go_num⟩
              case measure => simp [intOf]; omega
            · go_wp2
              go_roundw
              case rel => exact ⟨j + 1, _, by omega, by go_num, (by show _ = _; rw [HL2.out]; exact HL1.out), hA6, hA5, hK6⟩
              case measure => simp [intOf]; omega
        · go_wp2_with fail
          refine (move_any hA1a hn1 p q m v1.1 v1.2 v2.1 v2.2 v3.1 v3.2).mono ?_
          rintro e w6 ⟨c, ws2, rfl, HL2, HE, hA3, hK3⟩
          have hA4 := hA2a.kept hK3 (fun h => hne1 h) (fun h => hne2 h)
          replace ho := ho.kept hK3 (fun h => hog h)
          replace hKa := hKa.over hK3 (OneBlk.over hg1)
          replace co := ho.cell
          clear hA1a hA2a hK3
          go_wp2_with fail
          refine (rmove_any hA4 hn1 p q m v1.1 v1.2 v2.1 v2.2 v3.1 v3.2).mono ?_
          rintro e w7 ⟨c', ws2', rfl, HL2', HE', hA5, hK5⟩
          obtain ⟨rfl, rfl⟩ := same_end HE.out HE'.out
          have hA6 := hA3.kept hK5 (fun h => hne3 h) (fun h => hne2 h.symm)
          have hK6 := hKa.over hK5 (OneBlk.over hg2)
          clear hA3 hA4 hK5 hKa co ho
          have hn2 : ws2.length ≤ 65536 := by rw [HL2.out]; exact hn1
          go_wp2_with fail
          refine (len_any hA6).mono ?_
          rintro e w8 ⟨rfl, rfl⟩
          go_wp2_with fail
          refine (rlen_any hA5).mono ?_
          rintro e w8 ⟨rfl, rfl⟩
          go_wp2_with fail
          obtain ⟨wo, rfl⟩ : ∃ wo : World, wo = w7 := ⟨_, rfl⟩
          go_loop [22] (fun i => ∃ q : Nat, (q : Int) ≤ 1 + r ∧ i = .int .i64 q) (fun i => ((1 + r) - intOf i).toNat)
          case atStart => exact ⟨0, by omega, rfl⟩
          case round =>
            obtain ⟨q, hq, rfl⟩ := hrel
            by_cases hlq : (q : Int) < 1 + r
            · go_wp2_with fail
              refine (load_yes hA6 hn2 q (by omega) (by have := HL1.out; have := HL2.out; omega)).mono ?_
              rintro e w8 ⟨rfl, rfl⟩
              go_wp2_with fail
              refine (rload_yes hA5 hn2 q (by omega) (by have := HL1.out; have := HL2.out; omega)).mono ?_
              rintro e w8 ⟨rfl, rfl⟩
              go_wp2
              go_round
              case rel => exact ⟨q + 1, by omega, by go_num⟩
              case measure => simp [intOf]; omega
            · go_wp2
              go_roundw
              case rel => exact ⟨j + 1, _, by omega, by go_num, (by show _ = _; rw [HL2.out]; exact HL1.out), hA6, hA5, hK6⟩
              case measure => simp [intOf]; omega
        · go_wp2_with fail
          refine (load_any hA1a hn1 p v1.1 v1.2).mono ?_
          rintro e w6 ⟨c, u, rfl, HE, rfl⟩
          go_wp2_with fail
          refine (rload_any hA2a hn1 p v1.1 v1.2).mono ?_
          rintro e w7 ⟨c', u', rfl, HE', rfl⟩
          obtain ⟨rfl, rfl⟩ := same_end HE.out HE'.out
          obtain ⟨ws2, HW2, HL2⟩ : ∃ ws2, Hid (ws2 = ws1) ∧ Hid (ws2.length = ws1.length) := ⟨ws1, rfl, rfl⟩
          have hA6 := hA1a
          have hA5 := hA2a
          have hK6 := hKa
          clear hA1a hA2a hKa co ho
          rw [← HW2.out] at hA6 hA5
          have hn2 : ws2.length ≤ 65536 := by rw [HL2.out]; exact hn1
          go_wp2_with fail
          refine (len_any hA6).mono ?_
          rintro e w8 ⟨rfl, rfl⟩
          go_wp2_with fail
          refine (rlen_any hA5).mono ?_
          rintro e w8 ⟨rfl, rfl⟩
          go_wp2_with fail
          obtain ⟨wo, rfl⟩ : ∃ wo : World, wo = wa := ⟨_, rfl⟩
          go_loop [22] (fun i => ∃ q : Nat, (q : Int) ≤ 1 + r ∧ i = .int .i64 q) (fun i => ((1 + r) - intOf i).toNat)
          case atStart => exact ⟨0, by omega, rfl⟩
          case round =>
            obtain ⟨q, hq, rfl⟩ := hrel
            by_cases hlq : (q : Int) < 1 + r
            · go_wp2_with fail
              refine (load_yes hA6 hn2 q (by omega) (by have := HL1.out; have := HL2.out; omega)).mono ?_
              rintro e w8 ⟨rfl, rfl⟩
              go_wp2_with fail
              refine (rload_yes hA5 hn2 q (by omega) (by have := HL1.out; have := HL2.out; omega)).mono ?_
              rintro e w8 ⟨rfl, rfl⟩
              go_wp2
              go_round
              case rel => exact ⟨q + 1, by omega, by go_num⟩
              case measure => simp [intOf]; omega
            · go_wp2
              go_roundw
              case rel => exact ⟨j + 1, _, by omega, by go_num, (by show _ = _; rw [HL2.out]; exact HL1.out), hA6, hA5, hK6⟩
              case measure => simp [intOf]; omega
      · rcases (show (len : Int) ≤ (j : Int) ∨ ((j : Int) < (len : Int) ∧ (60 : Int) ≤ (j : Int)) by omega) with hx | ⟨hx0, hx⟩
        all_goals
          go_wp2
          go_ret
          exact ⟨rfl, hKr⟩
  · go_wp2_with fail
    refine (new_no words hw1 _).mono ?_
    rintro e w1 ⟨rfl, rfl⟩
    go_wp2_with fail
    refine (rnew_no words hw1 _).mono ?_
    rintro e w2 ⟨rfl, rfl⟩
    clear hw1
    go_wp2_with fail
    refine (pick02r Hr (by omega) b1 b2 (by omega) _).mono ?_
    rintro e w0' ⟨rfl, rfl⟩
    go_wp2_with fail
    refine (new_any (1 + r) (by omega) (by omega) _).mono ?_
    rintro e w3 ⟨b, g, ws, rfl, HW, HL, hA, hKn, hb, hg⟩
    have hsz := hK.size
    replace hK := hK.trans hKn
    go_wp2_with fail
    refine (rnew_any (1 + r) (by omega) (by omega) _).mono ?_
    rintro e w4 ⟨b', g', ws', rfl, HW', hA', hKn', hb', hg'⟩
    have hws : ws' = ws := HW'.out.trans HW.out.symm
    subst hws
    have hsz3 := hKn.size
    have hgl := hA.glt
    have hbl := hA.blt
    have hA := hA.kept hKn' id id
    replace hK := hK.trans hKn'
    have hg1 : w.heap.size ≤ g := by omega
    have hg2 : w.heap.size ≤ g' := by omega
    have hne1 : b' ≠ g := by omega
    have hne2 : g' ≠ g := by omega
    have hne3 : b ≠ g' := by omega
    clear hKn hKn' HW HW' hsz hsz3 hgl hbl hb hb' hg hg'
    go_wp2_with fail
    go_loopw [14] (fun i wr => ∃ (j : Nat) (ws1 : List Int), j ≤ 60 ∧ i = .int .i64 j ∧ Hid ((ws1.length : Int) = 1 + r) ∧ ArenaAt wr b g ws1 ∧ ArenaAt wr b' g' ws1 ∧ Kept NoBlk w wr) (fun i _ => 60 - (intOf i).toNat)
    case atStart => exact ⟨0, ws', by omega, rfl, HL, hA, hA', hK⟩
    case round =>
      obtain ⟨j, ws1, hj, rfl, HL1, hA1, hA2, hKr⟩ := hrel
      have hn1 : ws1.length ≤ 65536 := by have := HL1.out; omega
      by_cases hlt : j < len ∧ j < 60
      · obtain ⟨hlt, hlt2⟩ := hlt
        obtain ⟨bb, off, k, p, q, m, x, rfl, hbb, c0, c1, c2, c3, c4, v0, v1, v2, v3, v4⟩ := HOPS.out j hlt
        have d0 := hKr.cell id c0
        have d1 := hKr.cell id c1
        have d2 := hKr.cell id c2
        have d3 := hKr.cell id c3
        have d4 := hKr.cell id c4
        clear c0 c1 c2 c3 c4
        simp only [Lit.wf, Bool.and_eq_true, decide_eq_true_eq] at v0 v1 v2 v3
        have e0 : (0 : Int) ≤ (j : Int) := by omega
        have e1 : (j : Int) < (len : Int) := by omega
        have hpk := pk_bd k 4 (by omega)
        obtain ⟨z, Hz⟩ : ∃ z, Hid (z = pk k 4) := ⟨_, rfl⟩
        rw [← Hz.out] at hpk
        obtain ⟨hz0, hz1⟩ := hpk
        go_wp2_with fail
        refine (pick02r Hz (by omega) v0.1 v0.2 (by omega) _).mono ?_
        rintro e w5 ⟨rfl, rfl⟩
        have ho := Bk.new wr 34 (#[.int .i64 k, .int .i64 p, .int .i64 q, .int .i64 m, .int .u64 x] : Array Value)
        have hA1a := hA1.alloc (.cells #[.int .i64 k, .int .i64 p, .int .i64 q, .int .i64 m, .int .u64 x] 34)
        have hA2a := hA2.alloc (.cells #[.int .i64 k, .int .i64 p, .int .i64 q, .int .i64 m, .int .u64 x] 34)
        have hKa := hKr.alloc (.cells #[.int .i64 k, .int .i64 p, .int .i64 q, .int .i64 m, .int .u64 x] 34)
        generalize wr.alloc (.cells #[.int .i64 k, .int .i64 p, .int .i64 q, .int .i64 m, .int .u64 x] 34) = wa at ho hA1a hA2a hKa ⊢
        have hgo1 := hA1.glt
        have hgo2 := hA2.glt
        have hog : wr.heap.size ≠ g := by omega
        have hog' : wr.heap.size ≠ g' := by omega
        clear hA1 hA2 hKr d0 d1 d2 d3 d4 hgo1 hgo2
        have co := ho.cell
        rcases (show z = 0 ∨ z = 1 ∨ z = 2 ∨ z = 3 by omega) with rfl | rfl | rfl | rfl
        · go_wp2_with fail
          refine (store_any hA1a hn1 p x v1.1 v1.2).mono ?_
          rintro e w6 ⟨c, ws2, rfl, HL2, HE, hA3, hK3⟩
          have hA4 := hA2a.kept hK3 (fun h => hne1 h) (fun h => hne2 h)
          replace ho := ho.kept hK3 (fun h => hog h)
          replace hKa := hKa.over hK3 (OneBlk.over hg1)
          replace co := ho.cell
          clear hA1a hA2a hK3
          go_wp2_with fail
          refine (rstore_any hA4 hn1 p x v1.1 v1.2).mono ?_
          rintro e w7 ⟨c', ws2', rfl, HL2', HE', hA5, hK5⟩
          obtain ⟨rfl, rfl⟩ := same_end HE.out HE'.out
          have hA6 := hA3.kept hK5 (fun h => hne3 h) (fun h => hne2 h.symm)
          have hK6 := hKa.over hK5 (OneBlk.over hg2)
          clear hA3 hA4 hK5 hKa co ho
          have hn2 : ws2.length ≤ 65536 := by rw [HL2.out]; exact hn1
          go_wp2_with fail
          refine (len_any hA6).mono ?_
          rintro e w8 ⟨rfl, rfl⟩
          go_wp2_with fail
          refine (rlen_any hA5).mono ?_
          rintro e w8 ⟨rfl, rfl⟩
          go_wp2_with fail
          obtain ⟨wo, rfl⟩ : ∃ wo : World, wo = w7 := ⟨_, rfl⟩
          go_loop [22] (fun i => ∃ q : Nat, (q : Int) ≤ 1 + r ∧ i = .int .i64 q) (fun i => ((1 + r) - intOf i).toNat)
          case atStart => exact ⟨0, by omega, rfl⟩
          case round =>
            obtain ⟨q, hq, rfl⟩ := hrel
            by_cases hlq : (q : Int) < 1 + r
            · go_wp2_with fail
              refine (load_yes hA6 hn2 q (by omega) (by have := HL1.out; have := HL2.out; omega)).mono ?_
              rintro e w8 ⟨rfl, rfl⟩
              go_wp2_with fail
              refine (rload_yes hA5 hn2 q (by omega) (by have := HL1.out; have := HL2.out; omega)).mono ?_
              rintro e w8 ⟨rfl, rfl⟩
              go_wp2
              go_round
              case rel => exact ⟨q + 1, by omega, by go_num⟩
              case measure => simp [intOf]; omega
            · go_wp2
              go_roundw
              case rel => exact ⟨j + 1, _, by omega, by go_num, (by show _ = _; rw [HL2.out]; exact HL1.out), hA6, hA5, hK6⟩
              case measure => simp [intOf]; omega
        · go_wp2_with fail
          refine (fill_any hA1a hn1 p m x v1.1 v1.2 v3.1 v3.2).mono ?_
          rintro e w6 ⟨c, ws2, rfl, HL2, HE, hA3, hK3⟩
          have hA4 := hA2a.kept hK3 (fun h => hne1 h) (fun h => hne2 h)
          replace ho := ho.kept hK3 (fun h => hog h)
          replace hKa := hKa.over hK3 (OneBlk.over hg1)
          replace co := ho.cell
          clear hA1a hA2a hK3
          go_wp2_with fail
          refine (rfill_any hA4 hn1 p m x v1.1 v1.2 v3.1 v3.2).mono ?_
          rintro e w7 ⟨c', ws2', rfl, HL2', HE', hA5, hK5⟩
          obtain ⟨rfl, rfl⟩ := same_end HE.out HE'.out
          have hA6 := hA3.kept hK5 (fun h => hne3 h) (fun h => hne2 h.symm)
          have hK6 := hKa.over hK5 (OneBlk.over hg2)
          clear hA3 hA4 hK5 hKa co ho
          have hn2 : ws2.length ≤ 65536 := by rw [HL2.out]; exact hn1
          go_wp2_with fail
          refine (len_any hA6).mono ?_
          rintro e w8 ⟨rfl, rfl⟩
          go_wp2_with fail
          refine (rlen_any hA5).mono ?_
          rintro e w8 ⟨rfl, rfl⟩
          go_wp2_with fail
          obtain ⟨wo, rfl⟩ : ∃ wo : World, wo = w7 := ⟨_, rfl⟩
          go_loop [22] (fun i => ∃ q : Nat, (q : Int) ≤ 1 + r ∧ i = .int .i64 q) (fun i => ((1 + r) - intOf i).toNat)
          case atStart => exact ⟨0, by omega, rfl⟩
          case round =>
            obtain ⟨q, hq, rfl⟩ := hrel
            by_cases hlq : (q : Int) < 1 + r
            · go_wp2_with fail
              refine (load_yes hA6 hn2 q (by omega) (by have := HL1.out; have := HL2.out; omega)).mono ?_
              rintro e w8 ⟨rfl, rfl⟩
              go_wp2_with fail
              refine (rload_yes hA5 hn2 q (by omega) (by have := HL1.out; have := HL2.out; omega)).mono ?_
              rintro e w8 ⟨rfl, rfl⟩
              go_wp2
              go_round
              case rel => exact ⟨q + 1, by omega, by go_num⟩
              case measure => simp [intOf]; omega
            · go_wp2
              go_roundw
              case rel => exact ⟨j + 1, _, by omega, by go_num, (by show _ = _; rw [HL2.out]; exact HL1.out), hA6, hA5, hK6⟩
              case measure => simp [intOf]; omega
        · go_wp2_with fail
          refine (move_any hA1a hn1 p q m v1.1 v1.2 v2.1 v2.2 v3.1 v3.2).mono ?_
          rintro e w6 ⟨c, ws2, rfl, HL2, HE, hA3, hK3⟩
          have hA4 := hA2a.kept hK3 (fun h => hne1 h) (fun h => hne2 h)
          replace ho := ho.kept hK3 (fun h => hog h)
          replace hKa := hKa.over hK3 (OneBlk.over hg1)
          replace co := ho.cell
          clear hA1a hA2a hK3
          go_wp2_with fail
          refine (rmove_any hA4 hn1 p q m v1.1 v1.2 v2.1 v2.2 v3.1 v3.2).mono ?_
          rintro e w7 ⟨c', ws2', rfl, HL2', HE', hA5, hK5⟩
          obtain ⟨rfl, rfl⟩ := same_end HE.out HE'.out
          have hA6 := hA3.kept hK5 (fun h => hne3 h) (fun h => hne2 h.symm)
          have hK6 := hKa.over hK5 (OneBlk.over hg2)
          clear hA3 hA4 hK5 hKa co ho
          have hn2 : ws2.length ≤ 65536 := by rw [HL2.out]; exact hn1
          go_wp2_with fail
          refine (len_any hA6).mono ?_
          rintro e w8 ⟨rfl, rfl⟩
          go_wp2_with fail
          refine (rlen_any hA5).mono ?_
          rintro e w8 ⟨rfl, rfl⟩
          go_wp2_with fail
          obtain ⟨wo, rfl⟩ : ∃ wo : World, wo = w7 := ⟨_, rfl⟩
          go_loop [22] (fun i => ∃ q : Nat, (q : Int) ≤ 1 + r ∧ i = .int .i64 q) (fun i => ((1 + r) - intOf i).toNat)
          case atStart => exact ⟨0, by omega, rfl⟩
          case round =>
            obtain ⟨q, hq, rfl⟩ := hrel
            by_cases hlq : (q : Int) < 1 + r
            · go_wp2_with fail
              refine (load_yes hA6 hn2 q (by omega) (by have := HL1.out; have := HL2.out; omega)).mono ?_
              rintro e w8 ⟨rfl, rfl⟩
              go_wp2_with fail
              refine (rload_yes hA5 hn2 q (by omega) (by have := HL1.out; have := HL2.out; omega)).mono ?_
              rintro e w8 ⟨rfl, rfl⟩
              go_wp2
              go_round
              case rel => exact ⟨q + 1, by omega, by go_num⟩
              case measure => simp [intOf]; omega
            · go_wp2
              go_roundw
              case rel => exact ⟨j + 1, _, by omega, by go_num, (by show _ = _; rw [HL2.out]; exact HL1.out), hA6, hA5, hK6⟩
              case measure => simp [intOf]; omega
        · go_wp2_with fail
          refine (load_any hA1a hn1 p v1.1 v1.2).mono ?_
          rintro e w6 ⟨c, u, rfl, HE, rfl⟩
          go_wp2_with fail
          refine (rload_any hA2a hn1 p v1.1 v1.2).mono ?_
          rintro e w7 ⟨c', u', rfl, HE', rfl⟩
          obtain ⟨rfl, rfl⟩ := same_end HE.out HE'.out
          obtain ⟨ws2, HW2, HL2⟩ : ∃ ws2, Hid (ws2 = ws1) ∧ Hid (ws2.length = ws1.length) := ⟨ws1, rfl, rfl⟩
          have hA6 := hA1a
          have hA5 := hA2a
          have hK6 := hKa
          clear hA1a hA2a hKa co ho
          rw [← HW2.out] at hA6 hA5
          have hn2 : ws2.length ≤ 65536 := by rw [HL2.out]; exact hn1
          go_wp2_with fail
          refine (len_any hA6).mono ?_
          rintro e w8 ⟨rfl, rfl⟩
          go_wp2_with fail
          refine (rlen_any hA5).mono ?_
          rintro e w8 ⟨rfl, rfl⟩
          go_wp2_with fail
          obtain ⟨wo, rfl⟩ : ∃ wo : World, wo = wa := ⟨_, rfl⟩
          go_loop [22] (fun i => ∃ q : Nat, (q : Int) ≤ 1 + r ∧ i = .int .i64 q) (fun i => ((1 + r) - intOf i).toNat)
          case atStart => exact ⟨0, by omega, rfl⟩
          case round =>
            obtain ⟨q, hq, rfl⟩ := hrel
            by_cases hlq : (q : Int) < 1 + r
            · go_wp2_with fail
              refine (load_yes hA6 hn2 q (by omega) (by have := HL1.out; have := HL2.out; omega)).mono ?_
              rintro e w8 ⟨rfl, rfl⟩
              go_wp2_with fail
              refine (rload_yes hA5 hn2 q (by omega) (by have := HL1.out; have := HL2.out; omega)).mono ?_
              rintro e w8 ⟨rfl, rfl⟩
              go_wp2
              go_round
              case rel => exact ⟨q + 1, by omega, by go_num⟩
              case measure => simp [intOf]; omega
            · go_wp2
              go_roundw
              case rel => exact ⟨j + 1, _, by omega, by go_num, (by show _ = _; rw [HL2.out]; exact HL1.out), hA6, hA5, hK6⟩
              case measure => simp [intOf]; omega
      · rcases (show (len : Int) ≤ (j : Int) ∨ ((j : Int) < (len : Int) ∧ (60 : Int) ≤ (j : Int)) by omega) with hx | ⟨hx0, hx⟩
        all_goals
          go_wp2
          go_ret
          exact ⟨rfl, hKr⟩

end Go.Proofs.Ytenphgmohhdjeaa
