/-
  The walks through the laws HeaderApart, HeaderWheres and HeaderOwners.
  Conditions: none.
-/
import Derived.Test.YtccgnnnildedoaaHeader4
set_option linter.unusedVariables false
namespace Go.Proofs.Ytccgnnnildedoaa
open Go.RowKit Go.Shelf

theorem shp_eq (s t : Shp) : s = t ↔ (s.p = t.p ∧ s.d = t.d ∧ s.wk = t.wk ∧ s.fin = t.fin) := by
  obtain ⟨a, b, c, d⟩ := s
  obtain ⟨a', b', c', d'⟩ := t
  simp

set_option maxRecDepth 100000 in
set_option maxHeartbeats 2000000 in
theorem wheres_walk (n : Int) (m : Int) (w : World) (Hm : Hid (m = pk n 131072)) (hm0 : 0 ≤ m) (hm1 : m < 131072) (l0 : -9223372036854775808 ≤ n) (g0 : n ≤ 9223372036854775807) :
    Calls Try.prog 6 #[.int .i64 n] w fun e w' => e = .returned (.bool true) ∧ Kept NoBlk w w' := by
  have hi := isGone_gone (k := 1 + m) (by omega) (by omega)
  have c1 := fun W => gone_yes (1 + m) (by omega) (by omega) W
  have hg0 : 0 ≤ goneI (1 + m) ∧ goneI (1 + m) < 18446744073709551616 := by unfold goneI; omega
  have c2 := fun W => where_yes (goneI (1 + m)) hg0.1 hg0.2 hi.1 W
  rw [hi.2] at c2
  obtain ⟨x, hx⟩ : ∃ x : Nat, goneI (1 + m) = (x : Int) := ⟨(goneI (1 + m)).toNat, by omega⟩
  have hev : x % 2 = 0 := by unfold goneI at hx; omega
  rw [hx] at c1 c2 hg0
  have c3 := fun W => shape_no x (by omega) (isHead_even hev) W
  clear hi hx hev hg0
  go_enter Try.func6, Try.ntmps6
  go_wp2_with fail
  refine (awake06 _).mono ?_
  rintro e w1 ⟨rfl, hK⟩
  go_wp2_with fail
  refine (pick06r Hm (by omega) l0 g0 (by omega) _).mono ?_
  rintro e w2 ⟨rfl, rfl⟩
  go_wp2_with fail
  refine (c1 _).mono ?_
  rintro e_ wc1 ⟨rfl, rfl⟩
  go_wp2_with fail
  refine (c2 _).mono ?_
  rintro e_ wc2 ⟨rfl, rfl⟩
  go_wp2_with fail
  refine (c3 _).mono ?_
  rintro e_ wc3 ⟨rfl, hKn⟩
  replace hK := hK.trans hKn
  clear hKn
  go_wp2
  go_ret
  exact ⟨rfl, hK.alloc _⟩

set_option maxRecDepth 100000 in
set_option maxHeartbeats 2000000 in
theorem owners_walk (a b c : Int) (o v u : Nat) (w : World) (Ho : Hid ((o : Int) = pk a 8)) (ho : o < 8) (Hv : Hid ((v : Int) = pk b 1099511627777)) (hv : v ≤ 1099511627776) (Hu : Hid ((u : Int) = pk c 1099511627777)) (hu : u ≤ 1099511627776)
    (l0 : -9223372036854775808 ≤ a) (g0 : a ≤ 9223372036854775807) (l1 : -9223372036854775808 ≤ b) (g1 : b ≤ 9223372036854775807) (l2 : -9223372036854775808 ≤ c) (g2 : c ≤ 9223372036854775807) :
    Calls Try.prog 5 #[.int .i64 a, .int .i64 b, .int .i64 c] w fun e w' => e = .returned (.bool true) ∧ Kept NoBlk w w' := by
  have c1 := fun W => held_yes o ho W
  have c2 := fun W => free_yes v hv W
  have c3 := fun W => free_yes u hu W
  have c4 := fun W => owner_held o ho W
  have c5 := fun W => owner_free v hv W
  have e1 : ((2 * (o : Int) + 1) != 2 * (v : Int)) = true := bne_iff_ne.2 (by omega)
  have e2 : ((2 * (v : Int)) == 2 * (u : Int)) = ((v : Int) == (u : Int)) := by
    by_cases h : v = u
    · subst h; simp
    · have h1 : ¬ 2 * (v : Int) = 2 * (u : Int) := by omega
      have h2 : ¬ (v : Int) = (u : Int) := by omega
      rw [beq_eq_false_iff_ne.2 h1, beq_eq_false_iff_ne.2 h2]
  obtain ⟨t, ht⟩ : ∃ t, ((v : Int) == (u : Int)) = t := ⟨_, rfl⟩
  rw [ht] at e2
  have Ht := Lib.hid ht
  clear ht
  generalize 2 * (o : Int) + 1 = x at *
  generalize 2 * (v : Int) = y at *
  generalize 2 * (u : Int) = z at *
  go_enter Try.func5, Try.ntmps5
  go_wp2_with fail
  refine (awake06 _).mono ?_
  rintro e w1 ⟨rfl, hK⟩
  go_wp2_with fail
  refine (pick06r Ho (by omega) l0 g0 (by omega) _).mono ?_
  rintro e w2 ⟨rfl, rfl⟩
  go_wp2_with fail
  refine (pick06r Hv (by omega) l1 g1 (by omega) _).mono ?_
  rintro e w2 ⟨rfl, rfl⟩
  go_wp2_with fail
  refine (pick06r Hu (by omega) l2 g2 (by omega) _).mono ?_
  rintro e w2 ⟨rfl, rfl⟩
  go_wp2_with fail
  refine (c1 _).mono ?_
  rintro e_ wc4 ⟨rfl, rfl⟩
  go_wp2_with fail
  refine (c2 _).mono ?_
  rintro e_ wc5 ⟨rfl, rfl⟩
  go_wp2_with fail
  refine (c3 _).mono ?_
  rintro e_ wc6 ⟨rfl, rfl⟩
  go_wp2_with fail
  refine (c4 _).mono ?_
  rintro e_ wc7 ⟨rfl, rfl⟩
  go_wp2_with fail
  refine (c5 _).mono ?_
  rintro e_ wc8 ⟨rfl, rfl⟩
  go_wp2
  go_ret
  exact ⟨ret_bool (by rw [Ht.out]; cases t <;> rfl), hK⟩

theorem bne_ne {a b : Int} (h : a ≠ b) : (a != b) = true := bne_iff_ne.2 h
theorem beq_ne {a b : Int} (h : a ≠ b) : (a == b) = false := beq_eq_false_iff_ne.2 h

set_option maxRecDepth 100000 in
set_option maxHeartbeats 4000000 in
theorem apart_walk6 (a0 a1 a2 b0 b1 b2 : Int) (f : Bool) (w : World)
    (l0 : -9223372036854775808 ≤ a0) (g0 : a0 ≤ 9223372036854775807) (l1 : -9223372036854775808 ≤ a1) (g1 : a1 ≤ 9223372036854775807) (l2 : -9223372036854775808 ≤ a2) (g2 : a2 ≤ 9223372036854775807)
    (l3 : -9223372036854775808 ≤ b0) (g3 : b0 ≤ 9223372036854775807) (l4 : -9223372036854775808 ≤ b1) (g4 : b1 ≤ 9223372036854775807) (l5 : -9223372036854775808 ≤ b2) (g5 : b2 ≤ 9223372036854775807) :
    Calls Try.prog 3 #[.agg #[.int .i64 a0, .int .i64 a1, .int .i64 a2], .agg #[.int .i64 b0, .int .i64 b1, .int .i64 b2], .bool f] w fun e w' => e = .returned (.bool true) ∧ Kept NoBlk w w' := by
  have hF1 := fun W => fit06 a0 a1 a2 l0 g0 l1 g1 l2 g2 W
  have hF2 := fun W => fit06 b0 b1 b2 l3 g3 l4 g4 l5 g5 W
  have hs := fitShp_ok a0 a1 a2
  have ht := fitShp_ok b0 b1 b2
  generalize fitShp a0 a1 a2 = S at *
  generalize fitShp b0 b1 b2 = T at *
  have hH1 := fun W => head_yes S f hs W
  have hH2 := fun W => head_yes T f ht W
  have hH3 := fun W => head_yes S (!f) hs W
  have hinj := @headN_inj S T f f hs ht
  have hinj2 := @headN_inj S S f (!f) hs hs
  obtain ⟨p, d, wk, fn⟩ := S
  obtain ⟨p', d', wk', fn'⟩ := T
  have e3 : (((headN ⟨p, d, wk, fn⟩ f : Nat) : Int) != ((headN ⟨p, d, wk, fn⟩ (!f) : Nat) : Int)) = true := bne_ne (fun h => by
    have := (hinj2 (by omega)).2
    cases f <;> cases this)
  have e1 : ¬ (p = p' ∧ d = d' ∧ wk = wk' ∧ fn = fn') → (((headN ⟨p, d, wk, fn⟩ f : Nat) : Int) == ((headN ⟨p', d', wk', fn'⟩ f : Nat) : Int)) = false := fun hn => beq_ne (fun h => by
    have := (hinj (by omega)).1
    injection this with h1 h2 h3 h4
    exact hn ⟨h1, h2, h3, h4⟩)
  have E1 := Lib.hid e1
  clear e1 hinj hinj2 hs ht
  dsimp only at *
  have hp := notStood_shape
  have hm := notGuard_shape
  by_cases h1 : p = p'
  · subst h1
    by_cases h2 : d = d'
    · subst h2
      by_cases h3 : wk = wk'
      · subst h3
        by_cases h4 : fn = fn'
        · subst h4
          go_enter Try.func3, Try.ntmps3
          have hs1 : ∀ (W : World) (o : Obj), (W.alloc o).heap.size = W.heap.size + 1 := fun W o => by simp
          have ha := (Bk.new w 22 (#[.int .i64 a0, .int .i64 a1, .int .i64 a2] : Array Value)).alloc (.cells #[.int .i64 b0, .int .i64 b1, .int .i64 b2] 22)
          have hb := Bk.new (w.alloc (.cells #[.int .i64 a0, .int .i64 a1, .int .i64 a2] 22)) 22 (#[.int .i64 b0, .int .i64 b1, .int .i64 b2] : Array Value)
          rw [hs1] at hb
          have hK : Kept NoBlk w ((w.alloc (.cells #[.int .i64 a0, .int .i64 a1, .int .i64 a2] 22)).alloc (.cells #[.int .i64 b0, .int .i64 b1, .int .i64 b2] 22)) := ((Kept.refl NoBlk w).alloc _).alloc _
          clear hs1
          have c_ha := ha.cell
          have f_ha := ha.frozen
          have c_hb := hb.cell
          have f_hb := hb.frozen
          go_wp2_with fail
          refine (awake06 _).mono ?_
          rintro e_ wc9 ⟨rfl, hKn⟩
          replace ha := ha.kept hKn id
          replace hb := hb.kept hKn id
          replace hK := hK.trans hKn
          clear hKn
          replace c_ha := ha.cell
          replace f_ha := ha.frozen
          replace c_hb := hb.cell
          replace f_hb := hb.frozen
          go_wp2_with fail
          refine (hF1 _).mono ?_
          rintro e_ v2 ⟨rfl, hKn⟩
          replace ha := ha.kept hKn id
          replace hb := hb.kept hKn id
          replace hK := hK.trans hKn
          clear hKn
          replace c_ha := ha.cell
          replace f_ha := ha.frozen
          replace c_hb := hb.cell
          replace f_hb := hb.frozen
          replace ha := ha.alloc (.cells #[.int .i64 (p : Nat), .int .i64 (d : Nat), .bool wk, .bool fn] 25)
          replace hb := hb.alloc (.cells #[.int .i64 (p : Nat), .int .i64 (d : Nat), .bool wk, .bool fn] 25)
          have hS := Bk.new (v2) 25 (#[.int .i64 (p : Nat), .int .i64 (d : Nat), .bool wk, .bool fn] : Array Value)
          replace hK := hK.alloc (.cells #[.int .i64 (p : Nat), .int .i64 (d : Nat), .bool wk, .bool fn] 25)
          have c_hS := hS.cell
          have f_hS := hS.frozen
          replace c_ha := ha.cell
          replace f_ha := ha.frozen
          replace c_hb := hb.cell
          replace f_hb := hb.frozen
          go_wp2_with fail
          refine (hF2 _).mono ?_
          rintro e_ v3 ⟨rfl, hKn⟩
          replace ha := ha.kept hKn id
          replace hb := hb.kept hKn id
          replace hS := hS.kept hKn id
          replace hK := hK.trans hKn
          clear hKn
          replace c_ha := ha.cell
          replace f_ha := ha.frozen
          replace c_hb := hb.cell
          replace f_hb := hb.frozen
          replace c_hS := hS.cell
          replace f_hS := hS.frozen
          clear c_ha f_ha
          clear c_hb f_hb
          replace hS := hS.alloc (.cells #[.int .i64 (p : Nat), .int .i64 (d : Nat), .bool wk, .bool fn] 25)
          have hT := Bk.new (v3) 25 (#[.int .i64 (p : Nat), .int .i64 (d : Nat), .bool wk, .bool fn] : Array Value)
          replace hK := hK.alloc (.cells #[.int .i64 (p : Nat), .int .i64 (d : Nat), .bool wk, .bool fn] 25)
          have c_hT := hT.cell
          have f_hT := hT.frozen
          replace c_hS := hS.cell
          replace f_hS := hS.frozen
          go_wp2_with fail
          refine (hH1 _).mono ?_
          rintro e_ wc12 ⟨rfl, hKn⟩
          replace hS := hS.kept hKn id
          replace hT := hT.kept hKn id
          replace hK := hK.trans hKn
          clear hKn
          replace c_hS := hS.cell
          replace f_hS := hS.frozen
          replace c_hT := hT.cell
          replace f_hT := hT.frozen
          go_wp2_with fail
          refine (hH2 _).mono ?_
          rintro e_ wc13 ⟨rfl, hKn⟩
          replace hS := hS.kept hKn id
          replace hT := hT.kept hKn id
          replace hK := hK.trans hKn
          clear hKn
          replace c_hS := hS.cell
          replace f_hS := hS.frozen
          replace c_hT := hT.cell
          replace f_hT := hT.frozen
          go_wp2_with fail
          refine (hH3 _).mono ?_
          rintro e_ wc14 ⟨rfl, hKn⟩
          replace hS := hS.kept hKn id
          replace hT := hT.kept hKn id
          replace hK := hK.trans hKn
          clear hKn
          replace c_hS := hS.cell
          replace f_hS := hS.frozen
          replace c_hT := hT.cell
          replace f_hT := hT.frozen
          go_wp2
          all_goals
            go_ret
            exact ⟨rfl, hK⟩
        · have e1 := E1.out (fun h => h4 h.2.2.2)
          have t4 : (fn == fn') = false := by cases fn <;> cases fn' <;> first | rfl | exact absurd rfl h4
          go_enter Try.func3, Try.ntmps3
          have hs1 : ∀ (W : World) (o : Obj), (W.alloc o).heap.size = W.heap.size + 1 := fun W o => by simp
          have ha := (Bk.new w 22 (#[.int .i64 a0, .int .i64 a1, .int .i64 a2] : Array Value)).alloc (.cells #[.int .i64 b0, .int .i64 b1, .int .i64 b2] 22)
          have hb := Bk.new (w.alloc (.cells #[.int .i64 a0, .int .i64 a1, .int .i64 a2] 22)) 22 (#[.int .i64 b0, .int .i64 b1, .int .i64 b2] : Array Value)
          rw [hs1] at hb
          have hK : Kept NoBlk w ((w.alloc (.cells #[.int .i64 a0, .int .i64 a1, .int .i64 a2] 22)).alloc (.cells #[.int .i64 b0, .int .i64 b1, .int .i64 b2] 22)) := ((Kept.refl NoBlk w).alloc _).alloc _
          clear hs1
          have c_ha := ha.cell
          have f_ha := ha.frozen
          have c_hb := hb.cell
          have f_hb := hb.frozen
          go_wp2_with fail
          refine (awake06 _).mono ?_
          rintro e_ wc15 ⟨rfl, hKn⟩
          replace ha := ha.kept hKn id
          replace hb := hb.kept hKn id
          replace hK := hK.trans hKn
          clear hKn
          replace c_ha := ha.cell
          replace f_ha := ha.frozen
          replace c_hb := hb.cell
          replace f_hb := hb.frozen
          go_wp2_with fail
          refine (hF1 _).mono ?_
          rintro e_ v2 ⟨rfl, hKn⟩
          replace ha := ha.kept hKn id
          replace hb := hb.kept hKn id
          replace hK := hK.trans hKn
          clear hKn
          replace c_ha := ha.cell
          replace f_ha := ha.frozen
          replace c_hb := hb.cell
          replace f_hb := hb.frozen
          replace ha := ha.alloc (.cells #[.int .i64 (p : Nat), .int .i64 (d : Nat), .bool wk, .bool fn] 25)
          replace hb := hb.alloc (.cells #[.int .i64 (p : Nat), .int .i64 (d : Nat), .bool wk, .bool fn] 25)
          have hS := Bk.new (v2) 25 (#[.int .i64 (p : Nat), .int .i64 (d : Nat), .bool wk, .bool fn] : Array Value)
          replace hK := hK.alloc (.cells #[.int .i64 (p : Nat), .int .i64 (d : Nat), .bool wk, .bool fn] 25)
          have c_hS := hS.cell
          have f_hS := hS.frozen
          replace c_ha := ha.cell
          replace f_ha := ha.frozen
          replace c_hb := hb.cell
          replace f_hb := hb.frozen
          go_wp2_with fail
          refine (hF2 _).mono ?_
          rintro e_ v3 ⟨rfl, hKn⟩
          replace ha := ha.kept hKn id
          replace hb := hb.kept hKn id
          replace hS := hS.kept hKn id
          replace hK := hK.trans hKn
          clear hKn
          replace c_ha := ha.cell
          replace f_ha := ha.frozen
          replace c_hb := hb.cell
          replace f_hb := hb.frozen
          replace c_hS := hS.cell
          replace f_hS := hS.frozen
          clear c_ha f_ha
          clear c_hb f_hb
          replace hS := hS.alloc (.cells #[.int .i64 (p : Nat), .int .i64 (d : Nat), .bool wk, .bool fn'] 25)
          have hT := Bk.new (v3) 25 (#[.int .i64 (p : Nat), .int .i64 (d : Nat), .bool wk, .bool fn'] : Array Value)
          replace hK := hK.alloc (.cells #[.int .i64 (p : Nat), .int .i64 (d : Nat), .bool wk, .bool fn'] 25)
          have c_hT := hT.cell
          have f_hT := hT.frozen
          replace c_hS := hS.cell
          replace f_hS := hS.frozen
          go_wp2_with fail
          refine (hH1 _).mono ?_
          rintro e_ wc18 ⟨rfl, hKn⟩
          replace hS := hS.kept hKn id
          replace hT := hT.kept hKn id
          replace hK := hK.trans hKn
          clear hKn
          replace c_hS := hS.cell
          replace f_hS := hS.frozen
          replace c_hT := hT.cell
          replace f_hT := hT.frozen
          go_wp2_with fail
          refine (hH2 _).mono ?_
          rintro e_ wc19 ⟨rfl, hKn⟩
          replace hS := hS.kept hKn id
          replace hT := hT.kept hKn id
          replace hK := hK.trans hKn
          clear hKn
          replace c_hS := hS.cell
          replace f_hS := hS.frozen
          replace c_hT := hT.cell
          replace f_hT := hT.frozen
          go_wp2_with fail
          refine (hH3 _).mono ?_
          rintro e_ wc20 ⟨rfl, hKn⟩
          replace hS := hS.kept hKn id
          replace hT := hT.kept hKn id
          replace hK := hK.trans hKn
          clear hKn
          replace c_hS := hS.cell
          replace f_hS := hS.frozen
          replace c_hT := hT.cell
          replace f_hT := hT.frozen
          go_wp2
          all_goals
            go_ret
            exact ⟨rfl, hK⟩
      · have e1 := E1.out (fun h => h3 h.2.2.1)
        have t3 : (wk == wk') = false := by cases wk <;> cases wk' <;> first | rfl | exact absurd rfl h3
        go_enter Try.func3, Try.ntmps3
        have hs1 : ∀ (W : World) (o : Obj), (W.alloc o).heap.size = W.heap.size + 1 := fun W o => by simp
        have ha := (Bk.new w 22 (#[.int .i64 a0, .int .i64 a1, .int .i64 a2] : Array Value)).alloc (.cells #[.int .i64 b0, .int .i64 b1, .int .i64 b2] 22)
        have hb := Bk.new (w.alloc (.cells #[.int .i64 a0, .int .i64 a1, .int .i64 a2] 22)) 22 (#[.int .i64 b0, .int .i64 b1, .int .i64 b2] : Array Value)
        rw [hs1] at hb
        have hK : Kept NoBlk w ((w.alloc (.cells #[.int .i64 a0, .int .i64 a1, .int .i64 a2] 22)).alloc (.cells #[.int .i64 b0, .int .i64 b1, .int .i64 b2] 22)) := ((Kept.refl NoBlk w).alloc _).alloc _
        clear hs1
        have c_ha := ha.cell
        have f_ha := ha.frozen
        have c_hb := hb.cell
        have f_hb := hb.frozen
        go_wp2_with fail
        refine (awake06 _).mono ?_
        rintro e_ wc21 ⟨rfl, hKn⟩
        replace ha := ha.kept hKn id
        replace hb := hb.kept hKn id
        replace hK := hK.trans hKn
        clear hKn
        replace c_ha := ha.cell
        replace f_ha := ha.frozen
        replace c_hb := hb.cell
        replace f_hb := hb.frozen
        go_wp2_with fail
        refine (hF1 _).mono ?_
        rintro e_ v2 ⟨rfl, hKn⟩
        replace ha := ha.kept hKn id
        replace hb := hb.kept hKn id
        replace hK := hK.trans hKn
        clear hKn
        replace c_ha := ha.cell
        replace f_ha := ha.frozen
        replace c_hb := hb.cell
        replace f_hb := hb.frozen
        replace ha := ha.alloc (.cells #[.int .i64 (p : Nat), .int .i64 (d : Nat), .bool wk, .bool fn] 25)
        replace hb := hb.alloc (.cells #[.int .i64 (p : Nat), .int .i64 (d : Nat), .bool wk, .bool fn] 25)
        have hS := Bk.new (v2) 25 (#[.int .i64 (p : Nat), .int .i64 (d : Nat), .bool wk, .bool fn] : Array Value)
        replace hK := hK.alloc (.cells #[.int .i64 (p : Nat), .int .i64 (d : Nat), .bool wk, .bool fn] 25)
        have c_hS := hS.cell
        have f_hS := hS.frozen
        replace c_ha := ha.cell
        replace f_ha := ha.frozen
        replace c_hb := hb.cell
        replace f_hb := hb.frozen
        go_wp2_with fail
        refine (hF2 _).mono ?_
        rintro e_ v3 ⟨rfl, hKn⟩
        replace ha := ha.kept hKn id
        replace hb := hb.kept hKn id
        replace hS := hS.kept hKn id
        replace hK := hK.trans hKn
        clear hKn
        replace c_ha := ha.cell
        replace f_ha := ha.frozen
        replace c_hb := hb.cell
        replace f_hb := hb.frozen
        replace c_hS := hS.cell
        replace f_hS := hS.frozen
        clear c_ha f_ha
        clear c_hb f_hb
        replace hS := hS.alloc (.cells #[.int .i64 (p : Nat), .int .i64 (d : Nat), .bool wk', .bool fn'] 25)
        have hT := Bk.new (v3) 25 (#[.int .i64 (p : Nat), .int .i64 (d : Nat), .bool wk', .bool fn'] : Array Value)
        replace hK := hK.alloc (.cells #[.int .i64 (p : Nat), .int .i64 (d : Nat), .bool wk', .bool fn'] 25)
        have c_hT := hT.cell
        have f_hT := hT.frozen
        replace c_hS := hS.cell
        replace f_hS := hS.frozen
        go_wp2_with fail
        refine (hH1 _).mono ?_
        rintro e_ wc24 ⟨rfl, hKn⟩
        replace hS := hS.kept hKn id
        replace hT := hT.kept hKn id
        replace hK := hK.trans hKn
        clear hKn
        replace c_hS := hS.cell
        replace f_hS := hS.frozen
        replace c_hT := hT.cell
        replace f_hT := hT.frozen
        go_wp2_with fail
        refine (hH2 _).mono ?_
        rintro e_ wc25 ⟨rfl, hKn⟩
        replace hS := hS.kept hKn id
        replace hT := hT.kept hKn id
        replace hK := hK.trans hKn
        clear hKn
        replace c_hS := hS.cell
        replace f_hS := hS.frozen
        replace c_hT := hT.cell
        replace f_hT := hT.frozen
        go_wp2_with fail
        refine (hH3 _).mono ?_
        rintro e_ wc26 ⟨rfl, hKn⟩
        replace hS := hS.kept hKn id
        replace hT := hT.kept hKn id
        replace hK := hK.trans hKn
        clear hKn
        replace c_hS := hS.cell
        replace f_hS := hS.frozen
        replace c_hT := hT.cell
        replace f_hT := hT.frozen
        go_wp2
        all_goals
          go_ret
          exact ⟨rfl, hK⟩
    · have e1 := E1.out (fun h => h2 h.2.1)
      go_enter Try.func3, Try.ntmps3
      have hs1 : ∀ (W : World) (o : Obj), (W.alloc o).heap.size = W.heap.size + 1 := fun W o => by simp
      have ha := (Bk.new w 22 (#[.int .i64 a0, .int .i64 a1, .int .i64 a2] : Array Value)).alloc (.cells #[.int .i64 b0, .int .i64 b1, .int .i64 b2] 22)
      have hb := Bk.new (w.alloc (.cells #[.int .i64 a0, .int .i64 a1, .int .i64 a2] 22)) 22 (#[.int .i64 b0, .int .i64 b1, .int .i64 b2] : Array Value)
      rw [hs1] at hb
      have hK : Kept NoBlk w ((w.alloc (.cells #[.int .i64 a0, .int .i64 a1, .int .i64 a2] 22)).alloc (.cells #[.int .i64 b0, .int .i64 b1, .int .i64 b2] 22)) := ((Kept.refl NoBlk w).alloc _).alloc _
      clear hs1
      have c_ha := ha.cell
      have f_ha := ha.frozen
      have c_hb := hb.cell
      have f_hb := hb.frozen
      go_wp2_with fail
      refine (awake06 _).mono ?_
      rintro e_ wc27 ⟨rfl, hKn⟩
      replace ha := ha.kept hKn id
      replace hb := hb.kept hKn id
      replace hK := hK.trans hKn
      clear hKn
      replace c_ha := ha.cell
      replace f_ha := ha.frozen
      replace c_hb := hb.cell
      replace f_hb := hb.frozen
      go_wp2_with fail
      refine (hF1 _).mono ?_
      rintro e_ v2 ⟨rfl, hKn⟩
      replace ha := ha.kept hKn id
      replace hb := hb.kept hKn id
      replace hK := hK.trans hKn
      clear hKn
      replace c_ha := ha.cell
      replace f_ha := ha.frozen
      replace c_hb := hb.cell
      replace f_hb := hb.frozen
      replace ha := ha.alloc (.cells #[.int .i64 (p : Nat), .int .i64 (d : Nat), .bool wk, .bool fn] 25)
      replace hb := hb.alloc (.cells #[.int .i64 (p : Nat), .int .i64 (d : Nat), .bool wk, .bool fn] 25)
      have hS := Bk.new (v2) 25 (#[.int .i64 (p : Nat), .int .i64 (d : Nat), .bool wk, .bool fn] : Array Value)
      replace hK := hK.alloc (.cells #[.int .i64 (p : Nat), .int .i64 (d : Nat), .bool wk, .bool fn] 25)
      have c_hS := hS.cell
      have f_hS := hS.frozen
      replace c_ha := ha.cell
      replace f_ha := ha.frozen
      replace c_hb := hb.cell
      replace f_hb := hb.frozen
      go_wp2_with fail
      refine (hF2 _).mono ?_
      rintro e_ v3 ⟨rfl, hKn⟩
      replace ha := ha.kept hKn id
      replace hb := hb.kept hKn id
      replace hS := hS.kept hKn id
      replace hK := hK.trans hKn
      clear hKn
      replace c_ha := ha.cell
      replace f_ha := ha.frozen
      replace c_hb := hb.cell
      replace f_hb := hb.frozen
      replace c_hS := hS.cell
      replace f_hS := hS.frozen
      clear c_ha f_ha
      clear c_hb f_hb
      replace hS := hS.alloc (.cells #[.int .i64 (p : Nat), .int .i64 (d' : Nat), .bool wk', .bool fn'] 25)
      have hT := Bk.new (v3) 25 (#[.int .i64 (p : Nat), .int .i64 (d' : Nat), .bool wk', .bool fn'] : Array Value)
      replace hK := hK.alloc (.cells #[.int .i64 (p : Nat), .int .i64 (d' : Nat), .bool wk', .bool fn'] 25)
      have c_hT := hT.cell
      have f_hT := hT.frozen
      replace c_hS := hS.cell
      replace f_hS := hS.frozen
      go_wp2_with fail
      refine (hH1 _).mono ?_
      rintro e_ wc30 ⟨rfl, hKn⟩
      replace hS := hS.kept hKn id
      replace hT := hT.kept hKn id
      replace hK := hK.trans hKn
      clear hKn
      replace c_hS := hS.cell
      replace f_hS := hS.frozen
      replace c_hT := hT.cell
      replace f_hT := hT.frozen
      go_wp2_with fail
      refine (hH2 _).mono ?_
      rintro e_ wc31 ⟨rfl, hKn⟩
      replace hS := hS.kept hKn id
      replace hT := hT.kept hKn id
      replace hK := hK.trans hKn
      clear hKn
      replace c_hS := hS.cell
      replace f_hS := hS.frozen
      replace c_hT := hT.cell
      replace f_hT := hT.frozen
      go_wp2_with fail
      refine (hH3 _).mono ?_
      rintro e_ wc32 ⟨rfl, hKn⟩
      replace hS := hS.kept hKn id
      replace hT := hT.kept hKn id
      replace hK := hK.trans hKn
      clear hKn
      replace c_hS := hS.cell
      replace f_hS := hS.frozen
      replace c_hT := hT.cell
      replace f_hT := hT.frozen
      go_wp2
      all_goals
        go_ret
        exact ⟨rfl, hK⟩
  · have e1 := E1.out (fun h => h1 h.1)
    go_enter Try.func3, Try.ntmps3
    have hs1 : ∀ (W : World) (o : Obj), (W.alloc o).heap.size = W.heap.size + 1 := fun W o => by simp
    have ha := (Bk.new w 22 (#[.int .i64 a0, .int .i64 a1, .int .i64 a2] : Array Value)).alloc (.cells #[.int .i64 b0, .int .i64 b1, .int .i64 b2] 22)
    have hb := Bk.new (w.alloc (.cells #[.int .i64 a0, .int .i64 a1, .int .i64 a2] 22)) 22 (#[.int .i64 b0, .int .i64 b1, .int .i64 b2] : Array Value)
    rw [hs1] at hb
    have hK : Kept NoBlk w ((w.alloc (.cells #[.int .i64 a0, .int .i64 a1, .int .i64 a2] 22)).alloc (.cells #[.int .i64 b0, .int .i64 b1, .int .i64 b2] 22)) := ((Kept.refl NoBlk w).alloc _).alloc _
    clear hs1
    have c_ha := ha.cell
    have f_ha := ha.frozen
    have c_hb := hb.cell
    have f_hb := hb.frozen
    go_wp2_with fail
    refine (awake06 _).mono ?_
    rintro e_ wc33 ⟨rfl, hKn⟩
    replace ha := ha.kept hKn id
    replace hb := hb.kept hKn id
    replace hK := hK.trans hKn
    clear hKn
    replace c_ha := ha.cell
    replace f_ha := ha.frozen
    replace c_hb := hb.cell
    replace f_hb := hb.frozen
    go_wp2_with fail
    refine (hF1 _).mono ?_
    rintro e_ v2 ⟨rfl, hKn⟩
    replace ha := ha.kept hKn id
    replace hb := hb.kept hKn id
    replace hK := hK.trans hKn
    clear hKn
    replace c_ha := ha.cell
    replace f_ha := ha.frozen
    replace c_hb := hb.cell
    replace f_hb := hb.frozen
    replace ha := ha.alloc (.cells #[.int .i64 (p : Nat), .int .i64 (d : Nat), .bool wk, .bool fn] 25)
    replace hb := hb.alloc (.cells #[.int .i64 (p : Nat), .int .i64 (d : Nat), .bool wk, .bool fn] 25)
    have hS := Bk.new (v2) 25 (#[.int .i64 (p : Nat), .int .i64 (d : Nat), .bool wk, .bool fn] : Array Value)
    replace hK := hK.alloc (.cells #[.int .i64 (p : Nat), .int .i64 (d : Nat), .bool wk, .bool fn] 25)
    have c_hS := hS.cell
    have f_hS := hS.frozen
    replace c_ha := ha.cell
    replace f_ha := ha.frozen
    replace c_hb := hb.cell
    replace f_hb := hb.frozen
    go_wp2_with fail
    refine (hF2 _).mono ?_
    rintro e_ v3 ⟨rfl, hKn⟩
    replace ha := ha.kept hKn id
    replace hb := hb.kept hKn id
    replace hS := hS.kept hKn id
    replace hK := hK.trans hKn
    clear hKn
    replace c_ha := ha.cell
    replace f_ha := ha.frozen
    replace c_hb := hb.cell
    replace f_hb := hb.frozen
    replace c_hS := hS.cell
    replace f_hS := hS.frozen
    clear c_ha f_ha
    clear c_hb f_hb
    replace hS := hS.alloc (.cells #[.int .i64 (p' : Nat), .int .i64 (d' : Nat), .bool wk', .bool fn'] 25)
    have hT := Bk.new (v3) 25 (#[.int .i64 (p' : Nat), .int .i64 (d' : Nat), .bool wk', .bool fn'] : Array Value)
    replace hK := hK.alloc (.cells #[.int .i64 (p' : Nat), .int .i64 (d' : Nat), .bool wk', .bool fn'] 25)
    have c_hT := hT.cell
    have f_hT := hT.frozen
    replace c_hS := hS.cell
    replace f_hS := hS.frozen
    go_wp2_with fail
    refine (hH1 _).mono ?_
    rintro e_ wc36 ⟨rfl, hKn⟩
    replace hS := hS.kept hKn id
    replace hT := hT.kept hKn id
    replace hK := hK.trans hKn
    clear hKn
    replace c_hS := hS.cell
    replace f_hS := hS.frozen
    replace c_hT := hT.cell
    replace f_hT := hT.frozen
    go_wp2_with fail
    refine (hH2 _).mono ?_
    rintro e_ wc37 ⟨rfl, hKn⟩
    replace hS := hS.kept hKn id
    replace hT := hT.kept hKn id
    replace hK := hK.trans hKn
    clear hKn
    replace c_hS := hS.cell
    replace f_hS := hS.frozen
    replace c_hT := hT.cell
    replace f_hT := hT.frozen
    go_wp2_with fail
    refine (hH3 _).mono ?_
    rintro e_ wc38 ⟨rfl, hKn⟩
    replace hS := hS.kept hKn id
    replace hT := hT.kept hKn id
    replace hK := hK.trans hKn
    clear hKn
    replace c_hS := hS.cell
    replace f_hS := hS.frozen
    replace c_hT := hT.cell
    replace f_hT := hT.frozen
    go_wp2
    all_goals
      go_ret
      exact ⟨rfl, hK⟩

theorem not_ok0 (s : Shp) (r : Int) (h : 0 ≤ r) : okB (9 + r) s.d s.wk s.fin = false := by
  unfold okB
  cases s.wk <;> simp <;> omega
theorem not_ok1 (s : Shp) (r : Int) (h : 0 ≤ r) : okB s.p (-1 - r) s.wk s.fin = false := by
  unfold okB
  cases s.wk <;> simp <;> omega
theorem not_ok2 (r : Int) (h : 0 ≤ r) : okB (2 + r) 0 true false = false := by
  unfold okB
  simp; omega

set_option maxRecDepth 100000 in
set_option maxHeartbeats 4000000 in
theorem wrong_walk (a0 a1 a2 by_ how m r u : Int) (w : World) (Hm : Hid (m = pk how 4)) (hm0 : 0 ≤ m) (hm1 : m < 4) (Hr : Hid (r = pk by_ 1000)) (hr0 : 0 ≤ r) (hr1 : r < 1000) (Hu : Hid (u = pk by_ 7)) (hu0 : 0 ≤ u) (hu1 : u < 7)
    (l0 : -9223372036854775808 ≤ a0) (g0 : a0 ≤ 9223372036854775807) (l1 : -9223372036854775808 ≤ a1) (g1 : a1 ≤ 9223372036854775807) (l2 : -9223372036854775808 ≤ a2) (g2 : a2 ≤ 9223372036854775807)
    (l3 : -9223372036854775808 ≤ by_) (g3 : by_ ≤ 9223372036854775807) (l4 : -9223372036854775808 ≤ how) (g4 : how ≤ 9223372036854775807) :
    Calls Try.prog 4 #[.agg #[.int .i64 a0, .int .i64 a1, .int .i64 a2], .int .i64 by_, .int .i64 how] w fun e w' => e = .returned (.bool true) ∧ Kept NoBlk w w' := by
  have hF1 := fun W => fit06 a0 a1 a2 l0 g0 l1 g1 l2 g2 W
  obtain ⟨hp8, hd8, _⟩ := Shp.ok_bd (fitShp_ok a0 a1 a2)
  generalize fitShp a0 a1 a2 = S at *
  have n0 := not_ok0 S r hr0
  have n1 := not_ok1 S r hr0
  have n2 := not_ok2 u hu0
  have z0 := fun W => hsize_no (9 + r) S.d S.wk S.fin (by omega) (by omega) (by omega) (by omega) n0 W
  have y0 := fun W => head_no (9 + r) S.d S.wk S.fin false (by omega) (by omega) (by omega) (by omega) n0 W
  have x0 := fun W => hright_any (9 + r) S.d S.wk S.fin (by omega) (by omega) (by omega) (by omega) W
  rw [n0] at x0
  have z1 := fun W => hsize_no S.p (-1 - r) S.wk S.fin (by omega) (by omega) (by omega) (by omega) n1 W
  have y1 := fun W => head_no S.p (-1 - r) S.wk S.fin false (by omega) (by omega) (by omega) (by omega) n1 W
  have x1 := fun W => hright_any S.p (-1 - r) S.wk S.fin (by omega) (by omega) (by omega) (by omega) W
  rw [n1] at x1
  have z2 := fun W => hsize_no (2 + u) 0 true false (by omega) (by omega) (by omega) (by omega) n2 W
  have y2 := fun W => head_no (2 + u) 0 true false false (by omega) (by omega) (by omega) (by omega) n2 W
  have x2 := fun W => hright_any (2 + u) 0 true false (by omega) (by omega) (by omega) (by omega) W
  rw [n2] at x2
  have z3 := fun W => hsize_no 1 0 true true (by omega) (by omega) (by omega) (by omega) rfl W
  have y3 := fun W => head_no 1 0 true true false (by omega) (by omega) (by omega) (by omega) rfl W
  have x3 := fun W => hright_any 1 0 true true (by omega) (by omega) (by omega) (by omega) W
  rw [show okB 1 0 true true = false from rfl] at x3
  clear n0 n1 n2
  generalize S.p = p at *
  generalize S.d = d at *
  generalize S.wk = wk at *
  generalize S.fin = fn at *
  rcases (show m = 0 ∨ m = 1 ∨ m = 2 ∨ m = 3 by omega) with rfl | rfl | rfl | rfl
  ·
    go_enter Try.func4, Try.ntmps4
    have ha := (Bk.new w 22 (#[.int .i64 a0, .int .i64 a1, .int .i64 a2] : Array Value))
    have hK : Kept NoBlk w (w.alloc (.cells #[.int .i64 a0, .int .i64 a1, .int .i64 a2] 22)) := (Kept.refl NoBlk w).alloc _
    have c_ha := ha.cell
    have f_ha := ha.frozen
    go_wp2_with fail
    refine (awake06 _).mono ?_
    rintro e_ wc39 ⟨rfl, hKn⟩
    replace ha := ha.kept hKn id
    replace hK := hK.trans hKn
    clear hKn
    replace c_ha := ha.cell
    replace f_ha := ha.frozen
    go_wp2_with fail
    refine (hF1 _).mono ?_
    rintro e_ v2 ⟨rfl, hKn⟩
    replace ha := ha.kept hKn id
    replace hK := hK.trans hKn
    clear hKn
    replace c_ha := ha.cell
    replace f_ha := ha.frozen
    clear c_ha f_ha
    go_wp2_with fail
    refine (pick06r Hm (by omega) l4 g4 (by omega) _).mono ?_
    rintro e_ wc41 ⟨rfl, rfl⟩
    go_wp2_with fail
    refine (pick06r Hr (by omega) l3 g3 (by omega) _).mono ?_
    rintro e_ wc42 ⟨rfl, rfl⟩
    have hS := Bk.new (v2) 25 (#[.int .i64 (9 + r), .int .i64 (d : Nat), .bool wk, .bool fn] : Array Value)
    replace hK := hK.alloc (.cells #[.int .i64 (9 + r), .int .i64 (d : Nat), .bool wk, .bool fn] 25)
    have c_hS := hS.cell
    have f_hS := hS.frozen
    go_wp2_with fail
    refine (z0 _).mono ?_
    rintro e_ wc43 ⟨rfl, hKn⟩
    replace hS := hS.kept hKn id
    replace hK := hK.trans hKn
    clear hKn
    replace c_hS := hS.cell
    replace f_hS := hS.frozen
    go_wp2_with fail
    refine (y0 _).mono ?_
    rintro e_ wc44 ⟨rfl, hKn⟩
    replace hS := hS.kept hKn id
    replace hK := hK.trans hKn
    clear hKn
    replace c_hS := hS.cell
    replace f_hS := hS.frozen
    go_wp2_with fail
    refine (x0 _).mono ?_
    rintro e_ wc45 ⟨rfl, hKn⟩
    replace hS := hS.kept hKn id
    replace hK := hK.trans hKn
    clear hKn
    replace c_hS := hS.cell
    replace f_hS := hS.frozen
    go_wp2
    go_ret
    exact ⟨rfl, hK⟩
  ·
    go_enter Try.func4, Try.ntmps4
    have ha := (Bk.new w 22 (#[.int .i64 a0, .int .i64 a1, .int .i64 a2] : Array Value))
    have hK : Kept NoBlk w (w.alloc (.cells #[.int .i64 a0, .int .i64 a1, .int .i64 a2] 22)) := (Kept.refl NoBlk w).alloc _
    have c_ha := ha.cell
    have f_ha := ha.frozen
    go_wp2_with fail
    refine (awake06 _).mono ?_
    rintro e_ wc46 ⟨rfl, hKn⟩
    replace ha := ha.kept hKn id
    replace hK := hK.trans hKn
    clear hKn
    replace c_ha := ha.cell
    replace f_ha := ha.frozen
    go_wp2_with fail
    refine (hF1 _).mono ?_
    rintro e_ v2 ⟨rfl, hKn⟩
    replace ha := ha.kept hKn id
    replace hK := hK.trans hKn
    clear hKn
    replace c_ha := ha.cell
    replace f_ha := ha.frozen
    clear c_ha f_ha
    go_wp2_with fail
    refine (pick06r Hm (by omega) l4 g4 (by omega) _).mono ?_
    rintro e_ wc48 ⟨rfl, rfl⟩
    go_wp2_with fail
    refine (pick06r Hr (by omega) l3 g3 (by omega) _).mono ?_
    rintro e_ wc49 ⟨rfl, rfl⟩
    have hS := Bk.new (v2) 25 (#[.int .i64 (p : Nat), .int .i64 (-1 - r), .bool wk, .bool fn] : Array Value)
    replace hK := hK.alloc (.cells #[.int .i64 (p : Nat), .int .i64 (-1 - r), .bool wk, .bool fn] 25)
    have c_hS := hS.cell
    have f_hS := hS.frozen
    go_wp2_with fail
    refine (z1 _).mono ?_
    rintro e_ wc50 ⟨rfl, hKn⟩
    replace hS := hS.kept hKn id
    replace hK := hK.trans hKn
    clear hKn
    replace c_hS := hS.cell
    replace f_hS := hS.frozen
    go_wp2_with fail
    refine (y1 _).mono ?_
    rintro e_ wc51 ⟨rfl, hKn⟩
    replace hS := hS.kept hKn id
    replace hK := hK.trans hKn
    clear hKn
    replace c_hS := hS.cell
    replace f_hS := hS.frozen
    go_wp2_with fail
    refine (x1 _).mono ?_
    rintro e_ wc52 ⟨rfl, hKn⟩
    replace hS := hS.kept hKn id
    replace hK := hK.trans hKn
    clear hKn
    replace c_hS := hS.cell
    replace f_hS := hS.frozen
    go_wp2
    go_ret
    exact ⟨rfl, hK⟩
  ·
    go_enter Try.func4, Try.ntmps4
    have ha := (Bk.new w 22 (#[.int .i64 a0, .int .i64 a1, .int .i64 a2] : Array Value))
    have hK : Kept NoBlk w (w.alloc (.cells #[.int .i64 a0, .int .i64 a1, .int .i64 a2] 22)) := (Kept.refl NoBlk w).alloc _
    have c_ha := ha.cell
    have f_ha := ha.frozen
    go_wp2_with fail
    refine (awake06 _).mono ?_
    rintro e_ wc53 ⟨rfl, hKn⟩
    replace ha := ha.kept hKn id
    replace hK := hK.trans hKn
    clear hKn
    replace c_ha := ha.cell
    replace f_ha := ha.frozen
    go_wp2_with fail
    refine (hF1 _).mono ?_
    rintro e_ v2 ⟨rfl, hKn⟩
    replace ha := ha.kept hKn id
    replace hK := hK.trans hKn
    clear hKn
    replace c_ha := ha.cell
    replace f_ha := ha.frozen
    clear c_ha f_ha
    go_wp2_with fail
    refine (pick06r Hm (by omega) l4 g4 (by omega) _).mono ?_
    rintro e_ wc55 ⟨rfl, rfl⟩
    go_wp2_with fail
    refine (pick06r Hu (by omega) l3 g3 (by omega) _).mono ?_
    rintro e_ wc56 ⟨rfl, rfl⟩
    have hS := Bk.new (v2) 25 (#[.int .i64 (2 + u), .int .i64 0, .bool true, .bool false] : Array Value)
    replace hK := hK.alloc (.cells #[.int .i64 (2 + u), .int .i64 0, .bool true, .bool false] 25)
    have c_hS := hS.cell
    have f_hS := hS.frozen
    go_wp2_with fail
    refine (z2 _).mono ?_
    rintro e_ wc57 ⟨rfl, hKn⟩
    replace hS := hS.kept hKn id
    replace hK := hK.trans hKn
    clear hKn
    replace c_hS := hS.cell
    replace f_hS := hS.frozen
    go_wp2_with fail
    refine (y2 _).mono ?_
    rintro e_ wc58 ⟨rfl, hKn⟩
    replace hS := hS.kept hKn id
    replace hK := hK.trans hKn
    clear hKn
    replace c_hS := hS.cell
    replace f_hS := hS.frozen
    go_wp2_with fail
    refine (x2 _).mono ?_
    rintro e_ wc59 ⟨rfl, hKn⟩
    replace hS := hS.kept hKn id
    replace hK := hK.trans hKn
    clear hKn
    replace c_hS := hS.cell
    replace f_hS := hS.frozen
    go_wp2
    go_ret
    exact ⟨rfl, hK⟩
  ·
    go_enter Try.func4, Try.ntmps4
    have ha := (Bk.new w 22 (#[.int .i64 a0, .int .i64 a1, .int .i64 a2] : Array Value))
    have hK : Kept NoBlk w (w.alloc (.cells #[.int .i64 a0, .int .i64 a1, .int .i64 a2] 22)) := (Kept.refl NoBlk w).alloc _
    have c_ha := ha.cell
    have f_ha := ha.frozen
    go_wp2_with fail
    refine (awake06 _).mono ?_
    rintro e_ wc60 ⟨rfl, hKn⟩
    replace ha := ha.kept hKn id
    replace hK := hK.trans hKn
    clear hKn
    replace c_ha := ha.cell
    replace f_ha := ha.frozen
    go_wp2_with fail
    refine (hF1 _).mono ?_
    rintro e_ v2 ⟨rfl, hKn⟩
    replace ha := ha.kept hKn id
    replace hK := hK.trans hKn
    clear hKn
    replace c_ha := ha.cell
    replace f_ha := ha.frozen
    clear c_ha f_ha
    go_wp2_with fail
    refine (pick06r Hm (by omega) l4 g4 (by omega) _).mono ?_
    rintro e_ wc62 ⟨rfl, rfl⟩
    have hS := Bk.new (v2) 25 (#[.int .i64 1, .int .i64 0, .bool true, .bool true] : Array Value)
    replace hK := hK.alloc (.cells #[.int .i64 1, .int .i64 0, .bool true, .bool true] 25)
    have c_hS := hS.cell
    have f_hS := hS.frozen
    go_wp2_with fail
    refine (z3 _).mono ?_
    rintro e_ wc63 ⟨rfl, hKn⟩
    replace hS := hS.kept hKn id
    replace hK := hK.trans hKn
    clear hKn
    replace c_hS := hS.cell
    replace f_hS := hS.frozen
    go_wp2_with fail
    refine (y3 _).mono ?_
    rintro e_ wc64 ⟨rfl, hKn⟩
    replace hS := hS.kept hKn id
    replace hK := hK.trans hKn
    clear hKn
    replace c_hS := hS.cell
    replace f_hS := hS.frozen
    go_wp2_with fail
    refine (x3 _).mono ?_
    rintro e_ wc65 ⟨rfl, hKn⟩
    replace hS := hS.kept hKn id
    replace hK := hK.trans hKn
    clear hKn
    replace c_hS := hS.cell
    replace f_hS := hS.frozen
    go_wp2
    go_ret
    exact ⟨rfl, hK⟩

end Go.Proofs.Ytccgnnnildedoaa
