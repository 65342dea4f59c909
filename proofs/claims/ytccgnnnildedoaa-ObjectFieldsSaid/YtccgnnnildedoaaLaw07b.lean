/-
  Layer 07: the walk through ObjectFields.
  Conditions: none.
-/
import Derived.Test.YtccgnnnildedoaaRow07
set_option linter.unusedVariables false
namespace Go.Proofs.Ytccgnnnildedoaa
open Go.RowKit

set_option maxRecDepth 100000 in
set_option maxHeartbeats 4000000 in
theorem fields_walk7 (r0 r1 r2 i n K : Int) (m : Nat) (w : World) (Hm : Hid ((m : Int) = pk n 99)) (hm : m < 99) (HK : (n.tmod 2 = 0 ∧ K = pk i 10 - 1) ∨ (n.tmod 2 ≠ 0 ∧ K = i))
    (l0 : -9223372036854775808 ≤ r0) (g0 : r0 ≤ 9223372036854775807) (l1 : -9223372036854775808 ≤ r1) (g1 : r1 ≤ 9223372036854775807) (l2 : -9223372036854775808 ≤ r2) (g2 : r2 ≤ 9223372036854775807)
    (l3 : -9223372036854775808 ≤ i) (g3 : i ≤ 9223372036854775807) (l4 : -9223372036854775808 ≤ n) (g4 : n ≤ 9223372036854775807) :
    Calls Try.prog 9 #[.agg #[.int .i64 r0, .int .i64 r1, .int .i64 r2], .int .i64 i, .int .i64 n] w fun e w' => e = .returned (.bool true) ∧ Kept NoBlk w w' := by
  have hR := fun W => row07o r0 r1 r2 r0 r1 r2 W l0 g0 l1 g1 l2 g2 l0 g0 l1 g1 l2 g2
  have hs := fitShp_ok r0 r1 r2
  generalize fitShp r0 r1 r2 = S at *
  obtain ⟨hp8, hd8, _⟩ := Shp.ok_bd hs
  have hsz : S.size = 3 + S.p + S.d := rfl
  have hk := pk_bd i 10 (by omega)
  have hKb : -9223372036854775808 ≤ K ∧ K ≤ 9223372036854775807 := by rcases HK with ⟨_, h⟩ | ⟨_, h⟩ <;> omega
  obtain ⟨P, hP⟩ : ∃ P, inP (newObj S 2) K = P := ⟨_, rfl⟩
  obtain ⟨D, hD⟩ : ∃ D, inD (newObj S 2) K = D := ⟨_, rfl⟩
  have m1 : ∀ W b g ws, ws.length = 60 → ObjAt ws S.size (newObj S 2) → ArenaAt W b g ws → _ := fun W b g ws hl ho hA => osetptr_any hA (by omega) ho K (m : Int) (by omega) (by omega)
  rw [hP] at m1
  obtain ⟨o1, ho1⟩ : ∃ o1, cond P ((newObj S 2).setPtr K.toNat m) (newObj S 2) = o1 := ⟨_, rfl⟩
  rw [ho1] at m1
  have s1 : o1.shp = S := by rw [← ho1]; cases P <;> rfl
  have m2 : ∀ W b g ws, ws.length = 60 → ObjAt ws S.size o1 → ArenaAt W b g ws → _ := fun W b g ws hl ho hA => osetnum_any hA (by omega) ho K n l4 g4
  have hD1 : inD o1 K = D := by rw [← hD]; unfold inD; rw [s1]; rfl
  rw [hD1] at m2
  obtain ⟨o2, ho2⟩ : ∃ o2, cond D (o1.setNum K.toNat n) o1 = o2 := ⟨_, rfl⟩
  rw [ho2] at m2
  have s2 : o2.shp = S := by rw [← ho2]; cases D <;> exact s1
  have m3 : ∀ W b g ws, ws.length = 60 → ObjAt ws S.size o2 → ArenaAt W b g ws → _ := fun W b g ws hl ho hA => optr_any hA (by omega) ho K
  have m4 : ∀ W b g ws, ws.length = 60 → ObjAt ws S.size o2 → ArenaAt W b g ws → _ := fun W b g ws hl ho hA => onum_any hA (by omega) ho K
  have hP2 : inP o2 K = P := by rw [← hP]; unfold inP; rw [s2]; rfl
  have hD2 : inD o2 K = D := by rw [← hD]; unfold inD; rw [s2]; rfl
  rw [hP2] at m3
  rw [hD2] at m4
  have hpv : P = true → wd o2.ptrs K.toNat = m := by
    rintro rfl
    have := of_decide_eq_true hP
    have e : o2.ptrs = (List.replicate S.p 0).set K.toNat (m : Int) := by rw [← ho2]; cases D <;> rw [← ho1] <;> rfl
    have h3 : K.toNat < S.p := by have h4 : K < S.p := this.2; omega
    rw [e, wd_set' _ _ _ _ (by simpa using h3), if_pos rfl]
  have hdv : D = true → wd o2.nums K.toNat = n := by
    rintro rfl
    have := of_decide_eq_true hD
    have e : o2.nums = (List.replicate S.d 0).set K.toNat n := by rw [← ho2]; cases P <;> rw [← ho1] <;> rfl
    have h3 : K.toNat < S.d := by have h4 : K < S.d := this.2; omega
    rw [e, wd_set' _ _ _ _ (by simpa using h3), if_pos rfl]
  have pP : (P = true ∧ 0 ≤ K ∧ K < S.p) ∨ (P = false ∧ (K < 0 ∨ (0 ≤ K ∧ (S.p : Int) ≤ K))) := by
    cases P
    · have := of_decide_eq_false hP
      have e : (newObj S 2).shp = S := rfl
      rw [e] at this
      exact .inr ⟨rfl, by omega⟩
    · exact .inl ⟨rfl, of_decide_eq_true hP⟩
  have pD : (D = true ∧ 0 ≤ K ∧ K < S.d) ∨ (D = false ∧ (K < 0 ∨ (0 ≤ K ∧ (S.d : Int) ≤ K))) := by
    cases D
    · have := of_decide_eq_false hD
      have e : (newObj S 2).shp = S := rfl
      rw [e] at this
      exact .inr ⟨rfl, by omega⟩
    · exact .inl ⟨rfl, of_decide_eq_true hD⟩
  have hc : o1.size = S.size ∧ (newObj S 2).size = S.size := ⟨by unfold Obj.size; rw [s1], rfl⟩
  clear hP hD ho1 ho2 s1 s2 hD1 hP2 hD2 hs
  generalize wd o2.ptrs K.toNat = xp at *
  generalize wd o2.nums K.toNat = xn at *
  generalize newObj S 2 = o0 at *
  generalize newObj S 1 = o00 at *
  have hpk : n.tmod 2 = 0 → pk i 10 = K + 1 := fun h => by rcases HK with ⟨_, h2⟩ | ⟨h2, _⟩ <;> omega
  have hki : n.tmod 2 ≠ 0 → i = K := fun h => by rcases HK with ⟨h2, _⟩ | ⟨_, h2⟩ <;> omega
  clear HK
  obtain ⟨p, d, wk, fn⟩ := S
  dsimp only at *
  rw [hsz] at *
  rw [show ((3 + p + d : Nat) : Int) = 3 + (p : Int) + d by omega] at *
  rcases Decidable.em (n.tmod 2 = 0) with hn | hn
  · have Hk := Lib.hid (hpk hn).symm
    clear hki hpk
    rcases pP with ⟨rfl, h1, h2⟩ | ⟨rfl, h1 | ⟨h1, h2⟩⟩
    all_goals rcases pD with ⟨rfl, h3, h4⟩ | ⟨rfl, h3 | ⟨h3, h4⟩⟩
    all_goals first
      | (exfalso; omega)
      | skip
    all_goals simp only [cond_true, cond_false] at m1 m2 m3 m4
    all_goals (try obtain rfl := hpv rfl)
    all_goals (try obtain rfl := hdv rfl)
    all_goals clear hpv hdv hsz hc
    all_goals
      go_enter Try.func9, Try.ntmps9
      have hK := Kept.refl NoBlk w
      have hB := Bk.new (w) 22 (#[.int .i64 r0, .int .i64 r1, .int .i64 r2] : Array Value)
      replace hK := hK.alloc (.cells #[.int .i64 r0, .int .i64 r1, .int .i64 r2] 22)
      have c_hB := hB.cell
      have f_hB := hB.frozen
      go_wp2_with fail
      refine (awake07 _).mono ?_
      rintro e_ wc1 ⟨rfl, hKn⟩
      replace hB := hB.kept hKn id
      replace hK := hK.trans hKn
      clear hKn
      replace c_hB := hB.cell
      replace f_hB := hB.frozen
      go_wp2_with fail
      have hlt := hB.lt
      refine (hR _).mono ?_
      rintro e v1 ⟨b, g, ws, rfl, hA, hKn, hb, hg, hl, hq, ho⟩
      replace hB := hB.kept hKn id
      replace hK := hK.trans hKn
      have hgw : w.heap.size ≤ g := by omega
      clear hKn hq
      have hne_hB : ¬ OneBlk g ((w).heap.size) := fun h => by (have h2 : (w).heap.size = g := h); omega
      replace c_hB := hB.cell
      replace f_hB := hB.frozen
      clear c_hB f_hB
      have hs1 : ∀ (W : World) (o : Go.Obj), (W.alloc o).heap.size = W.heap.size + 1 := fun W o => by simp
      have hS : Bk ((v1).alloc (.cells #[.int .i64 p, .int .i64 d, .bool wk, .bool fn] 25)) (v1.heap.size) 25 (#[.int .i64 p, .int .i64 d, .bool wk, .bool fn] : Array Value) := by (have h := Bk.new (v1) 25 (#[.int .i64 p, .int .i64 d, .bool wk, .bool fn] : Array Value)); simpa only [hs1] using h
      replace hK := hK.alloc (.cells #[.int .i64 p, .int .i64 d, .bool wk, .bool fn] 25)
      have hne_hS : ¬ OneBlk g (v1.heap.size) := fun h => by (have h2 : v1.heap.size = g := h); (have h3 := hA.glt); (try simp only [hs1] at h3); omega
      replace hA := hA.alloc (.cells #[.int .i64 p, .int .i64 d, .bool wk, .bool fn] 25)
      replace hS := hS.alloc (.cells #[.int .i64 p, .int .i64 d, .bool wk, .bool fn] 25)
      have hT : Bk (((v1).alloc (.cells #[.int .i64 p, .int .i64 d, .bool wk, .bool fn] 25)).alloc (.cells #[.int .i64 p, .int .i64 d, .bool wk, .bool fn] 25)) (v1.heap.size + 1) 25 (#[.int .i64 p, .int .i64 d, .bool wk, .bool fn] : Array Value) := by (have h := Bk.new ((v1).alloc (.cells #[.int .i64 p, .int .i64 d, .bool wk, .bool fn] 25)) 25 (#[.int .i64 p, .int .i64 d, .bool wk, .bool fn] : Array Value)); simpa only [hs1] using h
      replace hK := hK.alloc (.cells #[.int .i64 p, .int .i64 d, .bool wk, .bool fn] 25)
      have hne_hT : ¬ OneBlk g (v1.heap.size + 1) := fun h => by (have h2 : v1.heap.size + 1 = g := h); (have h3 := hA.glt); (try simp only [hs1] at h3); omega
      replace hA := hA.alloc (.cells #[.int .i64 p, .int .i64 d, .bool wk, .bool fn] 25)
      clear hs1
      (try clear c_hS f_hS)
      (try clear c_hT f_hT)
      have c_hS := hS.cell
      have f_hS := hS.frozen
      have c_hT := hT.cell
      have f_hT := hT.frozen
      go_wp2_with fail
      refine (pick07r Hk (by omega) l3 g3 (by omega) _).mono ?_
      rintro e w2 ⟨rfl, rfl⟩
      go_wp2_with fail
      refine (pick07r Hm (by omega) l4 g4 (by omega) _).mono ?_
      rintro e w2 ⟨rfl, rfl⟩
      go_wp2_with fail
      refine (m1 _ _ _ _ hl ho hA).mono ?_
      rintro e_ wc2 ⟨rfl, ws1, hAn, ho1, hF1, hKn⟩
      replace hS := hS.kept hKn hne_hS
      replace hT := hT.kept hKn hne_hT
      replace hK := hK.over hKn (OneBlk.over hgw)
      clear hKn hA
      have hA := hAn
      clear hAn
      replace c_hS := hS.cell
      replace f_hS := hS.frozen
      replace c_hT := hT.cell
      replace f_hT := hT.frozen
      have hl1 := hF1.len.trans hl
      clear hF1
      go_wp2_with fail
      refine (m2 _ _ _ _ hl1 ho1 hA).mono ?_
      rintro e_ wc3 ⟨rfl, ws2, hAn, ho2, hF2, hKn⟩
      replace hS := hS.kept hKn hne_hS
      replace hT := hT.kept hKn hne_hT
      replace hK := hK.over hKn (OneBlk.over hgw)
      clear hKn hA
      have hA := hAn
      clear hAn
      replace c_hS := hS.cell
      replace f_hS := hS.frozen
      replace c_hT := hT.cell
      replace f_hT := hT.frozen
      have hl2 := hF2.len.trans hl1
      clear hF2
      go_wp2_with fail
      refine (m3 _ _ _ _ hl2 ho2 hA).mono ?_
      rintro e_ wc4 ⟨rfl, hKn⟩
      replace hS := hS.kept hKn id
      replace hT := hT.kept hKn id
      replace hA := hA.kept hKn id id
      replace hK := hK.trans hKn
      clear hKn
      replace c_hS := hS.cell
      replace f_hS := hS.frozen
      replace c_hT := hT.cell
      replace f_hT := hT.frozen
      go_wp2_with fail
      refine (m4 _ _ _ _ hl2 ho2 hA).mono ?_
      rintro e_ wc5 ⟨rfl, hKn⟩
      replace hS := hS.kept hKn id
      replace hT := hT.kept hKn id
      replace hA := hA.kept hKn id id
      replace hK := hK.trans hKn
      clear hKn
      replace c_hS := hS.cell
      replace f_hS := hS.frozen
      replace c_hT := hT.cell
      replace f_hT := hT.frozen
      go_wp2_with (refine (pick07r Hm (by omega) l4 g4 (by omega) _).mono ?_; rintro e w2 ⟨rfl, rfl⟩)
      go_ret
      exact ⟨rfl, hK⟩
  · obtain rfl := hki hn
    clear hpk hki
    rcases pP with ⟨rfl, h1, h2⟩ | ⟨rfl, h1 | ⟨h1, h2⟩⟩
    all_goals rcases pD with ⟨rfl, h3, h4⟩ | ⟨rfl, h3 | ⟨h3, h4⟩⟩
    all_goals first
      | (exfalso; omega)
      | skip
    all_goals simp only [cond_true, cond_false] at m1 m2 m3 m4
    all_goals (try obtain rfl := hpv rfl)
    all_goals (try obtain rfl := hdv rfl)
    all_goals clear hpv hdv hsz hc
    all_goals
      go_enter Try.func9, Try.ntmps9
      have hK := Kept.refl NoBlk w
      have hB := Bk.new (w) 22 (#[.int .i64 r0, .int .i64 r1, .int .i64 r2] : Array Value)
      replace hK := hK.alloc (.cells #[.int .i64 r0, .int .i64 r1, .int .i64 r2] 22)
      have c_hB := hB.cell
      have f_hB := hB.frozen
      go_wp2_with fail
      refine (awake07 _).mono ?_
      rintro e_ wc6 ⟨rfl, hKn⟩
      replace hB := hB.kept hKn id
      replace hK := hK.trans hKn
      clear hKn
      replace c_hB := hB.cell
      replace f_hB := hB.frozen
      go_wp2_with fail
      have hlt := hB.lt
      refine (hR _).mono ?_
      rintro e v1 ⟨b, g, ws, rfl, hA, hKn, hb, hg, hl, hq, ho⟩
      replace hB := hB.kept hKn id
      replace hK := hK.trans hKn
      have hgw : w.heap.size ≤ g := by omega
      clear hKn hq
      have hne_hB : ¬ OneBlk g ((w).heap.size) := fun h => by (have h2 : (w).heap.size = g := h); omega
      replace c_hB := hB.cell
      replace f_hB := hB.frozen
      clear c_hB f_hB
      have hs1 : ∀ (W : World) (o : Go.Obj), (W.alloc o).heap.size = W.heap.size + 1 := fun W o => by simp
      have hS : Bk ((v1).alloc (.cells #[.int .i64 p, .int .i64 d, .bool wk, .bool fn] 25)) (v1.heap.size) 25 (#[.int .i64 p, .int .i64 d, .bool wk, .bool fn] : Array Value) := by (have h := Bk.new (v1) 25 (#[.int .i64 p, .int .i64 d, .bool wk, .bool fn] : Array Value)); simpa only [hs1] using h
      replace hK := hK.alloc (.cells #[.int .i64 p, .int .i64 d, .bool wk, .bool fn] 25)
      have hne_hS : ¬ OneBlk g (v1.heap.size) := fun h => by (have h2 : v1.heap.size = g := h); (have h3 := hA.glt); (try simp only [hs1] at h3); omega
      replace hA := hA.alloc (.cells #[.int .i64 p, .int .i64 d, .bool wk, .bool fn] 25)
      replace hS := hS.alloc (.cells #[.int .i64 p, .int .i64 d, .bool wk, .bool fn] 25)
      have hT : Bk (((v1).alloc (.cells #[.int .i64 p, .int .i64 d, .bool wk, .bool fn] 25)).alloc (.cells #[.int .i64 p, .int .i64 d, .bool wk, .bool fn] 25)) (v1.heap.size + 1) 25 (#[.int .i64 p, .int .i64 d, .bool wk, .bool fn] : Array Value) := by (have h := Bk.new ((v1).alloc (.cells #[.int .i64 p, .int .i64 d, .bool wk, .bool fn] 25)) 25 (#[.int .i64 p, .int .i64 d, .bool wk, .bool fn] : Array Value)); simpa only [hs1] using h
      replace hK := hK.alloc (.cells #[.int .i64 p, .int .i64 d, .bool wk, .bool fn] 25)
      have hne_hT : ¬ OneBlk g (v1.heap.size + 1) := fun h => by (have h2 : v1.heap.size + 1 = g := h); (have h3 := hA.glt); (try simp only [hs1] at h3); omega
      replace hA := hA.alloc (.cells #[.int .i64 p, .int .i64 d, .bool wk, .bool fn] 25)
      clear hs1
      (try clear c_hS f_hS)
      (try clear c_hT f_hT)
      have c_hS := hS.cell
      have f_hS := hS.frozen
      have c_hT := hT.cell
      have f_hT := hT.frozen
      go_wp2_with fail
      refine (pick07r Hm (by omega) l4 g4 (by omega) _).mono ?_
      rintro e w2 ⟨rfl, rfl⟩
      go_wp2_with fail
      refine (m1 _ _ _ _ hl ho hA).mono ?_
      rintro e_ wc7 ⟨rfl, ws1, hAn, ho1, hF1, hKn⟩
      replace hS := hS.kept hKn hne_hS
      replace hT := hT.kept hKn hne_hT
      replace hK := hK.over hKn (OneBlk.over hgw)
      clear hKn hA
      have hA := hAn
      clear hAn
      replace c_hS := hS.cell
      replace f_hS := hS.frozen
      replace c_hT := hT.cell
      replace f_hT := hT.frozen
      have hl1 := hF1.len.trans hl
      clear hF1
      go_wp2_with fail
      refine (m2 _ _ _ _ hl1 ho1 hA).mono ?_
      rintro e_ wc8 ⟨rfl, ws2, hAn, ho2, hF2, hKn⟩
      replace hS := hS.kept hKn hne_hS
      replace hT := hT.kept hKn hne_hT
      replace hK := hK.over hKn (OneBlk.over hgw)
      clear hKn hA
      have hA := hAn
      clear hAn
      replace c_hS := hS.cell
      replace f_hS := hS.frozen
      replace c_hT := hT.cell
      replace f_hT := hT.frozen
      have hl2 := hF2.len.trans hl1
      clear hF2
      go_wp2_with fail
      refine (m3 _ _ _ _ hl2 ho2 hA).mono ?_
      rintro e_ wc9 ⟨rfl, hKn⟩
      replace hS := hS.kept hKn id
      replace hT := hT.kept hKn id
      replace hA := hA.kept hKn id id
      replace hK := hK.trans hKn
      clear hKn
      replace c_hS := hS.cell
      replace f_hS := hS.frozen
      replace c_hT := hT.cell
      replace f_hT := hT.frozen
      go_wp2_with fail
      refine (m4 _ _ _ _ hl2 ho2 hA).mono ?_
      rintro e_ wc10 ⟨rfl, hKn⟩
      replace hS := hS.kept hKn id
      replace hT := hT.kept hKn id
      replace hA := hA.kept hKn id id
      replace hK := hK.trans hKn
      clear hKn
      replace c_hS := hS.cell
      replace f_hS := hS.frozen
      replace c_hT := hT.cell
      replace f_hT := hT.frozen
      go_wp2_with (refine (pick07r Hm (by omega) l4 g4 (by omega) _).mono ?_; rintro e w2 ⟨rfl, rfl⟩)
      go_ret
      exact ⟨rfl, hK⟩

end Go.Proofs.Ytccgnnnildedoaa
