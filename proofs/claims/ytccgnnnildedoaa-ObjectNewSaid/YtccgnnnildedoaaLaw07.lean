/-
  Layer 07: the walks through ObjectNew and ObjectFields.
  Conditions: none.
-/
import Derived.Test.YtccgnnnildedoaaAwake07
import Derived.Test.YtccgnnnildedoaaPick07
set_option linter.unusedVariables false
namespace Go.Proofs.Ytccgnnnildedoaa
open Go.RowKit

theorem new_word {S : Shp} {n : Int} {i : Nat} (h : i < S.p + S.d) (hs : S.ok) (h0 : 0 ≤ n) (h1 : n ≤ 1099511627776) : wd (newObj S n).words (3 + i) = 0 := by
  have hok := newObj_ok hs h0 h1
  by_cases c : i < S.p
  · rw [words_ptr hok (show i < (newObj S n).shp.p from c)]; exact wd_rep _ _
  · have h2 := words_num hok (i := i - S.p) (show i - S.p < S.d by omega)
    rw [show 3 + (newObj S n).shp.p + (i - S.p) = 3 + i by show 3 + S.p + (i - S.p) = 3 + i; omega] at h2
    rw [h2, show wd (newObj S n).nums (i - S.p) = 0 from wd_rep _ _]; rfl

set_option maxRecDepth 100000 in
set_option maxHeartbeats 4000000 in
theorem new_walk7 (r0 r1 r2 at_ ser : Int) (a n : Nat) (w : World) (Ha : Hid ((a : Int) = pk at_ 44)) (ha : a < 44) (Hn : Hid ((n : Int) = pk ser 1099511627777)) (hn : n ≤ 1099511627776)
    (l0 : -9223372036854775808 ≤ r0) (g0 : r0 ≤ 9223372036854775807) (l1 : -9223372036854775808 ≤ r1) (g1 : r1 ≤ 9223372036854775807) (l2 : -9223372036854775808 ≤ r2) (g2 : r2 ≤ 9223372036854775807)
    (l3 : -9223372036854775808 ≤ at_) (g3 : at_ ≤ 9223372036854775807) (l4 : -9223372036854775808 ≤ ser) (g4 : ser ≤ 9223372036854775807) :
    Calls Try.prog 8 #[.agg #[.int .i64 r0, .int .i64 r1, .int .i64 r2], .int .i64 at_, .int .i64 ser] w fun e w' => e = .returned (.bool true) ∧ Kept NoBlk w w' := by
  have hF := fun W => fit06 r0 r1 r2 l0 g0 l1 g1 l2 g2 W
  have hs := fitShp_ok r0 r1 r2
  generalize fitShp r0 r1 r2 = S at *
  obtain ⟨hp8, hd8, _⟩ := Shp.ok_bd hs
  have m0 := fun W => new_yes 40 (by omega) (by omega) W
  have m1 : ∀ W b g, ArenaAt W b g (List.replicate 40 0) → _ := fun W b g hA => fill_yes hA (by simp) 0 40 12345 (by omega) (by omega) (by simp)
  have hl : (fillN (List.replicate 40 0) (0 : Int).toNat (40 : Int).toNat 12345).length = 40 := by rw [length_fillN]; simp
  have hw1 : ∀ i : Nat, i < 40 → wd (fillN (List.replicate 40 0) (0 : Int).toNat (40 : Int).toNat 12345) i = 12345 := fun i hi => by
    rw [fillN_wd _ _ _ _ (by simp)]
    rw [if_pos ⟨by simp, by simpa using hi⟩]
  generalize fillN (List.replicate 40 0) (0 : Int).toNat (40 : Int).toNat 12345 = ws1 at *
  generalize List.replicate 40 (0 : Int) = ws0 at *
  have hsz : S.size = 3 + S.p + S.d := rfl
  have ma := fun (A : Option Addr) (x : Int) (hx : x < 0 ∨ (0 ≤ x ∧ 1099511627776 < x)) W => omake_arg A a S hs x hx W
  by_cases hfit : a + S.size ≤ 40
  · have mk : ∀ W b g, ArenaAt W b g ws1 → _ := fun W b g hA => omake_yes hA (by omega) a S hs n (by omega) (by omega) (by omega)
    have ho := madeN_at (ws := ws1) (a := a) (s := S) (n := n) (by omega) hs (by omega) (by omega)
    have hfar : ∀ i : Nat, i < 40 → i < a ∨ a + S.size ≤ i → wd (madeN ws1 a S n) i = 12345 := fun i h40 hi => by rw [madeN_far (by omega) hi]; exact hw1 i h40
    have hin : ∀ i : Nat, i < S.p + S.d → wd (madeN ws1 a S n) (a + (3 + i)) = 0 := fun i hi => by rw [ho.w (3 + i) (by show 3 + i < S.size; omega), new_word hi hs (by omega) (by omega)]
    have hl2 : (madeN ws1 a S n).length = 40 := by rw [length_madeN]; exact hl
    generalize madeN ws1 a S n = ws2 at *
    have q1 : ∀ W b g, ArenaAt W b g ws2 → _ := fun W b g hA => osecond_yes hA (by omega) ho
    have q2 : ∀ W b g, ArenaAt W b g ws2 → _ := fun W b g hA => oserial_yes hA (by omega) ho
    have q3 : ∀ W b g, ArenaAt W b g ws2 → _ := fun W b g hA => oshape_yes hA (by omega) ho
    have q4 : ∀ W b g (i : Nat) x, ArenaAt W b g ws2 → wd ws2 i = x → i < 40 → _ := fun W b g i x hA hx hi => load_v hA (by omega) i x hx (by omega)
    rw [show (newObj S (n : Int)).sec = 0 from rfl] at q1
    rw [show (newObj S (n : Int)).ser = (n : Int) from rfl] at q2
    rw [show (newObj S (n : Int)).shp = S from rfl, show (newObj S (n : Int)).freed = false from rfl] at q3
    clear ho hw1
    have HF := Lib.hid hfar
    have HI := Lib.hid hin
    clear hfar hin
    obtain ⟨p, d, wk, fn⟩ := S
    rw [hsz] at *
    dsimp only at *
    go_enter Try.func8, Try.ntmps8
    have hK := Kept.refl NoBlk w
    have hR := Bk.new (w) 22 (#[.int .i64 r0, .int .i64 r1, .int .i64 r2] : Array Value)
    replace hK := hK.alloc (.cells #[.int .i64 r0, .int .i64 r1, .int .i64 r2] 22)
    have c_hR := hR.cell
    have f_hR := hR.frozen
    go_wp2_with fail
    refine (awake07 _).mono ?_
    rintro e_ wc1 ⟨rfl, hKn⟩
    replace hR := hR.kept hKn id
    replace hK := hK.trans hKn
    clear hKn
    replace c_hR := hR.cell
    replace f_hR := hR.frozen
    go_wp2_with fail
    have hlt := hR.lt
    refine (m0 _).mono ?_
    rintro e v1 ⟨b, g, rfl, hA, hKn, hb, hg⟩
    replace hR := hR.kept hKn id
    replace hK := hK.trans hKn
    have hgw : w.heap.size ≤ g := by omega
    clear hKn
    have hne_hR : ¬ OneBlk g ((w).heap.size) := fun h => by (have h2 : (w).heap.size = g := h); omega
    replace c_hR := hR.cell
    replace f_hR := hR.frozen
    go_wp2_with fail
    refine (m1 _ _ _ hA).mono ?_
    rintro e_ wc2 ⟨rfl, hAn, hKn⟩
    replace hR := hR.kept hKn hne_hR
    replace hK := hK.over hKn (OneBlk.over hgw)
    clear hKn hA
    have hA := hAn
    clear hAn
    replace c_hR := hR.cell
    replace f_hR := hR.frozen
    go_wp2_with fail
    refine (hF _).mono ?_
    rintro e_ v3 ⟨rfl, hKn⟩
    replace hR := hR.kept hKn id
    replace hA := hA.kept hKn id id
    replace hK := hK.trans hKn
    clear hKn
    replace c_hR := hR.cell
    replace f_hR := hR.frozen
    clear c_hR f_hR
    have hS := Bk.new (v3) 25 (#[.int .i64 p, .int .i64 d, .bool wk, .bool fn] : Array Value)
    replace hK := hK.alloc (.cells #[.int .i64 p, .int .i64 d, .bool wk, .bool fn] 25)
    have hne_hS : ¬ OneBlk g ((v3).heap.size) := fun h => by (have h2 : (v3).heap.size = g := h); (have h3 := hA.glt); omega
    replace hA := hA.alloc (.cells #[.int .i64 p, .int .i64 d, .bool wk, .bool fn] 25)
    have c_hS := hS.cell
    have f_hS := hS.frozen
    go_wp2_with fail
    refine (pick07r Ha (by omega) l3 g3 (by omega) _).mono ?_
    rintro e w2 ⟨rfl, rfl⟩
    go_wp2_with fail
    refine (pick07r Hn (by omega) l4 g4 (by omega) _).mono ?_
    rintro e w2 ⟨rfl, rfl⟩
    go_wp2_with fail
    refine (mk _ _ _ hA).mono ?_
    rintro e_ wc4 ⟨rfl, hAn, hKn⟩
    replace hS := hS.kept hKn hne_hS
    replace hK := hK.over hKn (OneBlk.over hgw)
    clear hKn hA
    have hA := hAn
    clear hAn
    replace c_hS := hS.cell
    replace f_hS := hS.frozen
    go_wp2_with fail
    refine (ma _ (-1) (.inl (by omega)) _).mono ?_
    rintro e_ wc5 ⟨rfl, hKn⟩
    replace hS := hS.kept hKn id
    replace hA := hA.kept hKn id id
    replace hK := hK.trans hKn
    clear hKn
    replace c_hS := hS.cell
    replace f_hS := hS.frozen
    go_wp2_with fail
    refine (ma _ 1099511627777 (.inr ⟨by omega, by omega⟩) _).mono ?_
    rintro e_ wc6 ⟨rfl, hKn⟩
    replace hS := hS.kept hKn id
    replace hA := hA.kept hKn id id
    replace hK := hK.trans hKn
    clear hKn
    replace c_hS := hS.cell
    replace f_hS := hS.frozen
    go_wp2_with fail
    refine (q1 _ _ _ hA).mono ?_
    rintro e_ wc7 ⟨rfl, hKn⟩
    replace hS := hS.kept hKn id
    replace hA := hA.kept hKn id id
    replace hK := hK.trans hKn
    clear hKn
    replace c_hS := hS.cell
    replace f_hS := hS.frozen
    go_wp2_with fail
    refine (q2 _ _ _ hA).mono ?_
    rintro e_ wc8 ⟨rfl, hKn⟩
    replace hS := hS.kept hKn id
    replace hA := hA.kept hKn id id
    replace hK := hK.trans hKn
    clear hKn
    replace c_hS := hS.cell
    replace f_hS := hS.frozen
    go_wp2_with fail
    refine (q3 _ _ _ hA).mono ?_
    rintro e_ v4 ⟨rfl, hKn⟩
    replace hS := hS.kept hKn id
    replace hA := hA.kept hKn id id
    replace hK := hK.trans hKn
    clear hKn
    replace c_hS := hS.cell
    replace f_hS := hS.frozen
    replace hA := hA.alloc (.cells #[.int .i64 p, .int .i64 d, .bool wk, .bool fn] 25)
    replace hK := hK.alloc (.cells #[.int .i64 p, .int .i64 d, .bool wk, .bool fn] 25)
    go_wp2_with fail
    go_loop [24] (fun i => ∃ k : Nat, k ≤ p + d ∧ i = .int .i64 k) (fun i => ((p + d : Nat) : Int).toNat - (intOf i).toNat)
    case atStart => exact ⟨0, by omega, rfl⟩
    case round =>
      obtain ⟨k, hk, rfl⟩ := hrel
      by_cases hlt : k < p + d
      · have hx := HI.out k hlt
        rw [show a + (3 + k) = a + 3 + k by omega] at hx
        have c5 := fun W hA => q4 W b g (a + 3 + k) 0 hA hx (by omega)
        rw [show ((a + 3 + k : Nat) : Int) = (a : Int) + 3 + k by omega] at c5
        clear hx
        go_wp2_with fail
        refine (c5 _ hA).mono ?_
        rintro e w5 ⟨rfl, rfl⟩
        go_wp2
        go_round
        case rel => exact ⟨k + 1, by omega, by go_num⟩
        case measure => simp [intOf]; omega
      · go_wp2_with fail
        go_loop [27] (fun i => ∃ k : Nat, k ≤ 40 ∧ i = .int .i64 k) (fun i => 40 - (intOf i).toNat)
        case atStart => exact ⟨0, by omega, rfl⟩
        case round =>
          obtain ⟨j, hj, rfl⟩ := hrel
          by_cases hjt : j < 40
          · obtain ⟨x, hx⟩ : ∃ x, wd ws2 j = x := ⟨_, rfl⟩
            have c5 := fun W hA => q4 W b g j x hA hx (by omega)
            have hfx : j < a ∨ a + (3 + p + d) ≤ j → x = 12345 := fun h => hx ▸ HF.out j hjt h
            clear hx
            rcases (show j < a ∨ (a ≤ j ∧ a + (3 + p + d) ≤ j) ∨ (a ≤ j ∧ j < a + (3 + p + d)) by omega) with h | ⟨h, h'⟩ | ⟨h, h'⟩
            · obtain rfl := hfx (.inl h)
              clear hfx
              go_wp2_with fail
              refine (c5 _ hA).mono ?_
              rintro e w5 ⟨rfl, rfl⟩
              go_wp2
              go_round
              case rel => exact ⟨j + 1, by omega, by go_num⟩
              case measure => simp [intOf]; omega
            · obtain rfl := hfx (.inr h')
              clear hfx
              go_wp2_with fail
              refine (c5 _ hA).mono ?_
              rintro e w5 ⟨rfl, rfl⟩
              go_wp2
              go_round
              case rel => exact ⟨j + 1, by omega, by go_num⟩
              case measure => simp [intOf]; omega
            · clear hfx
              go_wp2_with fail
              refine (c5 _ hA).mono ?_
              rintro e w5 ⟨rfl, rfl⟩
              go_wp2
              go_round
              case rel => exact ⟨j + 1, by omega, by go_num⟩
              case measure => simp [intOf]; omega
          · go_wp2
            go_ret
            exact ⟨rfl, hK⟩
  · have mr : ∀ W b g, ArenaAt W b g ws1 → _ := fun W b g hA => omake_room hA (by omega) a S hs n (by omega) (by omega) (by omega) (by omega)
    have q4 : ∀ W b g, ArenaAt W b g ws1 → _ := fun W b g hA => load_v hA (by omega) 39 12345 (hw1 39 (by omega)) (by omega)
    clear hw1
    obtain ⟨p, d, wk, fn⟩ := S
    rw [hsz] at *
    dsimp only at *
    go_enter Try.func8, Try.ntmps8
    have hK := Kept.refl NoBlk w
    have hR := Bk.new (w) 22 (#[.int .i64 r0, .int .i64 r1, .int .i64 r2] : Array Value)
    replace hK := hK.alloc (.cells #[.int .i64 r0, .int .i64 r1, .int .i64 r2] 22)
    have c_hR := hR.cell
    have f_hR := hR.frozen
    go_wp2_with fail
    refine (awake07 _).mono ?_
    rintro e_ wc10 ⟨rfl, hKn⟩
    replace hR := hR.kept hKn id
    replace hK := hK.trans hKn
    clear hKn
    replace c_hR := hR.cell
    replace f_hR := hR.frozen
    go_wp2_with fail
    have hlt := hR.lt
    refine (m0 _).mono ?_
    rintro e v1 ⟨b, g, rfl, hA, hKn, hb, hg⟩
    replace hR := hR.kept hKn id
    replace hK := hK.trans hKn
    have hgw : w.heap.size ≤ g := by omega
    clear hKn
    have hne_hR : ¬ OneBlk g ((w).heap.size) := fun h => by (have h2 : (w).heap.size = g := h); omega
    replace c_hR := hR.cell
    replace f_hR := hR.frozen
    go_wp2_with fail
    refine (m1 _ _ _ hA).mono ?_
    rintro e_ wc11 ⟨rfl, hAn, hKn⟩
    replace hR := hR.kept hKn hne_hR
    replace hK := hK.over hKn (OneBlk.over hgw)
    clear hKn hA
    have hA := hAn
    clear hAn
    replace c_hR := hR.cell
    replace f_hR := hR.frozen
    go_wp2_with fail
    refine (hF _).mono ?_
    rintro e_ v3 ⟨rfl, hKn⟩
    replace hR := hR.kept hKn id
    replace hA := hA.kept hKn id id
    replace hK := hK.trans hKn
    clear hKn
    replace c_hR := hR.cell
    replace f_hR := hR.frozen
    clear c_hR f_hR
    have hS := Bk.new (v3) 25 (#[.int .i64 p, .int .i64 d, .bool wk, .bool fn] : Array Value)
    replace hK := hK.alloc (.cells #[.int .i64 p, .int .i64 d, .bool wk, .bool fn] 25)
    have hne_hS : ¬ OneBlk g ((v3).heap.size) := fun h => by (have h2 : (v3).heap.size = g := h); (have h3 := hA.glt); omega
    replace hA := hA.alloc (.cells #[.int .i64 p, .int .i64 d, .bool wk, .bool fn] 25)
    have c_hS := hS.cell
    have f_hS := hS.frozen
    go_wp2_with fail
    refine (pick07r Ha (by omega) l3 g3 (by omega) _).mono ?_
    rintro e w2 ⟨rfl, rfl⟩
    go_wp2_with fail
    refine (pick07r Hn (by omega) l4 g4 (by omega) _).mono ?_
    rintro e w2 ⟨rfl, rfl⟩
    go_wp2_with fail
    refine (mr _ _ _ hA).mono ?_
    rintro e_ wc13 ⟨rfl, hKn⟩
    replace hS := hS.kept hKn id
    replace hA := hA.kept hKn id id
    replace hK := hK.trans hKn
    clear hKn
    replace c_hS := hS.cell
    replace f_hS := hS.frozen
    go_wp2_with fail
    refine (q4 _ _ _ hA).mono ?_
    rintro e_ wc14 ⟨rfl, rfl⟩
    go_wp2
    go_ret
    exact ⟨rfl, hK⟩

end Go.Proofs.Ytccgnnnildedoaa
