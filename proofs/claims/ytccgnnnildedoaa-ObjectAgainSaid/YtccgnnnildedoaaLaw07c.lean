/-
  Layer 07: the walk through ObjectAgain.
  Conditions: none.
-/
import Derived.Test.YtccgnnnildedoaaRow07
import Derived.Test.YtccgnnnildedoaaOps07
import Derived.Test.YtccgnnnildedoaaRow
import Derived.Test.YtccgnnnildedoaaHeld
set_option linter.unusedVariables false
namespace Go.Proofs.Ytccgnnnildedoaa
open Go.RowKit

/-- An arena of sixty words, an object of that shape at its first word. -/
def AgS (S : Shp) (b g : Nat) (V : World) : Prop := ∃ ws o, ArenaAt V b g ws ∧ ws.length = 60 ∧ ObjAt ws 0 o ∧ o.shp = S

section
variable {S : Shp} {b g : Nat} {V V' : World}
theorem AgS.kept (h : AgS S b g V) (hK : Kept NoBlk V V') : AgS S b g V' := by
  obtain ⟨ws, o, h1, h2⟩ := h; exact ⟨ws, o, h1.kept hK id id, h2⟩
theorem ag_ptr (h : AgS S b g V) (K x : Int) (h0 : 0 ≤ x) (h1 : x ≤ 131072) :
    Calls Try.prog 39 #[.pointer (some ⟨b, 0, none⟩), .int .i64 0, .int .i64 K, .int .i64 x] V fun e w' => ∃ c, e = .returned (.int .i64 c) ∧ AgS S b g w' ∧ Kept (OneBlk g) V w' := by
  obtain ⟨ws, o, hA, hl, ho, hs⟩ := h
  refine (osetptr_any hA (by omega) ho K x h0 h1).mono ?_
  rintro e w' ⟨rfl, ws', hA', ho', hF, hK⟩
  exact ⟨_, rfl, ⟨ws', _, hA', hF.len.trans hl, ho', by cases inP o K <;> exact hs⟩, hK⟩
theorem ag_num (h : AgS S b g V) (K x : Int) (h0 : -9223372036854775808 ≤ x) (h1 : x ≤ 9223372036854775807) :
    Calls Try.prog 40 #[.pointer (some ⟨b, 0, none⟩), .int .i64 0, .int .i64 K, .int .i64 x] V fun e w' => ∃ c, e = .returned (.int .i64 c) ∧ AgS S b g w' ∧ Kept (OneBlk g) V w' := by
  obtain ⟨ws, o, hA, hl, ho, hs⟩ := h
  refine (osetnum_any hA (by omega) ho K x h0 h1).mono ?_
  rintro e w' ⟨rfl, ws', hA', ho', hF, hK⟩
  exact ⟨_, rfl, ⟨ws', _, hA', hF.len.trans hl, ho', by cases inD o K <;> exact hs⟩, hK⟩
theorem ag_sec (h : AgS S b g V) (x : Int) (h0 : 0 ≤ x) (h1 : x < 18446744073709551616) :
    Calls Try.prog 44 #[.pointer (some ⟨b, 0, none⟩), .int .i64 0, .int .u64 x] V fun e w' => ∃ c, e = .returned (.int .i64 c) ∧ AgS S b g w' ∧ Kept (OneBlk g) V w' := by
  obtain ⟨ws, o, hA, hl, ho, hs⟩ := h
  refine (osetsec_any hA (by omega) ho x h0 h1).mono ?_
  rintro e w' ⟨rfl, ws', hA', ho', hF, hK⟩
  exact ⟨_, rfl, ⟨ws', _, hA', hF.len.trans hl, ho', hs⟩, hK⟩
theorem ag_make (h : AgS S b g V) (T : Shp) (ht : T.ok) :
    Calls Try.prog 33 #[.pointer (some ⟨b, 0, none⟩), .int .i64 0, .agg #[.int .i64 (T.p : Nat), .int .i64 (T.d : Nat), .bool T.wk, .bool T.fin], .int .i64 9] V fun e w' => e = .returned (.int .i64 0) ∧ ∃ ws', ws'.length = 60 ∧ ArenaAt w' b g ws' ∧ ObjAt ws' 0 (newObj T 9) ∧ Kept (OneBlk g) V w' := by
  obtain ⟨hq8, he8, _⟩ := Shp.ok_bd ht
  have hT : T.size = 3 + T.p + T.d := rfl
  obtain ⟨ws, o, hA, hl, ho, hs⟩ := h
  refine (omake_any hA (by omega) 0 T ht 9 (by omega) (by omega) (by omega)).mono ?_
  rintro e w' ⟨rfl, ws', hA', ho', hF, hK⟩
  exact ⟨rfl, ws', hF.len.trans hl, hA', ho', hK⟩
theorem ag_freed (h : AgS S b g V) (f : Bool) :
    Calls Try.prog 43 #[.pointer (some ⟨b, 0, none⟩), .int .i64 0, .bool f] V fun e w' => ∃ c, e = .returned (.int .i64 c) ∧ AgS S b g w' ∧ Kept (OneBlk g) V w' := by
  obtain ⟨ws, o, hA, hl, ho, hs⟩ := h
  refine (osetfreed_any hA (by omega) ho f).mono ?_
  rintro e w' ⟨rfl, ws', hA', ho', hF, hK⟩
  exact ⟨_, rfl, ⟨ws', _, hA', hF.len.trans hl, ho', hs⟩, hK⟩
end

set_option maxRecDepth 100000 in
set_option maxHeartbeats 4000000 in
theorem again_walk7 (r0 r1 r2 t0 t1 t2 : Int) (A : Option Addr) (len cap : Nat) (w : World)
    (l0 : -9223372036854775808 ≤ r0) (g0 : r0 ≤ 9223372036854775807) (l1 : -9223372036854775808 ≤ r1) (g1 : r1 ≤ 9223372036854775807) (l2 : -9223372036854775808 ≤ r2) (g2 : r2 ≤ 9223372036854775807)
    (l3 : -9223372036854775808 ≤ t0) (g3 : t0 ≤ 9223372036854775807) (l4 : -9223372036854775808 ≤ t1) (g4 : t1 ≤ 9223372036854775807) (l5 : -9223372036854775808 ≤ t2) (g5 : t2 ≤ 9223372036854775807)
    (hlc : len ≤ 9223372036854775807) (hops : ∀ i, i < len → Op07 w w.heap.size A i) :
    Calls Try.prog 11 #[.agg #[.int .i64 r0, .int .i64 r1, .int .i64 r2], .agg #[.int .i64 t0, .int .i64 t1, .int .i64 t2], .slice A len cap] w fun e w' => e = .returned (.bool true) ∧ Kept NoBlk w w' := by
  have HOPS := Lib.hid hops
  clear hops
  have hp := notStood_shape
  have hm := notGuard_shape
  have hR := fun W => row07o r0 r1 r2 r0 r1 r2 W l0 g0 l1 g1 l2 g2 l0 g0 l1 g1 l2 g2
  have hF := fun W => fit06 t0 t1 t2 l3 g3 l4 g4 l5 g5 W
  have ht := fitShp_ok t0 t1 t2
  generalize fitShp r0 r1 r2 = S at *
  generalize fitShp t0 t1 t2 = T at *
  obtain ⟨hq8, he8, _⟩ := Shp.ok_bd ht
  have hT : T.size = 3 + T.p + T.d := rfl
  have m1 := fun W b g (h : AgS S b g W) => ag_make h T ht
  have m2 : ∀ W b g ws, ws.length = 60 → ArenaAt W b g ws → ObjAt ws 0 (newObj T 9) → _ := fun W b g ws hl hA ho => oshape_yes hA (by omega) ho
  have m3 : ∀ W b g ws, ws.length = 60 → ArenaAt W b g ws → ObjAt ws 0 (newObj T 9) → _ := fun W b g ws hl hA ho => oserial_yes hA (by omega) ho
  have m4 : ∀ W b g ws, ws.length = 60 → ArenaAt W b g ws → ObjAt ws 0 (newObj T 9) → _ := fun W b g ws hl hA ho => osecond_yes hA (by omega) ho
  have m5 : ∀ W b g ws (i : Nat), i < T.p → ws.length = 60 → ArenaAt W b g ws → ObjAt ws 0 (newObj T 9) → _ := fun W b g ws i hi hl hA ho => optr_yes hA (by omega) ho i hi
  have m6 : ∀ W b g ws (i : Nat), i < T.d → ws.length = 60 → ArenaAt W b g ws → ObjAt ws 0 (newObj T 9) → _ := fun W b g ws i hi hl hA ho => onum_yes hA (by omega) ho i hi
  have e1 : ∀ i, wd (newObj T 9).ptrs i = 0 := fun i => wd_rep _ _
  have e2 : ∀ i, wd (newObj T 9).nums i = 0 := fun i => wd_rep _ _
  simp only [e1, e2] at m5 m6
  clear e1 e2
  rw [show (newObj T 9).shp = T from rfl, show (newObj T 9).freed = false from rfl] at m2
  rw [show (newObj T 9).ser = 9 from rfl] at m3
  rw [show (newObj T 9).sec = 0 from rfl] at m4
  generalize newObj T 9 = o9 at *
  obtain ⟨p, d, wk, fn⟩ := T
  dsimp only at *
  go_enter Try.func11, Try.ntmps11
  have hK := Kept.refl NoBlk w
  have hs1 : ∀ (W : World) (o : Go.Obj), (W.alloc o).heap.size = W.heap.size + 1 := fun W o => by simp
  have hB1 : Bk ((w).alloc (.cells #[.int .i64 r0, .int .i64 r1, .int .i64 r2] 22)) (w.heap.size) 22 (#[.int .i64 r0, .int .i64 r1, .int .i64 r2] : Array Value) := by (have h := Bk.new (w) 22 (#[.int .i64 r0, .int .i64 r1, .int .i64 r2] : Array Value)); simpa only [hs1] using h
  replace hK := hK.alloc (.cells #[.int .i64 r0, .int .i64 r1, .int .i64 r2] 22)
  replace hB1 := hB1.alloc (.cells #[.int .i64 t0, .int .i64 t1, .int .i64 t2] 22)
  have hB2 : Bk (((w).alloc (.cells #[.int .i64 r0, .int .i64 r1, .int .i64 r2] 22)).alloc (.cells #[.int .i64 t0, .int .i64 t1, .int .i64 t2] 22)) (w.heap.size + 1) 22 (#[.int .i64 t0, .int .i64 t1, .int .i64 t2] : Array Value) := by (have h := Bk.new ((w).alloc (.cells #[.int .i64 r0, .int .i64 r1, .int .i64 r2] 22)) 22 (#[.int .i64 t0, .int .i64 t1, .int .i64 t2] : Array Value)); simpa only [hs1] using h
  replace hK := hK.alloc (.cells #[.int .i64 t0, .int .i64 t1, .int .i64 t2] 22)
  clear hs1
  (try clear c_hB1 f_hB1)
  (try clear c_hB2 f_hB2)
  have c_hB1 := hB1.cell
  have f_hB1 := hB1.frozen
  have c_hB2 := hB2.cell
  have f_hB2 := hB2.frozen
  go_wp2_with fail
  refine (awake07 _).mono ?_
  rintro e_ wc1 ⟨rfl, hKn⟩
  replace hB1 := hB1.kept hKn id
  replace hB2 := hB2.kept hKn id
  replace hK := hK.trans hKn
  clear hKn
  replace c_hB1 := hB1.cell
  replace f_hB1 := hB1.frozen
  replace c_hB2 := hB2.cell
  replace f_hB2 := hB2.frozen
  go_wp2_with fail
  have hlt := hB2.lt
  refine (hR _).mono ?_
  rintro e v1 ⟨b, g, ws, rfl, hA, hKn, hb, hg, hl, ho, hq⟩
  replace hB1 := hB1.kept hKn id
  replace hB2 := hB2.kept hKn id
  replace hK := hK.trans hKn
  have hgw : w.heap.size ≤ g := by omega
  have hg2 : w.heap.size + 1 < g := by omega
  have hg1 : g < v1.heap.size := hA.glt
  replace c_hB1 := hB1.cell
  replace f_hB1 := hB1.frozen
  replace c_hB2 := hB2.cell
  replace f_hB2 := hB2.frozen
  clear hKn hq hb hg
  clear c_hB1 f_hB1
  clear hB1
  go_wp2_with fail
  go_loopw [12] (fun i wr => ∃ j : Nat, j ≤ 20 ∧ i = .int .i64 j ∧ AgS S b g wr ∧ Kept NoBlk w wr ∧ Bk wr (w.heap.size + 1) 22 #[.int .i64 t0, .int .i64 t1, .int .i64 t2]) (fun i _ => 20 - (intOf i).toNat)
  case atStart => exact ⟨0, by omega, rfl, ⟨ws, _, (hA.alloc _).alloc _, hl, ho, rfl⟩, (hK.alloc _).alloc _, (hB2.alloc _).alloc _⟩
  case round =>
    obtain ⟨j, hj, rfl, hG, hKr, hBr⟩ := hrel
    clear hA hl ho hK hB2 c_hB2 f_hB2 hR
    by_cases hlt : j < len ∧ j < 20
    · obtain ⟨hlt, hlt2⟩ := hlt
      obtain ⟨bb, off, k, q0, I, N, x, rfl, hbb, c0, c1, c2, c3, c4, v0, v1', v2, v3, v4⟩ := HOPS.out j hlt
      replace v2 := bd_i64 v2
      replace v3 := bd_i64 v3
      replace v4 := bd_u64 v4
      clear v0 v1' c0 c1
      have hi9 := pk_bd I 9 (by omega)
      have hn99 := pk_bd N 99 (by omega)
      have d2 := hKr.cell id c2
      have d3 := hKr.cell id c3
      have e0 : (0 : Int) ≤ (j : Int) := by omega
      have e1 : (j : Int) < (len : Int) := by omega
      obtain ⟨i9, Hi9⟩ : ∃ i9, Hid (i9 = pk I 9) := ⟨_, rfl⟩
      obtain ⟨n99, Hn99⟩ : ∃ n99, Hid (n99 = pk N 99) := ⟨_, rfl⟩
      rw [← Hi9.out] at hi9
      rw [← Hn99.out] at hn99
      go_wp2_with fail
      have hne : ¬ OneBlk g (w.heap.size + 1) := fun h => by have h2 : w.heap.size + 1 = g := h; omega
      refine wp_region_held_drew (S := (fun V => V.cell? ⟨bb, off + j * 5 + 2, none⟩ = some (.int .i64 I) ∧ V.cell? ⟨bb, off + j * 5 + 3, none⟩ = some (.int .i64 N) ∧ AgS S b g V ∧ Kept NoBlk w V ∧ Bk V (w.heap.size + 1) 22 #[.int .i64 t0, .int .i64 t1, .int .i64 t2])) (by kernel_rfl) (by ((try dsimp only); exact ⟨hKr.drew.cell id c2, hKr.drew.cell id c3, hG.kept (Kept.refl NoBlk wr).drew, hKr.drew, hBr.drew⟩)) (fun hHeld => ?_)
      clear d2 d3 hG hKr hBr
      ((first
        | (refine wpAnyH_takeL (i := 0) (v := ?hv2) rfl (by kernel_rfl) (by kernel_rfl) (by kernel_rfl) (fun _ _ _ h => h) (Or.inl (And.intro ?hw2 ?hy2)) (by assumption) ?rest2
           case hw2 => rfl
           case hy2 => (intro wHy hSw; (try dsimp only at hSw); go_simp; (first | done | with_reducible rfl)))
        | (refine wpAnyH_takeL (i := 0) (v := undef) rfl (by kernel_rfl) (by kernel_rfl) (by kernel_rfl) (fun _ _ _ h => h) (Or.inr (And.intro (by rfl) rfl)) (by assumption) ?rest2x))
       (try simp only [Act.put, List.setIfInBounds_toArray, List.set_cons_zero, List.set_cons_succ]))
      ((first
        | (refine wpAnyH_takeL (i := 1) (v := ?hv3) rfl (by kernel_rfl) (by kernel_rfl) (by kernel_rfl) (fun _ _ _ h => h) (Or.inl (And.intro ?hw3 ?hy3)) (by assumption) ?rest3
           case hw3 => rfl
           case hy3 => (intro wHy hSw; (try dsimp only at hSw); go_simp; (first | done | with_reducible rfl)))
        | (refine wpAnyH_takeL (i := 1) (v := undef) rfl (by kernel_rfl) (by kernel_rfl) (by kernel_rfl) (fun _ _ _ h => h) (Or.inr (And.intro (by rfl) rfl)) (by assumption) ?rest3x))
       (try simp only [Act.put, List.setIfInBounds_toArray, List.set_cons_zero, List.set_cons_succ]))
      ((first
        | (refine wpAnyH_takeL (i := 2) (v := ?hv4) rfl (by kernel_rfl) (by kernel_rfl) (by kernel_rfl) (fun _ _ _ h => h) (Or.inl (And.intro ?hw4 ?hy4)) (by assumption) ?rest4
           case hw4 => rfl
           case hy4 => (intro wHy hSw; (try dsimp only at hSw); go_simp; (first | done | with_reducible rfl)))
        | (refine wpAnyH_takeL (i := 2) (v := undef) rfl (by kernel_rfl) (by kernel_rfl) (by kernel_rfl) (fun _ _ _ h => h) (Or.inr (And.intro (by rfl) rfl)) (by assumption) ?rest4x))
       (try simp only [Act.put, List.setIfInBounds_toArray, List.set_cons_zero, List.set_cons_succ]))
      ((first
        | (refine wpAnyH_takeL (i := 3) (v := ?hv5) rfl (by kernel_rfl) (by kernel_rfl) (by kernel_rfl) (fun _ _ _ h => h) (Or.inl (And.intro ?hw5 ?hy5)) (by assumption) ?rest5
           case hw5 => rfl
           case hy5 => (intro wHy hSw; (try dsimp only at hSw); go_simp; (first | done | with_reducible rfl)))
        | (refine wpAnyH_takeL (i := 3) (v := undef) rfl (by kernel_rfl) (by kernel_rfl) (by kernel_rfl) (fun _ _ _ h => h) (Or.inr (And.intro (by rfl) rfl)) (by assumption) ?rest5x))
       (try simp only [Act.put, List.setIfInBounds_toArray, List.set_cons_zero, List.set_cons_succ]))
      ((first
        | (refine wpAnyH_takeL (i := 4) (v := ?hv6) rfl (by kernel_rfl) (by kernel_rfl) (by kernel_rfl) (fun _ _ _ h => h) (Or.inl (And.intro ?hw6 ?hy6)) (by assumption) ?rest6
           case hw6 => rfl
           case hy6 => (intro wHy hSw; (try dsimp only at hSw); go_simp; (first | done | with_reducible rfl)))
        | (refine wpAnyH_takeL (i := 4) (v := undef) rfl (by kernel_rfl) (by kernel_rfl) (by kernel_rfl) (fun _ _ _ h => h) (Or.inr (And.intro (by rfl) rfl)) (by assumption) ?rest6x))
       (try simp only [Act.put, List.setIfInBounds_toArray, List.set_cons_zero, List.set_cons_succ]))
      ((first
        | (refine wpAnyH_takeL (i := 5) (v := ?hv7) rfl (by kernel_rfl) (by kernel_rfl) (by kernel_rfl) (fun _ _ _ h => h) (Or.inl (And.intro ?hw7 ?hy7)) (by assumption) ?rest7
           case hw7 => rfl
           case hy7 => (intro wHy hSw; (try dsimp only at hSw); go_simp; (first | done | with_reducible rfl)))
        | (refine wpAnyH_takeL (i := 5) (v := undef) rfl (by kernel_rfl) (by kernel_rfl) (by kernel_rfl) (fun _ _ _ h => h) (Or.inr (And.intro (by rfl) rfl)) (by assumption) ?rest7x))
       (try simp only [Act.put, List.setIfInBounds_toArray, List.set_cons_zero, List.set_cons_succ]))
      ((first
        | (refine wpAnyH_takeL (i := 7) (v := ?hv8) rfl (by kernel_rfl) (by kernel_rfl) (by kernel_rfl) (fun _ _ _ h => h) (Or.inl (And.intro ?hw8 ?hy8)) (by assumption) ?rest8
           case hw8 => rfl
           case hy8 => (intro wHy hSw; (try dsimp only at hSw); go_simp; (first | done | with_reducible rfl)))
        | (refine wpAnyH_takeL (i := 7) (v := undef) rfl (by kernel_rfl) (by kernel_rfl) (by kernel_rfl) (fun _ _ _ h => h) (Or.inr (And.intro (by rfl) rfl)) (by assumption) ?rest8x))
       (try simp only [Act.put, List.setIfInBounds_toArray, List.set_cons_zero, List.set_cons_succ]))
      ((first
        | (refine wpAnyH_takeL (i := 8) (v := ?hv9) rfl (by kernel_rfl) (by kernel_rfl) (by kernel_rfl) (fun _ _ _ h => h) (Or.inl (And.intro ?hw9 ?hy9)) (by assumption) ?rest9
           case hw9 => rfl
           case hy9 => (intro wHy hSw; (try dsimp only at hSw); go_simp; (first | done | with_reducible rfl)))
        | (refine wpAnyH_takeL (i := 8) (v := undef) rfl (by kernel_rfl) (by kernel_rfl) (by kernel_rfl) (fun _ _ _ h => h) (Or.inr (And.intro (by rfl) rfl)) (by assumption) ?rest9x))
       (try simp only [Act.put, List.setIfInBounds_toArray, List.set_cons_zero, List.set_cons_succ]))
      ((first
        | (refine wpAnyH_takeL (i := 9) (v := ?hv10) rfl (by kernel_rfl) (by kernel_rfl) (by kernel_rfl) (fun _ _ _ h => h) (Or.inl (And.intro ?hw10 ?hy10)) (by assumption) ?rest10
           case hw10 => rfl
           case hy10 => (intro wHy hSw; (try dsimp only at hSw); go_simp; (first | done | with_reducible rfl)))
        | (refine wpAnyH_takeL (i := 9) (v := undef) rfl (by kernel_rfl) (by kernel_rfl) (by kernel_rfl) (fun _ _ _ h => h) (Or.inr (And.intro (by rfl) rfl)) (by assumption) ?rest10x))
       (try simp only [Act.put, List.setIfInBounds_toArray, List.set_cons_zero, List.set_cons_succ]))
      ((first
        | (refine wpAnyH_takeL (i := 10) (v := ?hv11) rfl (by kernel_rfl) (by kernel_rfl) (by kernel_rfl) (fun _ _ _ h => h) (Or.inl (And.intro ?hw11 ?hy11)) (by assumption) ?rest11
           case hw11 => rfl
           case hy11 => (intro wHy hSw; (try dsimp only at hSw); go_simp; (first | done | with_reducible rfl)))
        | (refine wpAnyH_takeL (i := 10) (v := undef) rfl (by kernel_rfl) (by kernel_rfl) (by kernel_rfl) (fun _ _ _ h => h) (Or.inr (And.intro (by rfl) rfl)) (by assumption) ?rest11x))
       (try simp only [Act.put, List.setIfInBounds_toArray, List.set_cons_zero, List.set_cons_succ]))
      ((first
        | (refine wpAnyH_takeL (i := 11) (v := ?hv12) rfl (by kernel_rfl) (by kernel_rfl) (by kernel_rfl) (fun _ _ _ h => h) (Or.inl (And.intro ?hw12 ?hy12)) (by assumption) ?rest12
           case hw12 => rfl
           case hy12 => (intro wHy hSw; (try dsimp only at hSw); go_simp; (first | done | with_reducible rfl)))
        | (refine wpAnyH_takeL (i := 11) (v := undef) rfl (by kernel_rfl) (by kernel_rfl) (by kernel_rfl) (fun _ _ _ h => h) (Or.inr (And.intro (by rfl) rfl)) (by assumption) ?rest12x))
       (try simp only [Act.put, List.setIfInBounds_toArray, List.set_cons_zero, List.set_cons_succ]))
      obtain ⟨d2, d3, hG, hKr, hBr⟩ := hHeld
      refine wpAnyH_ready (rs := [6]) (by kernel_rfl) (by simp) (AllReadyH.consL rfl (fun K hKcc => ?_) AllReadyH.nil)
      go_simp
      refine (pick07r Hi9 (by omega) v2.1 v2.2 (by omega) _).mono ?_; rintro e w2 ⟨rfl, rfl⟩
      refine hKcc.out _ _ ?held13 (fun hHeld => ?_)
      case held13 => ((try dsimp only); exact ⟨d2, d3, hG, hKr, hBr⟩)
      clear hKcc K
      (try simp only [Act.put, List.setIfInBounds_toArray, List.set_cons_zero, List.set_cons_succ])
      clear hHeld
      refine wpAnyH_ready (rs := [12]) (by kernel_rfl) (by simp) (AllReadyH.consL rfl (fun K hKcc => ?_) AllReadyH.nil)
      go_simp
      refine (pick07r Hn99 (by omega) v3.1 v3.2 (by omega) _).mono ?_; rintro e w2 ⟨rfl, rfl⟩
      refine hKcc.out _ _ ?held14 (fun hHeld => ?_)
      case held14 => ((try dsimp only); exact ⟨d2, d3, hG, hKr, hBr⟩)
      clear hKcc K
      (try simp only [Act.put, List.setIfInBounds_toArray, List.set_cons_zero, List.set_cons_succ])
      clear hHeld
      refine wpAnyH_ready (rs := [13]) (by kernel_rfl) (by simp) (AllReadyH.consL rfl (fun K hKcc => ?_) AllReadyH.nil)
      go_simp
      refine (ag_ptr hG i9 n99 (by omega) (by omega)).mono ?_; rintro e w3 ⟨cx, rfl, hG3, hKn⟩; have hK3 := hKr.over hKn (OneBlk.over hgw)
      refine hKcc.out _ _ ?held15 (fun hHeld => ?_)
      case held15 => ((try dsimp only); exact ⟨hK3.cell id c2, hK3.cell id c3, hG3, hK3, hBr.kept hKn hne⟩)
      clear hKcc K
      (try simp only [Act.put, List.setIfInBounds_toArray, List.set_cons_zero, List.set_cons_succ])
      clear d2 d3 hG hKr hBr hKn hG3 hK3
      obtain ⟨d2, d3, hG, hKr, hBr⟩ := hHeld
      refine wpAnyH_done (by kernel_rfl) ?_ _
      go_wp2_with fail
      refine wp_region_held_drew (S := (fun V => V.cell? ⟨bb, off + j * 5 + 2, none⟩ = some (.int .i64 I) ∧ V.cell? ⟨bb, off + j * 5 + 3, none⟩ = some (.int .i64 N) ∧ AgS S b g V ∧ Kept NoBlk w V ∧ Bk V (w.heap.size + 1) 22 #[.int .i64 t0, .int .i64 t1, .int .i64 t2])) (by kernel_rfl) (by ((try dsimp only); exact ⟨hKr.drew.cell id c2, hKr.drew.cell id c3, hG.kept (Kept.refl NoBlk _).drew, hKr.drew, hBr.drew⟩)) (fun hHeld => ?_)
      clear d2 d3 hG hKr hBr
      ((first
        | (refine wpAnyH_takeL (i := 0) (v := ?hv16) rfl (by kernel_rfl) (by kernel_rfl) (by kernel_rfl) (fun _ _ _ h => h) (Or.inl (And.intro ?hw16 ?hy16)) (by assumption) ?rest16
           case hw16 => rfl
           case hy16 => (intro wHy hSw; (try dsimp only at hSw); go_simp; (first | done | with_reducible rfl)))
        | (refine wpAnyH_takeL (i := 0) (v := undef) rfl (by kernel_rfl) (by kernel_rfl) (by kernel_rfl) (fun _ _ _ h => h) (Or.inr (And.intro (by rfl) rfl)) (by assumption) ?rest16x))
       (try simp only [Act.put, List.setIfInBounds_toArray, List.set_cons_zero, List.set_cons_succ]))
      ((first
        | (refine wpAnyH_takeL (i := 1) (v := ?hv17) rfl (by kernel_rfl) (by kernel_rfl) (by kernel_rfl) (fun _ _ _ h => h) (Or.inl (And.intro ?hw17 ?hy17)) (by assumption) ?rest17
           case hw17 => rfl
           case hy17 => (intro wHy hSw; (try dsimp only at hSw); go_simp; (first | done | with_reducible rfl)))
        | (refine wpAnyH_takeL (i := 1) (v := undef) rfl (by kernel_rfl) (by kernel_rfl) (by kernel_rfl) (fun _ _ _ h => h) (Or.inr (And.intro (by rfl) rfl)) (by assumption) ?rest17x))
       (try simp only [Act.put, List.setIfInBounds_toArray, List.set_cons_zero, List.set_cons_succ]))
      ((first
        | (refine wpAnyH_takeL (i := 2) (v := ?hv18) rfl (by kernel_rfl) (by kernel_rfl) (by kernel_rfl) (fun _ _ _ h => h) (Or.inl (And.intro ?hw18 ?hy18)) (by assumption) ?rest18
           case hw18 => rfl
           case hy18 => (intro wHy hSw; (try dsimp only at hSw); go_simp; (first | done | with_reducible rfl)))
        | (refine wpAnyH_takeL (i := 2) (v := undef) rfl (by kernel_rfl) (by kernel_rfl) (by kernel_rfl) (fun _ _ _ h => h) (Or.inr (And.intro (by rfl) rfl)) (by assumption) ?rest18x))
       (try simp only [Act.put, List.setIfInBounds_toArray, List.set_cons_zero, List.set_cons_succ]))
      ((first
        | (refine wpAnyH_takeL (i := 3) (v := ?hv19) rfl (by kernel_rfl) (by kernel_rfl) (by kernel_rfl) (fun _ _ _ h => h) (Or.inl (And.intro ?hw19 ?hy19)) (by assumption) ?rest19
           case hw19 => rfl
           case hy19 => (intro wHy hSw; (try dsimp only at hSw); go_simp; (first | done | with_reducible rfl)))
        | (refine wpAnyH_takeL (i := 3) (v := undef) rfl (by kernel_rfl) (by kernel_rfl) (by kernel_rfl) (fun _ _ _ h => h) (Or.inr (And.intro (by rfl) rfl)) (by assumption) ?rest19x))
       (try simp only [Act.put, List.setIfInBounds_toArray, List.set_cons_zero, List.set_cons_succ]))
      ((first
        | (refine wpAnyH_takeL (i := 4) (v := ?hv20) rfl (by kernel_rfl) (by kernel_rfl) (by kernel_rfl) (fun _ _ _ h => h) (Or.inl (And.intro ?hw20 ?hy20)) (by assumption) ?rest20
           case hw20 => rfl
           case hy20 => (intro wHy hSw; (try dsimp only at hSw); go_simp; (first | done | with_reducible rfl)))
        | (refine wpAnyH_takeL (i := 4) (v := undef) rfl (by kernel_rfl) (by kernel_rfl) (by kernel_rfl) (fun _ _ _ h => h) (Or.inr (And.intro (by rfl) rfl)) (by assumption) ?rest20x))
       (try simp only [Act.put, List.setIfInBounds_toArray, List.set_cons_zero, List.set_cons_succ]))
      ((first
        | (refine wpAnyH_takeL (i := 5) (v := ?hv21) rfl (by kernel_rfl) (by kernel_rfl) (by kernel_rfl) (fun _ _ _ h => h) (Or.inl (And.intro ?hw21 ?hy21)) (by assumption) ?rest21
           case hw21 => rfl
           case hy21 => (intro wHy hSw; (try dsimp only at hSw); go_simp; (first | done | with_reducible rfl)))
        | (refine wpAnyH_takeL (i := 5) (v := undef) rfl (by kernel_rfl) (by kernel_rfl) (by kernel_rfl) (fun _ _ _ h => h) (Or.inr (And.intro (by rfl) rfl)) (by assumption) ?rest21x))
       (try simp only [Act.put, List.setIfInBounds_toArray, List.set_cons_zero, List.set_cons_succ]))
      ((first
        | (refine wpAnyH_takeL (i := 7) (v := ?hv22) rfl (by kernel_rfl) (by kernel_rfl) (by kernel_rfl) (fun _ _ _ h => h) (Or.inl (And.intro ?hw22 ?hy22)) (by assumption) ?rest22
           case hw22 => rfl
           case hy22 => (intro wHy hSw; (try dsimp only at hSw); go_simp; (first | done | with_reducible rfl)))
        | (refine wpAnyH_takeL (i := 7) (v := undef) rfl (by kernel_rfl) (by kernel_rfl) (by kernel_rfl) (fun _ _ _ h => h) (Or.inr (And.intro (by rfl) rfl)) (by assumption) ?rest22x))
       (try simp only [Act.put, List.setIfInBounds_toArray, List.set_cons_zero, List.set_cons_succ]))
      ((first
        | (refine wpAnyH_takeL (i := 8) (v := ?hv23) rfl (by kernel_rfl) (by kernel_rfl) (by kernel_rfl) (fun _ _ _ h => h) (Or.inl (And.intro ?hw23 ?hy23)) (by assumption) ?rest23
           case hw23 => rfl
           case hy23 => (intro wHy hSw; (try dsimp only at hSw); go_simp; (first | done | with_reducible rfl)))
        | (refine wpAnyH_takeL (i := 8) (v := undef) rfl (by kernel_rfl) (by kernel_rfl) (by kernel_rfl) (fun _ _ _ h => h) (Or.inr (And.intro (by rfl) rfl)) (by assumption) ?rest23x))
       (try simp only [Act.put, List.setIfInBounds_toArray, List.set_cons_zero, List.set_cons_succ]))
      ((first
        | (refine wpAnyH_takeL (i := 9) (v := ?hv24) rfl (by kernel_rfl) (by kernel_rfl) (by kernel_rfl) (fun _ _ _ h => h) (Or.inl (And.intro ?hw24 ?hy24)) (by assumption) ?rest24
           case hw24 => rfl
           case hy24 => (intro wHy hSw; (try dsimp only at hSw); go_simp; (first | done | with_reducible rfl)))
        | (refine wpAnyH_takeL (i := 9) (v := undef) rfl (by kernel_rfl) (by kernel_rfl) (by kernel_rfl) (fun _ _ _ h => h) (Or.inr (And.intro (by rfl) rfl)) (by assumption) ?rest24x))
       (try simp only [Act.put, List.setIfInBounds_toArray, List.set_cons_zero, List.set_cons_succ]))
      ((first
        | (refine wpAnyH_takeL (i := 10) (v := ?hv25) rfl (by kernel_rfl) (by kernel_rfl) (by kernel_rfl) (fun _ _ _ h => h) (Or.inl (And.intro ?hw25 ?hy25)) (by assumption) ?rest25
           case hw25 => rfl
           case hy25 => (intro wHy hSw; (try dsimp only at hSw); go_simp; (first | done | with_reducible rfl)))
        | (refine wpAnyH_takeL (i := 10) (v := undef) rfl (by kernel_rfl) (by kernel_rfl) (by kernel_rfl) (fun _ _ _ h => h) (Or.inr (And.intro (by rfl) rfl)) (by assumption) ?rest25x))
       (try simp only [Act.put, List.setIfInBounds_toArray, List.set_cons_zero, List.set_cons_succ]))
      ((first
        | (refine wpAnyH_takeL (i := 11) (v := ?hv26) rfl (by kernel_rfl) (by kernel_rfl) (by kernel_rfl) (fun _ _ _ h => h) (Or.inl (And.intro ?hw26 ?hy26)) (by assumption) ?rest26
           case hw26 => rfl
           case hy26 => (intro wHy hSw; (try dsimp only at hSw); go_simp; (first | done | with_reducible rfl)))
        | (refine wpAnyH_takeL (i := 11) (v := undef) rfl (by kernel_rfl) (by kernel_rfl) (by kernel_rfl) (fun _ _ _ h => h) (Or.inr (And.intro (by rfl) rfl)) (by assumption) ?rest26x))
       (try simp only [Act.put, List.setIfInBounds_toArray, List.set_cons_zero, List.set_cons_succ]))
      obtain ⟨d2, d3, hG, hKr, hBr⟩ := hHeld
      refine wpAnyH_ready (rs := [6]) (by kernel_rfl) (by simp) (AllReadyH.consL rfl (fun K hKcc => ?_) AllReadyH.nil)
      go_simp
      refine (pick07r Hi9 (by omega) v2.1 v2.2 (by omega) _).mono ?_; rintro e w2 ⟨rfl, rfl⟩
      refine hKcc.out _ _ ?held27 (fun hHeld => ?_)
      case held27 => ((try dsimp only); exact ⟨d2, d3, hG, hKr, hBr⟩)
      clear hKcc K
      (try simp only [Act.put, List.setIfInBounds_toArray, List.set_cons_zero, List.set_cons_succ])
      clear hHeld
      refine wpAnyH_ready (rs := [12]) (by kernel_rfl) (by simp) (AllReadyH.consL rfl (fun K hKcc => ?_) AllReadyH.nil)
      go_simp
      refine (ag_num hG i9 N v3.1 v3.2).mono ?_; rintro e w3 ⟨cx, rfl, hG3, hKn⟩; have hK3 := hKr.over hKn (OneBlk.over hgw)
      refine hKcc.out _ _ ?held28 (fun hHeld => ?_)
      case held28 => ((try dsimp only); exact ⟨hK3.cell id c2, hK3.cell id c3, hG3, hK3, hBr.kept hKn hne⟩)
      clear hKcc K
      (try simp only [Act.put, List.setIfInBounds_toArray, List.set_cons_zero, List.set_cons_succ])
      clear d2 d3 hG hKr hBr hKn hG3 hK3
      obtain ⟨d2, d3, hG, hKr, hBr⟩ := hHeld
      refine wpAnyH_done (by kernel_rfl) ?_ _
      have d4 := hKr.cell id c4
      go_wp2_with fail
      refine (ag_sec hG x v4.1 (by omega)).mono ?_
      rintro e w4 ⟨cx, rfl, hG4, hKn⟩
      replace hKr := hKr.over hKn (OneBlk.over hgw)
      replace hBr := hBr.kept hKn hne
      clear hKn hG d2 d3 d4
      have d3 := hKr.cell id c3
      go_wp2_with fail
      refine (ag_freed hG4 _).mono ?_
      rintro e w5 ⟨cx, rfl, hG5, hKn⟩
      replace hKr := hKr.over hKn (OneBlk.over hgw)
      replace hBr := hBr.kept hKn hne
      clear hKn hG4 d3
      go_wp2
      go_roundw
      case rel => exact ⟨j + 1, by omega, by go_num, hG5, hKr, hBr⟩
      case measure => simp [intOf]; omega
    · obtain ⟨v, hv⟩ : ∃ v, wr = v := ⟨_, rfl⟩
      subst hv
      have cB := hBr.cell
      rcases (show (j < len ∧ ¬ j < 20) ∨ ¬ j < len from by omega) with ⟨hl0, hl1⟩ | hl0
      all_goals
        clear hlt
        go_wp2_with fail
        refine (hF _).mono ?_
        rintro e v2 ⟨rfl, hKn⟩
        replace hG := hG.kept hKn
        replace hKr := hKr.trans hKn
        clear hKn cB hBr
        have hG3 := hG.kept ((Kept.refl NoBlk v2).alloc (.cells #[.int .i64 p, .int .i64 d, .bool wk, .bool fn] 25))
        have hS := Bk.new v2 25 (#[.int .i64 p, .int .i64 d, .bool wk, .bool fn] : Array Value)
        replace hKr := hKr.alloc (.cells #[.int .i64 p, .int .i64 d, .bool wk, .bool fn] 25)
        have cS := hS.cell
        go_wp2_with fail
        have hne2 : ¬ OneBlk g v2.heap.size := fun h => by have h2 : v2.heap.size = g := h; obtain ⟨_, _, hA9, _⟩ := hG; have := hA9.glt; omega
        refine (m1 _ _ _ hG3).mono ?_
        rintro e v3 ⟨rfl, ws3, hl3, hA3, ho3, hKn⟩
        replace hS := hS.kept hKn hne2
        replace hKr := hKr.over hKn (OneBlk.over hgw)
        clear hKn hG3 hG cS
        have cS := hS.cell
        go_wp2_with fail
        refine (m2 _ _ _ _ hl3 hA3 ho3).mono ?_
        rintro e v4 ⟨rfl, hKn⟩
        have hT2 := Bk.new v4 25 (#[.int .i64 p, .int .i64 d, .bool wk, .bool fn] : Array Value)
        replace hS := (hS.kept hKn id).alloc (.cells #[.int .i64 p, .int .i64 d, .bool wk, .bool fn] 25)
        replace hA3 := (hA3.kept hKn id id).alloc (.cells #[.int .i64 p, .int .i64 d, .bool wk, .bool fn] 25)
        replace hKr := (hKr.trans hKn).alloc (.cells #[.int .i64 p, .int .i64 d, .bool wk, .bool fn] 25)
        clear hKn cS
        go_wp2_with fail
        refine (m3 _ _ _ _ hl3 hA3 ho3).mono ?_
        rintro e v5 ⟨rfl, hKn⟩
        replace hT2 := hT2.kept hKn id
        replace hS := hS.kept hKn id
        replace hA3 := hA3.kept hKn id id
        replace hKr := hKr.trans hKn
        clear hKn
        go_wp2_with fail
        refine (m4 _ _ _ _ hl3 hA3 ho3).mono ?_
        rintro e v6 ⟨rfl, hKn⟩
        replace hT2 := hT2.kept hKn id
        replace hS := hS.kept hKn id
        replace hA3 := hA3.kept hKn id id
        replace hKr := hKr.trans hKn
        clear hKn
        go_wp2_with fail
        go_loopw [21] (fun i wr => ∃ k : Nat, k ≤ p ∧ i = .int .i64 k ∧ ArenaAt wr b g ws3 ∧ Bk wr v2.heap.size 25 #[.int .i64 p, .int .i64 d, .bool wk, .bool fn] ∧ Bk wr v4.heap.size 25 #[.int .i64 p, .int .i64 d, .bool wk, .bool fn] ∧ Kept NoBlk w wr) (fun i _ => p - (intOf i).toNat)
        case atStart => exact ⟨0, by omega, rfl, hA3, hS, hT2, hKr⟩
        case round =>
          clear hS hT2 hA3 hKr
          obtain ⟨k, hk, rfl, hA, hS, hT2, hKr⟩ := hrel
          have cS := hS.cell
          by_cases hlt : k < p
          · go_wp2_with fail
            refine (m5 _ _ _ _ k hlt hl3 hA ho3).mono ?_
            rintro e v7 ⟨rfl, hKn⟩
            go_wp2
            go_roundw
            case rel => exact ⟨k + 1, by omega, by go_num, hA.kept hKn id id, hS.kept hKn id, hT2.kept hKn id, hKr.trans hKn⟩
            case measure => simp [intOf]; omega
          · go_wp2_with fail
            clear cS
            go_loopw [24] (fun i wr => ∃ k : Nat, k ≤ d ∧ i = .int .i64 k ∧ ArenaAt wr b g ws3 ∧ Bk wr v2.heap.size 25 #[.int .i64 p, .int .i64 d, .bool wk, .bool fn] ∧ Bk wr v4.heap.size 25 #[.int .i64 p, .int .i64 d, .bool wk, .bool fn] ∧ Kept NoBlk w wr) (fun i _ => d - (intOf i).toNat)
            case atStart => exact ⟨0, by omega, rfl, hA, hS, hT2, hKr⟩
            case round =>
              clear hS hT2 hA hKr
              obtain ⟨q, hq, rfl, hA, hS, hT2, hKr⟩ := hrel
              have cS := hS.cell
              by_cases hlt : q < d
              · go_wp2_with fail
                refine (m6 _ _ _ _ q hlt hl3 hA ho3).mono ?_
                rintro e v7 ⟨rfl, hKn⟩
                go_wp2
                go_roundw
                case rel => exact ⟨q + 1, by omega, by go_num, hA.kept hKn id id, hS.kept hKn id, hT2.kept hKn id, hKr.trans hKn⟩
                case measure => simp [intOf]; omega
              · have cT := hT2.cell
                go_wp2
                go_ret
                exact ⟨rfl, hKr⟩

end Go.Proofs.Ytccgnnnildedoaa
