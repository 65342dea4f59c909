/-
  Layer 08: the walk through MoverOn.
  Conditions: none.
-/
import Derived.Test.YtccgnnnildedoaaLaw08
import Derived.Test.YtccgnnnildedoaaOnP
import Derived.Test.YtccgnnnildedoaaRowsP
set_option linter.unusedVariables false
namespace Go.Proofs.Ytccgnnnildedoaa
open Go.RowKit

theorem shape_infoM : (Try.prog.info? 25).map (fun i => (i.zero, i.size, i.bytes)) = some (some (.agg #[.int .i64 0, .int .i64 0, .bool false, .bool false]), 4, 24) := by kernel_rfl
theorem u64s_infoM : (Try.prog.info? 44).map (fun i => (i.zero, i.size, i.bytes)) = some (some (.slice none 0 0), 1, 24) := by kernel_rfl

def shpCells (S : Shp) : List Value := [.int .i64 (S.p : Nat), .int .i64 (S.d : Nat), .bool S.wk, .bool S.fin]
def shpRow (os : List Obj) : List Value := os.flatMap fun o => shpCells o.shp
theorem shpRow_snoc (os : List Obj) (o : Obj) : shpRow (os ++ [o]) = shpRow os ++ shpCells o.shp := by simp [shpRow]
theorem shpRow_len : ∀ os : List Obj, (shpRow os).length = os.length * 4
  | [] => rfl
  | o :: os => by
    have := shpRow_len os
    simp only [shpRow, List.flatMap_cons, List.length_append, List.length_cons] at this ⊢
    rw [show (shpCells o.shp).length = 4 from rfl]; omega
theorem shpRow_at : ∀ (os : List Obj) (k c : Nat) (o : Obj), os[k]? = some o → c < 4 → (shpRow os)[k * 4 + c]? = (shpCells o.shp)[c]?
  | [], _, _, _, h, _ => by simp at h
  | x :: os, 0, c, o, h, hc => by
    simp at h
    subst h
    simp only [shpRow, List.flatMap_cons, Nat.zero_mul, Nat.zero_add]
    rw [List.getElem?_append_left (by exact hc)]
  | x :: os, k + 1, c, o, h, hc => by
    have h' : os[k]? = some o := by simpa using h
    have ih := shpRow_at os k c o h' hc
    simp only [shpRow, List.flatMap_cons] at ih ⊢
    rw [List.getElem?_append_right (by rw [show (shpCells x.shp).length = 4 from rfl]; omega), show (k + 1) * 4 + c - (shpCells x.shp).length = k * 4 + c by rw [show (shpCells x.shp).length = 4 from rfl]; omega]
    exact ih

/-- The words but the first one of each object, each list in a row of its own. -/
def AllAt (W : World) (base : Nat) (vs : List Value) (os : List Obj) : Prop :=
  vs.length = os.length ∧ ∀ (k : Nat) (v : Value) (o : Obj), vs[k]? = some v → os[k]? = some o → W.ownsRow base 27 1 v o.rest.length (wordCells o.rest)
theorem AllAt.kept {W W' : World} {base : Nat} {vs : List Value} {os : List Obj} {S : Nat → Prop} (h : AllAt W base vs os) (hK : Kept S W W') (hS : ∀ (k : Nat), base ≤ k → (∃ cur, W.heap[k]? = some (.cells cur 27 (0, 0))) → ¬ S k) : AllAt W' base vs os :=
  ⟨h.1, fun k v o hv ho => own_kept2 (h.2 k v o hv ho) hK fun b hb => hS b ((h.2 k v o hv ho).lt b hb).1 (own_type (h.2 k v o hv ho) hb)⟩

theorem all_apart {W : World} {base : Nat} {e : TypeId} {size : Nat} {v : Value} {n : Nat} {xs : List Value} (h : W.ownsRow base e size v n xs) (he : e ≠ 27) (B : Nat) : ∀ k, B ≤ k → (∃ cur, W.heap[k]? = some (.cells cur 27 (0, 0))) → ¬ (fun i => v.ownBlock = some i) k := by
  rintro k _ ⟨c1, h1⟩ hk
  obtain ⟨c2, h2⟩ := own_type h hk
  rw [h1] at h2
  injection h2 with h2
  injection h2 with _ h3
  exact he h3.symm
theorem all_bk {W : World} {X : Nat} {T : TypeId} {cs : Array Value} (hB : Bk W X T cs) (he : T ≠ 27) (B : Nat) : ∀ k, B ≤ k → (∃ cur, W.heap[k]? = some (.cells cur 27 (0, 0))) → ¬ OneBlk X k := by
  rintro k _ ⟨c1, h1⟩ hk
  have e1 : k = X := hk
  subst e1
  unfold Bk at hB
  rw [h1] at hB
  injection hB with hB
  injection hB with _ h3
  exact he h3.symm
theorem all_own {W : World} {base : Nat} {e : TypeId} {size g c : Nat} {n : Nat} {xs : List Value} (h : W.ownsRow base e size (.slice (some ⟨g, 0, none⟩) n c) n xs) (he : e ≠ 27) (B : Nat) : ∀ k, B ≤ k → (∃ cur, W.heap[k]? = some (.cells cur 27 (0, 0))) → ¬ OneBlk g k := by
  intro k hB hc hx
  have e1 : k = g := hx
  subst e1
  exact all_apart h he B k hB hc rfl
theorem AllAt.snoc {W : World} {base : Nat} {vs : List Value} {os : List Obj} {v : Value} {o : Obj} (h : AllAt W base vs os) (hv : W.ownsRow base 27 1 v o.rest.length (wordCells o.rest)) : AllAt W base (vs ++ [v]) (os ++ [o]) := by
  refine ⟨by simp [h.1], fun k u x hu hx => ?_⟩
  rcases Nat.lt_or_ge k vs.length with hlt | hge
  · rw [List.getElem?_append_left hlt] at hu
    rw [List.getElem?_append_left (by rw [← h.1]; exact hlt)] at hx
    exact h.2 k u x hu hx
  · rw [List.getElem?_append_right hge] at hu
    rw [List.getElem?_append_right (by rw [← h.1]; exact hge), ← h.1] at hx
    have h0 : k - vs.length = 0 := by
      rcases Nat.eq_zero_or_pos (k - vs.length) with h | h
      · exact h
      · rw [List.getElem?_eq_none (by simp; omega)] at hu; cases hu
    rw [h0] at hu hx
    simp at hu hx
    subst hu hx
    exact hv

set_option maxRecDepth 100000 in
set_option maxHeartbeats 4000000 in
theorem on_walk8 (A : Option Addr) (len cap : Nat) (w : World) (hlc : len ≤ 9223372036854775807) (hraw : ∀ i, i < len → Raw08 w w.heap.size A i) :
    Calls Try.prog 13 #[.slice A len cap] w fun e w' => e = .returned (.bool true) ∧ Kept NoBlk w w' := by
  have HR := Lib.hid hraw
  clear hraw
  have hp := notStood_shape
  have hm := notGuard_shape
  obtain ⟨i0, hi, hz0, hz1, hz2⟩ := info_parts shape_infoM
  have HI := Lib.hid (And.intro hi (And.intro hz0 (And.intro hz1 hz2)))
  clear hi hz0 hz1 hz2
  obtain ⟨i1, hi, hz0, hz1, hz2⟩ := info_parts u64s_infoM
  have HJ := Lib.hid (And.intro hi (And.intro hz0 (And.intro hz1 hz2)))
  clear hi hz0 hz1 hz2
  have m0 := fun W => new_yes 600 (by omega) (by omega) W
  have hl0 : (List.replicate 600 (0 : Int)).length = 600 := by simp
  generalize List.replicate 600 (0 : Int) = ws0 at *
  go_enter Try.func13, Try.ntmps13
  go_wp2_with fail
  refine (awake08 _).mono ?_
  rintro e w1 ⟨rfl, hK⟩
  have hs1 := hK.size
  go_wp2_with fail
  refine (m0 _).mono ?_
  rintro e w2 ⟨b, g, rfl, hA, hKn, hb, hg⟩
  replace hK := hK.trans hKn
  have hgw : w.heap.size ≤ g := by omega
  clear hKn hb hg
  have hg2 := hA.glt
  have hb2 := hA.blt
  go_wp2_with fail
  refine (lay_yes hA (by omega) (by omega) A len cap w.heap.size hlc (fun i hi => (HR.out i hi).kept hK) hgw (fun _ => newObj ⟨0, 0, false, false⟩ 0)).mono ?_
  rintro e w3 ⟨v, l, t, O, ws, rfl, hown, hl8, _, hA3, hL, hKn⟩
  have hw23 := hKn.size
  replace hK := hK.over hKn (OneBlk.over hgw)
  have hlen := hL.len
  have hR8 := hL.row8
  have htop := hL.top
  clear hKn hA hL
  obtain ⟨os, hos⟩ : ∃ os, l.map O = os := ⟨_, rfl⟩
  rw [hos] at hR8
  have hol := hR8.len
  have hsum := hR8.sum
  obtain ⟨A6, c6, rfl⟩ := own_shape hown
  obtain ⟨N, hN⟩ : ∃ N, l.length = N := ⟨_, rfl⟩
  rw [hN] at hown hl8 hol ⊢
  have hwl : ws.length = 600 := by omega
  have hsum150 : sumTk os ≤ 150 := by omega
  have HWL := Lib.hid hwl
  have HOL := Lib.hid hol
  have HLN := Lib.hid hN
  have H8 := Lib.hid hR8
  clear hos hwl hlen hol hN hR8 hsum
  have hg3 := hA3.glt
  have hb3 := hA3.blt
  go_wp2_with fail
  go_loopw [7, 8, 9] (fun v7 v8 i wr => ∃ (j : Nat) (vs : List Value), j ≤ N ∧ i = .int .i64 j ∧ ArenaAt wr b g ws ∧ wr.ownsRow w2.heap.size 3 1 (.slice A6 N c6) N (intCells (natInts l)) ∧ wr.ownsRow w3.heap.size 25 4 v7 j (shpRow (os.take j)) ∧ wr.ownsRow w3.heap.size 44 1 v8 j vs ∧ AllAt wr w3.heap.size vs (os.take j) ∧ w3.heap.size ≤ wr.heap.size ∧ Kept NoBlk w wr) (fun _ _ i _ => N - (intOf i).toNat)
  case atStart => exact ⟨0, [], by omega, rfl, hA3, hown, World.ownsRow_nil _ _ _ _, World.ownsRow_nil _ _ _ _, ⟨by simp, fun k v o h => by simp at h⟩, Nat.le_refl _, hK⟩
  case round =>
    clear hA3 hown hK
    obtain ⟨j, vs, hj, rfl, hA, hown, h7, h8, hAll, hwr, hK⟩ := hrel
    by_cases hlt : j < N
    · obtain ⟨gv, cv, hvv, hgv0, hgv1⟩ := hown.form (by omega)
      injection hvv with e1 e2 e3
      subst e1
      subst e3
      have hjl : j < l.length := by have := HLN.out; omega
      have hpe : wd (natInts l) j = ((l[j] : Nat) : Int) := by simp [natInts, wd, hjl]
      have hcv : ∀ W : World, W.ownsRow w2.heap.size 3 1 (.slice (some ⟨gv, 0, none⟩) N c6) N (intCells (natInts l)) → W.cell? ⟨gv, j, none⟩ = some (.int .i64 ((l[j] : Nat) : Int)) := fun W h => by rw [← hpe]; exact own_cell h (intCells_at (natInts l) j (by rw [natInts_len]; exact hjl))
      have hpm : l[j] ∈ l := List.getElem_mem _
      have ho := H8.out.obj _ hpm
      have hat := H8.out.at (k := j) (p := l[j]) (List.getElem?_eq_getElem hjl)
      clear hpe hpm
      generalize l[j] = p at *
      have HCV := Lib.hid hcv
      have cv1 := hcv _ hown
      clear hcv
      have htk : os.take (j + 1) = os.take j ++ [O p] := by
        obtain ⟨h1, h2⟩ := List.getElem?_eq_some_iff.1 hat
        rw [List.take_succ_eq_append_getElem h1, h2]
      have HTK := Lib.hid htk
      clear htk hat
      generalize O p = o at *
      have e0 : (0 : Int) ≤ (j : Int) := by omega
      have e1 : (j : Int) < (N : Int) := by omega
      have c1 : ∀ W, ArenaAt W b g ws → _ := fun W hA => oshape_yes hA (by have := HWL.out; omega) ho
      have c2 : ∀ W, ArenaAt W b g ws → _ := fun W hA => words_yes hA (by have := HWL.out; omega) ho
      go_wp2_with fail
      refine (c1 _ hA).mono ?_
      rintro e w4 ⟨rfl, hKn⟩
      have hX := Bk.new w4 25 (#[.int .i64 (o.shp.p : Nat), .int .i64 (o.shp.d : Nat), .bool o.shp.wk, .bool o.shp.fin] : Array Value)
      have hKa := hKn.alloc (.cells #[.int .i64 (o.shp.p : Nat), .int .i64 (o.shp.d : Nat), .bool o.shp.wk, .bool o.shp.fin] 25)
      replace hA := hA.kept hKa id id
      replace hown := own_kept hown hKa (fun _ h => h.elim)
      replace h7 := own_kept h7 hKa (fun _ h => h.elim)
      replace h8 := own_kept h8 hKa (fun _ h => h.elim)
      replace hAll := hAll.kept hKa (fun _ _ _ h => h)
      replace hK := hK.trans hKa
      have hb5 : w3.heap.size ≤ (w4.alloc (.cells #[.int .i64 (o.shp.p : Nat), .int .i64 (o.shp.d : Nat), .bool o.shp.wk, .bool o.shp.fin] 25)).heap.size := by have := hKa.size; omega
      clear hKn hKa cv1
      go_upto_region 12 with fail
      generalize w4.alloc (.cells #[.int .i64 (o.shp.p : Nat), .int .i64 (o.shp.d : Nat), .bool o.shp.wk, .bool o.shp.fin] 25) = w5 at *
      have cX := hX.cell
      have hj9 : j ≤ 1000000000 := by omega
      have hsh : shpCells o.shp = [.int .i64 (o.shp.p : Nat), .int .i64 (o.shp.d : Nat), .bool o.shp.wk, .bool o.shp.fin] := rfl
      have HSH := Lib.hid hsh
      clear hsh
      go_upto_region 13 with (at_builtin; refine wpList_append_row rfl (.tmp 56) (.tmp 58) 70 rfl w3.heap.size 25 i0 (.agg #[.int .i64 0, .int .i64 0, .bool false, .bool false]) 4 24 Try.underlying70 HI.out.1 HI.out.2.1 HI.out.2.2.1 HI.out.2.2.2 rfl (by omega) _ j (shpRow (os.take j)) rfl (h7.alloc _) w5.heap.size 25 [.int .i64 (o.shp.p : Nat), .int .i64 (o.shp.d : Nat), .bool o.shp.wk, .bool o.shp.fin] rfl (Bk.new _ _ _) rfl (by simp [Value.oneCell']) hj9 (by omega) (by simp; omega) ?_; intro g1 cap1 w6 hown6 hK6)
      have hKS := ((Kept.refl (fun k => u7.ownBlock = some k) w5).alloc (.cells #[.int .i64 (o.shp.p : Nat), .int .i64 (o.shp.d : Nat), .bool o.shp.wk, .bool o.shp.fin] 25)).trans hK6
      have hw6 := own_kept2 hown hKS (own_apart hown h7 (by decide))
      have cv6 := HCV.out _ hw6
      have hlow : ∀ i, u7.ownBlock = some i → w3.heap.size ≤ i := fun i h => (h7.lt i h).1
      replace hA := hA.kept hKS (fun h => by have := hlow _ h; omega) (fun h => by have := hlow _ h; omega)
      have h8b := own_kept2 h8 hKS (own_apart h8 h7 (by decide))
      have hAll6 := hAll.kept hKS (all_apart h7 (by decide) _)
      replace hK := hK.over hKS (fun i h => by have := hlow i h; omega)
      have hbw : w3.heap.size ≤ w6.heap.size := by have := hKS.size; omega
      clear hKS hK6 hown h7 h8 hAll cX hX hlow
      go_wp2_with fail
      refine (c2 _ hA).mono ?_
      rintro e w7 ⟨v9, rfl, hown9, hKn⟩
      replace hown9 := own_base hown9 hbw
      replace hA := hA.kept hKn id id
      replace hw6 := own_kept hw6 hKn (fun _ h => h.elim)
      replace hown6 := own_kept hown6 hKn (fun _ h => h.elim)
      replace h8b := own_kept h8b hKn (fun _ h => h.elim)
      replace hAll6 := hAll6.kept hKn (fun _ _ _ h => h)
      replace hK := hK.trans hKn
      have hb7 : w3.heap.size ≤ w7.heap.size := by have := hKn.size; omega
      clear hKn cv6
      obtain ⟨A9, c9, rfl⟩ := own_shape hown9
      go_wp2_with (at_builtin; refine wpList_append_row rfl (.tmp 60) (.tmp 67) 84 rfl w3.heap.size 44 i1 (.slice none 0 0) 1 24 Try.underlying84 HJ.out.1 HJ.out.2.1 HJ.out.2.2.1 HJ.out.2.2.2 rfl (by omega) _ j vs rfl (h8b.alloc _) w7.heap.size 44 [.slice A9 o.rest.length c9] rfl (Bk.new _ _ _) rfl (by simp [Value.oneCell']) hj9 (by omega) (by simp; omega) ?_; intro g2 cap2 w8 hown8 hK8)
      go_roundw
      case rel =>
        have hKS := ((Kept.refl (fun k => u8.ownBlock = some k) w7).alloc (.cells #[.slice A9 o.rest.length c9] 44)).trans hK8
        have hlow : ∀ i, u8.ownBlock = some i → w3.heap.size ≤ i := fun i h => (h8b.lt i h).1
        rw [← HSH.out, ← shpRow_snoc, ← HTK.out] at hown6
        have hA8 := (hAll6.snoc hown9).kept hKS (all_apart h8b (by decide) _)
        rw [← HTK.out] at hA8
        exact ⟨j + 1, vs ++ [.slice A9 o.rest.length c9], by omega, by go_num, hA.kept hKS (fun h => by have := hlow _ h; omega) (fun h => by have := hlow _ h; omega), own_kept2 hw6 hKS (own_apart hw6 h8b (by decide)), own_kept2 hown6 hKS (own_apart hown6 h8b (by decide)), hown8, hA8, by have := hKS.size; omega, hK.over hKS (fun i h => by have := hlow i h; omega)⟩
      case measure => simp [intOf]; omega
    · obtain rfl : j = N := by omega
      have htk : os.take j = os := List.take_of_length_le (by have := HOL.out; omega)
      rw [htk] at h7 hAll
      clear htk hlt hj
      have hvl := hAll.1
      go_wp2_with fail
      go_loopw [13] (fun i wr => ∃ (n : Nat) (ws : List Int) (q : List Nat) (O : Nat → Obj) (bb t : Nat), 1 ≤ n ∧ n ≤ 3 ∧ i = .int .i64 n ∧ Hid (ws.length = 600) ∧ t ≤ 200 * n ∧ Row8 ws bb q t O os ∧ ArenaAt wr b g ws ∧ wr.ownsRow w2.heap.size 3 1 (.slice A6 j c6) j (intCells (natInts q)) ∧ wr.ownsRow w3.heap.size 25 4 u7 j (shpRow os) ∧ wr.ownsRow w3.heap.size 44 1 u8 j vs ∧ AllAt wr w3.heap.size vs os ∧ w3.heap.size ≤ wr.heap.size ∧ Kept NoBlk w wr) (fun i _ => 3 - (intOf i).toNat)
      case atStart => exact ⟨1, ws, l, O, 1, t, by omega, by omega, rfl, HWL, by omega, H8.out, hA, hown, h7, h8, hAll, hwr, hK⟩
      case round =>
        clear hA hown h7 h8 hAll hwr hK HWL H8 htop HLN
        obtain ⟨n, ws, q, O, bb, t, hn1, hn3, rfl, HWL, ht, hR8, hA, hown, h7, h8, hAll, hwr, hK⟩ := hrel
        have hql := hR8.len
        by_cases hlt : n < 3
        · have c1 := fun W => make_yes (b := 200 * (n : Int)) (s := 200) ⟨by omega, by omega, by omega, by omega, by omega, by omega⟩ W
          have H8 := Lib.hid hR8
          have HQL := Lib.hid hql
          clear hR8 hql
          go_wp2_with fail
          refine (c1 _).mono ?_
          rintro e w4 ⟨rfl, hKn⟩
          have hS := Bk.new w4 77 (#[.int .i64 (200 * (n : Int)), .int .i64 200, .int .i64 (200 * (n : Int))] : Array Value)
          have hKa := hKn.alloc (.cells #[.int .i64 (200 * (n : Int)), .int .i64 200, .int .i64 (200 * (n : Int))] 77)
          replace hA := hA.kept hKa id id
          replace hown := own_kept hown hKa (fun _ h => h.elim)
          replace h7 := own_kept h7 hKa (fun _ h => h.elim)
          replace h8 := own_kept h8 hKa (fun _ h => h.elim)
          replace hAll := hAll.kept hKa (fun _ _ _ h => h)
          replace hK := hK.trans hKa
          have hs4 := hKn.size
          have hw34 : w3.heap.size ≤ w4.heap.size := by omega
          clear hKn hKa
          go_wp2_with fail
          go_loopw [16] (fun i wr => ∃ (k : Nat) (ws' : List Int) (r : List Nat) (u : Nat) (R : Nat → Obj), k ≤ j ∧ i = .int .i64 k ∧ Hid (ws'.length = 600) ∧ Half8 ws' bb q t O (200 * n) r u R os k ∧ ArenaAt wr b g ws' ∧ wr.ownsRow w2.heap.size 3 1 (.slice A6 j c6) j (intCells (natInts (r ++ q.drop k))) ∧ Bk wr w4.heap.size 77 #[.int .i64 (200 * (n : Int)), .int .i64 200, .int .i64 (u : Nat)] ∧ wr.ownsRow w3.heap.size 25 4 u7 j (shpRow os) ∧ wr.ownsRow w3.heap.size 44 1 u8 j vs ∧ AllAt wr w3.heap.size vs os ∧ w4.heap.size < wr.heap.size ∧ Kept NoBlk w wr) (fun i _ => j - (intOf i).toNat)
          case atStart => exact ⟨0, ws, [], 200 * n, O, by omega, rfl, HWL, Half8.start H8.out (by omega) O, hA, hown, by simpa using hS, h7, h8, hAll, hS.lt, hK⟩
          case round =>
            clear hA hown h7 h8 hAll hK hS HWL
            clear hwr
            obtain ⟨k, ws', r, u, R, hk, rfl, HWL, hH, hA, hown, hS, h7, h8, hAll, hwr, hK⟩ := hrel
            by_cases hlk : k < j
            · obtain ⟨gv, cv, hvv, hgv0, hgv1⟩ := hown.form (by omega)
              injection hvv with e1 e2 e3
              subst e1
              subst e3
              have hkq : k < q.length := by have := HQL.out; have := HOL.out; omega
              have hqk : q[k]? = some q[k] := List.getElem?_eq_getElem hkq
              have hrl := hH.rlen
              have hcat : (natInts (r ++ q.drop k))[k]? = some ((q[k] : Nat) : Int) := by
                unfold natInts
                rw [List.getElem?_map, List.getElem?_append_right (by omega), hrl, Nat.sub_self, List.getElem?_drop, Nat.add_zero, hqk]; rfl
              have hset : (intCells (natInts (r ++ q.drop k))).set k (.int .i64 (u : Nat)) = intCells (natInts ((r ++ [u]) ++ q.drop (k + 1))) := by
                unfold intCells natInts
                rw [List.drop_eq_getElem_cons hkq]
                simp only [List.map_append, List.map_cons]
                rw [List.set_append_right _ _ (by simp [hrl])]
                simp [hrl]
              have hcell : ∀ W : World, W.ownsRow w2.heap.size 3 1 (.slice (some ⟨gv, 0, none⟩) j c6) j (intCells (natInts (r ++ q.drop k))) → W.cell? ⟨gv, k, none⟩ = some (.int .i64 ((q[k] : Nat) : Int)) := fun W h => by
                refine own_cell h ?_
                unfold intCells
                rw [List.getElem?_map, hcat]; rfl
              have hobj := hH.obj k q[k] (Nat.le_refl _) hqk
              have hroom := hH.room hqk
              have hstep := fun ws'' (h1 : ws''.length = ws'.length) => hH.step (ws' := ws'') hqk h1
              have hpq : q[k] < t := by
                have h1 := Laid.mem hH.laid (List.getElem_mem hkq)
                have h2 := (hH.tkq q[k] (List.getElem_mem hkq)).1
                omega
              have hcu := Laid.le hH.new.laid
              have hszt := (hH.tkq q[k] (List.getElem_mem hkq)).2
              clear hqk hcat hH
              generalize q[k] = p at *
              generalize O p = o at *
              have HSTEP := Lib.hid hstep
              have HSET := Lib.hid hset
              have HCELL := Lib.hid hcell
              clear hstep hset hcell hrl hkq
              have c3 : ∀ W, ArenaAt W b g ws' → _ := fun W hA => copy_yes hA (by have := HWL.out; omega) hobj (t := u) (b0 := 200 * (n : Int)) (s0 := 200) ⟨by omega, by omega, by omega, by omega, by omega, by omega⟩ (by omega) (by omega) (by have := HWL.out; omega) (.inl (by omega))
              have e0 : (0 : Int) ≤ (k : Int) := by omega
              have e1 : (k : Int) < (j : Int) := by omega
              have neg : ∀ x, g ≠ x → ¬ OneBlk g x := fun x h h2 => h (show x = g from h2).symm
              have cv1 := HCELL.out _ hown
              have neGv : ¬ OneBlk g gv := neg gv (by omega)
              have neW4 : ¬ OneBlk g w4.heap.size := neg _ (by omega)
              clear hobj
              go_upto_region 21 with fail
              go_cut [17, 18, 19] from 79 to 102 (fun x17 x18 x19 wx => ∃ xb ws'', x17 = .pointer (some ⟨xb, 0, none⟩) ∧ x18 = .int .i64 (u : Nat) ∧ x19 = .int .i64 0 ∧ w4.heap.size < xb ∧ Bk wx xb 77 #[.int .i64 (200 * (n : Int)), .int .i64 200, .int .i64 ((u + o.shp.tk : Nat) : Int)] ∧ ws''.length = ws'.length ∧ ObjAt ws'' u o ∧ (∀ i, i ≠ p → (i < u ∨ u + o.size ≤ i) → wd ws'' i = wd ws' i) ∧ ArenaAt wx b g ws'' ∧ wx.ownsRow w2.heap.size 3 1 (.slice (some ⟨gv, 0, none⟩) j c6) j (intCells (natInts (r ++ q.drop k))) ∧ Bk wx w4.heap.size 77 #[.int .i64 (200 * (n : Int)), .int .i64 200, .int .i64 (u : Nat)] ∧ wx.ownsRow w3.heap.size 25 4 u7 j (shpRow os) ∧ wx.ownsRow w3.heap.size 44 1 u8 j vs ∧ AllAt wx w3.heap.size vs os ∧ Kept NoBlk w wx)
              case first =>
                refine wp_region_held_drew (S := (fun V => V.cell? ⟨gv, k, none⟩ = some (.int .i64 (p : Nat)) ∧ V.cell? ⟨w4.heap.size, 0, none⟩ = some (.int .i64 (200 * (n : Int))) ∧ V.cell? ⟨w4.heap.size, 1, none⟩ = some (.int .i64 200) ∧ V.cell? ⟨w4.heap.size, 2, none⟩ = some (.int .i64 (u : Nat)))) (by kernel_rfl) (by ((try dsimp only); exact ⟨cv1, hS.cell 0, hS.cell 1, hS.cell 2⟩)) (fun hHeld => ?_)
                clear cv1
                replace hA := hA.drew
                replace hown := World.ownsRow.drew hown
                replace hS := hS.drew
                replace h7 := World.ownsRow.drew h7
                replace h8 := World.ownsRow.drew h8
                replace hAll := hAll.kept (Kept.refl NoBlk wr).drew (fun _ _ _ h => h)
                replace hK := hK.drew
                have hwr2 : w4.heap.size < wr.drew.heap.size := hwr
                clear hwr
                generalize wr.drew = v5 at *
                ((first
                  | (refine wpAnyH_takeL (i := 0) (v := ?hv1) rfl (by kernel_rfl) (by kernel_rfl) (by kernel_rfl) (fun _ _ _ h => h) (Or.inl (And.intro ?hw1 ?hy1)) (by assumption) ?rest1
                     case hw1 => rfl
                     case hy1 => (intro wHy hSw; (try dsimp only at hSw); go_simp; (first | done | with_reducible rfl)))
                  | (refine wpAnyH_takeL (i := 0) (v := undef) rfl (by kernel_rfl) (by kernel_rfl) (by kernel_rfl) (fun _ _ _ h => h) (Or.inr (And.intro (by rfl) rfl)) (by assumption) ?rest1x))
                 (try simp only [Act.put, List.setIfInBounds_toArray, List.set_cons_zero, List.set_cons_succ]))
                ((first
                  | (refine wpAnyH_takeL (i := 1) (v := ?hv2) rfl (by kernel_rfl) (by kernel_rfl) (by kernel_rfl) (fun _ _ _ h => h) (Or.inl (And.intro ?hw2 ?hy2)) (by assumption) ?rest2
                     case hw2 => rfl
                     case hy2 => (intro wHy hSw; (try dsimp only at hSw); go_simp; (first | done | with_reducible rfl)))
                  | (refine wpAnyH_takeL (i := 1) (v := undef) rfl (by kernel_rfl) (by kernel_rfl) (by kernel_rfl) (fun _ _ _ h => h) (Or.inr (And.intro (by rfl) rfl)) (by assumption) ?rest2x))
                 (try simp only [Act.put, List.setIfInBounds_toArray, List.set_cons_zero, List.set_cons_succ]))
                ((first
                  | (refine wpAnyH_takeL (i := 2) (v := ?hv3) rfl (by kernel_rfl) (by kernel_rfl) (by kernel_rfl) (fun _ _ _ h => h) (Or.inl (And.intro ?hw3 ?hy3)) (by assumption) ?rest3
                     case hw3 => rfl
                     case hy3 => (intro wHy hSw; (try dsimp only at hSw); go_simp; (first | done | with_reducible rfl)))
                  | (refine wpAnyH_takeL (i := 2) (v := undef) rfl (by kernel_rfl) (by kernel_rfl) (by kernel_rfl) (fun _ _ _ h => h) (Or.inr (And.intro (by rfl) rfl)) (by assumption) ?rest3x))
                 (try simp only [Act.put, List.setIfInBounds_toArray, List.set_cons_zero, List.set_cons_succ]))
                ((first
                  | (refine wpAnyH_takeL (i := 3) (v := ?hv4) rfl (by kernel_rfl) (by kernel_rfl) (by kernel_rfl) (fun _ _ _ h => h) (Or.inl (And.intro ?hw4 ?hy4)) (by assumption) ?rest4
                     case hw4 => rfl
                     case hy4 => (intro wHy hSw; (try dsimp only at hSw); go_simp; (first | done | with_reducible rfl)))
                  | (refine wpAnyH_takeL (i := 3) (v := undef) rfl (by kernel_rfl) (by kernel_rfl) (by kernel_rfl) (fun _ _ _ h => h) (Or.inr (And.intro (by rfl) rfl)) (by assumption) ?rest4x))
                 (try simp only [Act.put, List.setIfInBounds_toArray, List.set_cons_zero, List.set_cons_succ]))
                ((first
                  | (refine wpAnyH_takeL (i := 4) (v := ?hv5) rfl (by kernel_rfl) (by kernel_rfl) (by kernel_rfl) (fun _ _ _ h => h) (Or.inl (And.intro ?hw5 ?hy5)) (by assumption) ?rest5
                     case hw5 => rfl
                     case hy5 => (intro wHy hSw; (try dsimp only at hSw); go_simp; (first | done | with_reducible rfl)))
                  | (refine wpAnyH_takeL (i := 4) (v := undef) rfl (by kernel_rfl) (by kernel_rfl) (by kernel_rfl) (fun _ _ _ h => h) (Or.inr (And.intro (by rfl) rfl)) (by assumption) ?rest5x))
                 (try simp only [Act.put, List.setIfInBounds_toArray, List.set_cons_zero, List.set_cons_succ]))
                ((first
                  | (refine wpAnyH_takeL (i := 5) (v := ?hv6) rfl (by kernel_rfl) (by kernel_rfl) (by kernel_rfl) (fun _ _ _ h => h) (Or.inl (And.intro ?hw6 ?hy6)) (by assumption) ?rest6
                     case hw6 => rfl
                     case hy6 => (intro wHy hSw; (try dsimp only at hSw); go_simp; (first | done | with_reducible rfl)))
                  | (refine wpAnyH_takeL (i := 5) (v := undef) rfl (by kernel_rfl) (by kernel_rfl) (by kernel_rfl) (fun _ _ _ h => h) (Or.inr (And.intro (by rfl) rfl)) (by assumption) ?rest6x))
                 (try simp only [Act.put, List.setIfInBounds_toArray, List.set_cons_zero, List.set_cons_succ]))
                obtain ⟨d0, d1, d2, d3⟩ := hHeld
                have hgv5 : gv < v5.heap.size := (hown.lt gv rfl).2
                have ovn := fun b h => (hown.lt b h)
                have ov7 := fun b h => (h7.lt b h)
                have ov8 := fun b h => (h8.lt b h)
                refine wpAnyH_ready (rs := [6, 11]) (by kernel_rfl) (by simp) (AllReadyH.consL rfl (fun K hKcc => ?_) (AllReadyH.consL rfl (fun K hKcc => ?_) AllReadyH.nil))
                · go_simp
                  refine (c3 _ hA).mono ?_; rintro e w6 ⟨rfl, ws'', hA6, hl6, ho6, hg6, hf6, hKn⟩
                  refine hKcc.out _ _ ?held7 (fun hHeld => ?_)
                  case held7 => ((try dsimp only); exact ⟨hKn.cell (p := ⟨gv, _, none⟩) neGv d0, hKn.cell (p := ⟨w4.heap.size, _, none⟩) neW4 d1, hKn.cell (p := ⟨w4.heap.size, _, none⟩) neW4 d2, hKn.cell (p := ⟨w4.heap.size, _, none⟩) neW4 d3⟩)
                  clear hKcc K
                  (try simp only [Act.put, List.setIfInBounds_toArray, List.set_cons_zero, List.set_cons_succ])
                  replace hown := own_kept2 hown hKn (fun b h => neg _ (by have := (ovn b h).1; omega))
                  replace h7 := own_kept2 h7 hKn (fun b h => neg _ (by have := (ov7 b h).1; omega))
                  replace h8 := own_kept2 h8 hKn (fun b h => neg _ (by have := (ov8 b h).1; omega))
                  replace hS := hS.kept hKn (neg _ (by omega))
                  replace hAll := hAll.kept hKn (fun x hx _ => neg x (by omega))
                  replace hK := hK.over hKn (OneBlk.over hgw)
                  have hs56 := hKn.size
                  replace d0 := hKn.cell (p := ⟨gv, _, none⟩) neGv d0
                  replace d1 := hKn.cell (p := ⟨w4.heap.size, _, none⟩) neW4 d1
                  replace d2 := hKn.cell (p := ⟨w4.heap.size, _, none⟩) neW4 d2
                  replace d3 := hKn.cell (p := ⟨w4.heap.size, _, none⟩) neW4 d3
                  clear hKn
                  ((first
                    | (refine wpAnyH_takeL (i := 7) (v := ?hv8) rfl (by kernel_rfl) (by kernel_rfl) (by kernel_rfl) (fun _ _ _ h => h) (Or.inl (And.intro ?hw8 ?hy8)) (by assumption) ?rest8
                       case hw8 => rfl
                       case hy8 => (intro wHy hSw; (try dsimp only at hSw); go_simp; (first | done | with_reducible rfl)))
                    | (refine wpAnyH_takeL (i := 7) (v := undef) rfl (by kernel_rfl) (by kernel_rfl) (by kernel_rfl) (fun _ _ _ h => h) (Or.inr (And.intro (by rfl) rfl)) (by assumption) ?rest8x))
                   (try simp only [Act.put, List.setIfInBounds_toArray, List.set_cons_zero, List.set_cons_succ]))
                  ((first
                    | (refine wpAnyH_takeL (i := 8) (v := ?hv9) rfl (by kernel_rfl) (by kernel_rfl) (by kernel_rfl) (fun _ _ _ h => h) (Or.inl (And.intro ?hw9 ?hy9)) (by assumption) ?rest9
                       case hw9 => rfl
                       case hy9 => (intro wHy hSw; (try dsimp only at hSw); go_simp; (first | done | with_reducible rfl)))
                    | (refine wpAnyH_takeL (i := 8) (v := undef) rfl (by kernel_rfl) (by kernel_rfl) (by kernel_rfl) (fun _ _ _ h => h) (Or.inr (And.intro (by rfl) rfl)) (by assumption) ?rest9x))
                   (try simp only [Act.put, List.setIfInBounds_toArray, List.set_cons_zero, List.set_cons_succ]))
                  ((first
                    | (refine wpAnyH_takeL (i := 9) (v := ?hv10) rfl (by kernel_rfl) (by kernel_rfl) (by kernel_rfl) (fun _ _ _ h => h) (Or.inl (And.intro ?hw10 ?hy10)) (by assumption) ?rest10
                       case hw10 => rfl
                       case hy10 => (intro wHy hSw; (try dsimp only at hSw); go_simp; (first | done | with_reducible rfl)))
                    | (refine wpAnyH_takeL (i := 9) (v := undef) rfl (by kernel_rfl) (by kernel_rfl) (by kernel_rfl) (fun _ _ _ h => h) (Or.inr (And.intro (by rfl) rfl)) (by assumption) ?rest10x))
                   (try simp only [Act.put, List.setIfInBounds_toArray, List.set_cons_zero, List.set_cons_succ]))
                  ((first
                    | (refine wpAnyH_takeL (i := 10) (v := ?hv11) rfl (by kernel_rfl) (by kernel_rfl) (by kernel_rfl) (fun _ _ _ h => h) (Or.inl (And.intro ?hw11 ?hy11)) (by assumption) ?rest11
                       case hw11 => rfl
                       case hy11 => (intro wHy hSw; (try dsimp only at hSw); go_simp; (first | done | with_reducible rfl)))
                    | (refine wpAnyH_takeL (i := 10) (v := undef) rfl (by kernel_rfl) (by kernel_rfl) (by kernel_rfl) (fun _ _ _ h => h) (Or.inr (And.intro (by rfl) rfl)) (by assumption) ?rest11x))
                   (try simp only [Act.put, List.setIfInBounds_toArray, List.set_cons_zero, List.set_cons_succ]))
                  clear hHeld
                  refine wpAnyH_ready (rs := [11]) (by kernel_rfl) (by simp) (AllReadyH.consL rfl (fun K hKcc => ?_) AllReadyH.nil)
                  go_simp
                  refine hKcc.out _ _ ?held12 (fun hHeld => ?_)
                  case held12 => ((try dsimp only); exact ⟨alloc_cell d0 _, alloc_cell d1 _, alloc_cell d2 _, alloc_cell d3 _⟩)
                  clear hKcc K
                  (try simp only [Act.put, List.setIfInBounds_toArray, List.set_cons_zero, List.set_cons_succ])
                  clear hHeld
                  have hT := Bk.new w6 77 (#[.int .i64 0, .int .i64 0, .int .i64 0] : Array Value)
                  have fT := hT.frozen
                  have cT := hT.cell
                  refine wpAnyH_ready (rs := [12]) (by kernel_rfl) (by simp) (AllReadyH.consL rfl (fun K hKcc => ?_) AllReadyH.nil)
                  go_simp
                  refine hKcc.out _ _ ?held13 (fun hHeld => ?_)
                  case held13 => ((try dsimp only); exact ⟨alloc_cell d0 _, alloc_cell d1 _, alloc_cell d2 _, alloc_cell d3 _⟩)
                  clear hKcc K
                  (try simp only [Act.put, List.setIfInBounds_toArray, List.set_cons_zero, List.set_cons_succ])
                  ((first
                    | (refine wpAnyH_takeL (i := 13) (v := ?hv14) rfl (by kernel_rfl) (by kernel_rfl) (by kernel_rfl) (fun _ _ _ h => h) (Or.inl (And.intro ?hw14 ?hy14)) (by assumption) ?rest14
                       case hw14 => rfl
                       case hy14 => (intro wHy hSw; (try dsimp only at hSw); go_simp; (first | done | with_reducible rfl)))
                    | (refine wpAnyH_takeL (i := 13) (v := undef) rfl (by kernel_rfl) (by kernel_rfl) (by kernel_rfl) (fun _ _ _ h => h) (Or.inr (And.intro (by rfl) rfl)) (by assumption) ?rest14x))
                   (try simp only [Act.put, List.setIfInBounds_toArray, List.set_cons_zero, List.set_cons_succ]))
                  ((first
                    | (refine wpAnyH_takeL (i := 14) (v := ?hv15) rfl (by kernel_rfl) (by kernel_rfl) (by kernel_rfl) (fun _ _ _ h => h) (Or.inl (And.intro ?hw15 ?hy15)) (by assumption) ?rest15
                       case hw15 => rfl
                       case hy15 => (intro wHy hSw; (try dsimp only at hSw); go_simp; (first | done | with_reducible rfl)))
                    | (refine wpAnyH_takeL (i := 14) (v := undef) rfl (by kernel_rfl) (by kernel_rfl) (by kernel_rfl) (fun _ _ _ h => h) (Or.inr (And.intro (by rfl) rfl)) (by assumption) ?rest15x))
                   (try simp only [Act.put, List.setIfInBounds_toArray, List.set_cons_zero, List.set_cons_succ]))
                  clear hHeld
                  refine wpAnyH_done (by kernel_rfl) ?_ _
                  go_wp2_with fail
                  go_meet
                  case rel =>
                    exact ⟨w6.heap.size, ws'', rfl, rfl, rfl, by omega, Bk.new w6 _ _, hl6, ho6, hf6, hA6.alloc _, hown.alloc _, hS.alloc _, h7.alloc _, h8.alloc _, hAll.kept ((Kept.refl NoBlk w6).alloc _) (fun _ _ _ h => h), hK.alloc _⟩
                · go_simp
                  refine hKcc.out _ _ ?held16 (fun hHeld => ?_)
                  case held16 => ((try dsimp only); exact ⟨alloc_cell d0 _, alloc_cell d1 _, alloc_cell d2 _, alloc_cell d3 _⟩)
                  clear hKcc K
                  (try simp only [Act.put, List.setIfInBounds_toArray, List.set_cons_zero, List.set_cons_succ])
                  clear hHeld
                  have hT := Bk.new v5 77 (#[.int .i64 0, .int .i64 0, .int .i64 0] : Array Value)
                  replace hA := hA.alloc (.cells #[.int .i64 0, .int .i64 0, .int .i64 0] 77)
                  replace hown := hown.alloc (.cells #[.int .i64 0, .int .i64 0, .int .i64 0] 77)
                  replace h7 := h7.alloc (.cells #[.int .i64 0, .int .i64 0, .int .i64 0] 77)
                  replace h8 := h8.alloc (.cells #[.int .i64 0, .int .i64 0, .int .i64 0] 77)
                  replace hS := hS.alloc (.cells #[.int .i64 0, .int .i64 0, .int .i64 0] 77)
                  replace hAll := hAll.kept ((Kept.refl NoBlk v5).alloc (.cells #[.int .i64 0, .int .i64 0, .int .i64 0] 77)) (fun _ _ _ h => h)
                  replace hK := hK.alloc (.cells #[.int .i64 0, .int .i64 0, .int .i64 0] 77)
                  replace d0 := alloc_cell d0 (.cells #[.int .i64 0, .int .i64 0, .int .i64 0] 77)
                  replace d1 := alloc_cell d1 (.cells #[.int .i64 0, .int .i64 0, .int .i64 0] 77)
                  replace d2 := alloc_cell d2 (.cells #[.int .i64 0, .int .i64 0, .int .i64 0] 77)
                  replace d3 := alloc_cell d3 (.cells #[.int .i64 0, .int .i64 0, .int .i64 0] 77)
                  have hT0 := hT.lt
                  obtain ⟨v5s, hv5⟩ : ∃ n, n = v5.heap.size := ⟨_, rfl⟩
                  have ovn7 : ∀ b, u7.ownBlock = some b → w3.heap.size ≤ b ∧ b < v5.heap.size := ov7
                  refine wpAnyH_ready (rs := [6]) (by kernel_rfl) (by simp) (AllReadyH.consL rfl (fun K hKcc => ?_) AllReadyH.nil)
                  go_simp
                  refine (c3 _ hA).mono ?_; rintro e w6 ⟨rfl, ws'', hA6, hl6, ho6, hg6, hf6, hKn⟩
                  refine hKcc.out _ _ ?held17 (fun hHeld => ?_)
                  case held17 => ((try dsimp only); exact ⟨hKn.cell (p := ⟨gv, _, none⟩) neGv d0, hKn.cell (p := ⟨w4.heap.size, _, none⟩) neW4 d1, hKn.cell (p := ⟨w4.heap.size, _, none⟩) neW4 d2, hKn.cell (p := ⟨w4.heap.size, _, none⟩) neW4 d3⟩)
                  clear hKcc K
                  (try simp only [Act.put, List.setIfInBounds_toArray, List.set_cons_zero, List.set_cons_succ])
                  replace hT := hT.kept hKn (neg _ (by omega))
                  replace hown := own_kept2 hown hKn (fun b h => neg _ (by have := (ovn b h).1; omega))
                  replace h7 := own_kept2 h7 hKn (fun b h => neg _ (by have := (ov7 b h).1; omega))
                  replace h8 := own_kept2 h8 hKn (fun b h => neg _ (by have := (ov8 b h).1; omega))
                  replace hS := hS.kept hKn (neg _ (by omega))
                  replace hAll := hAll.kept hKn (fun x hx _ => neg x (by omega))
                  replace hK := hK.over hKn (OneBlk.over hgw)
                  have hs56 := hKn.size
                  replace d0 := hKn.cell (p := ⟨gv, _, none⟩) neGv d0
                  replace d1 := hKn.cell (p := ⟨w4.heap.size, _, none⟩) neW4 d1
                  replace d2 := hKn.cell (p := ⟨w4.heap.size, _, none⟩) neW4 d2
                  replace d3 := hKn.cell (p := ⟨w4.heap.size, _, none⟩) neW4 d3
                  clear hKn
                  ((first
                    | (refine wpAnyH_takeL (i := 7) (v := ?hv18) rfl (by kernel_rfl) (by kernel_rfl) (by kernel_rfl) (fun _ _ _ h => h) (Or.inl (And.intro ?hw18 ?hy18)) (by assumption) ?rest18
                       case hw18 => rfl
                       case hy18 => (intro wHy hSw; (try dsimp only at hSw); go_simp; (first | done | with_reducible rfl)))
                    | (refine wpAnyH_takeL (i := 7) (v := undef) rfl (by kernel_rfl) (by kernel_rfl) (by kernel_rfl) (fun _ _ _ h => h) (Or.inr (And.intro (by rfl) rfl)) (by assumption) ?rest18x))
                   (try simp only [Act.put, List.setIfInBounds_toArray, List.set_cons_zero, List.set_cons_succ]))
                  ((first
                    | (refine wpAnyH_takeL (i := 8) (v := ?hv19) rfl (by kernel_rfl) (by kernel_rfl) (by kernel_rfl) (fun _ _ _ h => h) (Or.inl (And.intro ?hw19 ?hy19)) (by assumption) ?rest19
                       case hw19 => rfl
                       case hy19 => (intro wHy hSw; (try dsimp only at hSw); go_simp; (first | done | with_reducible rfl)))
                    | (refine wpAnyH_takeL (i := 8) (v := undef) rfl (by kernel_rfl) (by kernel_rfl) (by kernel_rfl) (fun _ _ _ h => h) (Or.inr (And.intro (by rfl) rfl)) (by assumption) ?rest19x))
                   (try simp only [Act.put, List.setIfInBounds_toArray, List.set_cons_zero, List.set_cons_succ]))
                  ((first
                    | (refine wpAnyH_takeL (i := 9) (v := ?hv20) rfl (by kernel_rfl) (by kernel_rfl) (by kernel_rfl) (fun _ _ _ h => h) (Or.inl (And.intro ?hw20 ?hy20)) (by assumption) ?rest20
                       case hw20 => rfl
                       case hy20 => (intro wHy hSw; (try dsimp only at hSw); go_simp; (first | done | with_reducible rfl)))
                    | (refine wpAnyH_takeL (i := 9) (v := undef) rfl (by kernel_rfl) (by kernel_rfl) (by kernel_rfl) (fun _ _ _ h => h) (Or.inr (And.intro (by rfl) rfl)) (by assumption) ?rest20x))
                   (try simp only [Act.put, List.setIfInBounds_toArray, List.set_cons_zero, List.set_cons_succ]))
                  ((first
                    | (refine wpAnyH_takeL (i := 10) (v := ?hv21) rfl (by kernel_rfl) (by kernel_rfl) (by kernel_rfl) (fun _ _ _ h => h) (Or.inl (And.intro ?hw21 ?hy21)) (by assumption) ?rest21
                       case hw21 => rfl
                       case hy21 => (intro wHy hSw; (try dsimp only at hSw); go_simp; (first | done | with_reducible rfl)))
                    | (refine wpAnyH_takeL (i := 10) (v := undef) rfl (by kernel_rfl) (by kernel_rfl) (by kernel_rfl) (fun _ _ _ h => h) (Or.inr (And.intro (by rfl) rfl)) (by assumption) ?rest21x))
                   (try simp only [Act.put, List.setIfInBounds_toArray, List.set_cons_zero, List.set_cons_succ]))
                  clear hHeld
                  have fT := hT.frozen
                  have cT := hT.cell
                  have k3 := set3_one w6 v5.heap.size (.int .i64 (200 * (n : Int))) (.int .i64 200) (.int .i64 ((u + o.shp.tk : Nat) : Int))
                  have ne3 : ∀ x, x < v5.heap.size → ¬ OneBlk v5.heap.size x := fun x h h2 => by have h3 : x = v5.heap.size := h2; omega
                  have hv9 : w4.heap.size < v5.heap.size := by omega
                  have hg9 : g < v5.heap.size := by omega
                  have hb9 : b < v5.heap.size := by omega
                  clear hT0
                  refine wpAnyH_ready (rs := [12]) (by kernel_rfl) (by simp) (AllReadyH.consL rfl (fun K hKcc => ?_) AllReadyH.nil)
                  go_simp
                  refine hKcc.out _ _ ?held22 (fun hHeld => ?_)
                  case held22 => ((try dsimp only); exact ⟨k3.cell (p := ⟨gv, _, none⟩) (ne3 gv hgv5) d0, k3.cell (p := ⟨w4.heap.size, _, none⟩) (ne3 w4.heap.size hv9) d1, k3.cell (p := ⟨w4.heap.size, _, none⟩) (ne3 w4.heap.size hv9) d2, k3.cell (p := ⟨w4.heap.size, _, none⟩) (ne3 w4.heap.size hv9) d3⟩)
                  clear hKcc K
                  (try simp only [Act.put, List.setIfInBounds_toArray, List.set_cons_zero, List.set_cons_succ])
                  ((first
                    | (refine wpAnyH_takeL (i := 13) (v := ?hv23) rfl (by kernel_rfl) (by kernel_rfl) (by kernel_rfl) (fun _ _ _ h => h) (Or.inl (And.intro ?hw23 ?hy23)) (by assumption) ?rest23
                       case hw23 => rfl
                       case hy23 => (intro wHy hSw; (try dsimp only at hSw); go_simp; (first | done | with_reducible rfl)))
                    | (refine wpAnyH_takeL (i := 13) (v := undef) rfl (by kernel_rfl) (by kernel_rfl) (by kernel_rfl) (fun _ _ _ h => h) (Or.inr (And.intro (by rfl) rfl)) (by assumption) ?rest23x))
                   (try simp only [Act.put, List.setIfInBounds_toArray, List.set_cons_zero, List.set_cons_succ]))
                  ((first
                    | (refine wpAnyH_takeL (i := 14) (v := ?hv24) rfl (by kernel_rfl) (by kernel_rfl) (by kernel_rfl) (fun _ _ _ h => h) (Or.inl (And.intro ?hw24 ?hy24)) (by assumption) ?rest24
                       case hw24 => rfl
                       case hy24 => (intro wHy hSw; (try dsimp only at hSw); go_simp; (first | done | with_reducible rfl)))
                    | (refine wpAnyH_takeL (i := 14) (v := undef) rfl (by kernel_rfl) (by kernel_rfl) (by kernel_rfl) (fun _ _ _ h => h) (Or.inr (And.intro (by rfl) rfl)) (by assumption) ?rest24x))
                   (try simp only [Act.put, List.setIfInBounds_toArray, List.set_cons_zero, List.set_cons_succ]))
                  clear hHeld
                  refine wpAnyH_done (by kernel_rfl) ?_ _
                  go_wp2_with fail
                  go_meet
                  case rel =>
                    exact ⟨v5.heap.size, ws'', rfl, rfl, rfl, hv9, set3_bk hT _ _ _, hl6, ho6, hf6, hA6.kept k3 (ne3 _ hb9) (ne3 _ hg9), own_kept2 hown k3 (fun b h => ne3 _ (ovn b h).2), hS.kept k3 (ne3 _ hv9), own_kept2 h7 k3 (fun b h => ne3 _ (ov7 b h).2), own_kept2 h8 k3 (fun b h => ne3 _ (ov8 b h).2), hAll.kept k3 (all_bk hT (by decide) _), hK.over k3 (OneBlk.over (by omega))⟩
              case rest =>
                clear hA hown hS h7 h8 hAll hK cv1 hwr
                obtain ⟨xb, ws'', rfl, rfl, rfl, hxb, hT, hl6, ho6, hf6, hA, hown, hS, h7, h8, hAll, hK⟩ := hcut
                have cT := hT.cell
                have cS := hS.cell
                have fS := hS.frozen
                have hAg := hA.glt
                go_upto_region 25 with fail
                have k3 := set3_one wc w4.heap.size (.int .i64 (200 * (n : Int))) (.int .i64 200) (.int .i64 ((u : Int) + o.shp.tk))
                have hS7 := set3_bk hS (.int .i64 (200 * (n : Int))) (.int .i64 200) (.int .i64 ((u : Int) + o.shp.tk))
                replace hA := hA.kept k3 (fun h => by have h2 : b = w4.heap.size := h; omega) (fun h => by have h2 : g = w4.heap.size := h; omega)
                replace hown := own_kept2 hown k3 (own_bk hown hS (by decide))
                replace h7 := own_kept2 h7 k3 (own_bk h7 hS (by decide))
                replace h8 := own_kept2 h8 k3 (own_bk h8 hS (by decide))
                replace hAll := hAll.kept k3 (all_bk hS (by decide) _)
                replace hK := hK.over k3 (OneBlk.over (by omega))
                clear hS cT cS fS hT k3
                generalize ((wc.setCell ⟨w4.heap.size, 0, none⟩ (.int .i64 (200 * (n : Int)))).setCell ⟨w4.heap.size, 1, none⟩ (.int .i64 200)).setCell ⟨w4.heap.size, 2, none⟩ (.int .i64 ((u : Int) + o.shp.tk)) = w8 at *
                have cv8 := HCELL.out _ hown
                have fv8 := World.ownsRow.frozenAt hown k
                go_wp2
                go_roundw
                case rel =>
                  have k1 := set1_one w8 gv k (.int .i64 (u : Nat))
                  have hown9 := own_store hown k (.int .i64 (u : Nat))
                  rw [HSET.out] at hown9
                  have hw48 := hS7.lt
                  have hbk : gv ≠ w4.heap.size := fun e => own_bk hown hS7 (by decide) gv rfl e
                  exact ⟨k + 1, ws'', r ++ [u], u + o.shp.tk, upd R u o, by omega, by go_num, (by show _ = _; rw [hl6]; exact HWL.out), HSTEP.out ws'' hl6 ho6 hf6, hA.kept k1 (fun h => by have h2 : b = gv := h; omega) (fun h => by have h2 : g = gv := h; omega), hown9, (by have := hS7.kept k1 (fun h => hbk (show w4.heap.size = gv from h).symm); simpa using this), own_kept2 h7 k1 (own_own h7 hown (by decide)), own_kept2 h8 k1 (own_own h8 hown (by decide)), hAll.kept k1 (all_own hown (by decide) _), by have := k1.size; omega, hK.over k1 (OneBlk.over (by omega))⟩
                case measure => simp [intOf]; omega
            · obtain rfl : k = j := by omega
              have hke : k = os.length := HOL.out
              have hR := hH
              rw [hke] at hR
              have hR9 := hR.end_
              have hrl := hH.rlen
              have hcu := Laid.le hR9.laid
              have hsm := hR9.sum
              have hdr : q.drop k = [] := List.drop_eq_nil_of_le (by have := HQL.out; omega)
              rw [hdr, List.append_nil] at hown
              have c5 : ∀ W, ArenaAt W b g ws' → _ := fun W hA => walk_yes hA (by have := HWL.out; omega) (s0 := 200) hR9.laid ⟨by omega, by omega, by omega, by omega, by omega, by omega⟩ (fun p hp => .inl ⟨R p, hR9.obj p hp, rfl⟩) (fun p hp => (hR9.obj p hp).ok.shp)
              rw [hrl, show ((200 * n : Nat) : Int) = 200 * (n : Int) by omega] at c5
              have HR9 := Lib.hid hR9
              have hu2 : u ≤ 200 * (n + 1) := by omega
              clear hR hke hrl hcu hsm hdr hH hR9 hlk
              have cS := hS.cell
              go_wp2_with fail
              refine (c5 _ hA).mono ?_
              rintro e w8 ⟨v, rfl, hownW, hKn⟩
              replace hA := hA.kept hKn id id
              replace hown := own_kept hown hKn (fun _ h => h.elim)
              replace h7 := own_kept h7 hKn (fun _ h => h.elim)
              replace h8 := own_kept h8 hKn (fun _ h => h.elim)
              replace hAll := hAll.kept hKn (fun _ _ _ h => h)
              replace hK := hK.trans hKn
              have hs8 := hKn.size
              clear hKn cS hS
              obtain ⟨Aw, cw, rfl⟩ := own_shape hownW
              have s1 := Sl.ownI hownW
              have s2 := Sl.ownI hown
              have c6' := fun W => ints_yes (w := W) (A := Aw) (B := A6) (c := cw) (d := c6) (f := wd (natInts r)) (n := k) (by omega)
              go_wp2_with fail
              refine (c6' _ s1 s2).mono ?_
              rintro e w9 ⟨rfl, hKn⟩
              go_wp2
              go_roundw
              case rel => exact ⟨n + 1, ws', r, R, 200 * n, u, by omega, by omega, by go_num, HWL, by omega, HR9.out, hA.kept hKn id id, own_kept hown hKn (fun _ h => h.elim), own_kept h7 hKn (fun _ h => h.elim), own_kept h8 hKn (fun _ h => h.elim), hAll.kept hKn (fun _ _ _ h => h), by have := hKn.size; omega, hK.trans hKn⟩
              case measure => simp [intOf]; omega
        · go_wp2_with fail
          go_loopw [20] (fun i wr => ∃ k : Nat, k ≤ j ∧ i = .int .i64 k ∧ ArenaAt wr b g ws ∧ wr.ownsRow w2.heap.size 3 1 (.slice A6 j c6) j (intCells (natInts q)) ∧ wr.ownsRow w3.heap.size 25 4 u7 j (shpRow os) ∧ wr.ownsRow w3.heap.size 44 1 u8 j vs ∧ AllAt wr w3.heap.size vs os ∧ w3.heap.size ≤ wr.heap.size ∧ Kept NoBlk w wr) (fun i _ => j - (intOf i).toNat)
          case atStart => exact ⟨0, by omega, rfl, hA, hown, h7, h8, hAll, hwr, hK⟩
          case round =>
            clear hA hown h7 h8 hAll hwr hK
            obtain ⟨k, hk, rfl, hA, hown, h7, h8, hAll, hwr, hK⟩ := hrel
            by_cases hlk : k < j
            · obtain ⟨gv, cv, hvv, hgv0, hgv1⟩ := hown.form (by omega)
              injection hvv with e1 e2 e3
              subst e1
              subst e3
              obtain ⟨g7, c7, rfl, _, _⟩ := h7.form (by omega)
              obtain ⟨g8, c8, rfl, _, _⟩ := h8.form (by omega)
              have hkq : k < q.length := by have := HOL.out; omega
              have hpe : wd (natInts q) k = ((q[k] : Nat) : Int) := by simp [natInts, wd, hkq]
              have hcv : ∀ W : World, W.ownsRow w2.heap.size 3 1 (.slice (some ⟨gv, 0, none⟩) j c6) j (intCells (natInts q)) → W.cell? ⟨gv, k, none⟩ = some (.int .i64 ((q[k] : Nat) : Int)) := fun W h => by rw [← hpe]; exact own_cell h (intCells_at (natInts q) k (by rw [natInts_len]; exact hkq))
              have ho := hR8.obj _ (List.getElem_mem hkq)
              have hat := hR8.at (k := k) (p := q[k]) (List.getElem?_eq_getElem hkq)
              generalize q[k] = p at *
              generalize O p = o at *
              have hkv : k < vs.length := by have := hAll.1; have := HOL.out; omega
              have hvk : vs[k]? = some vs[k] := List.getElem?_eq_getElem hkv
              have hw9 := hAll.2 k vs[k] o hvk hat
              obtain ⟨A9, c9, hv9⟩ := own_shape hw9
              have hc8 : ∀ W : World, W.ownsRow w3.heap.size 44 1 (.slice (some ⟨g8, 0, none⟩) j c8) j vs → W.cell? ⟨g8, k, none⟩ = some (.slice A9 o.rest.length c9) := fun W h => own_cell h (by rw [hvk, hv9])
              have hc7 : ∀ (W : World) (c : Nat), c < 4 → W.ownsRow w3.heap.size 25 4 (.slice (some ⟨g7, 0, none⟩) j c7) j (shpRow os) → W.cell? ⟨g7, k * 4 + c, none⟩ = (shpCells o.shp)[c]? := fun W c hc h => by
                rw [World.ownsRow.cellAt h _ (by omega), shpRow_at os k c o hat hc]
              rw [hv9] at hw9
              have HCV := Lib.hid hcv
              have HC8 := Lib.hid hc8
              have HC7 := Lib.hid hc7
              have cv1 := HCV.out _ hown
              have c1 : ∀ W, ArenaAt W b g ws → _ := fun W hA => oshape_yes hA (by have := HWL.out; omega) ho
              have c2 : ∀ W, ArenaAt W b g ws → _ := fun W hA => words_yes hA (by have := HWL.out; omega) ho
              have hrl := Obj.rest_len ho.ok
              have hzz := Shp.size_le ho.ok.shp
              have hrl2 : o.rest.length ≤ 18 := by have : o.size = o.shp.size := rfl; omega
              clear hcv hc8 hc7 hat hvk hv9 ho hkq hpe hkv hrl hzz
              generalize o.rest = rs at *
              have e0 : (0 : Int) ≤ (k : Int) := by omega
              have e1 : (k : Int) < (j : Int) := by omega
              go_wp2_with fail
              refine (c1 _ hA).mono ?_
              rintro e w8 ⟨rfl, hKn⟩
              have hX := Bk.new w8 25 (#[.int .i64 (o.shp.p : Nat), .int .i64 (o.shp.d : Nat), .bool o.shp.wk, .bool o.shp.fin] : Array Value)
              have hKa := hKn.alloc (.cells #[.int .i64 (o.shp.p : Nat), .int .i64 (o.shp.d : Nat), .bool o.shp.wk, .bool o.shp.fin] 25)
              replace hA := hA.kept hKa id id
              replace hown := own_kept hown hKa (fun _ h => h.elim)
              replace h7 := own_kept h7 hKa (fun _ h => h.elim)
              replace h8 := own_kept h8 hKa (fun _ h => h.elim)
              replace hw9 := own_kept hw9 hKa (fun _ h => h.elim)
              replace hAll := hAll.kept hKa (fun _ _ _ h => h)
              replace hK := hK.trans hKa
              replace hwr := Nat.le_trans hwr hKa.size
              clear hKn hKa cv1
              go_upto_region 32 with fail
              generalize w8.alloc (.cells #[.int .i64 (o.shp.p : Nat), .int .i64 (o.shp.d : Nat), .bool o.shp.wk, .bool o.shp.fin] 25) = w9 at *
              have cv1 := HCV.out _ hown
              go_wp2_with fail
              refine (c2 _ hA).mono ?_
              rintro e w10 ⟨v, rfl, hownL, hKn⟩
              replace hX := hX.kept hKn id
              replace hA := hA.kept hKn id id
              replace hown := own_kept hown hKn (fun _ h => h.elim)
              replace h7 := own_kept h7 hKn (fun _ h => h.elim)
              replace h8 := own_kept h8 hKn (fun _ h => h.elim)
              replace hw9 := own_kept hw9 hKn (fun _ h => h.elim)
              replace hAll := hAll.kept hKn (fun _ _ _ h => h)
              replace hK := hK.trans hKn
              replace hwr := Nat.le_trans hwr hKn.size
              clear hKn cv1
              obtain ⟨AL, cL, rfl⟩ := own_shape hownL
              have x0 := hX.cell 0
              have x1 := hX.cell 1
              have x2 := hX.cell 2
              have x3 := hX.cell 3
              have y0 := HC7.out _ 0 (by omega) h7
              have y1 := HC7.out _ 1 (by omega) h7
              have y2 := HC7.out _ 2 (by omega) h7
              have y3 := HC7.out _ 3 (by omega) h7
              have z0 := HC8.out _ h8
              simp only [shpCells] at y0 y1 y2 y3
              go_wp2_with fail
              refine wp_region_held_drew (S := (fun V => V.cell? ⟨w8.heap.size, 0, none⟩ = some (.int .i64 (o.shp.p : Nat)) ∧ V.cell? ⟨w8.heap.size, 1, none⟩ = some (.int .i64 (o.shp.d : Nat)) ∧ V.cell? ⟨w8.heap.size, 2, none⟩ = some (.bool o.shp.wk) ∧ V.cell? ⟨w8.heap.size, 3, none⟩ = some (.bool o.shp.fin) ∧ V.cell? ⟨g7, k * 4, none⟩ = some (.int .i64 (o.shp.p : Nat)) ∧ V.cell? ⟨g7, k * 4 + 1, none⟩ = some (.int .i64 (o.shp.d : Nat)) ∧ V.cell? ⟨g7, k * 4 + 2, none⟩ = some (.bool o.shp.wk) ∧ V.cell? ⟨g7, k * 4 + 3, none⟩ = some (.bool o.shp.fin) ∧ V.cell? ⟨g8, k, none⟩ = some (.slice A9 rs.length c9))) (by kernel_rfl) (by ((try dsimp only); exact ⟨x0, x1, x2, x3, y0, y1, y2, y3, z0⟩)) (fun hHeld => ?_)
              ((first
                | (refine wpAnyH_takeL (i := 0) (v := ?hv25) rfl (by kernel_rfl) (by kernel_rfl) (by kernel_rfl) (fun _ _ _ h => h) (Or.inl (And.intro ?hw25 ?hy25)) (by assumption) ?rest25
                   case hw25 => rfl
                   case hy25 => (intro wHy hSw; (try dsimp only at hSw); go_simp; (first | done | with_reducible rfl)))
                | (refine wpAnyH_takeL (i := 0) (v := undef) rfl (by kernel_rfl) (by kernel_rfl) (by kernel_rfl) (fun _ _ _ h => h) (Or.inr (And.intro (by rfl) rfl)) (by assumption) ?rest25x))
               (try simp only [Act.put, List.setIfInBounds_toArray, List.set_cons_zero, List.set_cons_succ]))
              ((first
                | (refine wpAnyH_takeL (i := 1) (v := ?hv26) rfl (by kernel_rfl) (by kernel_rfl) (by kernel_rfl) (fun _ _ _ h => h) (Or.inl (And.intro ?hw26 ?hy26)) (by assumption) ?rest26
                   case hw26 => rfl
                   case hy26 => (intro wHy hSw; (try dsimp only at hSw); go_simp; (first | done | with_reducible rfl)))
                | (refine wpAnyH_takeL (i := 1) (v := undef) rfl (by kernel_rfl) (by kernel_rfl) (by kernel_rfl) (fun _ _ _ h => h) (Or.inr (And.intro (by rfl) rfl)) (by assumption) ?rest26x))
               (try simp only [Act.put, List.setIfInBounds_toArray, List.set_cons_zero, List.set_cons_succ]))
              ((first
                | (refine wpAnyH_takeL (i := 2) (v := ?hv27) rfl (by kernel_rfl) (by kernel_rfl) (by kernel_rfl) (fun _ _ _ h => h) (Or.inl (And.intro ?hw27 ?hy27)) (by assumption) ?rest27
                   case hw27 => rfl
                   case hy27 => (intro wHy hSw; (try dsimp only at hSw); go_simp; (first | done | with_reducible rfl)))
                | (refine wpAnyH_takeL (i := 2) (v := undef) rfl (by kernel_rfl) (by kernel_rfl) (by kernel_rfl) (fun _ _ _ h => h) (Or.inr (And.intro (by rfl) rfl)) (by assumption) ?rest27x))
               (try simp only [Act.put, List.setIfInBounds_toArray, List.set_cons_zero, List.set_cons_succ]))
              ((first
                | (refine wpAnyH_takeL (i := 3) (v := ?hv28) rfl (by kernel_rfl) (by kernel_rfl) (by kernel_rfl) (fun _ _ _ h => h) (Or.inl (And.intro ?hw28 ?hy28)) (by assumption) ?rest28
                   case hw28 => rfl
                   case hy28 => (intro wHy hSw; (try dsimp only at hSw); go_simp; (first | done | with_reducible rfl)))
                | (refine wpAnyH_takeL (i := 3) (v := undef) rfl (by kernel_rfl) (by kernel_rfl) (by kernel_rfl) (fun _ _ _ h => h) (Or.inr (And.intro (by rfl) rfl)) (by assumption) ?rest28x))
               (try simp only [Act.put, List.setIfInBounds_toArray, List.set_cons_zero, List.set_cons_succ]))
              ((first
                | (refine wpAnyH_takeL (i := 4) (v := ?hv29) rfl (by kernel_rfl) (by kernel_rfl) (by kernel_rfl) (fun _ _ _ h => h) (Or.inl (And.intro ?hw29 ?hy29)) (by assumption) ?rest29
                   case hw29 => rfl
                   case hy29 => (intro wHy hSw; (try dsimp only at hSw); go_simp; (first | done | with_reducible rfl)))
                | (refine wpAnyH_takeL (i := 4) (v := undef) rfl (by kernel_rfl) (by kernel_rfl) (by kernel_rfl) (fun _ _ _ h => h) (Or.inr (And.intro (by rfl) rfl)) (by assumption) ?rest29x))
               (try simp only [Act.put, List.setIfInBounds_toArray, List.set_cons_zero, List.set_cons_succ]))
              ((first
                | (refine wpAnyH_takeL (i := 5) (v := ?hv30) rfl (by kernel_rfl) (by kernel_rfl) (by kernel_rfl) (fun _ _ _ h => h) (Or.inl (And.intro ?hw30 ?hy30)) (by assumption) ?rest30
                   case hw30 => rfl
                   case hy30 => (intro wHy hSw; (try dsimp only at hSw); go_simp; (first | done | with_reducible rfl)))
                | (refine wpAnyH_takeL (i := 5) (v := undef) rfl (by kernel_rfl) (by kernel_rfl) (by kernel_rfl) (fun _ _ _ h => h) (Or.inr (And.intro (by rfl) rfl)) (by assumption) ?rest30x))
               (try simp only [Act.put, List.setIfInBounds_toArray, List.set_cons_zero, List.set_cons_succ]))
              ((first
                | (refine wpAnyH_takeL (i := 6) (v := ?hv31) rfl (by kernel_rfl) (by kernel_rfl) (by kernel_rfl) (fun _ _ _ h => h) (Or.inl (And.intro ?hw31 ?hy31)) (by assumption) ?rest31
                   case hw31 => rfl
                   case hy31 => (intro wHy hSw; (try dsimp only at hSw); go_simp; (first | done | with_reducible rfl)))
                | (refine wpAnyH_takeL (i := 6) (v := undef) rfl (by kernel_rfl) (by kernel_rfl) (by kernel_rfl) (fun _ _ _ h => h) (Or.inr (And.intro (by rfl) rfl)) (by assumption) ?rest31x))
               (try simp only [Act.put, List.setIfInBounds_toArray, List.set_cons_zero, List.set_cons_succ]))
              ((first
                | (refine wpAnyH_takeL (i := 7) (v := ?hv32) rfl (by kernel_rfl) (by kernel_rfl) (by kernel_rfl) (fun _ _ _ h => h) (Or.inl (And.intro ?hw32 ?hy32)) (by assumption) ?rest32
                   case hw32 => rfl
                   case hy32 => (intro wHy hSw; (try dsimp only at hSw); go_simp; (first | done | with_reducible rfl)))
                | (refine wpAnyH_takeL (i := 7) (v := undef) rfl (by kernel_rfl) (by kernel_rfl) (by kernel_rfl) (fun _ _ _ h => h) (Or.inr (And.intro (by rfl) rfl)) (by assumption) ?rest32x))
               (try simp only [Act.put, List.setIfInBounds_toArray, List.set_cons_zero, List.set_cons_succ]))
              ((first
                | (refine wpAnyH_takeL (i := 8) (v := ?hv33) rfl (by kernel_rfl) (by kernel_rfl) (by kernel_rfl) (fun _ _ _ h => h) (Or.inl (And.intro ?hw33 ?hy33)) (by assumption) ?rest33
                   case hw33 => rfl
                   case hy33 => (intro wHy hSw; (try dsimp only at hSw); go_simp; (first | done | with_reducible rfl)))
                | (refine wpAnyH_takeL (i := 8) (v := undef) rfl (by kernel_rfl) (by kernel_rfl) (by kernel_rfl) (fun _ _ _ h => h) (Or.inr (And.intro (by rfl) rfl)) (by assumption) ?rest33x))
               (try simp only [Act.put, List.setIfInBounds_toArray, List.set_cons_zero, List.set_cons_succ]))
              ((first
                | (refine wpAnyH_takeL (i := 9) (v := ?hv34) rfl (by kernel_rfl) (by kernel_rfl) (by kernel_rfl) (fun _ _ _ h => h) (Or.inl (And.intro ?hw34 ?hy34)) (by assumption) ?rest34
                   case hw34 => rfl
                   case hy34 => (intro wHy hSw; (try dsimp only at hSw); go_simp; (first | done | with_reducible rfl)))
                | (refine wpAnyH_takeL (i := 9) (v := undef) rfl (by kernel_rfl) (by kernel_rfl) (by kernel_rfl) (fun _ _ _ h => h) (Or.inr (And.intro (by rfl) rfl)) (by assumption) ?rest34x))
               (try simp only [Act.put, List.setIfInBounds_toArray, List.set_cons_zero, List.set_cons_succ]))
              ((first
                | (refine wpAnyH_takeL (i := 10) (v := ?hv35) rfl (by kernel_rfl) (by kernel_rfl) (by kernel_rfl) (fun _ _ _ h => h) (Or.inl (And.intro ?hw35 ?hy35)) (by assumption) ?rest35
                   case hw35 => rfl
                   case hy35 => (intro wHy hSw; (try dsimp only at hSw); go_simp; (first | done | with_reducible rfl)))
                | (refine wpAnyH_takeL (i := 10) (v := undef) rfl (by kernel_rfl) (by kernel_rfl) (by kernel_rfl) (fun _ _ _ h => h) (Or.inr (And.intro (by rfl) rfl)) (by assumption) ?rest35x))
               (try simp only [Act.put, List.setIfInBounds_toArray, List.set_cons_zero, List.set_cons_succ]))
              ((first
                | (refine wpAnyH_takeL (i := 11) (v := ?hv36) rfl (by kernel_rfl) (by kernel_rfl) (by kernel_rfl) (fun _ _ _ h => h) (Or.inl (And.intro ?hw36 ?hy36)) (by assumption) ?rest36
                   case hw36 => rfl
                   case hy36 => (intro wHy hSw; (try dsimp only at hSw); go_simp; (first | done | with_reducible rfl)))
                | (refine wpAnyH_takeL (i := 11) (v := undef) rfl (by kernel_rfl) (by kernel_rfl) (by kernel_rfl) (fun _ _ _ h => h) (Or.inr (And.intro (by rfl) rfl)) (by assumption) ?rest36x))
               (try simp only [Act.put, List.setIfInBounds_toArray, List.set_cons_zero, List.set_cons_succ]))
              ((first
                | (refine wpAnyH_takeL (i := 12) (v := ?hv37) rfl (by kernel_rfl) (by kernel_rfl) (by kernel_rfl) (fun _ _ _ h => h) (Or.inl (And.intro ?hw37 ?hy37)) (by assumption) ?rest37
                   case hw37 => rfl
                   case hy37 => (intro wHy hSw; (try dsimp only at hSw); go_simp; (first | done | with_reducible rfl)))
                | (refine wpAnyH_takeL (i := 12) (v := undef) rfl (by kernel_rfl) (by kernel_rfl) (by kernel_rfl) (fun _ _ _ h => h) (Or.inr (And.intro (by rfl) rfl)) (by assumption) ?rest37x))
               (try simp only [Act.put, List.setIfInBounds_toArray, List.set_cons_zero, List.set_cons_succ]))
              ((first
                | (refine wpAnyH_takeL (i := 13) (v := ?hv38) rfl (by kernel_rfl) (by kernel_rfl) (by kernel_rfl) (fun _ _ _ h => h) (Or.inl (And.intro ?hw38 ?hy38)) (by assumption) ?rest38
                   case hw38 => rfl
                   case hy38 => (intro wHy hSw; (try dsimp only at hSw); go_simp; (first | done | with_reducible rfl)))
                | (refine wpAnyH_takeL (i := 13) (v := undef) rfl (by kernel_rfl) (by kernel_rfl) (by kernel_rfl) (fun _ _ _ h => h) (Or.inr (And.intro (by rfl) rfl)) (by assumption) ?rest38x))
               (try simp only [Act.put, List.setIfInBounds_toArray, List.set_cons_zero, List.set_cons_succ]))
              ((first
                | (refine wpAnyH_takeL (i := 14) (v := ?hv39) rfl (by kernel_rfl) (by kernel_rfl) (by kernel_rfl) (fun _ _ _ h => h) (Or.inl (And.intro ?hw39 ?hy39)) (by assumption) ?rest39
                   case hw39 => rfl
                   case hy39 => (intro wHy hSw; (try dsimp only at hSw); go_simp; (first | done | with_reducible rfl)))
                | (refine wpAnyH_takeL (i := 14) (v := undef) rfl (by kernel_rfl) (by kernel_rfl) (by kernel_rfl) (fun _ _ _ h => h) (Or.inr (And.intro (by rfl) rfl)) (by assumption) ?rest39x))
               (try simp only [Act.put, List.setIfInBounds_toArray, List.set_cons_zero, List.set_cons_succ]))
              ((first
                | (refine wpAnyH_takeL (i := 15) (v := ?hv40) rfl (by kernel_rfl) (by kernel_rfl) (by kernel_rfl) (fun _ _ _ h => h) (Or.inl (And.intro ?hw40 ?hy40)) (by assumption) ?rest40
                   case hw40 => rfl
                   case hy40 => (intro wHy hSw; (try dsimp only at hSw); go_simp; (first | done | with_reducible rfl)))
                | (refine wpAnyH_takeL (i := 15) (v := undef) rfl (by kernel_rfl) (by kernel_rfl) (by kernel_rfl) (fun _ _ _ h => h) (Or.inr (And.intro (by rfl) rfl)) (by assumption) ?rest40x))
               (try simp only [Act.put, List.setIfInBounds_toArray, List.set_cons_zero, List.set_cons_succ]))
              ((first
                | (refine wpAnyH_takeL (i := 16) (v := ?hv41) rfl (by kernel_rfl) (by kernel_rfl) (by kernel_rfl) (fun _ _ _ h => h) (Or.inl (And.intro ?hw41 ?hy41)) (by assumption) ?rest41
                   case hw41 => rfl
                   case hy41 => (intro wHy hSw; (try dsimp only at hSw); go_simp; (first | done | with_reducible rfl)))
                | (refine wpAnyH_takeL (i := 16) (v := undef) rfl (by kernel_rfl) (by kernel_rfl) (by kernel_rfl) (fun _ _ _ h => h) (Or.inr (And.intro (by rfl) rfl)) (by assumption) ?rest41x))
               (try simp only [Act.put, List.setIfInBounds_toArray, List.set_cons_zero, List.set_cons_succ]))
              ((first
                | (refine wpAnyH_takeL (i := 17) (v := ?hv42) rfl (by kernel_rfl) (by kernel_rfl) (by kernel_rfl) (fun _ _ _ h => h) (Or.inl (And.intro ?hw42 ?hy42)) (by assumption) ?rest42
                   case hw42 => rfl
                   case hy42 => (intro wHy hSw; (try dsimp only at hSw); go_simp; (first | done | with_reducible rfl)))
                | (refine wpAnyH_takeL (i := 17) (v := undef) rfl (by kernel_rfl) (by kernel_rfl) (by kernel_rfl) (fun _ _ _ h => h) (Or.inr (And.intro (by rfl) rfl)) (by assumption) ?rest42x))
               (try simp only [Act.put, List.setIfInBounds_toArray, List.set_cons_zero, List.set_cons_succ]))
              ((first
                | (refine wpAnyH_takeL (i := 18) (v := ?hv43) rfl (by kernel_rfl) (by kernel_rfl) (by kernel_rfl) (fun _ _ _ h => h) (Or.inl (And.intro ?hw43 ?hy43)) (by assumption) ?rest43
                   case hw43 => rfl
                   case hy43 => (intro wHy hSw; (try dsimp only at hSw); go_simp; (first | done | with_reducible rfl)))
                | (refine wpAnyH_takeL (i := 18) (v := undef) rfl (by kernel_rfl) (by kernel_rfl) (by kernel_rfl) (fun _ _ _ h => h) (Or.inr (And.intro (by rfl) rfl)) (by assumption) ?rest43x))
               (try simp only [Act.put, List.setIfInBounds_toArray, List.set_cons_zero, List.set_cons_succ]))
              ((first
                | (refine wpAnyH_takeL (i := 19) (v := ?hv44) rfl (by kernel_rfl) (by kernel_rfl) (by kernel_rfl) (fun _ _ _ h => h) (Or.inl (And.intro ?hw44 ?hy44)) (by assumption) ?rest44
                   case hw44 => rfl
                   case hy44 => (intro wHy hSw; (try dsimp only at hSw); go_simp; (first | done | with_reducible rfl)))
                | (refine wpAnyH_takeL (i := 19) (v := undef) rfl (by kernel_rfl) (by kernel_rfl) (by kernel_rfl) (fun _ _ _ h => h) (Or.inr (And.intro (by rfl) rfl)) (by assumption) ?rest44x))
               (try simp only [Act.put, List.setIfInBounds_toArray, List.set_cons_zero, List.set_cons_succ]))
              clear hHeld
              refine wpAnyH_done (by kernel_rfl) ?_ _
              replace hA := hA.drew
              replace hown := World.ownsRow.drew hown
              replace h7 := World.ownsRow.drew h7
              replace h8 := World.ownsRow.drew h8
              replace hw9 := World.ownsRow.drew hw9
              replace hownL := World.ownsRow.drew hownL
              replace hAll := hAll.kept (Kept.refl NoBlk w10).drew (fun _ _ _ h => h)
              replace hwr : w3.heap.size ≤ w10.drew.heap.size := hwr
              replace hK := hK.drew
              clear x0 x1 x2 x3 y0 y1 y2 y3 z0 hX
              generalize w10.drew = w11 at *
              go_wp2_with fail
              go_loopw [25] (fun i wr => ∃ m : Nat, m ≤ rs.length ∧ i = .int .i64 m ∧ ArenaAt wr b g ws ∧ wr.ownsRow w2.heap.size 3 1 (.slice (some ⟨gv, 0, none⟩) j c6) j (intCells (natInts q)) ∧ wr.ownsRow w3.heap.size 25 4 (.slice (some ⟨g7, 0, none⟩) j c7) j (shpRow os) ∧ wr.ownsRow w3.heap.size 44 1 (.slice (some ⟨g8, 0, none⟩) j c8) j vs ∧ AllAt wr w3.heap.size vs os ∧ w3.heap.size ≤ wr.heap.size ∧ wr.ownsRow w3.heap.size 27 1 (.slice A9 rs.length c9) rs.length (wordCells rs) ∧ wr.ownsRow w9.heap.size 27 1 (.slice AL rs.length cL) rs.length (wordCells rs) ∧ Kept NoBlk w wr) (fun i _ => rs.length - (intOf i).toNat)
              case atStart => exact ⟨0, by omega, rfl, hA, hown, h7, h8, hAll, hwr, hw9, hownL, hK⟩
              case round =>
                clear hA hown h7 h8 hAll hwr hK hw9 hownL
                obtain ⟨m, hm, rfl, hA, hown, h7, h8, hAll, hwr, hw9, hownL, hK⟩ := hrel
                by_cases hlm : m < rs.length
                · obtain ⟨g9, c9', hv9, _, _⟩ := hw9.form (by omega)
                  injection hv9 with e1 e2 e3
                  subst e1
                  subst e3
                  clear e2
                  obtain ⟨gL, cL', hvL, _, _⟩ := hownL.form (by omega)
                  injection hvL with e4 e5 e6
                  subst e4
                  subst e6
                  clear e5
                  have t1 := own_cell hw9 (wordCells_at rs m hlm)
                  have t2 := own_cell hownL (wordCells_at rs m hlm)
                  have z0 := HC8.out _ h8
                  have e0 : (0 : Int) ≤ (m : Int) := by omega
                  have e1 : (m : Int) < (rs.length : Int) := by omega
                  generalize wd rs m = x at *
                  go_wp2_with fail
                  go_quiet (skip)
                  go_wp2
                  go_roundw
                  case rel =>
                    have kd := (Kept.refl NoBlk wr).drewN nq
                    exact ⟨m + 1, by omega, by go_num, hA.kept kd id id, own_kept hown kd (fun _ h => h.elim), own_kept h7 kd (fun _ h => h.elim), own_kept h8 kd (fun _ h => h.elim), hAll.kept kd (fun _ _ _ h => h), hwr, own_kept hw9 kd (fun _ h => h.elim), own_kept hownL kd (fun _ h => h.elim), hK.trans kd⟩
                  case measure => simp [intOf]; omega
                · go_wp2
                  go_roundw
                  case rel => exact ⟨k + 1, by omega, by go_num, hA, hown, h7, h8, hAll, hwr, hK⟩
                  case measure => simp [intOf]; omega
            · go_wp2
              go_ret
              exact ⟨rfl, hK⟩

end Go.Proofs.Ytccgnnnildedoaa
