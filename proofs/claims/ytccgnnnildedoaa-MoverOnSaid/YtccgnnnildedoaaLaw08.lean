/-
  Layer 08: the walk through MoverRoom.
  Conditions: none.
-/
import Derived.Test.YtccgnnnildedoaaAwake08
set_option linter.unusedVariables false
namespace Go.Proofs.Ytccgnnnildedoaa
open Go.RowKit

theorem Raw08.kept {w W : World} {B : Nat} {A : Option Addr} {i : Nat} (h : Raw08 w B A i) (hK : Kept NoBlk w W) : Raw08 W B A i := by
  obtain ⟨b, off, x, y, z, F, n, c, fr, h1, h2, c0, c1, c2, c3, c4, h3, h4, h5, h6, h7⟩ := h
  refine ⟨b, off, x, y, z, F, n, c, fr, h1, h2, hK.cell id c0, hK.cell id c1, hK.cell id c2, hK.cell id c3, hK.cell id c4, h3, h4, h5, h6, fun j hj => ?_⟩
  obtain ⟨b2, o2, v, q1, q2, q3, q4⟩ := h7 j hj
  exact ⟨b2, o2, v, q1, q2, hK.cell id q3, q4⟩

set_option maxRecDepth 100000 in
set_option maxHeartbeats 4000000 in
theorem room_walk8 (A : Option Addr) (len cap : Nat) (which size : Int) (w : World) (hlc : len ≤ 9223372036854775807) (hraw : ∀ i, i < len → Raw08 w w.heap.size A i)
    (l0 : -9223372036854775808 ≤ which) (g0 : which ≤ 9223372036854775807) (l1 : -9223372036854775808 ≤ size) (g1 : size ≤ 9223372036854775807) :
    Calls Try.prog 12 #[.slice A len cap, .int .i64 which, .int .i64 size] w fun e w' => e = .returned (.bool true) ∧ Kept NoBlk w w' := by
  have HR := Lib.hid hraw
  clear hraw
  have hp := notStood_space
  have hm := notGuard_space
  obtain ⟨i0, hi, hz0, hz1, hz2⟩ := info_parts u64_infoM
  have HI := Lib.hid (And.intro hi (And.intro hz0 (And.intro hz1 hz2)))
  clear hi hz0 hz1 hz2
  have m0 := fun W => new_yes 400 (by omega) (by omega) W
  have hl0 : (List.replicate 400 (0 : Int)).length = 400 := by simp
  generalize List.replicate 400 (0 : Int) = ws0 at *
  go_enter Try.func12, Try.ntmps12
  go_wp2_with fail
  refine (awake08 _).mono ?_
  rintro e w1 ⟨rfl, hK⟩
  have hs1 := hK.size
  go_wp2_with fail
  refine (m0 _).mono ?_
  rintro e w2 ⟨b, g, rfl, hA, hKn, hb, hg⟩
  replace hK := hK.trans hKn
  have hgw : w.heap.size ≤ g := by omega
  clear hKn hb hg
  go_wp2_with fail
  refine (lay_yes hA (by omega) (by omega) A len cap w.heap.size hlc (fun i hi => (HR.out i hi).kept hK) hgw (fun _ => newObj ⟨0, 0, false, false⟩ 0)).mono ?_
  rintro e w3 ⟨v, l, t, O, ws, rfl, hown, hl8, _, hA3, hL, hKn⟩
  replace hK := hK.over hKn (OneBlk.over hgw)
  have hlen := hL.len
  have HL := Lib.hid hL
  clear hKn hA hL
  by_cases hz : l.length = 0
  · obtain rfl : l = [] := List.eq_nil_of_length_eq_zero hz
    have hv : v = .slice none 0 0 ∨ ∃ x c, v = .slice x 0 c := by
      rcases hown.2 with ⟨rfl, _⟩ | ⟨g, cap, cur, rfl, _⟩
      · exact .inl rfl
      · exact .inr ⟨_, _, rfl⟩
    rcases hv with rfl | ⟨x, c, rfl⟩
    all_goals
      go_wp2
      go_ret
      exact ⟨rfl, hK⟩
  · obtain ⟨gv, cv, rfl, hgv0, hgv1⟩ := hown.form (by omega)
    have hpk := pk_bd which l.length (by omega)
    obtain ⟨k, Hk⟩ : ∃ k : Nat, Hid ((k : Int) = pk which l.length) := ⟨(pk which l.length).toNat, by show _ = _; omega⟩
    rw [← Hk.out] at hpk
    have hkl : k < l.length := by omega
    have e0 : (0 : Int) ≤ (k : Int) := by omega
    have e1 : (k : Int) < (l.length : Int) := by omega
    have cv1 := own_cell hown (intCells_at (natInts l) k (by rw [natInts_len]; exact hkl))
    have hpe : wd (natInts l) k = ((l[k] : Nat) : Int) := by simp [natInts, wd, hkl]
    rw [hpe] at cv1
    have hpm : l[k] ∈ l := List.getElem_mem _
    have ho := HL.out.obj _ hpm
    have hpb := Laid.mem HL.out.laid hpm
    have htop := HL.out.top
    have hpb2 : l[k] < 151 := by have := (HL.out.tk _ hpm).1; have := hpb.2; omega
    have hszt : (O l[k]).size ≤ (O l[k]).shp.tk := (HL.out.tk _ hpm).2
    clear hpe hpb
    generalize l[k] = p at *
    generalize O p = o at *
    clear hpm
    obtain ⟨hp8, hd8, hwx⟩ := Shp.ok_bd ho.ok.shp
    clear hwx
    have hsz : (o.size : Int) = 3 + (o.shp.p : Int) + o.shp.d := by unfold Obj.size Shp.size; omega
    have hmb := pk_bd size (3 + (o.shp.p : Int) + o.shp.d) (by omega)
    obtain ⟨m, Hm⟩ : ∃ m, Hid (m = pk size (3 + (o.shp.p : Int) + o.shp.d)) := ⟨_, rfl⟩
    rw [← Hm.out] at hmb
    have c1 : ∀ W, ArenaAt W b g ws → _ := fun W hA => oshape_yes hA (by omega) ho
    have c2 := fun W => make_yes (b := 200) (s := m) ⟨by omega, by omega, by omega, by omega, by omega, by omega⟩ W
    have c3 : ∀ W, ArenaAt W b g ws → _ := fun W hA => copy_room hA (by omega) ho (t := 200) (b0 := 200) (s0 := m) ⟨by omega, by omega, by omega, by omega, by omega, by omega⟩ (by omega)
    have c4 : ∀ W, ArenaAt W b g ws → _ := fun W hA => mat_obj hA (by omega) ho
    have c5 : ∀ W (j : Nat), j < 400 → ArenaAt W b g ws → _ := fun W j hj hA => load_v hA (by omega) j (wd ws j) rfl (by omega)
    have hwl : ws.length = 400 := by omega
    have HWL := Lib.hid hwl
    clear ho hsz hszt hwl hlen
    obtain ⟨⟨P, D, wk, fn⟩, fr, sc, sr, ps, ns⟩ := o
    dsimp only at *
    go_wp2_with fail
    refine (pick08r Hk (by omega) l0 g0 (by omega) _).mono ?_
    rintro e w4 ⟨rfl, rfl⟩
    go_wp2_with fail
    refine (c1 _ hA3).mono ?_
    rintro e w4 ⟨rfl, hKn⟩
    replace hK := hK.trans hKn
    replace hA3 := hA3.kept hKn id id
    clear hKn cv1 hown hgv0 hgv1
    have hS := Bk.new (w4) 25 (#[.int .i64 P, .int .i64 D, .bool wk, .bool fn] : Array Value)
    replace hK := hK.alloc (.cells #[.int .i64 P, .int .i64 D, .bool wk, .bool fn] 25)
    have c_hS := hS.cell
    have f_hS := hS.frozen
    replace hA3 := hA3.alloc (.cells #[.int .i64 P, .int .i64 D, .bool wk, .bool fn] 25)
    go_wp2_with fail
    refine (pick08r Hm (by omega) l1 g1 (by omega) _).mono ?_
    rintro e w5 ⟨rfl, rfl⟩
    go_wp2_with fail
    refine (c2 _).mono ?_
    rintro e w5 ⟨rfl, hKn⟩
    replace hK := hK.trans hKn
    replace hA3 := hA3.kept hKn id id
    clear hKn
    have hg5 := hA3.glt
    have hb5 := hA3.blt
    have hw5 := hK.size
    clear c_hS f_hS
    clear hS
    have hT := Bk.new (w5) 77 (#[.int .i64 200, .int .i64 m, .int .i64 200] : Array Value)
    replace hK := hK.alloc (.cells #[.int .i64 200, .int .i64 m, .int .i64 200] 77)
    have c_hT := hT.cell
    have f_hT := hT.frozen
    replace hA3 := hA3.alloc (.cells #[.int .i64 200, .int .i64 m, .int .i64 200] 77)
    go_wp2_with fail
    go_loopw [17, 18] (fun v i wr => ∃ k : Nat, k ≤ 400 ∧ i = .int .i64 k ∧ ArenaAt wr b g ws ∧ Bk wr w5.heap.size 77 #[.int .i64 200, .int .i64 m, .int .i64 200] ∧ wr.ownsRow (w5.heap.size + 1) 27 1 v k (wordCells (ws.take k)) ∧ Kept NoBlk w wr) (fun _ i _ => 400 - (intOf i).toNat)
    case atStart => exact ⟨0, by omega, rfl, hA3, hT, World.ownsRow_nil _ _ _ _, hK⟩
    case round =>
      clear hT c_hT f_hT hA3 hK
      obtain ⟨j, hj, rfl, hA3, hT, hown, hK⟩ := hrel
      by_cases hlt : j < 400
      · go_wp2_with fail
        refine (c5 _ j hlt hA3).mono ?_
        rintro e w6 ⟨rfl, rfl⟩
        have hbn := hT.lt
        have hgb := hA3.glt
        have hbb := hA3.blt
        go_wp2_with (at_builtin; refine wpList_append_one rfl (.tmp 82) (.tmp 84) 44 rfl (w5.heap.size + 1) 27 i0 (.int .u64 0) 8 Try.underlying44 HI.out.1 HI.out.2.1 HI.out.2.2.1 HI.out.2.2.2 rfl _ j (wordCells (ws.take j)) rfl (hown.alloc _) wr.heap.size 27 (.int .u64 (wd ws j)) rfl (Bk.new _ _ _) rfl (by omega) (by omega) (by simp; omega) ?_; intro g1' cap1 w7 hown5 hK5)
        go_roundw
        case rel =>
          have ne : ∀ k, k < w5.heap.size + 1 → ¬ (fun i => u17.ownBlock = some i) k := fun k h h2 => by have := (hown.lt k h2).1; omega
          refine ⟨j + 1, by omega, by go_num, (hA3.alloc _).kept hK5 (ne _ ?_) (ne _ ?_), (hT.alloc _).kept hK5 (ne _ (by omega)), ?_, ?_⟩
          · omega
          · omega
          · rw [wordCells_snoc _ _ (by have := HWL.out; omega)] at hown5; exact hown5
          · exact (hK.alloc _).over hK5 (fun i hi => by have := (hown.lt i hi).1; omega)
        case measure => simp [intOf]; omega
      · obtain rfl : j = 400 := by omega
        have hws : ws.take 400 = ws := List.take_of_length_le (by have := HWL.out; omega)
        rw [hws] at hown
        clear hws
        have cT := hT.cell
        go_wp2_with fail
        refine (c3 _ hA3).mono ?_
        rintro e w6 ⟨rfl, hKn⟩
        replace hA3 := (hA3.kept hKn id id).alloc (.cells #[.int .i64 200, .int .i64 m, .int .i64 200] 77)
        replace hT := (hT.kept hKn id).alloc (.cells #[.int .i64 200, .int .i64 m, .int .i64 200] 77)
        replace hown := (own_kept hown hKn (fun _ h => h.elim)).alloc (.cells #[.int .i64 200, .int .i64 m, .int .i64 200] 77)
        replace hK := (hK.trans hKn).alloc (.cells #[.int .i64 200, .int .i64 m, .int .i64 200] 77)
        clear hKn cT
        have cT := hT.cell
        have hT2 := (Bk.new w6 77 (#[.int .i64 200, .int .i64 m, .int .i64 200] : Array Value)).cell
        obtain ⟨gw, cw, rfl, _, _⟩ := hown.form (by omega)
        go_wp2_with fail
        go_loopw [24] (fun i wr => ∃ k : Nat, k ≤ 400 ∧ i = .int .i64 k ∧ ArenaAt wr b g ws ∧ wr.ownsRow (w5.heap.size + 1) 27 1 (.slice (some ⟨gw, 0, none⟩) 400 cw) 400 (wordCells ws) ∧ Kept NoBlk w wr) (fun i _ => 400 - (intOf i).toNat)
        case atStart => exact ⟨0, by omega, rfl, hA3, hown, hK⟩
        case round =>
          clear hA3 hown hK hT cT hT2
          obtain ⟨j, hj, rfl, hA3, hown, hK⟩ := hrel
          by_cases hlt : j < 400
          · have cw1 := own_cell hown (wordCells_at ws j (by have := HWL.out; omega))
            have e2 : (0 : Int) ≤ (j : Int) := by omega
            have e3 : (j : Int) < 400 := by omega
            go_wp2_with fail
            refine (c5 _ j hlt hA3).mono ?_
            rintro e w7 ⟨rfl, rfl⟩
            go_wp2
            go_roundw
            case rel => exact ⟨j + 1, by omega, by go_num, hA3, hown, hK⟩
            case measure => simp [intOf]; omega
          · go_wp2_with fail
            refine (c4 _ hA3).mono ?_
            rintro e w7 ⟨rfl, rfl⟩
            go_wp2
            go_ret
            exact ⟨rfl, hK⟩

end Go.Proofs.Ytccgnnnildedoaa
