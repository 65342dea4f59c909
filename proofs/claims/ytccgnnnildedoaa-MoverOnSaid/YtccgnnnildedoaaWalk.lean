/-
  Package mover: Walk, over a space whose objects lie one behind the other.
  Conditions: the arena has at most 65536 words; the space is a right one.
-/
import Derived.Test.YtccgnnnildedoaaMover2
import Derived.Test.YtccgnnnildedoaaRound
set_option linter.unusedVariables false
namespace Go.Proofs.Ytccgnnnildedoaa
open Go.RowKit Go.Shelf
attribute [local go_sem] Oper.semAt_some

set_option maxRecDepth 100000 in
set_option maxHeartbeats 2000000 in
theorem objects_iter (n : Nat) (hn : 1 ≤ n) {b g SB AB : Nat} {ws : List Int} {f : Nat → Shp} {l : List Nat} {b0 t0 : Nat} {s0 : Int} (hln : ws.length ≤ 65536) (hl : Laid f b0 l t0) (ht0 : t0 ≤ 131072)
    (hst : ∀ p ∈ l, StandAt ws p (f p)) (hok : ∀ p ∈ l, (f p).ok) (I : Nat → World → Prop)
    (hI : ∀ k W, I k W → ArenaAt W b g ws ∧ (∃ T, Bk W SB T #[.int .i64 b0, .int .i64 s0, .int .i64 t0]) ∧ (∃ T, Bk W AB T #[.pointer (some ⟨b, 0, none⟩)])) :
    IterA Fence.wide n Try.prog 104 #[.pointer (some ⟨SB, 0, none⟩), .pointer (some ⟨AB, 0, none⟩)] (fun k => #[.int .i64 ((l.getD k t0 : Nat) : Int)]) I (fun k => k < l.length) (fun k => k = l.length) := by
  intro lp J Jx W hJ hJx hJI hY h0
  have HY := Lib.hid hY
  have HJ := Lib.hid hJI
  have HE := Lib.hid hJ
  have HI := Lib.hid hI
  have HL := Lib.hid hl
  have HS := Lib.hid hst
  have HO := Lib.hid hok
  clear hY hJI hI hl hst hok hJ
  have e0 := Lib.hid (Laid.first HL.out)
  obtain ⟨hA0, ⟨T1, hS0⟩, ⟨T2, hB0⟩⟩ := HI.out _ _ (HJ.out _ _ h0)
  have cS := hS0.cell 0
  refine callsIn_of_wp Try.func104 rfl trivial ?_ rfl
  simp only [Try.ntmps104, List.size_toArray, List.length_cons, List.length_nil, Nat.reduceAdd, Nat.reduceSub, Array.replicate_succ, Array.replicate_zero, List.push_toArray, List.append_toArray, List.nil_append, List.cons_append]
  gi_wp2
  gi_loopw [4] (fun a wr => ∃ k : Nat, k ≤ l.length ∧ a = .int .i64 ((l.getD k t0 : Nat) : Int) ∧ J k wr) (fun a _ => t0 - (intOf a).toNat)
  case atStart => exact ⟨0, Nat.zero_le _, by rw [e0.out], h0⟩
  case round =>
    obtain ⟨k, hk, rfl, hj⟩ := hrel
    obtain ⟨hA, ⟨T1', hS⟩, ⟨T2', hB⟩⟩ := HI.out _ _ (HJ.out _ _ hj)
    clear hA0 hS0 hB0 cS h0
    have cS := hS.cell
    have cB := hB.cell
    by_cases hlt : k < l.length
    · have hp : l[k] ∈ l := List.getElem_mem _
      have eP : l.getD k t0 = l[k] := by rw [List.getD_eq_getElem?_getD, List.getElem?_eq_getElem hlt]; rfl
      have hN := Laid.next HL.out hlt
      have hst := HS.out _ hp
      have hokp := HO.out _ hp
      have hb := Laid.mem HL.out hp
      have h4 := Shp.tk_bd hokp
      have hY1 := fun W1 hj => HY.out k W1 hlt hj
      simp only [eP] at hY1
      rw [eP] at hN ⊢
      have HY1 := Lib.hid hY1
      clear hY1
      generalize l[k] = p at *
      have HN := Lib.hid hN
      clear hN
      have hpt : (p : Int) < t0 := by omega
      clear eP
      rcases hst with ⟨o, ho, hsh⟩ | ⟨q, hgone, o, ho, hsh⟩
      · gi_wp2_with fail
        refine ⟨trivial, (callsIn_wide.2 (mat_obj hA hln ho)).mono ?_⟩
        rintro e w1 ⟨rfl, rfl⟩
        gi_wp2_with fail
        refine ⟨trivial, (callsIn_wide.2 (msize_yes hA hln ho)).mono ?_⟩
        rintro e w2 ⟨rfl, hK2⟩
        have hj2 := HE.out _ _ _ hj hK2
        have hsz : o.size = (f p).size := by rw [← hsh]; rfl
        have hz := Shp.size_le hokp
        have HSZ := Lib.hid hsz
        obtain ⟨fn, tmps, assign, body, hy, hR⟩ := HY1.out w2 hj2
        clear hsz
        gi_wp2
        refine hR.mono ?_
        clear hR hy
        rintro e W' (⟨rfl, hj1⟩ | ⟨rfl, hx⟩)
        · gi_wp2_with fail
          refine ⟨trivial, (callsIn_wide.2 (round_yes (o.size : Int) (by have := HSZ.out; omega) (by have := HSZ.out; omega) _)).mono ?_⟩
          rintro e w3 ⟨c, hc, rfl, hK3⟩
          have hcs : csz c = ((f p).tk : Int) := by rw [HSZ.out] at hc; exact rnd_class (by omega) hc
          rw [hcs]
          have hj3 := HE.out _ _ _ hj1 hK3
          clear hcs hc
          gi_wp2
          go_roundw
          case rel => exact ⟨k + 1, by omega, by rw [HN.out]; go_num, hj3⟩
          case measure => simp [intOf]; omega
        · gi_wp2
          refine bodyPost_ret (results_none rfl _ _ _) rfl ?_
          exact ⟨⟨_, rfl⟩, .inr ⟨_, hx⟩⟩
      · have hq2 := hgone.k2
        gi_wp2_with fail
        refine ⟨trivial, (callsIn_wide.2 (mat_gone hA hln hgone)).mono ?_⟩
        rintro e w1 ⟨rfl, rfl⟩
        gi_wp2_with fail
        refine ⟨trivial, (callsIn_wide.2 (msize_yes hA hln ho)).mono ?_⟩
        rintro e w2 ⟨rfl, hK2⟩
        have hj2 := HE.out _ _ _ hj hK2
        have hsz : o.size = (f p).size := by rw [← hsh]; rfl
        have hz := Shp.size_le hokp
        have HSZ := Lib.hid hsz
        obtain ⟨fn, tmps, assign, body, hy, hR⟩ := HY1.out w2 hj2
        clear hsz
        gi_wp2
        refine hR.mono ?_
        clear hR hy
        rintro e W' (⟨rfl, hj1⟩ | ⟨rfl, hx⟩)
        · gi_wp2_with fail
          refine ⟨trivial, (callsIn_wide.2 (round_yes (o.size : Int) (by have := HSZ.out; omega) (by have := HSZ.out; omega) _)).mono ?_⟩
          rintro e w3 ⟨c, hc, rfl, hK3⟩
          have hcs : csz c = ((f p).tk : Int) := by rw [HSZ.out] at hc; exact rnd_class (by omega) hc
          rw [hcs]
          have hj3 := HE.out _ _ _ hj1 hK3
          clear hcs hc
          gi_wp2
          go_roundw
          case rel => exact ⟨k + 1, by omega, by rw [HN.out]; go_num, hj3⟩
          case measure => simp [intOf]; omega
        · gi_wp2
          refine bodyPost_ret (results_none rfl _ _ _) rfl ?_
          exact ⟨⟨_, rfl⟩, .inr ⟨_, hx⟩⟩
    · obtain rfl : k = l.length := by omega
      have e1 : l.getD l.length t0 = t0 := Laid.last
      rw [e1]
      gi_wp2
      refine bodyPost_end (results_none rfl _ _ _) rfl ?_
      exact ⟨⟨_, rfl⟩, .inl ⟨_, rfl, hj⟩⟩

set_option maxRecDepth 100000 in
set_option maxHeartbeats 1000000 in
theorem objects_any (b : Option Addr) (x y z : Int) (w : World) :
    Calls Try.prog 82 #[.pointer b, .agg #[.int .i64 x, .int .i64 y, .int .i64 z]] w fun e w' => e = .returned (.func (.func 104) #[] #[.pointer (some ⟨w.heap.size + 1, 0, none⟩), .pointer (some ⟨w.heap.size, 0, none⟩)]) ∧
      w' = (w.alloc (.cells #[.pointer b] 46)).alloc (.cells #[.int .i64 x, .int .i64 y, .int .i64 z] 77) := by
  go_enter Try.func82, Try.ntmps82
  go_wp2
  go_ret
  exact ⟨rfl, rfl⟩

/-- Between two rounds of Walk. -/
def WalkI (b g : Nat) (ws : List Int) (l : List Nat) (b0 t0 : Nat) (s0 : Int) (w : World) (B0 : Nat) (k : Nat) (W : World) : Prop :=
  ArenaAt W b g ws ∧ (∃ T, Bk W (B0 + 1) T #[.int .i64 b0, .int .i64 s0, .int .i64 t0]) ∧ (∃ T, Bk W B0 T #[.pointer (some ⟨b, 0, none⟩)]) ∧
    (∃ v, Bk W (w.heap.size + 1) 74 #[v] ∧ W.ownsRow (B0 + 2) 3 1 v k (intCells ((natInts l).take k))) ∧ Kept NoBlk w W

set_option maxRecDepth 100000 in
set_option maxHeartbeats 2000000 in
theorem walk_yes {b g : Nat} {ws : List Int} {w : World} (hA : ArenaAt w b g ws) (hn : ws.length ≤ 65536) {f : Nat → Shp} {l : List Nat} {b0 t0 : Nat} {s0 : Int} (hl : Laid f b0 l t0) (hs : RightSp b0 s0 t0)
    (hst : ∀ p ∈ l, StandAt ws p (f p)) (hok : ∀ p ∈ l, (f p).ok) :
    Calls Try.prog 53 #[.pointer (some ⟨b, 0, none⟩), .agg #[.int .i64 b0, .int .i64 s0, .int .i64 t0]] w fun e w' => ∃ v, e = .returned v ∧ w'.ownsRow w.heap.size 3 1 v l.length (intCells (natInts l)) ∧ Kept NoBlk w w' := by
  have c1 := fun W => right_yes hs W
  have ht0 : t0 ≤ 131072 := by have := hs.t1; have := hs.b1; have := hs.s1; omega
  have hfew := Laid.few hl (fun x hx => (Shp.tk_bd (hok x hx)).1)
  have hA' : ∀ W, Kept NoBlk w W → ArenaAt W b g ws := fun W k => hA.kept k id id
  obtain ⟨i0, hi, hz0, hz1, hz2⟩ := info_parts int_infoM
  have HI := Lib.hid (And.intro hi (And.intro hz0 (And.intro hz1 hz2)))
  have HA := Lib.hid hA'
  clear hi hz0 hz1 hz2 hs hA hA'
  refine (callsIn_wide (n := 6)).1 ?_
  refine callsIn_of_wp_marks Try.func53 rfl trivial ?_ rfl
  simp only [Try.ntmps53, List.size_toArray, List.length_cons, List.length_nil, Nat.reduceAdd, Nat.reduceSub, Array.replicate_succ, Array.replicate_zero, List.push_toArray, List.append_toArray, List.nil_append, List.cons_append]
  have hK := Kept.refl NoBlk w
  have hs1 : ∀ (W : World) (o : Go.Obj), (W.alloc o).heap.size = W.heap.size + 1 := fun W o => by simp
  have hB : Bk ((w).alloc (.cells #[.int .i64 b0, .int .i64 s0, .int .i64 t0] 77)) (w.heap.size) 77 (#[.int .i64 b0, .int .i64 s0, .int .i64 t0] : Array Value) := by (have h := Bk.new (w) 77 (#[.int .i64 b0, .int .i64 s0, .int .i64 t0] : Array Value)); simpa only [hs1] using h
  replace hK := hK.alloc (.cells #[.int .i64 b0, .int .i64 s0, .int .i64 t0] 77)
  replace hB := hB.alloc (.cells #[.slice none 0 0] 74)
  have hR : Bk (((w).alloc (.cells #[.int .i64 b0, .int .i64 s0, .int .i64 t0] 77)).alloc (.cells #[.slice none 0 0] 74)) (w.heap.size + 1) 74 (#[.slice none 0 0] : Array Value) := by (have h := Bk.new ((w).alloc (.cells #[.int .i64 b0, .int .i64 s0, .int .i64 t0] 77)) 74 (#[.slice none 0 0] : Array Value)); simpa only [hs1] using h
  replace hK := hK.alloc (.cells #[.slice none 0 0] 74)
  clear hs1
  (try clear c_hB f_hB)
  (try clear c_hR f_hR)
  have c_hB := hB.cell
  have f_hB := hB.frozen
  have c_hR := hR.cell
  have f_hR := hR.frozen
  gi_wp2_with fail
  refine ⟨trivial, (callsIn_wide.2 (c1 _)).mono ?_⟩
  rintro e w1 ⟨rfl, hKn⟩
  replace hB := hB.kept hKn id
  replace hR := hR.kept hKn id
  replace hK := hK.trans hKn
  clear hKn
  replace c_hB := hB.cell
  replace f_hB := hB.frozen
  replace c_hR := hR.cell
  replace f_hR := hR.frozen
  gi_wp2_with fail
  refine ⟨trivial, (callsIn_wide.2 (objects_any _ _ _ _ _)).mono ?_⟩
  rintro e w2 ⟨rfl, rfl⟩
  have hb1 := hR.lt
  have hs1 : ∀ (W : World) (o : Go.Obj), (W.alloc o).heap.size = W.heap.size + 1 := fun W o => by simp
  replace hB := hB.alloc (.cells #[.pointer (some ⟨b, 0, none⟩)] 46)
  replace hR := hR.alloc (.cells #[.pointer (some ⟨b, 0, none⟩)] 46)
  have hAB : Bk ((w1).alloc (.cells #[.pointer (some ⟨b, 0, none⟩)] 46)) (w1.heap.size) 46 (#[.pointer (some ⟨b, 0, none⟩)] : Array Value) := by (have h := Bk.new (w1) 46 (#[.pointer (some ⟨b, 0, none⟩)] : Array Value)); simpa only [hs1] using h
  replace hK := hK.alloc (.cells #[.pointer (some ⟨b, 0, none⟩)] 46)
  replace hB := hB.alloc (.cells #[.int .i64 b0, .int .i64 s0, .int .i64 t0] 77)
  replace hR := hR.alloc (.cells #[.int .i64 b0, .int .i64 s0, .int .i64 t0] 77)
  replace hAB := hAB.alloc (.cells #[.int .i64 b0, .int .i64 s0, .int .i64 t0] 77)
  have hSB : Bk (((w1).alloc (.cells #[.pointer (some ⟨b, 0, none⟩)] 46)).alloc (.cells #[.int .i64 b0, .int .i64 s0, .int .i64 t0] 77)) (w1.heap.size + 1) 77 (#[.int .i64 b0, .int .i64 s0, .int .i64 t0] : Array Value) := by (have h := Bk.new ((w1).alloc (.cells #[.pointer (some ⟨b, 0, none⟩)] 46)) 77 (#[.int .i64 b0, .int .i64 s0, .int .i64 t0] : Array Value)); simpa only [hs1] using h
  replace hK := hK.alloc (.cells #[.int .i64 b0, .int .i64 s0, .int .i64 t0] 77)
  clear hs1
  (try clear c_hB f_hB)
  (try clear c_hR f_hR)
  (try clear c_hAB f_hAB)
  (try clear c_hSB f_hSB)
  have c_hB := hB.cell
  have f_hB := hB.frozen
  have c_hR := hR.cell
  have f_hR := hR.frozen
  have c_hAB := hAB.cell
  have f_hAB := hAB.frozen
  have c_hSB := hSB.cell
  have f_hSB := hSB.frozen
  gi_wp2_with fail
  generalize hV : (w1.alloc (.cells #[.pointer (some ⟨b, 0, none⟩)] 46)).alloc (.cells #[.int .i64 b0, .int .i64 s0, .int .i64 t0] 77) = V at *
  have hVs : V.heap.size = w1.heap.size + 2 := by rw [← hV]; simp
  clear hV
  generalize w1.heap.size = B0 at *
  refine rangeLoopA (gf := 104) (lb := #[.pointer (some ⟨B0 + 1, 0, none⟩), .pointer (some ⟨B0, 0, none⟩)]) rfl (by omega) rfl trivial (enters_of Try.func104 (by kernel_rfl) rfl) (WalkI b g ws l b0 t0 s0 w B0) (fun _ _ _ => False)
    (objects_iter _ (by decide) hn hl ht0 hst hok _ (fun k W h => ⟨h.1, h.2.1, h.2.2.1⟩)) (fun _ => rfl) ?stay ?stayx ?start ?round ?done ?stop
  case stay =>
    rintro k W W' ⟨hA, ⟨T1, b1⟩, ⟨T2, b2⟩, ⟨v, b3, ho⟩, hKW⟩ hs
    exact ⟨hs.arena hA, ⟨T1, hs.bk b1⟩, ⟨T2, hs.bk b2⟩, ⟨v, hs.bk b3, hs.own ho⟩, hs.kept hKW (by omega)⟩
  case stayx => exact fun _ _ _ _ h => h.elim
  case start =>
    exact ⟨HA.out _ hK, ⟨_, hSB⟩, ⟨_, hAB⟩, ⟨_, hR, World.ownsRow_nil _ _ _ _⟩, hK⟩
  case round =>
    clear hB hR hAB hSB hK c_hB f_hB c_hR f_hR c_hAB f_hAB c_hSB f_hSB
    rintro lp k W hk hI
    gi_wp2
    refine ⟨Kept.refl _ W, fun W2 hs hI2 => ?_⟩
    obtain ⟨hA, ⟨T1, b1⟩, ⟨T2, b2⟩, ⟨v, b3, ho⟩, hKW⟩ := hI2
    clear hI
    have hwd : wd (natInts l) k = ((l[k] : Nat) : Int) := by simp [natInts, wd, hk]
    rw [← hwd]
    have hk5 : k ≤ 1000000000 := by omega
    have hkl : k < (natInts l).length := by rw [natInts_len]; exact hk
    have HKL := Lib.hid hkl
    have hx : ∀ i, v.ownBlock = some i → B0 + 2 ≤ i := fun i hi => (ho.lt i hi).1
    have hx0 : ∀ i, i < B0 + 2 → ¬ (fun i => v.ownBlock = some i) i := fun i hi h => by have := hx i h; omega
    have hb2 := b1.lt
    have hbR := b3.lt
    have HX := Lib.hid hx0
    have HXX := Lib.hid hx
    have c3 := b3.cell 0
    have f3 := b3.frozen 0
    have hb1' : w.heap.size + 1 < B0 := by omega
    clear hwd hkl hx hx0
    have hbl := (HA.out w (Kept.refl _ _)).blt
    have hgl := (HA.out w (Kept.refl _ _)).glt
    generalize hye : wd (natInts l) k = y at *
    have HYE := Lib.hid hye
    clear hye
    gi_wp2_with (gi_at_builtin; refine wpListIn_append_one rfl (.tmp 13) (.tmp 15) 74 rfl (B0 + 2) 3 i0 (.int .i64 0) 8 Try.underlying74 HI.out.1 HI.out.2.1 HI.out.2.2.1 HI.out.2.2.2 rfl v k (intCells ((natInts l).take k)) rfl (ho.alloc _) W2.heap.size 3 (.int .i64 y) rfl (Bk.new _ _ _) rfl hk5 (by omega) (by simp; omega) ?_; intro g1 cap1 w5 hown5 hK5; have b3' := (b3.alloc _).kept hK5 (HX.out _ (by omega)); have c3' := b3'.cell 0; have f3' := b3'.frozen 0)
    have e1 := intCells_snoc (natInts l) k HKL.out
    rw [HYE.out] at e1
    rw [e1] at hown5
    have hKW2 : Kept (fun i => v.ownBlock = some i) W2 w5 := ((Kept.refl _ W2).alloc (.cells #[.int .i64 y] 3)).trans hK5
    refine ⟨(others_of_kept' hKW2 (fun i o hi ho' => own_cells ho hi ho')).trans (KeepsOthers.setCell _ _ _), ?_, ⟨T1, ?_⟩, ⟨T2, ?_⟩, ⟨_, b3'.set_ 0 _, ?_⟩, ?_⟩
    · exact (hA.kept hKW2 (HX.out _ (by omega)) (HX.out _ (by omega))).far (p := ⟨w.heap.size + 1, 0, none⟩) (by dsimp only; omega) (by dsimp only; omega) _
    · exact (b1.kept hKW2 (HX.out _ (by omega))).far (p := ⟨w.heap.size + 1, 0, none⟩) (by dsimp only; omega) _
    · exact (b2.kept hKW2 (HX.out _ (by omega))).far (p := ⟨w.heap.size + 1, 0, none⟩) (by dsimp only; omega) _
    · exact own_kept hown5 ((Kept.refl (OneBlk (w.heap.size + 1)) w5).setCell (p := ⟨w.heap.size + 1, 0, none⟩) (fun _ => rfl) _) (fun i hi => by rw [show i = w.heap.size + 1 from hi]; omega)
    · exact (hKW.over hKW2 (fun i hi => by have := HXX.out i hi; omega)).setCell (p := ⟨w.heap.size + 1, 0, none⟩) (fun h => absurd h (by dsimp only; omega)) _
  case done =>
    rintro D k W hD rfl ⟨hA, ⟨T1, b1⟩, ⟨T2, b2⟩, ⟨v, b3, ho⟩, hKW⟩ hDef
    clear hB hR hAB hSB hK c_hB f_hB c_hR f_hR c_hAB f_hAB c_hSB f_hSB
    gi_wp2
    refine ⟨by simp, .inl ⟨_, _, rfl, run_takeDeferred hDef, ?_⟩⟩
    have hs : Same (w.heap.size + 2) W (W.putObj D (.deferred none)) := Same.putObj _ (by omega) hDef rfl
    have c2 := (hs.bk b3).cell 0
    have hws : (natInts l).take l.length = natInts l := List.take_of_length_le (by rw [natInts_len]; omega)
    rw [hws] at ho
    refine ⟨v, ?_, v, rfl, hs.own (own_base ho (by omega)), hs.kept hKW (by omega)⟩
    simp [results, Try.results53, go_sem, c2]
  case stop => exact fun _ _ _ _ _ h => h.elim

end Go.Proofs.Ytccgnnnildedoaa
