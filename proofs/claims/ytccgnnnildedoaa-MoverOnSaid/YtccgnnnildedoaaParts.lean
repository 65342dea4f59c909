/-
  The parts of a word, one behind the other (the iterator), and count.
  Conditions: the widths are right ones.
-/
import Derived.Test.YtccgnnnildedoaaWord
import Derived.Test.YtccgnnnildedoaaNth
import Derived.Test.YtccgnnnildedoaaSl
import Derived.Test.YtccgnnnildedoaaRange
set_option linter.unusedVariables false
namespace Go.Proofs.Ytccgnnnildedoaa
open Go.RowKit Go.Shelf
attribute [local go_sem] Oper.semAt_some

theorem kept_one (w : World) (g i : Nat) (u : Value) : Kept (OneBlk g) w (w.setCell ⟨g, i, none⟩ u) := (Kept.refl (OneBlk g) w).setCell (p := ⟨g, i, none⟩) (fun _ => rfl) u
theorem heap_far {w : World} {D g i : Nat} {o : Option Obj} (u : Value) (hne : D ≠ g) (h : w.heap[D]? = o) : (w.setCell ⟨g, i, none⟩ u).heap[D]? = o := (Below.heap_setCell w ⟨g, i, none⟩ u D hne).trans h
theorem nth_pos {ws : List Nat} (h : WidthsOk ws) {k : Nat} (hk : k < ws.length) : 1 ≤ nth ws k := h.pos k hk
theorem nth_at {ws : List Nat} (h : WidthsOk ws) {k : Nat} (hk : k < ws.length) : atN ws k + nth ws k ≤ 64 := h.at hk
theorem nth_succ {ws : List Nat} {k : Nat} (hk : k < ws.length) : atN ws (k + 1) = atN ws k + nth ws k := atN_succ ws k hk
theorem at_bd {ws : List Nat} (h : WidthsOk ws) (k : Nat) : atN ws k ≤ 64 := Nat.le_trans (atN_le ws k) h.sum

/-- The widths lie in block bx, as a slice. -/
structure WidthsAt (W : World) (bx : Nat) (A : Option Addr) (m c : Nat) (ws : List Nat) : Prop where
  box : ∃ T, Bk W bx T #[.slice A m c]
  len : m = ws.length
  els : Sl W .i64 A m (fun i => (nth ws i : Nat))

def partV (ws : List Nat) (k : Nat) : Value := .agg #[.int .i64 (atN ws k : Nat), .int .i64 (nth ws k : Nat)]

set_option maxRecDepth 100000 in
set_option maxHeartbeats 1000000 in
theorem parts_iter (n : Nat) (hn : 1 ≤ n) (bx : Nat) (A : Option Addr) (m c : Nat) (ws : List Nat) (hok : WidthsOk ws) (I : Nat → World → Prop) (hIW : ∀ k W, I k W → WidthsAt W bx A m c ws) :
    IterA Fence.wide n Try.prog 106 #[.pointer (some ⟨bx, 0, none⟩)] (fun k => #[.int .i64 k, partV ws k]) I (fun k => k < ws.length) (fun k => k = ws.length) := by
  intro l J Jx W hJ hJx hJI hY h0
  have HY := Lib.hid hY
  have HJ := Lib.hid hJI
  have HIW := Lib.hid hIW
  obtain ⟨⟨T, hbox⟩, hm, hels⟩ := hIW _ _ (hJI _ _ h0)
  have hlen := hok.len
  have HELS := Lib.hid hels
  have HM := Lib.hid hm
  have hm64 : m ≤ 64 := by omega
  have c0 := hbox.cell 0
  clear hY hJI hIW hels hm
  refine callsIn_of_wp Try.func106 rfl trivial ?_ rfl
  simp only [Try.ntmps106, List.size_toArray, List.length_cons, List.length_nil, Nat.reduceAdd, Nat.reduceSub, Array.replicate_succ, Array.replicate_zero, List.push_toArray, List.append_toArray, List.nil_append, List.cons_append]
  gi_wp2
  gi_loopw [3, 9] (fun a b wr => ∃ k : Nat, k ≤ m ∧ a = .int .i64 (atN ws k : Nat) ∧ b = .int .i64 k ∧ J k wr) (fun _ b _ => 65 - (intOf b).toNat)
  case atStart => exact ⟨0, by omega, rfl, rfl, h0⟩
  case round =>
    obtain ⟨k, hk, rfl, rfl, hj⟩ := hrel
    by_cases hlt : k < m
    · have hp := nth_pos hok (k := k) (by have := HM.out; omega)
      have hat := nth_at hok (k := k) (by have := HM.out; omega)
      obtain ⟨b1, o1, rfl, c1⟩ := (HIW.out _ _ (HJ.out _ _ hj)).els k hlt
      have e0 : (0 : Int) ≤ (k : Int) := by omega
      have e1 : (k : Int) < (m : Int) := by omega
      gi_wp2_with fail
      refine ⟨trivial, (callsIn_wide.2 (right_part _ _ hp hat _)).mono ?_⟩
      rintro e w1 ⟨rfl, hK⟩
      have hb := (Bk.new wr 147 (#[.int .i64 (atN ws k : Nat), .int .i64 (nth ws k : Nat)] : Array Value)).kept hK id
      have hj1 := hJ _ _ _ hj (((Kept.refl NoBlk wr).alloc (.cells #[.int .i64 (atN ws k : Nat), .int .i64 (nth ws k : Nat)] 147)).trans hK)
      have d0 := hb.cell 0
      have d1 := hb.cell 1
      obtain ⟨fn, tmps, assign, body, hy, hR⟩ := HY.out k w1 (by have := HM.out; omega) hj1
      dsimp only [partV] at hy
      gi_wp2
      refine hR.mono ?_
      clear hR hy
      rintro e W' (⟨rfl, hj2⟩ | ⟨rfl, hx⟩)
      · have hs := Lib.hid (nth_succ (ws := ws) (k := k) (by have := HM.out; omega))
        gi_wp2
        go_roundw
        case rel => exact ⟨k + 1, by omega, by rw [hs.out]; go_num, by go_num, hj2⟩
        case measure => simp [intOf]; omega
      · gi_wp2
        refine bodyPost_ret (results_none rfl _ _ _) rfl ?_
        exact ⟨⟨_, rfl⟩, .inr ⟨_, hx⟩⟩
    · have hkm : k = ws.length := by have := HM.out; omega
      have HKM := Lib.hid hkm
      clear hkm
      have e1 : (m : Int) ≤ (k : Int) := by omega
      gi_wp2
      refine bodyPost_end (results_none rfl _ _ _) rfl ?_
      exact ⟨⟨_, rfl⟩, .inl ⟨k, HKM.out, hj⟩⟩

theorem parts_any (n : Nat) (A : Option Addr) (m c : Nat) (w : World) : CallsIn Fence.wide n Try.prog 91 #[.slice A m c] w fun e w' => e = .returned (.func (.func 106) #[] #[.pointer (some ⟨w.heap.size, 0, none⟩)]) ∧ w' = w.alloc (.cells #[.slice A m c] 74) := by
  refine callsIn_of_wp Try.func91 rfl trivial ?_ rfl
  simp only [Try.ntmps91, List.size_toArray, List.length_cons, List.length_nil, Nat.reduceAdd, Nat.reduceSub, Array.replicate_succ, Array.replicate_zero, List.push_toArray, List.append_toArray, List.nil_append, List.cons_append]
  gi_wp2
  go_ret
  exact ⟨rfl, rfl⟩

/-- Between two rounds of count. -/
def CountI (A : Option Addr) (m c : Nat) (ws : List Nat) (w : World) (k : Nat) (W : World) : Prop :=
  WidthsAt W (w.heap.size + 1 + 1) A m c ws ∧ (∃ T, Bk W w.heap.size T #[.int .i64 k]) ∧ (∃ T, Bk W (w.heap.size + 1) T #[.int .i64 (atN ws k : Nat)]) ∧ Kept NoBlk w W

theorem WidthsAt.same {W W' : World} {B bx : Nat} {A : Option Addr} {m c : Nat} {ws : List Nat} (h : WidthsAt W bx A m c ws) (hs : Same B W W') : WidthsAt W' bx A m c ws := by
  obtain ⟨⟨T, hb⟩, hl, he⟩ := h
  refine ⟨⟨T, hs.bk hb⟩, hl, fun i hi => ?_⟩
  obtain ⟨b, o, hA, hc⟩ := he i hi
  exact ⟨b, o, hA, hs.cell hc⟩
theorem WidthsAt.kept {W W' : World} {S : Nat → Prop} {bx : Nat} {A : Option Addr} {m c : Nat} {ws : List Nat} (h : WidthsAt W bx A m c ws) (hk : Kept S W W') (h1 : ¬ S bx) (h2 : ∀ b o, A = some ⟨b, o, none⟩ → ¬ S b) : WidthsAt W' bx A m c ws := by
  obtain ⟨⟨T, hb⟩, hl, he⟩ := h
  exact ⟨⟨T, hb.kept hk h1⟩, hl, he.kept hk h2⟩

set_option maxRecDepth 100000 in
set_option maxHeartbeats 1000000 in
theorem count_yes (A : Option Addr) (m c : Nat) (ws : List Nat) (hok : WidthsOk ws) (w : World) (hm : m = ws.length) (hels : Sl w .i64 A m (fun i => (nth ws i : Nat))) (hA : ∀ b o, A = some ⟨b, o, none⟩ → b < w.heap.size) :
    Calls Try.prog 90 #[.slice A m c] w fun e w' => e = .returned (.tuple #[.int .i64 m, .int .i64 (ws.sum : Nat)]) ∧ Kept NoBlk w w' := by
  have hlen := hok.len
  have HM := Lib.hid hm
  have HELS := Lib.hid hels
  have HA := Lib.hid hA
  clear hm hels hA
  refine (callsIn_wide (n := 6)).1 ?_
  refine callsIn_of_wp_marks Try.func90 rfl trivial ?_ rfl
  simp only [Try.ntmps90, List.size_toArray, List.length_cons, List.length_nil, Nat.reduceAdd, Nat.reduceSub, Array.replicate_succ, Array.replicate_zero, List.push_toArray, List.append_toArray, List.nil_append, List.cons_append]
  have hs1 : ∀ (W : World) (o : Obj), (W.alloc o).heap.size = W.heap.size + 1 := fun W o => by simp
  have HS1 := Lib.hid hs1
  clear hs1
  gi_wp2_with (refine ⟨trivial, ?_⟩; gi_at_call 91; refine (parts_any _ _ _ _ _).mono ?_; rintro e w' ⟨rfl, rfl⟩)
  refine rangeLoopA (gf := 106) (lb := #[.pointer (some ⟨w.heap.size + 1 + 1, 0, none⟩)]) rfl (by omega) rfl trivial (enters_of Try.func106 (by kernel_rfl) rfl) (CountI A m c ws w) (fun _ _ _ => False)
    (parts_iter _ (by decide) _ A m c ws hok _ (fun k W h => h.1)) (fun _ => rfl) ?stay ?stayx ?start ?round ?done ?stop
  case stay =>
    rintro k W W' ⟨h1, ⟨T1, b1⟩, ⟨T2, b2⟩, hK⟩ hs
    exact ⟨h1.same hs, ⟨T1, hs.bk b1⟩, ⟨T2, hs.bk b2⟩, hs.kept hK (by simp; omega)⟩
  case stayx => exact fun _ _ _ _ h => h.elim
  case start =>
    have hKs : Kept NoBlk w (((w.alloc (.cells #[.int .i64 0] 3)).alloc (.cells #[.int .i64 0] 3)).alloc (.cells #[.slice A m c] 74)) := (((Kept.refl _ w).alloc _).alloc _).alloc _
    refine ⟨⟨⟨74, ?_⟩, HM.out, HELS.out.kept hKs (fun _ _ _ => id)⟩, ⟨_, ((Bk.new w _ _).alloc _).alloc _⟩, ⟨3, ?_⟩, hKs⟩
    · rw [← HS1.out w, ← HS1.out (w.alloc _)]; exact Bk.new _ _ _
    · rw [← HS1.out w]; exact (Bk.new _ _ _).alloc _
  case round =>
    rintro l k W hk hI
    dsimp only [partV]
    gi_wp2
    refine ⟨(Kept.refl _ W).alloc _, fun W2 hs hI2 => ?_⟩
    have hp := hs.bk (Bk.new W 147 (#[.int .i64 (atN ws k : Nat), .int .i64 (nth ws k : Nat)] : Array Value))
    obtain ⟨hWd, ⟨T1, b1⟩, ⟨T2, b2⟩, hK⟩ := hI2
    have hWs : w.heap.size + 1 + 1 < W.heap.size := (hI.1.box.choose_spec).lt
    have hsz := hs.size
    have hat := nth_at hok hk
    have hsu := Lib.hid (nth_succ hk)
    have c1 := b1.cell 0
    have c2 := b2.cell 0
    have f1 := b1.frozen 0
    have f2 := b2.frozen 0
    have d0 := hp.cell 0
    have d1 := hp.cell 1
    gi_wp2
    refine ⟨(KeepsOthers.setCell _ _ _).trans (KeepsOthers.setCell _ _ _), ?_, ⟨T1, ?_⟩, ⟨T2, ?_⟩, ?_⟩
    · have h1 : ¬ OneBlk w.heap.size (w.heap.size + 1 + 1) := fun h => by have : w.heap.size + 1 + 1 = w.heap.size := h; omega
      have h2 : ¬ OneBlk (w.heap.size + 1) (w.heap.size + 1 + 1) := fun h => by have : w.heap.size + 1 + 1 = w.heap.size + 1 := h; omega
      refine (hWd.kept ((Kept.refl (OneBlk w.heap.size) W2).setCell (p := ⟨w.heap.size, 0, none⟩) (fun _ => rfl) _) h1 (fun b o hA h => ?_)).kept ((Kept.refl (OneBlk (w.heap.size + 1)) _).setCell (p := ⟨w.heap.size + 1, 0, none⟩) (fun _ => rfl) _) h2 (fun b o hA h => ?_)
      · have := HA.out b o hA; have h' : b = w.heap.size := h; omega
      · have := HA.out b o hA; have h' : b = w.heap.size + 1 := h; omega
    · have := (b1.set_ 0 (.int .i64 ((k + 1 : Nat) : Int))).far (p := ⟨w.heap.size + 1, 0, none⟩) (by dsimp only; omega) (.int .i64 ((atN ws k : Nat) + (nth ws k : Nat) : Int))
      simpa using this
    · have := (b2.far (p := ⟨w.heap.size, 0, none⟩) (by dsimp only; omega) (.int .i64 ((k : Int) + 1))).set_ 0 (.int .i64 ((atN ws k : Nat) + (nth ws k : Nat) : Int))
      rw [hsu.out]; simpa using this
    · exact (hK.setCell (p := ⟨_, 0, none⟩) (fun h => absurd h (by dsimp only; omega)) _).setCell (p := ⟨_, 0, none⟩) (fun h => absurd h (by dsimp only; omega)) _
  case done =>
    rintro D k W hD hk ⟨hWd, ⟨T1, b1⟩, ⟨T2, b2⟩, hK⟩ hDef
    have HK' := Lib.hid hk
    clear hk
    gi_wp2
    refine ⟨by simp, .inl ⟨_, _, rfl, run_takeDeferred hDef, ?_⟩⟩
    have hs : Same (w.heap.size + 3) W (W.putObj D (.deferred none)) := Same.putObj _ (by simp at hD; omega) hDef rfl
    have c1 := (hs.bk b1).cell 0
    have c2 := (hs.bk b2).cell 0
    refine ⟨.tuple #[.int .i64 k, .int .i64 (atN ws k : Nat)], ?_, ?_, hs.kept hK (by omega)⟩
    · simp [results, Try.results90, go_sem, c1, c2]
    · rw [HM.out, HK'.out, atN_all ws _ (Nat.le_refl _)]
  case stop => exact fun _ _ _ _ _ h => h.elim

end Go.Proofs.Ytccgnnnildedoaa
