/-
  Pack and Unpack, of right widths, and of numbers that go into them.
  Conditions: the widths are right ones; each number goes into its width.
-/
import Derived.Test.YtccgnnnildedoaaParts
import Derived.Test.YtccgnnnildedoaaRound
import Derived.Deep.OwnRows
set_option linter.unusedVariables false
namespace Go.Proofs.Ytccgnnnildedoaa
open Go.RowKit Go.Shelf
attribute [local go_sem] Oper.semAt_some

/-- Between two rounds of Pack. -/
def PackI (A B : Option Addr) (m c d : Nat) (ws ls : List Nat) (w : World) (bx : Nat) (k : Nat) (W : World) : Prop :=
  WidthsAt W bx A m c ws ∧ Sl W .u64 B m (fun i => (nth ls i : Nat)) ∧ (∃ T, Bk W w.heap.size T #[.slice B m d]) ∧ (∃ T, Bk W (w.heap.size + 1) T #[.int .u64 (packTo ws ls k : Nat)]) ∧ (∃ T b, Bk W (w.heap.size + 1 + 1) T #[.bool b]) ∧ Kept NoBlk w W

theorem Sl.same {B : Nat} {w w' : World} {k : IntKind} {A : Option Addr} {n : Nat} {f : Nat → Int} (h : Sl w k A n f) (hs : Same B w w') : Sl w' k A n f := fun i hi => by
  obtain ⟨b, o, hA, hc⟩ := h i hi
  exact ⟨b, o, hA, hs.cell hc⟩

set_option maxRecDepth 100000 in
set_option maxHeartbeats 1000000 in
theorem pack_yes (A B : Option Addr) (m c d : Nat) (ws ls : List Nat) (hok : WidthsOk ws) (hfit : FitsN ws ls) (w : World) (hm : m = ws.length) (hels : Sl w .i64 A m (fun i => (nth ws i : Nat))) (hA : ∀ b o, A = some ⟨b, o, none⟩ → b < w.heap.size)
    (hls : Sl w .u64 B m (fun i => (nth ls i : Nat))) (hB : ∀ b o, B = some ⟨b, o, none⟩ → b < w.heap.size) :
    Calls Try.prog 64 #[.slice A m c, .slice B m d] w fun e w' => e = .returned (.tuple #[.int .u64 (packN ws ls : Nat), .bool true]) ∧ Kept NoBlk w w' := by
  have hlen := hok.len
  have HM := Lib.hid hm
  have HELS := Lib.hid hels
  have HLS := Lib.hid hls
  have HA := Lib.hid hA
  have HB := Lib.hid hB
  clear hm hels hA hls hB
  refine (callsIn_wide (n := 6)).1 ?_
  refine callsIn_of_wp_marks Try.func64 rfl trivial ?_ rfl
  simp only [Try.ntmps64, List.size_toArray, List.length_cons, List.length_nil, Nat.reduceAdd, Nat.reduceSub, Array.replicate_succ, Array.replicate_zero, List.push_toArray, List.append_toArray, List.nil_append, List.cons_append]
  have hs1 : ∀ (W : World) (o : Obj), (W.alloc o).heap.size = W.heap.size + 1 := fun W o => by simp
  have HS1 := Lib.hid hs1
  clear hs1
  have hK3 : Kept NoBlk w (((w.alloc (.cells #[.slice B m d] 44)).alloc (.cells #[.int .u64 0] 27)).alloc (.cells #[.bool false] 4)) := (((Kept.refl _ w).alloc _).alloc _).alloc _
  gi_wp2_with fail
  refine ⟨trivial, (callsIn_wide.2 (count_yes A m c ws hok _ HM.out (HELS.out.kept hK3 (fun _ _ _ => id)) (fun b o h => by have := HA.out b o h; have := hK3.size; omega))).mono ?_⟩
  rintro e w1 ⟨rfl, hK⟩
  have b1 := (((Bk.new w 44 (#[.slice B m d] : Array Value)).alloc (.cells #[.int .u64 0] 27)).alloc (.cells #[.bool false] 4)).kept hK id
  have b2 := ((Bk.new (w.alloc (.cells #[.slice B m d] 44)) 27 (#[.int .u64 0] : Array Value)).alloc (.cells #[.bool false] 4)).kept hK id
  have b3 := ((Bk.new ((w.alloc (.cells #[.slice B m d] 44)).alloc (.cells #[.int .u64 0] 27)) 4 (#[.bool false] : Array Value))).kept hK id
  rw [HS1.out] at b2
  rw [HS1.out, HS1.out] at b3
  replace hK := hK3.trans hK
  clear hK3
  have c1 := b1.cell 0
  gi_wp2_with (refine ⟨trivial, ?_⟩; gi_at_call 91; refine (parts_any _ _ _ _ _).mono ?_; rintro e w' ⟨rfl, rfl⟩)
  have hb3 := b3.lt
  refine rangeLoopA (gf := 106) (lb := #[.pointer (some ⟨w1.heap.size, 0, none⟩)]) rfl (by omega) rfl trivial (enters_of Try.func106 (by kernel_rfl) rfl) (PackI A B m c d ws ls w w1.heap.size) (fun _ _ _ => False)
    (parts_iter _ (by decide) _ A m c ws hok _ (fun k W h => h.1)) (fun _ => rfl) ?stay ?stayx ?start ?round ?done ?stop
  case stay =>
    rintro k W W' ⟨h1, h2, ⟨T1, b1⟩, ⟨T2, b2⟩, ⟨T3, b, b3⟩, hK⟩ hs
    exact ⟨h1.same hs, h2.same hs, ⟨T1, hs.bk b1⟩, ⟨T2, hs.bk b2⟩, ⟨T3, b, hs.bk b3⟩, hs.kept hK (by simp; omega)⟩
  case stayx => exact fun _ _ _ _ h => h.elim
  case start =>
    refine ⟨⟨⟨74, Bk.new _ _ _⟩, HM.out, HELS.out.kept (hK.alloc _) (fun _ _ _ => id)⟩, HLS.out.kept (hK.alloc _) (fun _ _ _ => id), ⟨_, b1.alloc _⟩, ⟨_, b2.alloc _⟩, ⟨_, _, b3.alloc _⟩, hK.alloc _⟩
  case round =>
    rintro l k W hk hI
    dsimp only [partV]
    gi_wp2
    refine ⟨(Kept.refl _ W).alloc _, fun W2 hs hI2 => ?_⟩
    have hp := hs.bk (Bk.new W 147 (#[.int .i64 (atN ws k : Nat), .int .i64 (nth ws k : Nat)] : Array Value))
    have hWs : w1.heap.size < W.heap.size := (hI.1.box.choose_spec).lt
    clear hI
    obtain ⟨hWd, hSl, ⟨T1, b1⟩, ⟨T2, b2⟩, ⟨T3, b, b3⟩, hK⟩ := hI2
    have hsz := hs.size
    have hat := nth_at hok hk
    have hps := nth_pos hok hk
    have hkm : k < m := by have := HM.out; omega
    obtain ⟨B1, o1, rfl, c4⟩ := hSl k hkm
    have c1 := b1.cell 0
    have c2 := b2.cell 0
    have c3 := b3.cell 0
    have f2 := b2.frozen 0
    have f3 := b3.frozen 0
    have d0 := hp.cell 0
    have d1 := hp.cell 1
    have e0 : (0 : Int) ≤ (k : Int) := by omega
    have e1 : (k : Int) < (m : Int) := by omega
    have Hx1 := Lib.hid (show packTo ws ls k < 18446744073709551616 from Nat.lt_of_lt_of_le (packTo_lt hfit k) (Nat.pow_le_pow_right (by omega) (at_bd hok k)))
    have Hx2 := Lib.hid (show nth ls k < 2 ^ nth ws k from fits_get k hfit hk)
    gi_wp2
    have hSet := fun W => set_part _ _ _ _ Hx1.out hps hat Hx2.out W
    refine wpIn_round_held (S := (fun V => V.cell? ⟨W.heap.size, 0, none⟩ = some (.int .i64 (atN ws k : Nat)) ∧ V.cell? ⟨W.heap.size, 1, none⟩ = some (.int .i64 (nth ws k : Nat)) ∧ V.cell? ⟨w.heap.size, 0, none⟩ = some (.slice (some ⟨B1, o1, none⟩) m d) ∧ V.cell? ⟨B1, o1 + k, none⟩ = some (.int .u64 (nth ls k : Nat)))) (by kernel_rfl) (by kernel_rfl) (by rintro ⟨_, _, h⟩; exact h) (by ((try dsimp only); exact ⟨d0, d1, c1, c4⟩)) (fun hHeld => ?_)
    ((first
      | (refine wpAnyH_takeL (i := 1) (v := ?hv1) rfl (by kernel_rfl) (by kernel_rfl) (by kernel_rfl) (fun _ _ _ h => h) (Or.inl (And.intro ?hw1 ?hy1)) (by assumption) ?rest1
         case hw1 => rfl
         case hy1 => (intro wHy hSw; (try dsimp only at hSw); go_simp; (first | done | with_reducible rfl)))
      | (refine wpAnyH_takeL (i := 1) (v := undef) rfl (by kernel_rfl) (by kernel_rfl) (by kernel_rfl) (fun _ _ _ h => h) (Or.inr (And.intro (by rfl) rfl)) (by assumption) ?rest1x))
     (try simp only [Act.put, List.setIfInBounds_toArray, List.set_cons_zero, List.set_cons_succ]))
    ((first
      | (refine wpAnyH_takeL (i := 2) (v := ?hv2) rfl (by kernel_rfl) (by kernel_rfl) (by kernel_rfl) (fun _ _ _ h => h) (Or.inl (And.intro ?hw2 ?hy2)) (by assumption) ?rest2
         case hw2 => rfl
         case hy2 => (intro wHy hSw; (try dsimp only at hSw); go_simp; (first | done | with_reducible rfl)))
      | (refine wpAnyH_takeL (i := 2) (v := undef) rfl (by kernel_rfl) (by kernel_rfl) (by kernel_rfl) (fun _ _ _ h => h) (Or.inr (And.intro (by rfl) rfl)) (by assumption) ?rest2x))
     (try simp only [Act.put, List.setIfInBounds_toArray, List.set_cons_zero, List.set_cons_succ]))
    ((first
      | (refine wpAnyH_takeL (i := 3) (v := ?hv3) rfl (by kernel_rfl) (by kernel_rfl) (by kernel_rfl) (fun _ _ _ h => h) (Or.inl (And.intro ?hw3 ?hy3)) (by assumption) ?rest3
         case hw3 => rfl
         case hy3 => (intro wHy hSw; (try dsimp only at hSw); go_simp; (first | done | with_reducible rfl)))
      | (refine wpAnyH_takeL (i := 3) (v := undef) rfl (by kernel_rfl) (by kernel_rfl) (by kernel_rfl) (fun _ _ _ h => h) (Or.inr (And.intro (by rfl) rfl)) (by assumption) ?rest3x))
     (try simp only [Act.put, List.setIfInBounds_toArray, List.set_cons_zero, List.set_cons_succ]))
    ((first
      | (refine wpAnyH_takeL (i := 4) (v := ?hv4) rfl (by kernel_rfl) (by kernel_rfl) (by kernel_rfl) (fun _ _ _ h => h) (Or.inl (And.intro ?hw4 ?hy4)) (by assumption) ?rest4
         case hw4 => rfl
         case hy4 => (intro wHy hSw; (try dsimp only at hSw); go_simp; (first | done | with_reducible rfl)))
      | (refine wpAnyH_takeL (i := 4) (v := undef) rfl (by kernel_rfl) (by kernel_rfl) (by kernel_rfl) (fun _ _ _ h => h) (Or.inr (And.intro (by rfl) rfl)) (by assumption) ?rest4x))
     (try simp only [Act.put, List.setIfInBounds_toArray, List.set_cons_zero, List.set_cons_succ]))
    ((first
      | (refine wpAnyH_takeL (i := 5) (v := ?hv5) rfl (by kernel_rfl) (by kernel_rfl) (by kernel_rfl) (fun _ _ _ h => h) (Or.inl (And.intro ?hw5 ?hy5)) (by assumption) ?rest5
         case hw5 => rfl
         case hy5 => (intro wHy hSw; (try dsimp only at hSw); go_simp; (first | done | with_reducible rfl)))
      | (refine wpAnyH_takeL (i := 5) (v := undef) rfl (by kernel_rfl) (by kernel_rfl) (by kernel_rfl) (fun _ _ _ h => h) (Or.inr (And.intro (by rfl) rfl)) (by assumption) ?rest5x))
     (try simp only [Act.put, List.setIfInBounds_toArray, List.set_cons_zero, List.set_cons_succ]))
    refine wpAnyH_ready (rs := [0]) (by kernel_rfl) (by simp) (AllReadyH.consL rfl (fun K hKcc => ?_) AllReadyH.nil)
    go_simp
    refine hKcc.out _ _ ?held6 (fun hHeld => ?_)
    case held6 => ((try dsimp only); exact ⟨d0, d1, c1, c4⟩)
    clear hKcc K
    (try simp only [Act.put, List.setIfInBounds_toArray, List.set_cons_zero, List.set_cons_succ])
    refine wpAnyH_ready (rs := [6]) (by kernel_rfl) (by simp) (AllReadyH.consL rfl (fun K hKcc => ?_) AllReadyH.nil)
    go_simp
    go_at_call 92; refine (hSet _).mono ?_; rintro e wc ⟨rfl, hKc⟩
    refine hKcc.out _ _ ?held7 (fun hHeld => ?_)
    case held7 => ((try dsimp only); exact ⟨hKc.cell_some d0, hKc.cell_some d1, hKc.cell_some c1, hKc.cell_some c4⟩)
    clear hKcc K
    (try simp only [Act.put, List.setIfInBounds_toArray, List.set_cons_zero, List.set_cons_succ])
    ((first
      | (refine wpAnyH_takeL (i := 7) (v := ?hv8) rfl (by kernel_rfl) (by kernel_rfl) (by kernel_rfl) (fun _ _ _ h => h) (Or.inl (And.intro ?hw8 ?hy8)) (by assumption) ?rest8
         case hw8 => rfl
         case hy8 => (intro wHy hSw; (try dsimp only at hSw); go_simp; (first | done | with_reducible rfl)))
      | (refine wpAnyH_takeL (i := 7) (v := undef) rfl (by kernel_rfl) (by kernel_rfl) (by kernel_rfl) (fun _ _ _ h => h) (Or.inr (And.intro (by rfl) rfl)) (by assumption) ?rest8x))
     (try simp only [Act.put, List.setIfInBounds_toArray, List.set_cons_zero, List.set_cons_succ]))
    ((first
      | (refine wpAnyH_takeL (i := 8) (v := ?hv9) rfl (by kernel_rfl) (by kernel_rfl) (by kernel_rfl) (fun _ _ _ h => h) (Or.inl (And.intro ?hw9 ?hy9)) (by assumption) ?rest9
         case hw9 => rfl
         case hy9 => (intro wHy hSw; (try dsimp only at hSw); go_simp; (first | done | with_reducible rfl)))
      | (refine wpAnyH_takeL (i := 8) (v := undef) rfl (by kernel_rfl) (by kernel_rfl) (by kernel_rfl) (fun _ _ _ h => h) (Or.inr (And.intro (by rfl) rfl)) (by assumption) ?rest9x))
     (try simp only [Act.put, List.setIfInBounds_toArray, List.set_cons_zero, List.set_cons_succ]))
    ((first
      | (refine wpAnyH_takeL (i := 9) (v := ?hv10) rfl (by kernel_rfl) (by kernel_rfl) (by kernel_rfl) (fun _ _ _ h => h) (Or.inl (And.intro ?hw10 ?hy10)) (by assumption) ?rest10
         case hw10 => rfl
         case hy10 => (intro wHy hSw; (try dsimp only at hSw); go_simp; (first | done | with_reducible rfl)))
      | (refine wpAnyH_takeL (i := 9) (v := undef) rfl (by kernel_rfl) (by kernel_rfl) (by kernel_rfl) (fun _ _ _ h => h) (Or.inr (And.intro (by rfl) rfl)) (by assumption) ?rest10x))
     (try simp only [Act.put, List.setIfInBounds_toArray, List.set_cons_zero, List.set_cons_succ]))
    have g2 := b2.drew.kept hKc id
    have g3 := b3.drew.kept hKc id
    have k2 := g2.cell 0
    have k3 := g3.cell 0
    have n2 := g2.frozen 0
    have n3 := g3.frozen 0
    have B1lt := HB.out B1 o1 rfl
    have h1 := hKc.cell_some d0
    have h2 := hKc.cell_some d1
    have h3 := hKc.cell_some c1
    have h4 := hKc.cell_some c4
    refine wpAnyH_ready (rs := [10]) (by kernel_rfl) (by simp) (AllReadyH.consL rfl (fun K hKcc => ?_) AllReadyH.nil)
    go_simp
    refine hKcc.out _ _ ?held11 (fun hHeld => ?_)
    case held11 => ((try dsimp only); exact ⟨(World.cell?_setCell_far _ _ _ _ (by dsimp only; omega)).trans h1, (World.cell?_setCell_far _ _ _ _ (by dsimp only; omega)).trans h2, (World.cell?_setCell_far _ _ _ _ (by dsimp only; omega)).trans h3, (World.cell?_setCell_far _ _ _ _ (by dsimp only; omega)).trans h4⟩)
    clear hKcc K
    (try simp only [Act.put, List.setIfInBounds_toArray, List.set_cons_zero, List.set_cons_succ])
    refine wpAnyH_ready (rs := [11]) (by kernel_rfl) (by simp) (AllReadyH.consL rfl (fun K hKcc => ?_) AllReadyH.nil)
    go_simp
    refine hKcc.out _ _ ?held12 (fun hHeld => ?_)
    case held12 => ((try dsimp only); exact ⟨(World.cell?_setCell_far _ _ _ _ (by dsimp only; omega)).trans ((World.cell?_setCell_far _ _ _ _ (by dsimp only; omega)).trans h1), (World.cell?_setCell_far _ _ _ _ (by dsimp only; omega)).trans ((World.cell?_setCell_far _ _ _ _ (by dsimp only; omega)).trans h2), (World.cell?_setCell_far _ _ _ _ (by dsimp only; omega)).trans ((World.cell?_setCell_far _ _ _ _ (by dsimp only; omega)).trans h3), (World.cell?_setCell_far _ _ _ _ (by dsimp only; omega)).trans ((World.cell?_setCell_far _ _ _ _ (by dsimp only; omega)).trans h4)⟩)
    clear hKcc K
    (try simp only [Act.put, List.setIfInBounds_toArray, List.set_cons_zero, List.set_cons_succ])
    refine wpAnyH_done (by kernel_rfl) ?_ _
    gi_wp2
    have hKw : Kept NoBlk W2 wc := ⟨hKc.os, hKc.tape, hKc.output, hKc.size, hKc.block⟩
    have hne1 : ¬ OneBlk (w.heap.size + 1) w1.heap.size := fun h => by have h' : w1.heap.size = w.heap.size + 1 := h; omega
    have hne2 : ¬ OneBlk (w.heap.size + 1 + 1) w1.heap.size := fun h => by have h' : w1.heap.size = w.heap.size + 1 + 1 := h; omega
    have hA1 : ∀ b o, A = some ⟨b, o, none⟩ → ¬ OneBlk (w.heap.size + 1) b := fun b o hA h => by have := HA.out b o hA; have h' : b = w.heap.size + 1 := h; omega
    have hA2 : ∀ b o, A = some ⟨b, o, none⟩ → ¬ OneBlk (w.heap.size + 1 + 1) b := fun b o hA h => by have := HA.out b o hA; have h' : b = w.heap.size + 1 + 1 := h; omega
    have hB1 : ∀ b o, some (⟨B1, o1, none⟩ : Addr) = some ⟨b, o, none⟩ → ¬ OneBlk (w.heap.size + 1) b := fun b o hA h => by have := HB.out b o hA; have h' : b = w.heap.size + 1 := h; omega
    have hB2 : ∀ b o, some (⟨B1, o1, none⟩ : Addr) = some ⟨b, o, none⟩ → ¬ OneBlk (w.heap.size + 1 + 1) b := fun b o hA h => by have := HB.out b o hA; have h' : b = w.heap.size + 1 + 1 := h; omega
    have hq1 : ∀ u, Kept (OneBlk (w.heap.size + 1)) wc (wc.setCell ⟨w.heap.size + 1, 0, none⟩ u) := fun u => kept_one _ _ _ u
    have hq2 : ∀ (V : World) u, Kept (OneBlk (w.heap.size + 1 + 1)) V (V.setCell ⟨w.heap.size + 1 + 1, 0, none⟩ u) := fun V u => kept_one _ _ _ u
    refine ⟨((others_of_kept hKw).trans (KeepsOthers.setCell _ _ _)).trans (KeepsOthers.setCell _ _ _), ?_, ?_, ⟨T1, ?_⟩, ⟨T2, ?_⟩, ⟨T3, true, ?_⟩, ?_⟩
    · exact ((hWd.kept hKw id (fun _ _ _ => id)).kept (hq1 _) hne1 hA1).kept (hq2 _ _) hne2 hA2
    · exact ((hSl.kept hKw (fun _ _ _ => id)).kept (hq1 _) hB1).kept (hq2 _ _) hB2
    · exact ((b1.kept hKw id).far (p := ⟨w.heap.size + 1, 0, none⟩) (by dsimp only; omega) _).far (p := ⟨w.heap.size + 1 + 1, 0, none⟩) (by dsimp only; omega) _
    · have e : packTo ws ls (k + 1) = setN (packTo ws ls k) (atN ws k) (nth ws k) (nth ls k) := by
        rw [set_beyond hat (packTo_lt hfit k) Hx2.out]; exact packTo_succ hfit k hk
      rw [e]
      exact (g2.set_ 0 _).far (p := ⟨w.heap.size + 1 + 1, 0, none⟩) (by dsimp only; omega) _
    · exact (g3.far (p := ⟨w.heap.size + 1, 0, none⟩) (by dsimp only; omega) _).set_ 0 _
    · exact ((hK.trans hKw).setCell (p := ⟨_, 0, none⟩) (fun h => absurd h (by dsimp only; omega)) _).setCell (p := ⟨_, 0, none⟩) (fun h => absurd h (by dsimp only; omega)) _
  case done =>
    rintro D k W hD hk ⟨hWd, hSl, ⟨T1, b1⟩, ⟨T2, b2⟩, ⟨T3, b, b3⟩, hK⟩ hDef
    have HK' := Lib.hid hk
    clear hk
    have c2 := b2.cell 0
    have f2 := b2.frozen 0
    have c3 := b3.cell 0
    have f3 := b3.frozen 0
    have hDs : w1.heap.size + 1 ≤ D := by simpa using hD
    have hDw : w.heap.size + 1 + 1 < w1.heap.size := hb3
    gi_wp2
    have hDef2 := heap_far (g := w.heap.size + 1 + 1) (i := 0) (.bool true) (by omega) (heap_far (g := w.heap.size + 1) (i := 0) (.int .u64 (packTo ws ls k : Nat)) (by omega) hDef)
    refine ⟨by simp, .inl ⟨_, _, rfl, run_takeDeferred hDef2, ?_⟩⟩
    have hs : Same (w1.heap.size + 1) ((W.setCell ⟨w.heap.size + 1, 0, none⟩ (.int .u64 (packTo ws ls k : Nat))).setCell ⟨w.heap.size + 1 + 1, 0, none⟩ (.bool true)) _ := Same.putObj (l := D) (.deferred none) (by omega) hDef2 rfl
    have g2 := hs.bk ((b2.set_ 0 (.int .u64 (packTo ws ls k : Nat))).far (p := ⟨w.heap.size + 1 + 1, 0, none⟩) (by dsimp only; omega) (.bool true))
    have g3 := hs.bk ((b3.far (p := ⟨w.heap.size + 1, 0, none⟩) (by dsimp only; omega) (.int .u64 (packTo ws ls k : Nat))).set_ 0 (.bool true))
    have c2 := g2.cell 0
    have c3 := g3.cell 0
    refine ⟨.tuple #[.int .u64 (packTo ws ls k : Nat), .bool true], ?_, ?_, hs.kept ((hK.setCell (p := ⟨_, 0, none⟩) (fun h => absurd h (by dsimp only; omega)) _).setCell (p := ⟨_, 0, none⟩) (fun h => absurd h (by dsimp only; omega)) _) (by omega)⟩
    · simp [results, Try.results64, go_sem, c2, c3]
    · rw [HK'.out, packTo_all hfit _ (Nat.le_refl _)]
  case stop => exact fun _ _ _ _ _ h => h.elim

theorem u64_info' : (Try.prog.info? 27).map (fun i => (i.zero, i.size, i.bytes)) = some (some (.int .u64 0), 1, 8) := by kernel_rfl

/-- The first k numbers that are unpacked. -/
def unpackV (ws : List Nat) (x k : Nat) : List Value := (List.range k).map fun j => .int .u64 (getN x (atN ws j) (nth ws j) : Nat)
theorem unpackV_snoc (ws : List Nat) (x k : Nat) : unpackV ws x k ++ [.int .u64 (getN x (atN ws k) (nth ws k) : Nat)] = unpackV ws x (k + 1) := by simp [unpackV, List.range_succ]

theorem unpackV_at {ws : List Nat} {x n i : Nat} (hi : i < n) (hn : n ≤ ws.length) : (unpackV ws x n)[i]? = some (.int .u64 (nth (unpackN ws x) i : Nat)) := by
  have e : nth (unpackN ws x) i = getN x (atN ws i) (nth ws i) := unpack_at ws x i (by omega)
  unfold unpackV
  rw [List.getElem?_map, List.getElem?_range hi, e]
  rfl

/-- Between two rounds of Unpack. -/
def UnpackI (A : Option Addr) (m c : Nat) (ws : List Nat) (x : Nat) (w : World) (bx : Nat) (k : Nat) (W : World) : Prop :=
  WidthsAt W bx A m c ws ∧ (∃ T, Bk W w.heap.size T #[.int .u64 x]) ∧ (∃ T q cap, Bk W (w.heap.size + 1) T #[.slice q k cap] ∧ W.ownsRow (bx + 1) 27 1 (.slice q k cap) k (unpackV ws x k)) ∧ Kept NoBlk w W

theorem unpack_rel {A : Option Addr} {m c x k : Nat} {ws : List Nat} {w w1 W2 wc w5 : World} {q : Option Addr} {cap g1 cap1 : Nat} {o : Obj} {T1 T2 : TypeId}
    (hk : k < ws.length) (hWd : WidthsAt W2 w1.heap.size A m c ws) (hA : ∀ b o, A = some ⟨b, o, none⟩ → b < w.heap.size) (hlt : w.heap.size + 1 < w1.heap.size)
    (b1 : Bk W2 w.heap.size T1 #[.int .u64 x]) (g2 : Bk wc (w.heap.size + 1) T2 #[.slice q k cap])
    (hx1 : ¬ (fun i => (Value.slice q k cap).ownBlock = some i) w.heap.size) (hx2 : ¬ (fun i => (Value.slice q k cap).ownBlock = some i) (w.heap.size + 1))
    (hown : ∀ i, (Value.slice q k cap).ownBlock = some i → w1.heap.size + 1 ≤ i)
    (hK : Kept NoBlk w W2) (hKc : Kept NoBlk W2 wc) (hgo : wc.ownsRow (w1.heap.size + 1) 27 1 (.slice q k cap) k (unpackV ws x k)) (hK5 : Kept (fun i => (Value.slice q k cap).ownBlock = some i) (wc.alloc o) w5)
    (hown5 : w5.ownsRow (w1.heap.size + 1) 27 1 (.slice (some ⟨g1, 0, none⟩) (k + 1) cap1) (k + 1) (unpackV ws x k ++ [.int .u64 (getN x (atN ws k) (nth ws k) : Nat)])) :
    KeepsOthers W2 (w5.setCell ⟨w.heap.size + 1, 0, none⟩ (.slice (some ⟨g1, 0, none⟩) (k + 1) cap1)) ∧ UnpackI A m c ws x w w1.heap.size (k + 1) (w5.setCell ⟨w.heap.size + 1, 0, none⟩ (.slice (some ⟨g1, 0, none⟩) (k + 1) cap1)) := by
  rw [unpackV_snoc] at hown5
  have hA5 : Kept (OneBlk (w.heap.size + 1)) w5 (w5.setCell ⟨w.heap.size + 1, 0, none⟩ (.slice (some ⟨g1, 0, none⟩) (k + 1) cap1)) := kept_one _ _ _ _
  have hne : ¬ OneBlk (w.heap.size + 1) w1.heap.size := fun h => by have h' : w1.heap.size = w.heap.size + 1 := h; omega
  have hAo : ∀ b o, A = some ⟨b, o, none⟩ → ¬ OneBlk (w.heap.size + 1) b := fun b o hA' h => by have := hA b o hA'; have h' : b = w.heap.size + 1 := h; omega
  have hq : ¬ (fun i => (Value.slice q k cap).ownBlock = some i) w1.heap.size := fun h => by have := hown _ h; omega
  have hqA : ∀ b o, A = some ⟨b, o, none⟩ → ¬ (fun i => (Value.slice q k cap).ownBlock = some i) b := fun b o hA' h => by have := hA b o hA'; have := hown _ h; omega
  have hKa : Kept NoBlk W2 (wc.alloc o) := hKc.alloc o
  refine ⟨((others_of_kept hKa).trans (others_of_kept' hK5 (fun i o' hi ho' => own_cells (hgo.alloc o) hi ho'))).trans (KeepsOthers.setCell _ _ _), ?_, ⟨T1, ?_⟩, ⟨T2, some ⟨g1, 0, none⟩, cap1, ?_, ?_⟩, ?_⟩
  · exact ((hWd.kept hKa id (fun _ _ _ => id)).kept hK5 hq hqA).kept hA5 hne hAo
  · exact ((b1.kept hKa id).kept hK5 hx1).far (p := ⟨w.heap.size + 1, 0, none⟩) (by dsimp only; omega) _
  · exact ((g2.alloc _).kept hK5 hx2).set_ 0 _
  · exact own_kept hown5 hA5 (fun i hi => by have h' : i = w.heap.size + 1 := hi; omega)
  · refine Kept.setCell (p := ⟨w.heap.size + 1, 0, none⟩) ?_ (fun h => absurd h (by dsimp only; omega)) _
    exact (hK.trans hKa).over hK5 (fun i hi => by have := hown i hi; omega)

set_option maxRecDepth 100000 in
set_option maxHeartbeats 1000000 in
theorem unpack_yes (A : Option Addr) (m c : Nat) (ws : List Nat) (x : Nat) (hok : WidthsOk ws) (hx : x < 2 ^ ws.sum) (w : World) (hm : m = ws.length) (hels : Sl w .i64 A m (fun i => (nth ws i : Nat))) (hA : ∀ b o, A = some ⟨b, o, none⟩ → b < w.heap.size) :
    Calls Try.prog 66 #[.slice A m c, .int .u64 x] w fun e w' => ∃ q cap, e = .returned (.tuple #[.slice q m cap, .bool true]) ∧ w'.ownsRow w.heap.size 27 1 (.slice q m cap) m (unpackV ws x m) ∧ Kept NoBlk w w' := by
  have hlen := hok.len
  obtain ⟨i0, hi, hz0, hz1, hz2⟩ := info_parts u64_info'
  have HI := Lib.hid (And.intro hi (And.intro hz0 (And.intro hz1 hz2)))
  clear hi hz0 hz1 hz2
  have hx64 : x < 18446744073709551616 := Nat.lt_of_lt_of_le hx (Nat.pow_le_pow_right (by omega) hok.sum)
  have hbl := (bitLen_lt x ws.sum hx64).2 hx
  have hle : decide (ws.sum < Lib.bitLen x) = false := decide_eq_false (by omega)
  have HX := Lib.hid hx
  have HM := Lib.hid hm
  have HELS := Lib.hid hels
  have HA := Lib.hid hA
  clear hm hels hA hx hbl
  refine (callsIn_wide (n := 6)).1 ?_
  refine callsIn_of_wp_marks Try.func66 rfl trivial ?_ rfl
  simp only [Try.ntmps66, List.size_toArray, List.length_cons, List.length_nil, Nat.reduceAdd, Nat.reduceSub, Array.replicate_succ, Array.replicate_zero, List.push_toArray, List.append_toArray, List.nil_append, List.cons_append]
  have hs1 : ∀ (W : World) (o : Obj), (W.alloc o).heap.size = W.heap.size + 1 := fun W o => by simp
  have HS1 := Lib.hid hs1
  clear hs1
  have hK3 : Kept NoBlk w ((w.alloc (.cells #[.int .u64 x] 27)).alloc (.cells #[.slice none 0 0] 44)) := ((Kept.refl _ w).alloc _).alloc _
  gi_wp2_with fail
  refine ⟨trivial, (callsIn_wide.2 (count_yes A m c ws hok _ HM.out (HELS.out.kept hK3 (fun _ _ _ => id)) (fun b o h => by have := HA.out b o h; have := hK3.size; omega))).mono ?_⟩
  rintro e w1 ⟨rfl, hK⟩
  have b1 := ((Bk.new w 27 (#[.int .u64 x] : Array Value)).alloc (.cells #[.slice none 0 0] 44)).kept hK id
  have b2 := (Bk.new (w.alloc (.cells #[.int .u64 x] 27)) 44 (#[.slice none 0 0] : Array Value)).kept hK id
  rw [HS1.out] at b2
  replace hK := hK3.trans hK
  clear hK3
  have c1 := b1.cell 0
  have hb2 := b2.lt
  gi_wp2_with fail
  refine ⟨trivial, (callsIn_wide.2 (len64 x hx64 _)).mono ?_⟩
  rintro e w1' ⟨rfl, rfl⟩
  gi_wp2_with (refine ⟨trivial, ?_⟩; gi_at_call 91; refine (parts_any _ _ _ _ _).mono ?_; rintro e w' ⟨rfl, rfl⟩)
  refine rangeLoopA (gf := 106) (lb := #[.pointer (some ⟨w1.heap.size, 0, none⟩)]) rfl (by omega) rfl trivial (enters_of Try.func106 (by kernel_rfl) rfl) (UnpackI A m c ws x w w1.heap.size) (fun _ _ _ => False)
    (parts_iter _ (by decide) _ A m c ws hok _ (fun k W h => h.1)) (fun _ => rfl) ?stay ?stayx ?start ?round ?done ?stop
  case stay =>
    rintro k W W' ⟨h1, ⟨T1, b1⟩, ⟨T2, q, cap, b2, ho⟩, hK⟩ hs
    exact ⟨h1.same hs, ⟨T1, hs.bk b1⟩, ⟨T2, q, cap, hs.bk b2, hs.own ho⟩, hs.kept hK (by simp; omega)⟩
  case stayx => exact fun _ _ _ _ h => h.elim
  case start =>
    exact ⟨⟨⟨74, Bk.new _ _ _⟩, HM.out, HELS.out.kept (hK.alloc _) (fun _ _ _ => id)⟩, ⟨_, b1.alloc _⟩, ⟨_, _, _, b2.alloc _, World.ownsRow_nil _ _ _ _⟩, hK.alloc _⟩
  case round =>
    rintro l k W hk ⟨hWd, ⟨T1, b1⟩, ⟨T2, q, cap, b2, ho⟩, hK⟩
    dsimp only [partV]
    gi_wp2
    refine ⟨(Kept.refl _ W).alloc _, fun W2 hs _ => ?_⟩
    have hp := hs.bk (Bk.new W 147 (#[.int .i64 (atN ws k : Nat), .int .i64 (nth ws k : Nat)] : Array Value))
    have hWs : w1.heap.size < W.heap.size := (hWd.box.choose_spec).lt
    have hown := fun i hi => (ho.lt i hi)
    have HOWN := Lib.hid hown
    clear hown
    have hsz := hs.size
    simp only [World.size_alloc] at hsz
    replace hWd := (hWd.kept ((Kept.refl NoBlk W).alloc (.cells #[.int .i64 (atN ws k : Nat), .int .i64 (nth ws k : Nat)] 147)) id (fun _ _ _ => id)).same hs
    replace b1 := hs.bk (b1.alloc _)
    replace b2 := hs.bk (b2.alloc _)
    have ho2 := hs.own (ho.alloc _)
    replace hK := hs.kept (hK.alloc (.cells #[.int .i64 (atN ws k : Nat), .int .i64 (nth ws k : Nat)] 147)) (by simp; omega)
    have hat := nth_at hok hk
    have hps := nth_pos hok hk
    have hkm : k < m := by have := HM.out; omega
    have c1 := b1.cell 0
    have c2 := b2.cell 0
    have f2 := b2.frozen 0
    have d0 := hp.cell 0
    have d1 := hp.cell 1
    have hGet := fun W => get_part x _ _ hx64 hps hat W
    have hx1 : ¬ (fun i => (Value.slice q k cap).ownBlock = some i) w.heap.size := fun h => by have := HOWN.out _ h; omega
    have hx2 : ¬ (fun i => (Value.slice q k cap).ownBlock = some i) (w.heap.size + 1) := fun h => by have := HOWN.out _ h; omega
    have hxp : ¬ (fun i => (Value.slice q k cap).ownBlock = some i) W.heap.size := fun h => by have := HOWN.out _ h; omega
    gi_wp2
    have hM2 : w.heap.size + 1 < w1.heap.size := hb2
    have hKw : ∀ {V V' : World}, Kept NoBlk V.drew V' → Kept NoBlk V V' := fun h => ⟨h.os, h.tape, h.output, h.size, h.block⟩
    refine wpIn_round_held (S := (fun V => V.cell? ⟨W.heap.size, 0, none⟩ = some (.int .i64 (atN ws k : Nat)) ∧ V.cell? ⟨W.heap.size, 1, none⟩ = some (.int .i64 (nth ws k : Nat)) ∧ V.cell? ⟨w.heap.size, 0, none⟩ = some (.int .u64 x))) (by kernel_rfl) (by kernel_rfl) (by rintro ⟨_, _, h⟩; exact h) (by ((try dsimp only); exact ⟨d0, d1, c1⟩)) (fun hHeld => ?_)
    ((first
      | (refine wpAnyH_takeL (i := 1) (v := ?hv13) rfl (by kernel_rfl) (by kernel_rfl) (by kernel_rfl) (fun _ _ _ h => h) (Or.inl (And.intro ?hw13 ?hy13)) (by assumption) ?rest13
         case hw13 => rfl
         case hy13 => (intro wHy hSw; (try dsimp only at hSw); go_simp; (first | done | with_reducible rfl)))
      | (refine wpAnyH_takeL (i := 1) (v := undef) rfl (by kernel_rfl) (by kernel_rfl) (by kernel_rfl) (fun _ _ _ h => h) (Or.inr (And.intro (by rfl) rfl)) (by assumption) ?rest13x))
     (try simp only [Act.put, List.setIfInBounds_toArray, List.set_cons_zero, List.set_cons_succ]))
    ((first
      | (refine wpAnyH_takeL (i := 2) (v := ?hv14) rfl (by kernel_rfl) (by kernel_rfl) (by kernel_rfl) (fun _ _ _ h => h) (Or.inl (And.intro ?hw14 ?hy14)) (by assumption) ?rest14
         case hw14 => rfl
         case hy14 => (intro wHy hSw; (try dsimp only at hSw); go_simp; (first | done | with_reducible rfl)))
      | (refine wpAnyH_takeL (i := 2) (v := undef) rfl (by kernel_rfl) (by kernel_rfl) (by kernel_rfl) (fun _ _ _ h => h) (Or.inr (And.intro (by rfl) rfl)) (by assumption) ?rest14x))
     (try simp only [Act.put, List.setIfInBounds_toArray, List.set_cons_zero, List.set_cons_succ]))
    refine wpAnyH_ready (rs := [0, 3]) (by kernel_rfl) (by simp) (AllReadyH.consL rfl (fun K hKcc => ?_) (AllReadyH.consL rfl (fun K hKcc => ?_) AllReadyH.nil))
    · go_simp
      refine hKcc.out _ _ ?held15 (fun hHeld => ?_)
      case held15 => ((try dsimp only); exact ⟨d0, d1, c1⟩)
      clear hKcc K
      (try simp only [Act.put, List.setIfInBounds_toArray, List.set_cons_zero, List.set_cons_succ])
      refine wpAnyH_ready (rs := [3]) (by kernel_rfl) (by simp) (AllReadyH.consL rfl (fun K hKcc => ?_) AllReadyH.nil)
      go_simp
      go_at_call 94; refine (hGet _).mono ?_; rintro e wc ⟨rfl, hKc⟩
      refine hKcc.out _ _ ?held16 (fun hHeld => ?_)
      case held16 => ((try dsimp only); exact ⟨hKc.cell_some d0, hKc.cell_some d1, hKc.cell_some c1⟩)
      clear hKcc K
      (try simp only [Act.put, List.setIfInBounds_toArray, List.set_cons_zero, List.set_cons_succ])
      have h1 := hKc.cell_some d0
      have h2 := hKc.cell_some d1
      have h3 := hKc.cell_some c1
      have g2 := b2.drew.kept hKc id
      have gown := own_kept (World.ownsRow.drew ho2) hKc (fun _ h => h.elim)
      have gc := g2.cell 0
      have gsz : W2.heap.size ≤ wc.heap.size := hKc.size
      have a1 : ∀ {p : Addr} {v : Value} (o : Obj), wc.cell? p = some v → (wc.alloc o).cell? p = some v := fun o h => (Kept.alloc (Kept.refl NoBlk wc) o).cell_some h
      refine wpAnyH_ready (rs := [4]) (by kernel_rfl) (by simp) (AllReadyH.consL rfl (fun K hKcc => ?_) AllReadyH.nil)
      go_simp
      refine hKcc.out _ _ ?held17 (fun hHeld => ?_)
      case held17 => ((try dsimp only); exact ⟨(Kept.alloc (Kept.refl NoBlk wc) _).cell_some h1, (Kept.alloc (Kept.refl NoBlk wc) _).cell_some h2, (Kept.alloc (Kept.refl NoBlk wc) _).cell_some h3⟩)
      clear hKcc K
      (try simp only [Act.put, List.setIfInBounds_toArray, List.set_cons_zero, List.set_cons_succ])
      refine wpAnyH_ready (rs := [5]) (by kernel_rfl) (by simp) (AllReadyH.consL rfl (fun K hKcc => ?_) AllReadyH.nil)
      refine step_append_one rfl (.tmp 29) (.tmp 33) 44 rfl (w1.heap.size + 1) 27 i0 (.int .u64 0) 8 Try.underlying44 HI.out.1 HI.out.2.1 HI.out.2.2.1 HI.out.2.2.2 rfl (.slice q k cap) k (unpackV ws x k) rfl (gown.alloc _) wc.heap.size 27 (.int .u64 (getN x (atN ws k) (nth ws k) : Nat)) rfl (Bk.new _ _ _) rfl (by omega) (by omega) (by simp; omega) ?_; intro g1 cap1 w5 hown5 hK5; have gg := ((g2.alloc _).kept hK5 hx2); have n2 := gg.frozen 0; have n2c := gg.cell 0
      refine hKcc.out _ _ ?held18 (fun hHeld => ?_)
      case held18 => ((try dsimp only); exact ⟨hK5.cell hxp (a1 _ h1), hK5.cell hxp (a1 _ h2), hK5.cell hx1 (a1 _ h3)⟩)
      clear hKcc K
      (try simp only [Act.put, List.setIfInBounds_toArray, List.set_cons_zero, List.set_cons_succ])
      refine wpAnyH_ready (rs := [6]) (by kernel_rfl) (by simp) (AllReadyH.consL rfl (fun K hKcc => ?_) AllReadyH.nil)
      go_simp
      refine hKcc.out _ _ ?held19 (fun hHeld => ?_)
      case held19 => ((try dsimp only); exact ⟨(World.cell?_setCell_far _ _ _ _ (by dsimp only; omega)).trans (hK5.cell hxp (a1 _ h1)), (World.cell?_setCell_far _ _ _ _ (by dsimp only; omega)).trans (hK5.cell hxp (a1 _ h2)), (World.cell?_setCell_far _ _ _ _ (by dsimp only; omega)).trans (hK5.cell hx1 (a1 _ h3))⟩)
      clear hKcc K
      (try simp only [Act.put, List.setIfInBounds_toArray, List.set_cons_zero, List.set_cons_succ])
      refine wpAnyH_done (by kernel_rfl) ?_ _
      gi_wp2
      exact unpack_rel hk hWd HA.out hM2 b1 g2 hx1 hx2 (fun i hi => (HOWN.out i hi).1) hK (hKw hKc) gown hK5 hown5
    · go_simp
      go_at_call 94; refine (hGet _).mono ?_; rintro e wc ⟨rfl, hKc⟩
      refine hKcc.out _ _ ?held20 (fun hHeld => ?_)
      case held20 => ((try dsimp only); exact ⟨hKc.cell_some d0, hKc.cell_some d1, hKc.cell_some c1⟩)
      clear hKcc K
      (try simp only [Act.put, List.setIfInBounds_toArray, List.set_cons_zero, List.set_cons_succ])
      have h1 := hKc.cell_some d0
      have h2 := hKc.cell_some d1
      have h3 := hKc.cell_some c1
      have g2 := b2.drew.kept hKc id
      have gown := own_kept (World.ownsRow.drew ho2) hKc (fun _ h => h.elim)
      have gc := g2.cell 0
      have gsz : W2.heap.size ≤ wc.heap.size := hKc.size
      have a1 : ∀ {p : Addr} {v : Value} (o : Obj), wc.cell? p = some v → (wc.alloc o).cell? p = some v := fun o h => (Kept.alloc (Kept.refl NoBlk wc) o).cell_some h
      refine wpAnyH_ready (rs := [0, 4]) (by kernel_rfl) (by simp) (AllReadyH.consL rfl (fun K hKcc => ?_) (AllReadyH.consL rfl (fun K hKcc => ?_) AllReadyH.nil))
      · go_simp
        refine hKcc.out _ _ ?held21 (fun hHeld => ?_)
        case held21 => ((try dsimp only); exact ⟨h1, h2, h3⟩)
        clear hKcc K
        (try simp only [Act.put, List.setIfInBounds_toArray, List.set_cons_zero, List.set_cons_succ])
        refine wpAnyH_ready (rs := [4]) (by kernel_rfl) (by simp) (AllReadyH.consL rfl (fun K hKcc => ?_) AllReadyH.nil)
        go_simp
        refine hKcc.out _ _ ?held22 (fun hHeld => ?_)
        case held22 => ((try dsimp only); exact ⟨(Kept.alloc (Kept.refl NoBlk wc) _).cell_some h1, (Kept.alloc (Kept.refl NoBlk wc) _).cell_some h2, (Kept.alloc (Kept.refl NoBlk wc) _).cell_some h3⟩)
        clear hKcc K
        (try simp only [Act.put, List.setIfInBounds_toArray, List.set_cons_zero, List.set_cons_succ])
        refine wpAnyH_ready (rs := [5]) (by kernel_rfl) (by simp) (AllReadyH.consL rfl (fun K hKcc => ?_) AllReadyH.nil)
        refine step_append_one rfl (.tmp 29) (.tmp 33) 44 rfl (w1.heap.size + 1) 27 i0 (.int .u64 0) 8 Try.underlying44 HI.out.1 HI.out.2.1 HI.out.2.2.1 HI.out.2.2.2 rfl (.slice q k cap) k (unpackV ws x k) rfl (gown.alloc _) wc.heap.size 27 (.int .u64 (getN x (atN ws k) (nth ws k) : Nat)) rfl (Bk.new _ _ _) rfl (by omega) (by omega) (by simp; omega) ?_; intro g1 cap1 w5 hown5 hK5; have gg := ((g2.alloc _).kept hK5 hx2); have n2 := gg.frozen 0; have n2c := gg.cell 0
        refine hKcc.out _ _ ?held23 (fun hHeld => ?_)
        case held23 => ((try dsimp only); exact ⟨hK5.cell hxp (a1 _ h1), hK5.cell hxp (a1 _ h2), hK5.cell hx1 (a1 _ h3)⟩)
        clear hKcc K
        (try simp only [Act.put, List.setIfInBounds_toArray, List.set_cons_zero, List.set_cons_succ])
        refine wpAnyH_ready (rs := [6]) (by kernel_rfl) (by simp) (AllReadyH.consL rfl (fun K hKcc => ?_) AllReadyH.nil)
        go_simp
        refine hKcc.out _ _ ?held24 (fun hHeld => ?_)
        case held24 => ((try dsimp only); exact ⟨(World.cell?_setCell_far _ _ _ _ (by dsimp only; omega)).trans (hK5.cell hxp (a1 _ h1)), (World.cell?_setCell_far _ _ _ _ (by dsimp only; omega)).trans (hK5.cell hxp (a1 _ h2)), (World.cell?_setCell_far _ _ _ _ (by dsimp only; omega)).trans (hK5.cell hx1 (a1 _ h3))⟩)
        clear hKcc K
        (try simp only [Act.put, List.setIfInBounds_toArray, List.set_cons_zero, List.set_cons_succ])
        refine wpAnyH_done (by kernel_rfl) ?_ _
        gi_wp2
        exact unpack_rel hk hWd HA.out hM2 b1 g2 hx1 hx2 (fun i hi => (HOWN.out i hi).1) hK (hKw hKc) gown hK5 hown5
      · go_simp
        refine hKcc.out _ _ ?held25 (fun hHeld => ?_)
        case held25 => ((try dsimp only); exact ⟨(Kept.alloc (Kept.refl NoBlk wc) _).cell_some h1, (Kept.alloc (Kept.refl NoBlk wc) _).cell_some h2, (Kept.alloc (Kept.refl NoBlk wc) _).cell_some h3⟩)
        clear hKcc K
        (try simp only [Act.put, List.setIfInBounds_toArray, List.set_cons_zero, List.set_cons_succ])
        refine wpAnyH_ready (rs := [0]) (by kernel_rfl) (by simp) (AllReadyH.consL rfl (fun K hKcc => ?_) AllReadyH.nil)
        go_simp
        refine hKcc.out _ _ ?held26 (fun hHeld => ?_)
        case held26 => ((try dsimp only); exact ⟨(Kept.alloc (Kept.refl NoBlk wc) _).cell_some h1, (Kept.alloc (Kept.refl NoBlk wc) _).cell_some h2, (Kept.alloc (Kept.refl NoBlk wc) _).cell_some h3⟩)
        clear hKcc K
        (try simp only [Act.put, List.setIfInBounds_toArray, List.set_cons_zero, List.set_cons_succ])
        refine wpAnyH_ready (rs := [5]) (by kernel_rfl) (by simp) (AllReadyH.consL rfl (fun K hKcc => ?_) AllReadyH.nil)
        refine step_append_one rfl (.tmp 29) (.tmp 33) 44 rfl (w1.heap.size + 1) 27 i0 (.int .u64 0) 8 Try.underlying44 HI.out.1 HI.out.2.1 HI.out.2.2.1 HI.out.2.2.2 rfl (.slice q k cap) k (unpackV ws x k) rfl (gown.alloc _) wc.heap.size 27 (.int .u64 (getN x (atN ws k) (nth ws k) : Nat)) rfl (Bk.new _ _ _) rfl (by omega) (by omega) (by simp; omega) ?_; intro g1 cap1 w5 hown5 hK5; have gg := ((g2.alloc _).kept hK5 hx2); have n2 := gg.frozen 0; have n2c := gg.cell 0
        refine hKcc.out _ _ ?held27 (fun hHeld => ?_)
        case held27 => ((try dsimp only); exact ⟨hK5.cell hxp (a1 _ h1), hK5.cell hxp (a1 _ h2), hK5.cell hx1 (a1 _ h3)⟩)
        clear hKcc K
        (try simp only [Act.put, List.setIfInBounds_toArray, List.set_cons_zero, List.set_cons_succ])
        refine wpAnyH_ready (rs := [6]) (by kernel_rfl) (by simp) (AllReadyH.consL rfl (fun K hKcc => ?_) AllReadyH.nil)
        go_simp
        refine hKcc.out _ _ ?held28 (fun hHeld => ?_)
        case held28 => ((try dsimp only); exact ⟨(World.cell?_setCell_far _ _ _ _ (by dsimp only; omega)).trans (hK5.cell hxp (a1 _ h1)), (World.cell?_setCell_far _ _ _ _ (by dsimp only; omega)).trans (hK5.cell hxp (a1 _ h2)), (World.cell?_setCell_far _ _ _ _ (by dsimp only; omega)).trans (hK5.cell hx1 (a1 _ h3))⟩)
        clear hKcc K
        (try simp only [Act.put, List.setIfInBounds_toArray, List.set_cons_zero, List.set_cons_succ])
        refine wpAnyH_done (by kernel_rfl) ?_ _
        gi_wp2
        exact unpack_rel hk hWd HA.out hM2 b1 g2 hx1 hx2 (fun i hi => (HOWN.out i hi).1) hK (hKw hKc) gown hK5 hown5
  case done =>
    rintro D k W hD hk ⟨hWd, ⟨T1, b1⟩, ⟨T2, q, cap, b2, ho⟩, hK⟩ hDef
    have hkm : k = m := by have := HM.out; omega
    subst hkm
    clear hk
    have hDs : w1.heap.size + 1 ≤ D := by simpa using hD
    have hDw : w.heap.size + 1 < w1.heap.size := hb2
    have c2 := b2.cell 0
    have f2 := b2.frozen 0
    gi_wp2
    have hDef2 := heap_far (g := w.heap.size + 1) (i := 0) (.slice q k cap) (by omega) hDef
    refine ⟨by simp, .inl ⟨_, _, rfl, run_takeDeferred hDef2, ?_⟩⟩
    have hs : Same (w1.heap.size + 1) (W.setCell ⟨w.heap.size + 1, 0, none⟩ (.slice q k cap)) _ := Same.putObj (l := D) (.deferred none) (by omega) hDef2 rfl
    have g2 := hs.bk (b2.set_ 0 (.slice q k cap))
    have e2 := g2.cell 0
    refine ⟨.tuple #[.slice q k cap, .bool true], ?_, q, cap, rfl, ?_, hs.kept (hK.setCell (p := ⟨_, 0, none⟩) (fun h => absurd h (by dsimp only; omega)) _) (by omega)⟩
    · simp [results, Try.results66, go_sem, e2]
    · exact own_base (hs.own (own_kept ho (kept_one _ _ _ _) (fun i hi => by have h' : i = w.heap.size + 1 := hi; omega))) (by omega)
  case stop => exact fun _ _ _ _ _ h => h.elim

set_option maxRecDepth 100000 in
set_option maxHeartbeats 1000000 in
theorem unpack_no (A : Option Addr) (m c : Nat) (ws : List Nat) (x : Nat) (hok : WidthsOk ws) (hx : 2 ^ ws.sum ≤ x) (hx64 : x < 18446744073709551616) (w : World) (hm : m = ws.length) (hels : Sl w .i64 A m (fun i => (nth ws i : Nat))) (hA : ∀ b o, A = some ⟨b, o, none⟩ → b < w.heap.size) :
    Calls Try.prog 66 #[.slice A m c, .int .u64 x] w fun e w' => e = .returned (.tuple #[.slice none 0 0, .bool false]) ∧ Kept NoBlk w w' := by
  have hlen := hok.len
  have hbl : ¬ Lib.bitLen x ≤ ws.sum := fun h => by have := (bitLen_lt x ws.sum hx64).1 h; omega
  have hle : decide (ws.sum < Lib.bitLen x) = true := decide_eq_true (by omega)
  have HM := Lib.hid hm
  have HELS := Lib.hid hels
  have HA := Lib.hid hA
  clear hm hels hA hx hbl
  go_enter Try.func66, Try.ntmps66
  have hs1 : ∀ (W : World) (o : Obj), (W.alloc o).heap.size = W.heap.size + 1 := fun W o => by simp
  have HS1 := Lib.hid hs1
  clear hs1
  have hK3 : Kept NoBlk w ((w.alloc (.cells #[.int .u64 x] 27)).alloc (.cells #[.slice none 0 0] 44)) := ((Kept.refl _ w).alloc _).alloc _
  go_wp2_with fail
  refine (count_yes A m c ws hok _ HM.out (HELS.out.kept hK3 (fun _ _ _ => id)) (fun b o h => by have := HA.out b o h; have := hK3.size; omega)).mono ?_
  rintro e w1 ⟨rfl, hK⟩
  have b1 := ((Bk.new w 27 (#[.int .u64 x] : Array Value)).alloc (.cells #[.slice none 0 0] 44)).kept hK id
  have b2 := (Bk.new (w.alloc (.cells #[.int .u64 x] 27)) 44 (#[.slice none 0 0] : Array Value)).kept hK id
  rw [HS1.out] at b2
  replace hK := hK3.trans hK
  clear hK3
  have c1 := b1.cell 0
  have c2 := b2.cell 0
  have f2 := b2.frozen 0
  go_wp2_with fail
  refine (len64 x hx64 _).mono ?_
  rintro e w1' ⟨rfl, rfl⟩
  go_wp2
  have g2 := (b2.set_ 0 (.slice none 0 0)).cell 0
  refine bodyPost_ret (v := .tuple #[.slice none 0 0, .bool false]) (by simp [results, Try.results66, go_sem, g2]) rfl ⟨rfl, ?_⟩
  exact hK.setCell (p := ⟨_, _, none⟩) (fun h => absurd h (by dsimp only; omega)) _

end Go.Proofs.Ytccgnnnildedoaa
