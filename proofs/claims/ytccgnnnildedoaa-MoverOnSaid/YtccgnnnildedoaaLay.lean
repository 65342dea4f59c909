/-
  Layer 08: Lay lays raw objects one behind the other.
  Conditions: the arena has at least 151 words, and at most 65536.
-/
import Derived.Test.YtccgnnnildedoaaLayP
import Derived.Test.YtccgnnnildedoaaMover2
import Derived.Test.YtccgnnnildedoaaOps08
import Derived.Test.YtccgnnnildedoaaPick08
import Derived.Test.YtccgnnnildedoaaHeld
import Derived.StillTailTactics
import Derived.Deep.CutRange
set_option linter.unusedVariables false
namespace Go.Proofs.Ytccgnnnildedoaa
open Go.RowKit

theorem take_shp {b s t : Int} (S : Shp) (hs : S.ok) (h : RightSp b s t) (w : World) :
    Calls Try.prog 78 #[.agg #[.int .i64 b, .int .i64 s, .int .i64 t], .int .i64 (3 + (S.p : Int) + S.d)] w fun e w' => Kept NoBlk w w' ∧
      (((S.tk : Int) ≤ s - (t - b) ∧ e = .returned (.tuple #[.agg #[.int .i64 b, .int .i64 s, .int .i64 (t + S.tk)], .int .i64 t, .bool true])) ∨
       (s - (t - b) < (S.tk : Int) ∧ e = .returned (.tuple #[.agg #[.int .i64 b, .int .i64 s, .int .i64 t], .int .i64 0, .bool false]))) := by
  have hz := Shp.size_le hs
  have hsz : ((S.size : Nat) : Int) = 3 + (S.p : Int) + S.d := by unfold Shp.size; omega
  refine (take_yes (b := b) (s := s) (t := t) (3 + (S.p : Int) + S.d) (by omega) (by omega) h w).mono ?_
  rintro e w' ⟨k, hk, hK, hor⟩
  rw [← hsz] at hk
  rw [rnd_class (by omega) hk] at hor
  exact ⟨hK, hor⟩
theorem set3_one (V : World) (X : Nat) (a b c : Value) : Kept (OneBlk X) V (((V.setCell ⟨X, 0, none⟩ a).setCell ⟨X, 1, none⟩ b).setCell ⟨X, 2, none⟩ c) :=
  (((Kept.refl (OneBlk X) V).setCell (p := ⟨X, 0, none⟩) (fun _ => rfl) _).setCell (p := ⟨X, 1, none⟩) (fun _ => rfl) _).setCell (p := ⟨X, 2, none⟩) (fun _ => rfl) _
theorem set3_bk {V : World} {X : Nat} {T : TypeId} {a0 b0 c0 : Value} (h : Bk V X T #[a0, b0, c0]) (a b c : Value) : Bk (((V.setCell ⟨X, 0, none⟩ a).setCell ⟨X, 1, none⟩ b).setCell ⟨X, 2, none⟩ c) X T #[a, b, c] := by
  have := ((h.set_ 0 a).set_ 1 b).set_ 2 c
  simpa using this
theorem own_kept' {w w' : World} {base : Nat} {e : TypeId} {size : Nat} {v : Value} {n : Nat} {xs : List Value} {S : Nat → Prop} (h : w.ownsRow base e size v n xs) (hk : Kept S w w') (hS : ∀ k, v.ownBlock = some k → ¬ S k) : w'.ownsRow base e size v n xs := by
  refine ⟨h.1, ?_⟩
  rcases h.2 with hn | ⟨g, cap, cur, rfl, hb, hg, rest⟩
  · exact .inl hn
  · exact .inr ⟨g, cap, cur, rfl, hb, (hk.block g (Array.getElem?_eq_some_iff.1 hg).1 (hS g rfl)).trans hg, rest⟩
theorem set4_far {V : World} {X : Nat} {p : Addr} {v : Value} (h : V.cell? p = some v) (hne : p.block ≠ X) (a b c d : Value) : ((((V.setCell ⟨X, 0, none⟩ a).setCell ⟨X, 1, none⟩ b).setCell ⟨X, 2, none⟩ c).setCell ⟨X, 3, none⟩ d).cell? p = some v := by
  have hn : ∀ k, (⟨X, k, none⟩ : Addr).block ≠ p.block := fun k => hne.symm
  rw [World.cell?_setCell_far _ _ _ _ (hn _), World.cell?_setCell_far _ _ _ _ (hn _), World.cell?_setCell_far _ _ _ _ (hn _), World.cell?_setCell_far _ _ _ _ (hn _)]
  exact h
theorem alloc_cell {V : World} {p : Addr} {v : Value} (h : V.cell? p = some v) (o : Go.Obj) : (V.alloc o).cell? p = some v := ((Kept.refl NoBlk V).alloc o).cell_some h
theorem set4_kept {S : Nat → Prop} {w V : World} {X : Nat} (h : Kept S w V) (hX : w.heap.size ≤ X) (a b c d : Value) : Kept S w ((((V.setCell ⟨X, 0, none⟩ a).setCell ⟨X, 1, none⟩ b).setCell ⟨X, 2, none⟩ c).setCell ⟨X, 3, none⟩ d) :=
  (((h.setCell (p := ⟨X, 0, none⟩) (fun h => absurd h (by dsimp only; omega)) _).setCell (p := ⟨X, 1, none⟩) (fun h => absurd h (by dsimp only; omega)) _).setCell (p := ⟨X, 2, none⟩) (fun h => absurd h (by dsimp only; omega)) _).setCell (p := ⟨X, 3, none⟩) (fun h => absurd h (by dsimp only; omega)) _
theorem set4_one (V : World) (X : Nat) (a b c d : Value) : Kept (OneBlk X) V ((((V.setCell ⟨X, 0, none⟩ a).setCell ⟨X, 1, none⟩ b).setCell ⟨X, 2, none⟩ c).setCell ⟨X, 3, none⟩ d) :=
  ((((Kept.refl (OneBlk X) V).setCell (p := ⟨X, 0, none⟩) (fun _ => rfl) _).setCell (p := ⟨X, 1, none⟩) (fun _ => rfl) _).setCell (p := ⟨X, 2, none⟩) (fun _ => rfl) _).setCell (p := ⟨X, 3, none⟩) (fun _ => rfl) _
theorem set4_bk {V : World} {X : Nat} {T : TypeId} {a0 b0 c0 d0 : Value} (h : Bk V X T #[a0, b0, c0, d0]) (a b c d : Value) : Bk ((((V.setCell ⟨X, 0, none⟩ a).setCell ⟨X, 1, none⟩ b).setCell ⟨X, 2, none⟩ c).setCell ⟨X, 3, none⟩ d) X T #[a, b, c, d] := by
  have := (((h.set_ 0 a).set_ 1 b).set_ 2 c).set_ 3 d
  simpa using this

set_option maxRecDepth 100000 in
set_option maxHeartbeats 4000000 in
theorem lay_yes {b g : Nat} {ws : List Int} {w : World} (hA : ArenaAt w b g ws) (hn : ws.length ≤ 65536) (hn1 : 151 ≤ ws.length) (A : Option Addr) (len cap B : Nat) (hlc : len ≤ 9223372036854775807) (hraw : ∀ i, i < len → Raw08 w B A i) (hB : B ≤ g) (O : Nat → Obj) :
    Calls Try.prog 46 #[.pointer (some ⟨b, 0, none⟩), .slice A len cap] w fun e w' => ∃ v l t O' ws', e = .returned v ∧ w'.ownsRow w.heap.size 3 1 v l.length (intCells (natInts l)) ∧ l.length ≤ 8 ∧ l.length ≤ len ∧ ArenaAt w' b g ws' ∧ LaidIn ws ws' l t O' ∧ Kept (OneBlk g) w w' := by
  have HR := Lib.hid hraw
  have HA := Lib.hid hA
  clear hraw hA
  obtain ⟨i0, hi, hz0, hz1, hz2⟩ := info_parts int_infoM
  have HI := Lib.hid (And.intro hi (And.intro hz0 (And.intro hz1 hz2)))
  clear hi hz0 hz1 hz2
  have hgl := HA.out.glt
  go_enter Try.func46, Try.ntmps46
  go_wp2_with fail
  refine (make_yes (b := 1) (s := 150) ⟨by omega, by omega, by omega, by omega, by omega, by omega⟩ _).mono ?_
  rintro e v1 ⟨rfl, hK⟩
  have hv1 := hK.size
  have hS := Bk.new v1 77 (#[.int .i64 1, .int .i64 150, .int .i64 1] : Array Value)
  replace hK := hK.alloc (.cells #[.int .i64 1, .int .i64 150, .int .i64 1] 77)
  go_wp2_with fail
  go_loopw [7, 8] (fun v i wr => ∃ l t O' ws', i = .int .i64 (l.length : Nat) ∧ l.length ≤ 8 ∧ l.length ≤ len ∧ wr.ownsRow (v1.heap.size + 1) 3 1 v l.length (intCells (natInts l)) ∧ ArenaAt wr b g ws' ∧ LaidIn ws ws' l t O' ∧ Bk wr v1.heap.size 77 #[.int .i64 1, .int .i64 150, .int .i64 (t : Nat)] ∧ Kept (OneBlk g) w wr) (fun _ i _ => 8 - (intOf i).toNat)
  case atStart => exact ⟨[], 1, O, ws, rfl, by simp, by simp, World.ownsRow_nil _ _ _ _, HA.out.kept hK id id, LaidIn.start ws O, hS, NoBlk.one hK g⟩
  case round =>
    clear hS hK
    obtain ⟨l, t, O', ws', rfl, hl8, hll, hown, hA, hL, hS, hK⟩ := hrel
    have hln : ws'.length = ws.length := hL.len
    have htop := hL.top
    have hfew := hL.few
    have HL := Lib.hid hL
    clear hL
    by_cases hlt : l.length < len ∧ l.length < 8
    · obtain ⟨hlt, hlt2⟩ := hlt
      obtain ⟨bb, off, x, y, z, F, fl, fc, fr, rfl, hbb, c0, c1, c2, c3, c4, ⟨x0, x1⟩, ⟨y0, y1⟩, ⟨z0, z1⟩, hfl, hF⟩ := HR.out l.length hlt
      have hneB : ¬ OneBlk g bb := fun h => by have h2 : bb = g := h; omega
      have d0 := hK.cell (p := ⟨bb, _, none⟩) hneB c0
      have d1 := hK.cell (p := ⟨bb, _, none⟩) hneB c1
      have d2 := hK.cell (p := ⟨bb, _, none⟩) hneB c2
      have e0 : (0 : Int) ≤ (l.length : Int) := by omega
      have e1 : (l.length : Int) < (len : Int) := by omega
      have hFit := fun W => fit06 x y z x0 x1 y0 y1 z0 z1 W
      have hs := fitShp_ok x y z
      generalize fitShp x y z = S at *
      obtain ⟨hp8, hd8, hwx⟩ := Shp.ok_bd hs
      clear hwx
      have HF := Lib.hid hF
      clear hF
      go_upto_region 6 with fail
      go_cut [9] from 18 to 121 (fun x9 wx => ∃ xb, x9 = .pointer (some ⟨xb, 0, none⟩) ∧ v1.heap.size < xb ∧ g ≠ xb ∧ Bk wx xb 25 #[.int .i64 (S.p : Nat), .int .i64 (S.d : Nat), .bool S.wk, .bool S.fin] ∧ wx.ownsRow (v1.heap.size + 1) 3 1 u7 l.length (intCells (natInts l)) ∧ u7.ownBlock ≠ some xb ∧ ArenaAt wx b g ws' ∧ Bk wx v1.heap.size 77 #[.int .i64 1, .int .i64 150, .int .i64 (t : Nat)] ∧ Kept (OneBlk g) w wx)
      case first =>
        refine wp_region_held_drew (S := (fun V => V.cell? ⟨bb, off + l.length * 5, none⟩ = some (.int .i64 x) ∧ V.cell? ⟨bb, off + l.length * 5 + 1, none⟩ = some (.int .i64 y) ∧ V.cell? ⟨bb, off + l.length * 5 + 2, none⟩ = some (.int .i64 z))) (by kernel_rfl) (by ((try dsimp only); exact ⟨d0, d1, d2⟩)) (fun hHeld => ?_)
        replace hA := hA.drew
        replace hS := hS.drew
        replace hK := hK.drew
        replace hown := World.ownsRow.drew hown
        clear d0 d1 d2
        generalize wr.drew = w2 at *
        ((first
          | (refine wpAnyH_takeL (i := 0) (v := ?hv1) rfl (by kernel_rfl) (by kernel_rfl) (by kernel_rfl) (fun _ _ _ h => h) (Or.inl (And.intro ?hw1 ?hy1)) (by assumption) ?rest1
             case hw1 => rfl
             case hy1 => (intro wHy hSw; (try dsimp only at hSw); go_simp; (first | done | with_reducible rfl)))
          | (refine wpAnyH_takeL (i := 0) (v := undef) rfl (by kernel_rfl) (by kernel_rfl) (by kernel_rfl) (fun _ _ _ h => h) (Or.inr (And.intro (by rfl) rfl)) (by assumption) ?rest1x))
         (try simp only [Act.put, List.setIfInBounds_toArray, List.set_cons_zero, List.set_cons_succ]))
        ((first
          | (refine wpAnyH_takeL (i := 1) (v := ?hv2) rfl (by kernel_rfl) (by kernel_rfl) (by kernel_rfl) (fun _ _ _ h => h) (Or.inl (And.intro ?hw2 ?hy2)) (by assumption) ?rest2
             case hw2 => rfl
             case hy2 => (intro wHy hSw; (try dsimp only at hSw); go_simp; (first | done | with_reducible rfl)))
          | (refine wpAnyH_takeL (i := 1) (v := undef) rfl (by kernel_rfl) (by kernel_rfl) (by kernel_rfl) (fun _ _ _ h => h) (Or.inr (And.intro (by rfl) rfl)) (by assumption) ?rest2x))
         (try simp only [Act.put, List.setIfInBounds_toArray, List.set_cons_zero, List.set_cons_succ]))
        ((first
          | (refine wpAnyH_takeL (i := 2) (v := ?hv3) rfl (by kernel_rfl) (by kernel_rfl) (by kernel_rfl) (fun _ _ _ h => h) (Or.inl (And.intro ?hw3 ?hy3)) (by assumption) ?rest3
             case hw3 => rfl
             case hy3 => (intro wHy hSw; (try dsimp only at hSw); go_simp; (first | done | with_reducible rfl)))
          | (refine wpAnyH_takeL (i := 2) (v := undef) rfl (by kernel_rfl) (by kernel_rfl) (by kernel_rfl) (fun _ _ _ h => h) (Or.inr (And.intro (by rfl) rfl)) (by assumption) ?rest3x))
         (try simp only [Act.put, List.setIfInBounds_toArray, List.set_cons_zero, List.set_cons_succ]))
        ((first
          | (refine wpAnyH_takeL (i := 3) (v := ?hv4) rfl (by kernel_rfl) (by kernel_rfl) (by kernel_rfl) (fun _ _ _ h => h) (Or.inl (And.intro ?hw4 ?hy4)) (by assumption) ?rest4
             case hw4 => rfl
             case hy4 => (intro wHy hSw; (try dsimp only at hSw); go_simp; (first | done | with_reducible rfl)))
          | (refine wpAnyH_takeL (i := 3) (v := undef) rfl (by kernel_rfl) (by kernel_rfl) (by kernel_rfl) (fun _ _ _ h => h) (Or.inr (And.intro (by rfl) rfl)) (by assumption) ?rest4x))
         (try simp only [Act.put, List.setIfInBounds_toArray, List.set_cons_zero, List.set_cons_succ]))
        ((first
          | (refine wpAnyH_takeL (i := 4) (v := ?hv5) rfl (by kernel_rfl) (by kernel_rfl) (by kernel_rfl) (fun _ _ _ h => h) (Or.inl (And.intro ?hw5 ?hy5)) (by assumption) ?rest5
             case hw5 => rfl
             case hy5 => (intro wHy hSw; (try dsimp only at hSw); go_simp; (first | done | with_reducible rfl)))
          | (refine wpAnyH_takeL (i := 4) (v := undef) rfl (by kernel_rfl) (by kernel_rfl) (by kernel_rfl) (fun _ _ _ h => h) (Or.inr (And.intro (by rfl) rfl)) (by assumption) ?rest5x))
         (try simp only [Act.put, List.setIfInBounds_toArray, List.set_cons_zero, List.set_cons_succ]))
        ((first
          | (refine wpAnyH_takeL (i := 5) (v := ?hv6) rfl (by kernel_rfl) (by kernel_rfl) (by kernel_rfl) (fun _ _ _ h => h) (Or.inl (And.intro ?hw6 ?hy6)) (by assumption) ?rest6
             case hw6 => rfl
             case hy6 => (intro wHy hSw; (try dsimp only at hSw); go_simp; (first | done | with_reducible rfl)))
          | (refine wpAnyH_takeL (i := 5) (v := undef) rfl (by kernel_rfl) (by kernel_rfl) (by kernel_rfl) (fun _ _ _ h => h) (Or.inr (And.intro (by rfl) rfl)) (by assumption) ?rest6x))
         (try simp only [Act.put, List.setIfInBounds_toArray, List.set_cons_zero, List.set_cons_succ]))
        ((first
          | (refine wpAnyH_takeL (i := 6) (v := ?hv7) rfl (by kernel_rfl) (by kernel_rfl) (by kernel_rfl) (fun _ _ _ h => h) (Or.inl (And.intro ?hw7 ?hy7)) (by assumption) ?rest7
             case hw7 => rfl
             case hy7 => (intro wHy hSw; (try dsimp only at hSw); go_simp; (first | done | with_reducible rfl)))
          | (refine wpAnyH_takeL (i := 6) (v := undef) rfl (by kernel_rfl) (by kernel_rfl) (by kernel_rfl) (fun _ _ _ h => h) (Or.inr (And.intro (by rfl) rfl)) (by assumption) ?rest7x))
         (try simp only [Act.put, List.setIfInBounds_toArray, List.set_cons_zero, List.set_cons_succ]))
        ((first
          | (refine wpAnyH_takeL (i := 7) (v := ?hv8) rfl (by kernel_rfl) (by kernel_rfl) (by kernel_rfl) (fun _ _ _ h => h) (Or.inl (And.intro ?hw8 ?hy8)) (by assumption) ?rest8
             case hw8 => rfl
             case hy8 => (intro wHy hSw; (try dsimp only at hSw); go_simp; (first | done | with_reducible rfl)))
          | (refine wpAnyH_takeL (i := 7) (v := undef) rfl (by kernel_rfl) (by kernel_rfl) (by kernel_rfl) (fun _ _ _ h => h) (Or.inr (And.intro (by rfl) rfl)) (by assumption) ?rest8x))
         (try simp only [Act.put, List.setIfInBounds_toArray, List.set_cons_zero, List.set_cons_succ]))
        ((first
          | (refine wpAnyH_takeL (i := 8) (v := ?hv9) rfl (by kernel_rfl) (by kernel_rfl) (by kernel_rfl) (fun _ _ _ h => h) (Or.inl (And.intro ?hw9 ?hy9)) (by assumption) ?rest9
             case hw9 => rfl
             case hy9 => (intro wHy hSw; (try dsimp only at hSw); go_simp; (first | done | with_reducible rfl)))
          | (refine wpAnyH_takeL (i := 8) (v := undef) rfl (by kernel_rfl) (by kernel_rfl) (by kernel_rfl) (fun _ _ _ h => h) (Or.inr (And.intro (by rfl) rfl)) (by assumption) ?rest9x))
         (try simp only [Act.put, List.setIfInBounds_toArray, List.set_cons_zero, List.set_cons_succ]))
        ((first
          | (refine wpAnyH_takeL (i := 9) (v := ?hv10) rfl (by kernel_rfl) (by kernel_rfl) (by kernel_rfl) (fun _ _ _ h => h) (Or.inl (And.intro ?hw10 ?hy10)) (by assumption) ?rest10
             case hw10 => rfl
             case hy10 => (intro wHy hSw; (try dsimp only at hSw); go_simp; (first | done | with_reducible rfl)))
          | (refine wpAnyH_takeL (i := 9) (v := undef) rfl (by kernel_rfl) (by kernel_rfl) (by kernel_rfl) (fun _ _ _ h => h) (Or.inr (And.intro (by rfl) rfl)) (by assumption) ?rest10x))
         (try simp only [Act.put, List.setIfInBounds_toArray, List.set_cons_zero, List.set_cons_succ]))
        ((first
          | (refine wpAnyH_takeL (i := 10) (v := ?hv11) rfl (by kernel_rfl) (by kernel_rfl) (by kernel_rfl) (fun _ _ _ h => h) (Or.inl (And.intro ?hw11 ?hy11)) (by assumption) ?rest11
             case hw11 => rfl
             case hy11 => (intro wHy hSw; (try dsimp only at hSw); go_simp; (first | done | with_reducible rfl)))
          | (refine wpAnyH_takeL (i := 10) (v := undef) rfl (by kernel_rfl) (by kernel_rfl) (by kernel_rfl) (fun _ _ _ h => h) (Or.inr (And.intro (by rfl) rfl)) (by assumption) ?rest11x))
         (try simp only [Act.put, List.setIfInBounds_toArray, List.set_cons_zero, List.set_cons_succ]))
        ((first
          | (refine wpAnyH_takeL (i := 11) (v := ?hv12) rfl (by kernel_rfl) (by kernel_rfl) (by kernel_rfl) (fun _ _ _ h => h) (Or.inl (And.intro ?hw12 ?hy12)) (by assumption) ?rest12
             case hw12 => rfl
             case hy12 => (intro wHy hSw; (try dsimp only at hSw); go_simp; (first | done | with_reducible rfl)))
          | (refine wpAnyH_takeL (i := 11) (v := undef) rfl (by kernel_rfl) (by kernel_rfl) (by kernel_rfl) (fun _ _ _ h => h) (Or.inr (And.intro (by rfl) rfl)) (by assumption) ?rest12x))
         (try simp only [Act.put, List.setIfInBounds_toArray, List.set_cons_zero, List.set_cons_succ]))
        ((first
          | (refine wpAnyH_takeL (i := 12) (v := ?hv13) rfl (by kernel_rfl) (by kernel_rfl) (by kernel_rfl) (fun _ _ _ h => h) (Or.inl (And.intro ?hw13 ?hy13)) (by assumption) ?rest13
             case hw13 => rfl
             case hy13 => (intro wHy hSw; (try dsimp only at hSw); go_simp; (first | done | with_reducible rfl)))
          | (refine wpAnyH_takeL (i := 12) (v := undef) rfl (by kernel_rfl) (by kernel_rfl) (by kernel_rfl) (fun _ _ _ h => h) (Or.inr (And.intro (by rfl) rfl)) (by assumption) ?rest13x))
         (try simp only [Act.put, List.setIfInBounds_toArray, List.set_cons_zero, List.set_cons_succ]))
        ((first
          | (refine wpAnyH_takeL (i := 13) (v := ?hv14) rfl (by kernel_rfl) (by kernel_rfl) (by kernel_rfl) (fun _ _ _ h => h) (Or.inl (And.intro ?hw14 ?hy14)) (by assumption) ?rest14
             case hw14 => rfl
             case hy14 => (intro wHy hSw; (try dsimp only at hSw); go_simp; (first | done | with_reducible rfl)))
          | (refine wpAnyH_takeL (i := 13) (v := undef) rfl (by kernel_rfl) (by kernel_rfl) (by kernel_rfl) (fun _ _ _ h => h) (Or.inr (And.intro (by rfl) rfl)) (by assumption) ?rest14x))
         (try simp only [Act.put, List.setIfInBounds_toArray, List.set_cons_zero, List.set_cons_succ]))
        ((first
          | (refine wpAnyH_takeL (i := 14) (v := ?hv15) rfl (by kernel_rfl) (by kernel_rfl) (by kernel_rfl) (fun _ _ _ h => h) (Or.inl (And.intro ?hw15 ?hy15)) (by assumption) ?rest15
             case hw15 => rfl
             case hy15 => (intro wHy hSw; (try dsimp only at hSw); go_simp; (first | done | with_reducible rfl)))
          | (refine wpAnyH_takeL (i := 14) (v := undef) rfl (by kernel_rfl) (by kernel_rfl) (by kernel_rfl) (fun _ _ _ h => h) (Or.inr (And.intro (by rfl) rfl)) (by assumption) ?rest15x))
         (try simp only [Act.put, List.setIfInBounds_toArray, List.set_cons_zero, List.set_cons_succ]))
        ((first
          | (refine wpAnyH_takeL (i := 15) (v := ?hv16) rfl (by kernel_rfl) (by kernel_rfl) (by kernel_rfl) (fun _ _ _ h => h) (Or.inl (And.intro ?hw16 ?hy16)) (by assumption) ?rest16
             case hw16 => rfl
             case hy16 => (intro wHy hSw; (try dsimp only at hSw); go_simp; (first | done | with_reducible rfl)))
          | (refine wpAnyH_takeL (i := 15) (v := undef) rfl (by kernel_rfl) (by kernel_rfl) (by kernel_rfl) (fun _ _ _ h => h) (Or.inr (And.intro (by rfl) rfl)) (by assumption) ?rest16x))
         (try simp only [Act.put, List.setIfInBounds_toArray, List.set_cons_zero, List.set_cons_succ]))
        ((first
          | (refine wpAnyH_takeL (i := 16) (v := ?hv17) rfl (by kernel_rfl) (by kernel_rfl) (by kernel_rfl) (fun _ _ _ h => h) (Or.inl (And.intro ?hw17 ?hy17)) (by assumption) ?rest17
             case hw17 => rfl
             case hy17 => (intro wHy hSw; (try dsimp only at hSw); go_simp; (first | done | with_reducible rfl)))
          | (refine wpAnyH_takeL (i := 16) (v := undef) rfl (by kernel_rfl) (by kernel_rfl) (by kernel_rfl) (fun _ _ _ h => h) (Or.inr (And.intro (by rfl) rfl)) (by assumption) ?rest17x))
         (try simp only [Act.put, List.setIfInBounds_toArray, List.set_cons_zero, List.set_cons_succ]))
        ((first
          | (refine wpAnyH_takeL (i := 17) (v := ?hv18) rfl (by kernel_rfl) (by kernel_rfl) (by kernel_rfl) (fun _ _ _ h => h) (Or.inl (And.intro ?hw18 ?hy18)) (by assumption) ?rest18
             case hw18 => rfl
             case hy18 => (intro wHy hSw; (try dsimp only at hSw); go_simp; (first | done | with_reducible rfl)))
          | (refine wpAnyH_takeL (i := 17) (v := undef) rfl (by kernel_rfl) (by kernel_rfl) (by kernel_rfl) (fun _ _ _ h => h) (Or.inr (And.intro (by rfl) rfl)) (by assumption) ?rest18x))
         (try simp only [Act.put, List.setIfInBounds_toArray, List.set_cons_zero, List.set_cons_succ]))
        obtain ⟨d0, d1, d2⟩ := hHeld
        refine wpAnyH_ready (rs := [18, 19]) (by kernel_rfl) (by simp) (AllReadyH.consL rfl (fun K hKcc => ?_) (AllReadyH.consL rfl (fun K hKcc => ?_) AllReadyH.nil))
        · go_simp
          refine (hFit _).mono ?_; rintro e w3 ⟨rfl, hKn⟩
          refine hKcc.out _ _ ?held19 (fun hHeld => ?_)
          case held19 => ((try dsimp only); exact ⟨hKn.cell_some d0, hKn.cell_some d1, hKn.cell_some d2⟩)
          clear hKcc K
          (try simp only [Act.put, List.setIfInBounds_toArray, List.set_cons_zero, List.set_cons_succ])
          clear hHeld
          replace hA := hA.kept hKn id id
          replace hS := hS.kept hKn id
          replace hK := hK.trans (NoBlk.one hKn g)
          replace hown := own_kept hown hKn (fun _ h => h.elim)
          replace d0 := hKn.cell_some d0
          replace d1 := hKn.cell_some d1
          replace d2 := hKn.cell_some d2
          clear hKn
          have hv := hS.lt
          have hgv := hA.glt
          have hbv := hA.blt
          have hov := fun k h => (hown.lt k h).2
          have hKs := hK.size
          have hX := Bk.new w3 25 (#[.int .i64 0, .int .i64 0, .bool false, .bool false] : Array Value)
          have fX := hX.frozen
          have cX := hX.cell
          refine wpAnyH_ready (rs := [19]) (by kernel_rfl) (by simp) (AllReadyH.consL rfl (fun K hKcc => ?_) AllReadyH.nil)
          go_simp
          refine hKcc.out _ _ ?held20 (fun hHeld => ?_)
          case held20 => ((try dsimp only); exact ⟨alloc_cell d0 _, alloc_cell d1 _, alloc_cell d2 _⟩)
          clear hKcc K
          (try simp only [Act.put, List.setIfInBounds_toArray, List.set_cons_zero, List.set_cons_succ])
          clear hHeld
          refine wpAnyH_ready (rs := [20]) (by kernel_rfl) (by simp) (AllReadyH.consL rfl (fun K hKcc => ?_) AllReadyH.nil)
          go_simp
          refine hKcc.out _ _ ?held21 (fun hHeld => ?_)
          case held21 => ((try dsimp only); exact ⟨alloc_cell d0 _, alloc_cell d1 _, alloc_cell d2 _⟩)
          clear hKcc K
          (try simp only [Act.put, List.setIfInBounds_toArray, List.set_cons_zero, List.set_cons_succ])
          clear hHeld
          refine wpAnyH_done (by kernel_rfl) ?_ _
          go_wp2_with fail
          go_meet
          case rel =>
            exact ⟨w3.heap.size, rfl, by omega, by omega, Bk.new w3 _ _, hown.alloc _, fun h => by have := hov _ h; omega, hA.alloc _, hS.alloc _, hK.alloc _⟩
        · have hv := hS.lt
          have hgv := hA.glt
          have hbv := hA.blt
          have hov := fun k h => (hown.lt k h).2
          have hKs := hK.size
          go_simp
          refine hKcc.out _ _ ?held22 (fun hHeld => ?_)
          case held22 => ((try dsimp only); exact ⟨alloc_cell d0 _, alloc_cell d1 _, alloc_cell d2 _⟩)
          clear hKcc K
          (try simp only [Act.put, List.setIfInBounds_toArray, List.set_cons_zero, List.set_cons_succ])
          clear hHeld
          have hX := Bk.new w2 25 (#[.int .i64 0, .int .i64 0, .bool false, .bool false] : Array Value)
          replace hA := hA.alloc (.cells #[.int .i64 0, .int .i64 0, .bool false, .bool false] 25)
          replace hS := hS.alloc (.cells #[.int .i64 0, .int .i64 0, .bool false, .bool false] 25)
          replace hK := hK.alloc (.cells #[.int .i64 0, .int .i64 0, .bool false, .bool false] 25)
          replace hown := hown.alloc (.cells #[.int .i64 0, .int .i64 0, .bool false, .bool false] 25)
          replace d0 := alloc_cell d0 (.cells #[.int .i64 0, .int .i64 0, .bool false, .bool false] 25)
          replace d1 := alloc_cell d1 (.cells #[.int .i64 0, .int .i64 0, .bool false, .bool false] 25)
          replace d2 := alloc_cell d2 (.cells #[.int .i64 0, .int .i64 0, .bool false, .bool false] 25)
          obtain ⟨w2s, hw2⟩ : ∃ n, n = w2.heap.size := ⟨_, rfl⟩
          rw [← hw2] at hX hv hgv hbv hov
          have hw2s : w2s = w2.heap.size := hw2
          refine wpAnyH_ready (rs := [18]) (by kernel_rfl) (by simp) (AllReadyH.consL rfl (fun K hKcc => ?_) AllReadyH.nil)
          go_simp
          refine (hFit _).mono ?_; rintro e w3 ⟨rfl, hKn⟩
          refine hKcc.out _ _ ?held23 (fun hHeld => ?_)
          case held23 => ((try dsimp only); exact ⟨hKn.cell_some d0, hKn.cell_some d1, hKn.cell_some d2⟩)
          clear hKcc K
          (try simp only [Act.put, List.setIfInBounds_toArray, List.set_cons_zero, List.set_cons_succ])
          clear hHeld
          replace hA := hA.kept hKn id id
          replace hS := hS.kept hKn id
          replace hX := hX.kept hKn id
          replace hK := hK.trans (NoBlk.one hKn g)
          replace hown := own_kept hown hKn (fun _ h => h.elim)
          replace d0 := hKn.cell_some d0
          replace d1 := hKn.cell_some d1
          replace d2 := hKn.cell_some d2
          clear hKn
          have fX := hX.frozen
          have cX := hX.cell
          subst hw2s
          refine wpAnyH_ready (rs := [20]) (by kernel_rfl) (by simp) (AllReadyH.consL rfl (fun K hKcc => ?_) AllReadyH.nil)
          go_simp
          refine hKcc.out _ _ ?held24 (fun hHeld => ?_)
          case held24 => ((try dsimp only); exact ⟨set4_far d0 (by dsimp only; omega) _ _ _ _, set4_far d1 (by dsimp only; omega) _ _ _ _, set4_far d2 (by dsimp only; omega) _ _ _ _⟩)
          clear hKcc K
          (try simp only [Act.put, List.setIfInBounds_toArray, List.set_cons_zero, List.set_cons_succ])
          clear hHeld
          refine wpAnyH_done (by kernel_rfl) ?_ _
          go_wp2_with fail
          go_meet
          case rel =>
            have k4 := set4_one w3 w2.heap.size (.int .i64 (S.p : Nat)) (.int .i64 (S.d : Nat)) (.bool S.wk) (.bool S.fin)
            have ne : ∀ k, k < w2.heap.size → ¬ OneBlk w2.heap.size k := fun k h h2 => by have h3 : k = w2.heap.size := h2; omega
            exact ⟨w2.heap.size, rfl, by omega, by omega, set4_bk hX _ _ _ _, own_kept' hown k4 (fun k h h2 => by have h3 : k = w2.heap.size := h2; have := hov k h; omega), fun h => by have := hov _ h; omega, hA.kept k4 (ne _ hbv) (ne _ hgv), hS.kept k4 (ne _ hv), set4_kept hK (by omega) _ _ _ _⟩
      case rest =>
        clear hA hS hK hown d0 d1 d2
        obtain ⟨xb, rfl, hxb, hgx, hX, hown, hox, hA, hS, hK⟩ := hcut
        have hz := Shp.size_le hs
        have hsz : S.size = 3 + S.p + S.d := rfl
        have htk := Shp.tk_bd hs
        have cS := hS.cell
        have cX := hX.cell
        have hTk := fun W => take_shp (b := 1) (s := 150) (t := (t : Int)) S hs ⟨by omega, by omega, by omega, by omega, by omega, by omega⟩ W
        go_wp2_with fail
        refine (hTk _).mono ?_
        rintro e w4 ⟨hKn, hor⟩
        clear hTk
        replace hA := hA.kept hKn id id
        replace hS := hS.kept hKn id
        replace hX := hX.kept hKn id
        replace hK := hK.trans (NoBlk.one hKn g)
        replace hown := own_kept hown hKn (fun _ h => h.elim)
        clear hKn cS cX
        have cX := hX.cell
        have hw4 := hX.lt
        have hs4 := hS.lt
        have hg4 := hA.glt
        have hb4 := hA.blt
        rcases hor with ⟨hle, rfl⟩ | ⟨hgt, rfl⟩
        · have hT := Bk.new w4 77 (#[.int .i64 1, .int .i64 150, .int .i64 ((t : Int) + S.tk)] : Array Value)
          replace hA := hA.alloc (.cells #[.int .i64 1, .int .i64 150, .int .i64 ((t : Int) + S.tk)] 77)
          replace hS := hS.alloc (.cells #[.int .i64 1, .int .i64 150, .int .i64 ((t : Int) + S.tk)] 77)
          replace hX := hX.alloc (.cells #[.int .i64 1, .int .i64 150, .int .i64 ((t : Int) + S.tk)] 77)
          replace hK := hK.alloc (.cells #[.int .i64 1, .int .i64 150, .int .i64 ((t : Int) + S.tk)] 77)
          replace hown := hown.alloc (.cells #[.int .i64 1, .int .i64 150, .int .i64 ((t : Int) + S.tk)] 77)
          clear cX
          have cX := hX.cell
          go_wp2_with fail
          refine (omake_any hA (by omega) t S hs ((l.length : Int) + 1) (by omega) (by omega) (by omega)).mono ?_
          rintro e w5 ⟨rfl, ws1, hA1, ho1, hF1, hKn⟩
          have neX : ∀ k, g ≠ k → ¬ OneBlk g k := fun k h h2 => h (show k = g from h2).symm
          replace hS := hS.kept hKn (neX _ (by omega))
          replace hT := hT.kept hKn (neX _ (by omega))
          replace hK := hK.trans hKn
          replace hown := own_kept' hown hKn (fun k h => neX _ (by have := (hown.lt k h).1; omega))
          clear hKn hA hX cX
          have cS := hS.cell
          have fS := hS.frozen
          have cT := hT.cell
          have hbn := hK.size
          have hov := fun k h => (hown.lt k h)
          go_upto_region 10 with fail
          have k3 := set3_one w5 v1.heap.size (.int .i64 1) (.int .i64 150) (.int .i64 ((t : Int) + S.tk))
          have hS6 := set3_bk hS (.int .i64 1) (.int .i64 150) (.int .i64 ((t : Int) + S.tk))
          have neS : ∀ k, v1.heap.size ≠ k → ¬ OneBlk v1.heap.size k := fun k h h2 => h (show k = v1.heap.size from h2).symm
          have hA6 := hA1.kept k3 (neS _ (by have := HA.out.blt; omega)) (neS _ (by omega))
          have hK6 := hK.over k3 (OneBlk.over hv1)
          have hown6 := own_kept' hown k3 (fun k h => neS _ (by have := (hown.lt k h).1; omega))
          clear hS hA1 hK hown cS fS cT hT k3 hbn hov
          generalize ((w5.setCell ⟨v1.heap.size, 0, none⟩ (.int .i64 1)).setCell ⟨v1.heap.size, 1, none⟩ (.int .i64 150)).setCell ⟨v1.heap.size, 2, none⟩ (.int .i64 ((t : Int) + S.tk)) = w6 at *
          have hbs := hS6.lt
          have hb6 := HA.out.blt
          have hns : intCells (natInts l) ++ [.int .i64 ((t : Nat) : Int)] = intCells (natInts (l ++ [t])) := by simp [intCells, natInts]
          have HNS := Lib.hid hns
          clear hns
          go_wp2_with (at_builtin; refine wpList_append_one rfl (.tmp 71) (.tmp 73) 74 rfl (v1.heap.size + 1) 3 i0 (.int .i64 0) 8 Try.underlying74 HI.out.1 HI.out.2.1 HI.out.2.2.1 HI.out.2.2.2 rfl u7 l.length (intCells (natInts l)) rfl (hown6.alloc _) w6.heap.size 3 (.int .i64 t) rfl (Bk.new _ _ _) rfl (by omega) (by omega) (by simp; omega) ?_; intro g1 cap1 w7 hown7 hK7)
          rw [HNS.out] at hown7
          have hKo : ∀ i, (fun i => u7.ownBlock = some i) i → w.heap.size ≤ i := fun i h => by have := (hown6.lt i h).1; omega
          have neO : ∀ k, k < v1.heap.size + 1 → ¬ (fun i => u7.ownBlock = some i) k := fun k h h2 => by have := (hown6.lt k h2).1; omega
          have hA7 := (hA6.alloc (.cells #[.int .i64 t] 3)).kept hK7 (neO _ (by omega)) (neO _ (by omega))
          have hS7 := (hS6.alloc (.cells #[.int .i64 t] 3)).kept hK7 (neO _ (by omega))
          have hKK := (hK6.alloc (.cells #[.int .i64 t] 3)).over hK7 hKo
          clear hA6 hS6 hK6 hown6 hK7 hKo neO hbs
          have hl1 := hF1.len
          go_loopw [13] (fun i wr => ∃ (j : Nat) (ws2 : List Int) (o2 : Obj), j ≤ 8 ∧ i = .int .i64 j ∧ ArenaAt wr b g ws2 ∧ ws2.length = ws.length ∧ ObjAt ws2 t o2 ∧ o2.shp = S ∧ o2.ser = (l.length : Int) + 1 ∧ Frame ws' ws2 t S.size ∧ Bk wr v1.heap.size 77 #[.int .i64 1, .int .i64 150, .int .i64 ((t : Int) + S.tk)] ∧ wr.ownsRow (v1.heap.size + 1) 3 1 (.slice (some ⟨g1, 0, none⟩) (l.length + 1) cap1) (l.length + 1) (intCells (natInts (l ++ [t]))) ∧ Kept (OneBlk g) w wr) (fun i _ => 8 - (intOf i).toNat)
          case atStart => exact ⟨0, ws1, newObj S ((l.length : Int) + 1), by omega, rfl, hA7, by omega, ho1, rfl, rfl, hF1, hS7, hown7, hKK⟩
          case round =>
            clear hA7 hl1 ho1 hF1 hS7 hown7 hKK
            obtain ⟨j, ws2, o2, hj, rfl, hA, hl2, ho2, hs2, hr2, hF2, hS, hown, hK⟩ := hrel
            have d3 := hK.cell (p := ⟨bb, _, none⟩) hneB c3
            have d4 := hK.cell (p := ⟨bb, _, none⟩) hneB c4
            have neX : ∀ k, g ≠ k → ¬ OneBlk g k := fun k h h2 => h (show k = g from h2).symm
            have hso : o2.size = S.size := by unfold Obj.size; rw [hs2]
            have hov := fun k h => (hown.lt k h)
            by_cases hjl : j < fl ∧ j < 8
            · obtain ⟨hjl, hj8⟩ := hjl
              obtain ⟨b2, off2, n, rfl, hb2, cn, wn⟩ := HF.out j hjl
              have hneB2 : ¬ OneBlk g b2 := fun h => by have h2 : b2 = g := h; omega
              have dn := hK.cell (p := ⟨b2, _, none⟩) hneB2 cn
              obtain ⟨n0, n1⟩ := bd_i64 wn
              have hpk := pk_bd n 131073 (by omega)
              obtain ⟨m, Hm⟩ : ∃ m, Hid (m = pk n 131073) := ⟨_, rfl⟩
              rw [← Hm.out] at hpk
              have e2 : (0 : Int) ≤ (j : Int) := by omega
              have e3 : (j : Int) < (fl : Int) := by omega
              clear d4
              go_wp2_with fail
              refine (pick08r Hm (by omega) n0 n1 (by omega) _).mono ?_
              rintro e w8 ⟨rfl, rfl⟩
              go_wp2_with fail
              refine (osetptr_any hA (by omega) ho2 j m hpk.1 (by omega)).mono ?_
              rintro e w8 ⟨rfl, ws3, hA3, ho3, hF3, hKn⟩
              have hs3 : (cond (inP o2 j) (o2.setPtr (j : Int).toNat m) o2).shp = S ∧ (cond (inP o2 j) (o2.setPtr (j : Int).toNat m) o2).ser = (l.length : Int) + 1 := by cases inP o2 j <;> exact ⟨hs2, hr2⟩
              generalize cond (inP o2 j) (o2.setPtr (j : Int).toNat m) o2 = o3 at *
              replace hS := hS.kept hKn (neX _ (by omega))
              replace hown := own_kept' hown hKn (fun k h => neX _ (by have := (hov k h).1; omega))
              replace hK := hK.trans hKn
              clear hKn d3 dn hA
              have d3 := hK.cell (p := ⟨bb, _, none⟩) hneB c3
              have dn := hK.cell (p := ⟨b2, _, none⟩) hneB2 cn
              rw [hso] at hF3
              have hso3 : o3.size = S.size := by unfold Obj.size; rw [hs3.1]
              have hl3 := hF3.len
              go_wp2_with fail
              refine (osetnum_any hA3 (by omega) ho3 j n n0 n1).mono ?_
              rintro e w9 ⟨rfl, ws4, hA4, ho4, hF4, hKn⟩
              have hs4 : (cond (inD o3 j) (o3.setNum (j : Int).toNat n) o3).shp = S ∧ (cond (inD o3 j) (o3.setNum (j : Int).toNat n) o3).ser = (l.length : Int) + 1 := by cases inD o3 j <;> exact hs3
              generalize cond (inD o3 j) (o3.setNum (j : Int).toNat n) o3 = o4 at *
              rw [hso3] at hF4
              replace hS := hS.kept hKn (neX _ (by omega))
              replace hown := own_kept' hown hKn (fun k h => neX _ (by have := (hov k h).1; omega))
              replace hK := hK.trans hKn
              clear hKn d3 dn hA3
              go_wp2
              go_roundw
              case rel => exact ⟨j + 1, ws4, o4, by omega, by go_num, hA4, by have := hF4.len; omega, ho4, hs4.1, hs4.2, (hF2.trans hF3).trans hF4, hS, hown, hK⟩
              case measure => simp [intOf]; omega
            · rcases (show (j < fl ∧ ¬ j < 8) ∨ ¬ j < fl from by omega) with ⟨hl0, hl1⟩ | hl0
              all_goals
                clear hjl
                go_wp2_with fail
                refine (osetfreed_any hA (by omega) ho2 fr).mono ?_
                rintro e w8 ⟨rfl, ws3, hA3, ho3, hF3, hKn⟩
                replace hS := hS.kept hKn (neX _ (by omega))
                replace hown := own_kept' hown hKn (fun k h => neX _ (by have := (hov k h).1; omega))
                replace hK := hK.trans hKn
                rw [hso] at hF3
                go_wp2
                go_roundw
                case rel =>
                  have hfin := HL.out.snoc (o := o2.setFreed fr) ho3 hr2 (by have e : (o2.setFreed fr).size = S.size := hso; rw [e]; exact hF2.trans hF3) (by have e : (o2.setFreed fr).shp = S := hs2; rw [e]; omega)
                  have e : (o2.setFreed fr).shp = S := hs2
                  rw [e] at hfin
                  refine ⟨l ++ [t], t + S.tk, _, ws3, ?_, by simp; omega, by simp; omega, ?_, hA3, hfin, ?_, hK⟩
                  · simp
                  · simpa using hown
                  · simpa using hS
                case measure => simp [intOf]; omega
        · go_wp2
          go_ret
          exact ⟨u7, l, t, O', ws', rfl, own_base (hown.alloc _) (by omega), hl8, hll, hA.alloc _, HL.out, hK.alloc _⟩
    · rcases (show (l.length < len ∧ ¬ l.length < 8) ∨ ¬ l.length < len from by omega) with ⟨hl0, hl1⟩ | hl0
      all_goals
        clear hlt
        go_wp2
        go_ret
        exact ⟨u7, l, t, O', ws', rfl, own_base hown (by omega), hl8, hll, hA, HL.out, hK⟩

end Go.Proofs.Ytccgnnnildedoaa
