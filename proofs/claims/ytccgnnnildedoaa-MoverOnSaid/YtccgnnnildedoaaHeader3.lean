/-
  The contracts of package header, third part: Shape; Head of shapes that may not be.
  Conditions: as each statement says.
-/
import Derived.Test.YtccgnnnildedoaaHeader2
set_option linter.unusedVariables false
namespace Go.Proofs.Ytccgnnnildedoaa
open Go.RowKit Go.Shelf

theorem unpack_hws (x : Nat) : nth (unpackN hws x) 0 = x % 2 ∧ nth (unpackN hws x) 1 = x / 2 % 16 ∧ nth (unpackN hws x) 2 = x / 32 % 16 ∧ nth (unpackN hws x) 3 = x / 512 % 2 ∧ nth (unpackN hws x) 4 = x / 1024 % 2 ∧ nth (unpackN hws x) 5 = x / 2048 % 2 := by
  unfold hws nth
  simp only [unpackN, List.getD_cons_zero, List.getD_cons_succ]
  refine ⟨?_, ?_, ?_, ?_, ?_, ?_⟩
  all_goals first | rfl | omega | (simp only [Nat.div_div_eq_div_mul]; done) | (simp only [Nat.div_div_eq_div_mul]; rfl)

theorem dec_one (y : Nat) : decide (y = 1) = ((y : Int) == 1) := by
  by_cases h : y = 1
  · subst h; rfl
  · have h2 : ¬ (y : Int) = 1 := by omega
    rw [decide_eq_false h]; exact (beq_eq_false_iff_ne.2 h2).symm

/-- What Unpack answers of a head's widths. -/
theorem unpack_head (x : Nat) (hx : x < 4096) (w : World) (g : Nat) (hg : Bk w g 3 #[.int .i64 1, .int .i64 4, .int .i64 4, .int .i64 1, .int .i64 1, .int .i64 1]) :
    Calls Try.prog 66 #[.slice (some ⟨g, 0, none⟩) 6 6, .int .u64 x] w fun e w' => ∃ h cap, e = .returned (.tuple #[.slice (some ⟨h, 0, none⟩) 6 cap, .bool true]) ∧ w.heap.size ≤ h ∧ h < w'.heap.size ∧
      w'.cell? ⟨h, 0, none⟩ = some (.int .u64 (x % 2 : Nat)) ∧ w'.cell? ⟨h, 1, none⟩ = some (.int .u64 (x / 2 % 16 : Nat)) ∧ w'.cell? ⟨h, 2, none⟩ = some (.int .u64 (x / 32 % 16 : Nat)) ∧
      w'.cell? ⟨h, 3, none⟩ = some (.int .u64 (x / 512 % 2 : Nat)) ∧ w'.cell? ⟨h, 4, none⟩ = some (.int .u64 (x / 1024 % 2 : Nat)) ∧ w'.cell? ⟨h, 5, none⟩ = some (.int .u64 (x / 2048 % 2 : Nat)) ∧ Kept NoBlk w w' := by
  refine (unpack_yes (some ⟨g, 0, none⟩) 6 6 hws x hws_ok (by rw [hws_sum]; exact hx) w rfl (Sl.nats (l := hws) hg rfl) (fun b o e => by injection e with e; injection e with e1 _ _; rw [← e1]; exact hg.lt)).mono ?_
  rintro e w' ⟨q, cap, rfl, ho, hK⟩
  obtain ⟨h, cap', he, hb, hlt⟩ := ho.form (by omega)
  injection he with h1 h2 h3
  subst h1; subst h3
  obtain ⟨u0, u1, u2, u3, u4, u5⟩ := unpack_hws x
  have hc : ∀ i y, i < 6 → nth (unpackN hws x) i = y → w'.cell? ⟨h, i, none⟩ = some (.int .u64 (y : Nat)) := fun i y hi hy => by
    rw [← hy]; exact own_cell ho (unpackV_at hi (by decide))
  exact ⟨h, cap, rfl, hb, hlt, hc 0 _ (by omega) u0, hc 1 _ (by omega) u1, hc 2 _ (by omega) u2, hc 3 _ (by omega) u3, hc 4 _ (by omega) u4, hc 5 _ (by omega) u5, hK⟩

set_option maxRecDepth 100000 in
set_option maxHeartbeats 2000000 in
theorem shape_big (x : Nat) (h1 : 4096 ≤ x) (hx : x < 18446744073709551616) (w : World) :
    Calls Try.prog 28 #[.int .u64 x] w fun e w' => e = .returned (.tuple #[noShape, .bool false, .bool false]) ∧ Kept NoBlk w w' := by
  have hu := fun (W : World) (g : Nat) (hg : Bk W g 3 #[.int .i64 1, .int .i64 4, .int .i64 4, .int .i64 1, .int .i64 1, .int .i64 1]) =>
    unpack_no (some ⟨g, 0, none⟩) 6 6 hws x hws_ok (by rw [hws_sum]; exact h1) hx W rfl (Sl.nats (l := hws) hg rfl) (fun b o e => by injection e with e; injection e with e1 _ _; rw [← e1]; exact hg.lt)
  have Hu := Lib.hid hu
  clear hu
  go_enter Try.func28, Try.ntmps28
  go_wp2_with fail
  have hb := (Bk.new w 25 (#[.int .i64 0, .int .i64 0, .bool false, .bool false] : Array Value))
  have hK := ((Kept.refl NoBlk w).alloc (.cells #[.int .i64 0, .int .i64 0, .bool false, .bool false] 25))
  generalize w.alloc (.cells #[.int .i64 0, .int .i64 0, .bool false, .bool false] 25) = w0 at hb hK ⊢
  refine (widths_any _).mono ?_
  rintro e w1 ⟨rfl, hW, hKn⟩
  have hbl := hb.lt
  replace hb := hb.kept hKn id
  replace hK := hK.trans hKn
  clear hKn
  go_wp2_with fail
  refine (Hu.out _ _ hW).mono ?_
  rintro e w2 ⟨rfl, hKn⟩
  replace hb := hb.kept hKn id
  replace hK := hK.trans hKn
  clear hKn hW
  have c := hb.cell
  have f := hb.frozen
  go_wp2
  have g2 := ((((hb.set_ 0 (.int .i64 0)).set_ 1 (.int .i64 0)).set_ 2 (.bool false)).set_ 3 (.bool false)).cell
  refine bodyPost_ret (v := .tuple #[noShape, .bool false, .bool false]) (by simp [results, Try.results28, go_sem, g2, noShape]) rfl ⟨rfl, ?_⟩
  exact (((hK.setCell (p := ⟨_, _, none⟩) (fun h => absurd h (by dsimp only; omega)) _).setCell (p := ⟨_, _, none⟩) (fun h => absurd h (by dsimp only; omega)) _).setCell (p := ⟨_, _, none⟩) (fun h => absurd h (by dsimp only; omega)) _).setCell (p := ⟨_, _, none⟩) (fun h => absurd h (by dsimp only; omega)) _

set_option maxRecDepth 100000 in
set_option maxHeartbeats 2000000 in
theorem shape_even (x : Nat) (h1 : x < 4096) (h2 : x % 2 = 0) (w : World) :
    Calls Try.prog 28 #[.int .u64 x] w fun e w' => e = .returned (.tuple #[noShape, .bool false, .bool false]) ∧ Kept NoBlk w w' := by
  have hu := fun (W : World) (g : Nat) hg => unpack_head x h1 W g hg
  rw [h2] at hu
  have Hu := Lib.hid hu
  clear hu h2
  go_enter Try.func28, Try.ntmps28
  go_wp2_with fail
  have hb := (Bk.new w 25 (#[.int .i64 0, .int .i64 0, .bool false, .bool false] : Array Value))
  have hK := ((Kept.refl NoBlk w).alloc (.cells #[.int .i64 0, .int .i64 0, .bool false, .bool false] 25))
  generalize w.alloc (.cells #[.int .i64 0, .int .i64 0, .bool false, .bool false] 25) = w0 at hb hK ⊢
  refine (widths_any _).mono ?_
  rintro e w1 ⟨rfl, hW, hKn⟩
  have hbl := hb.lt
  replace hb := hb.kept hKn id
  replace hK := hK.trans hKn
  clear hKn
  go_wp2_with fail
  refine (Hu.out _ _ hW).mono ?_
  rintro e w2 ⟨h, cap, rfl, _, _, c0, _, _, _, _, _, hKn⟩
  replace hb := hb.kept hKn id
  replace hK := hK.trans hKn
  clear hKn hW
  have c := hb.cell
  have f := hb.frozen
  go_wp2
  have g2 := ((((hb.set_ 0 (.int .i64 0)).set_ 1 (.int .i64 0)).set_ 2 (.bool false)).set_ 3 (.bool false)).cell
  refine bodyPost_ret (v := .tuple #[noShape, .bool false, .bool false]) (by simp [results, Try.results28, go_sem, g2, noShape]) rfl ⟨rfl, ?_⟩
  exact (((hK.setCell (p := ⟨_, _, none⟩) (fun h => absurd h (by dsimp only; omega)) _).setCell (p := ⟨_, _, none⟩) (fun h => absurd h (by dsimp only; omega)) _).setCell (p := ⟨_, _, none⟩) (fun h => absurd h (by dsimp only; omega)) _).setCell (p := ⟨_, _, none⟩) (fun h => absurd h (by dsimp only; omega)) _

set_option maxRecDepth 100000 in
set_option maxHeartbeats 2000000 in
theorem shape_odd (x : Nat) (h1 : x < 4096) (h2 : x % 2 = 1) (ok : Bool) (hok : okB (shpOf x).p (shpOf x).d (shpOf x).wk (shpOf x).fin = ok) (w : World) :
    Calls Try.prog 28 #[.int .u64 x] w fun e w' => e = .returned (if ok = true then .tuple #[(shpOf x).v, .bool (frdOf x), .bool true] else .tuple #[noShape, .bool false, .bool false]) ∧ Kept NoBlk w w' := by
  have hu := fun (W : World) (g : Nat) hg => unpack_head x h1 W g hg
  rw [h2] at hu
  have hR := fun W => hright_any ((x / 2 % 16 : Nat) : Int) ((x / 32 % 16 : Nat) : Int) (decide (x / 512 % 2 = 1)) (decide (x / 1024 % 2 = 1)) (by omega) (by omega) (by omega) (by omega) W
  have hok' : okB ((x / 2 % 16 : Nat) : Int) ((x / 32 % 16 : Nat) : Int) (decide (x / 512 % 2 = 1)) (decide (x / 1024 % 2 = 1)) = ok := hok
  rw [hok'] at hR
  have hv : (shpOf x).v = .agg #[.int .i64 (x / 2 % 16 : Nat), .int .i64 (x / 32 % 16 : Nat), .bool (decide (x / 512 % 2 = 1)), .bool (decide (x / 1024 % 2 = 1))] := rfl
  have hf : frdOf x = decide (x / 2048 % 2 = 1) := rfl
  rw [hv, hf]
  simp only [dec_one] at hR ⊢
  have p16 : x / 2 % 16 < 16 := Nat.mod_lt _ (by omega)
  have d16 : x / 32 % 16 < 16 := Nat.mod_lt _ (by omega)
  generalize x / 2 % 16 = p at *
  generalize x / 32 % 16 = d at *
  generalize x / 512 % 2 = y3 at *
  generalize x / 1024 % 2 = y4 at *
  generalize x / 2048 % 2 = y5 at *
  have hw1 : IntKind.i64.wrap (p : Int) = (p : Int) := IntWalk.i64_in _ (by omega)
  have hw2 : IntKind.i64.wrap (d : Int) = (d : Int) := IntWalk.i64_in _ (by omega)
  have hw3 : wrap64 (p : Int) = (p : Int) := by unfold wrap64; omega
  have hw4 : wrap64 (d : Int) = (d : Int) := by unfold wrap64; omega
  have Hu := Lib.hid hu
  clear hu h2 hok hok' hv hf
  go_enter Try.func28, Try.ntmps28
  go_wp2_with fail
  have hb := (Bk.new w 25 (#[.int .i64 0, .int .i64 0, .bool false, .bool false] : Array Value))
  have hK := ((Kept.refl NoBlk w).alloc (.cells #[.int .i64 0, .int .i64 0, .bool false, .bool false] 25))
  generalize w.alloc (.cells #[.int .i64 0, .int .i64 0, .bool false, .bool false] 25) = w0 at hb hK ⊢
  refine (widths_any _).mono ?_
  rintro e w1 ⟨rfl, hW, hKn⟩
  have hbl := hb.lt
  replace hb := hb.kept hKn id
  replace hK := hK.trans hKn
  have hsz : w.heap.size + 1 ≤ w1.heap.size := by have := hKn.size; omega
  clear hKn
  go_wp2_with fail
  refine (Hu.out _ _ hW).mono ?_
  rintro e w2 ⟨h, cap, rfl, hh1, _, c0, c1, c2, c3, c4, c5, hKn⟩
  have hne : h ≠ w.heap.size := by omega
  replace hb := hb.kept hKn id
  replace hK := hK.trans hKn
  clear hKn hW
  have c := hb.cell
  have f := hb.frozen
  go_wp2_with fail
  refine wp_region_held_drew (S := (fun V => V.cell? ⟨h, 1, none⟩ = some (.int .u64 (p : Nat)) ∧ V.cell? ⟨h, 2, none⟩ = some (.int .u64 (d : Nat)) ∧ V.cell? ⟨h, 3, none⟩ = some (.int .u64 (y3 : Nat)) ∧ V.cell? ⟨h, 4, none⟩ = some (.int .u64 (y4 : Nat)))) (by kernel_rfl) (by ((try dsimp only); exact ⟨c1, c2, c3, c4⟩)) (fun hHeld => ?_)
  ((first
    | (refine wpAnyH_takeL (i := 0) (v := ?hv1) rfl (by kernel_rfl) (by kernel_rfl) (by kernel_rfl) (fun _ _ _ h => h) (Or.inl (And.intro ?hw1 ?hy1)) (by assumption) ?rest1
       case hw1 => rfl
       case hy1 => (intro wHy hSw; (try dsimp only at hSw); go_simp; (first | done | with_reducible rfl)))
    | (refine wpAnyH_takeL (i := 0) (v := undef) rfl (by kernel_rfl) (by kernel_rfl) (by kernel_rfl) (fun _ _ _ h => h) (Or.inr (And.intro (by rfl) rfl)) (by assumption) ?rest1x))
   (try simp only [Act.put, List.setIfInBounds_toArray, List.set_cons_zero, List.set_cons_succ]))
  ((first
    | (refine wpAnyH_takeL (i := 1) (v := ?hv2) rfl (by kernel_rfl) (by kernel_rfl) (by kernel_rfl) (fun _ _ _ h => h) (Or.inl (And.intro ?hw2 ?hy2)) (by assumption) ?rest2
       case hw2 => rfl
       case hy2 => (intro wHy hSw; (try dsimp only at hSw); go_simp; (first | done | with_reducible rfl)))
    | (refine wpAnyH_takeL (i := 1) (v := undef) rfl (by kernel_rfl) (by kernel_rfl) (by kernel_rfl) (fun _ _ _ h => h) (Or.inr (And.intro (by rfl) rfl)) (by assumption) ?rest2x))
   (try simp only [Act.put, List.setIfInBounds_toArray, List.set_cons_zero, List.set_cons_succ]))
  ((first
    | (refine wpAnyH_takeL (i := 2) (v := ?hv3) rfl (by kernel_rfl) (by kernel_rfl) (by kernel_rfl) (fun _ _ _ h => h) (Or.inl (And.intro ?hw3 ?hy3)) (by assumption) ?rest3
       case hw3 => rfl
       case hy3 => (intro wHy hSw; (try dsimp only at hSw); go_simp; (first | done | with_reducible rfl)))
    | (refine wpAnyH_takeL (i := 2) (v := undef) rfl (by kernel_rfl) (by kernel_rfl) (by kernel_rfl) (fun _ _ _ h => h) (Or.inr (And.intro (by rfl) rfl)) (by assumption) ?rest3x))
   (try simp only [Act.put, List.setIfInBounds_toArray, List.set_cons_zero, List.set_cons_succ]))
  ((first
    | (refine wpAnyH_takeL (i := 3) (v := ?hv4) rfl (by kernel_rfl) (by kernel_rfl) (by kernel_rfl) (fun _ _ _ h => h) (Or.inl (And.intro ?hw4 ?hy4)) (by assumption) ?rest4
       case hw4 => rfl
       case hy4 => (intro wHy hSw; (try dsimp only at hSw); go_simp; (first | done | with_reducible rfl)))
    | (refine wpAnyH_takeL (i := 3) (v := undef) rfl (by kernel_rfl) (by kernel_rfl) (by kernel_rfl) (fun _ _ _ h => h) (Or.inr (And.intro (by rfl) rfl)) (by assumption) ?rest4x))
   (try simp only [Act.put, List.setIfInBounds_toArray, List.set_cons_zero, List.set_cons_succ]))
  ((first
    | (refine wpAnyH_takeL (i := 4) (v := ?hv5) rfl (by kernel_rfl) (by kernel_rfl) (by kernel_rfl) (fun _ _ _ h => h) (Or.inl (And.intro ?hw5 ?hy5)) (by assumption) ?rest5
       case hw5 => rfl
       case hy5 => (intro wHy hSw; (try dsimp only at hSw); go_simp; (first | done | with_reducible rfl)))
    | (refine wpAnyH_takeL (i := 4) (v := undef) rfl (by kernel_rfl) (by kernel_rfl) (by kernel_rfl) (fun _ _ _ h => h) (Or.inr (And.intro (by rfl) rfl)) (by assumption) ?rest5x))
   (try simp only [Act.put, List.setIfInBounds_toArray, List.set_cons_zero, List.set_cons_succ]))
  ((first
    | (refine wpAnyH_takeL (i := 5) (v := ?hv6) rfl (by kernel_rfl) (by kernel_rfl) (by kernel_rfl) (fun _ _ _ h => h) (Or.inl (And.intro ?hw6 ?hy6)) (by assumption) ?rest6
       case hw6 => rfl
       case hy6 => (intro wHy hSw; (try dsimp only at hSw); go_simp; (first | done | with_reducible rfl)))
    | (refine wpAnyH_takeL (i := 5) (v := undef) rfl (by kernel_rfl) (by kernel_rfl) (by kernel_rfl) (fun _ _ _ h => h) (Or.inr (And.intro (by rfl) rfl)) (by assumption) ?rest6x))
   (try simp only [Act.put, List.setIfInBounds_toArray, List.set_cons_zero, List.set_cons_succ]))
  ((first
    | (refine wpAnyH_takeL (i := 6) (v := ?hv7) rfl (by kernel_rfl) (by kernel_rfl) (by kernel_rfl) (fun _ _ _ h => h) (Or.inl (And.intro ?hw7 ?hy7)) (by assumption) ?rest7
       case hw7 => rfl
       case hy7 => (intro wHy hSw; (try dsimp only at hSw); go_simp; (first | done | with_reducible rfl)))
    | (refine wpAnyH_takeL (i := 6) (v := undef) rfl (by kernel_rfl) (by kernel_rfl) (by kernel_rfl) (fun _ _ _ h => h) (Or.inr (And.intro (by rfl) rfl)) (by assumption) ?rest7x))
   (try simp only [Act.put, List.setIfInBounds_toArray, List.set_cons_zero, List.set_cons_succ]))
  ((first
    | (refine wpAnyH_takeL (i := 7) (v := ?hv8) rfl (by kernel_rfl) (by kernel_rfl) (by kernel_rfl) (fun _ _ _ h => h) (Or.inl (And.intro ?hw8 ?hy8)) (by assumption) ?rest8
       case hw8 => rfl
       case hy8 => (intro wHy hSw; (try dsimp only at hSw); go_simp; (first | done | with_reducible rfl)))
    | (refine wpAnyH_takeL (i := 7) (v := undef) rfl (by kernel_rfl) (by kernel_rfl) (by kernel_rfl) (fun _ _ _ h => h) (Or.inr (And.intro (by rfl) rfl)) (by assumption) ?rest8x))
   (try simp only [Act.put, List.setIfInBounds_toArray, List.set_cons_zero, List.set_cons_succ]))
  ((first
    | (refine wpAnyH_takeL (i := 8) (v := ?hv9) rfl (by kernel_rfl) (by kernel_rfl) (by kernel_rfl) (fun _ _ _ h => h) (Or.inl (And.intro ?hw9 ?hy9)) (by assumption) ?rest9
       case hw9 => rfl
       case hy9 => (intro wHy hSw; (try dsimp only at hSw); go_simp; (first | done | with_reducible rfl)))
    | (refine wpAnyH_takeL (i := 8) (v := undef) rfl (by kernel_rfl) (by kernel_rfl) (by kernel_rfl) (fun _ _ _ h => h) (Or.inr (And.intro (by rfl) rfl)) (by assumption) ?rest9x))
   (try simp only [Act.put, List.setIfInBounds_toArray, List.set_cons_zero, List.set_cons_succ]))
  ((first
    | (refine wpAnyH_takeL (i := 9) (v := ?hv10) rfl (by kernel_rfl) (by kernel_rfl) (by kernel_rfl) (fun _ _ _ h => h) (Or.inl (And.intro ?hw10 ?hy10)) (by assumption) ?rest10
       case hw10 => rfl
       case hy10 => (intro wHy hSw; (try dsimp only at hSw); go_simp; (first | done | with_reducible rfl)))
    | (refine wpAnyH_takeL (i := 9) (v := undef) rfl (by kernel_rfl) (by kernel_rfl) (by kernel_rfl) (fun _ _ _ h => h) (Or.inr (And.intro (by rfl) rfl)) (by assumption) ?rest10x))
   (try simp only [Act.put, List.setIfInBounds_toArray, List.set_cons_zero, List.set_cons_succ]))
  ((first
    | (refine wpAnyH_takeL (i := 10) (v := ?hv11) rfl (by kernel_rfl) (by kernel_rfl) (by kernel_rfl) (fun _ _ _ h => h) (Or.inl (And.intro ?hw11 ?hy11)) (by assumption) ?rest11
       case hw11 => rfl
       case hy11 => (intro wHy hSw; (try dsimp only at hSw); go_simp; (first | done | with_reducible rfl)))
    | (refine wpAnyH_takeL (i := 10) (v := undef) rfl (by kernel_rfl) (by kernel_rfl) (by kernel_rfl) (fun _ _ _ h => h) (Or.inr (And.intro (by rfl) rfl)) (by assumption) ?rest11x))
   (try simp only [Act.put, List.setIfInBounds_toArray, List.set_cons_zero, List.set_cons_succ]))
  ((first
    | (refine wpAnyH_takeL (i := 11) (v := ?hv12) rfl (by kernel_rfl) (by kernel_rfl) (by kernel_rfl) (fun _ _ _ h => h) (Or.inl (And.intro ?hw12 ?hy12)) (by assumption) ?rest12
       case hw12 => rfl
       case hy12 => (intro wHy hSw; (try dsimp only at hSw); go_simp; (first | done | with_reducible rfl)))
    | (refine wpAnyH_takeL (i := 11) (v := undef) rfl (by kernel_rfl) (by kernel_rfl) (by kernel_rfl) (fun _ _ _ h => h) (Or.inr (And.intro (by rfl) rfl)) (by assumption) ?rest12x))
   (try simp only [Act.put, List.setIfInBounds_toArray, List.set_cons_zero, List.set_cons_succ]))
  ((first
    | (refine wpAnyH_takeL (i := 12) (v := ?hv13) rfl (by kernel_rfl) (by kernel_rfl) (by kernel_rfl) (fun _ _ _ h => h) (Or.inl (And.intro ?hw13 ?hy13)) (by assumption) ?rest13
       case hw13 => rfl
       case hy13 => (intro wHy hSw; (try dsimp only at hSw); go_simp; (first | done | with_reducible rfl)))
    | (refine wpAnyH_takeL (i := 12) (v := undef) rfl (by kernel_rfl) (by kernel_rfl) (by kernel_rfl) (fun _ _ _ h => h) (Or.inr (And.intro (by rfl) rfl)) (by assumption) ?rest13x))
   (try simp only [Act.put, List.setIfInBounds_toArray, List.set_cons_zero, List.set_cons_succ]))
  ((first
    | (refine wpAnyH_takeL (i := 13) (v := ?hv14) rfl (by kernel_rfl) (by kernel_rfl) (by kernel_rfl) (fun _ _ _ h => h) (Or.inl (And.intro ?hw14 ?hy14)) (by assumption) ?rest14
       case hw14 => rfl
       case hy14 => (intro wHy hSw; (try dsimp only at hSw); go_simp; (first | done | with_reducible rfl)))
    | (refine wpAnyH_takeL (i := 13) (v := undef) rfl (by kernel_rfl) (by kernel_rfl) (by kernel_rfl) (fun _ _ _ h => h) (Or.inr (And.intro (by rfl) rfl)) (by assumption) ?rest14x))
   (try simp only [Act.put, List.setIfInBounds_toArray, List.set_cons_zero, List.set_cons_succ]))
  ((first
    | (refine wpAnyH_takeL (i := 14) (v := ?hv15) rfl (by kernel_rfl) (by kernel_rfl) (by kernel_rfl) (fun _ _ _ h => h) (Or.inl (And.intro ?hw15 ?hy15)) (by assumption) ?rest15
       case hw15 => rfl
       case hy15 => (intro wHy hSw; (try dsimp only at hSw); go_simp; (first | done | with_reducible rfl)))
    | (refine wpAnyH_takeL (i := 14) (v := undef) rfl (by kernel_rfl) (by kernel_rfl) (by kernel_rfl) (fun _ _ _ h => h) (Or.inr (And.intro (by rfl) rfl)) (by assumption) ?rest15x))
   (try simp only [Act.put, List.setIfInBounds_toArray, List.set_cons_zero, List.set_cons_succ]))
  ((first
    | (refine wpAnyH_takeL (i := 15) (v := ?hv16) rfl (by kernel_rfl) (by kernel_rfl) (by kernel_rfl) (fun _ _ _ h => h) (Or.inl (And.intro ?hw16 ?hy16)) (by assumption) ?rest16
       case hw16 => rfl
       case hy16 => (intro wHy hSw; (try dsimp only at hSw); go_simp; (first | done | with_reducible rfl)))
    | (refine wpAnyH_takeL (i := 15) (v := undef) rfl (by kernel_rfl) (by kernel_rfl) (by kernel_rfl) (fun _ _ _ h => h) (Or.inr (And.intro (by rfl) rfl)) (by assumption) ?rest16x))
   (try simp only [Act.put, List.setIfInBounds_toArray, List.set_cons_zero, List.set_cons_succ]))
  ((first
    | (refine wpAnyH_takeL (i := 16) (v := ?hv17) rfl (by kernel_rfl) (by kernel_rfl) (by kernel_rfl) (fun _ _ _ h => h) (Or.inl (And.intro ?hw17 ?hy17)) (by assumption) ?rest17
       case hw17 => rfl
       case hy17 => (intro wHy hSw; (try dsimp only at hSw); go_simp; (first | done | with_reducible rfl)))
    | (refine wpAnyH_takeL (i := 16) (v := undef) rfl (by kernel_rfl) (by kernel_rfl) (by kernel_rfl) (fun _ _ _ h => h) (Or.inr (And.intro (by rfl) rfl)) (by assumption) ?rest17x))
   (try simp only [Act.put, List.setIfInBounds_toArray, List.set_cons_zero, List.set_cons_succ]))
  have K4 := ((((((Kept.refl (OneBlk w.heap.size) w2).setCell (p := ⟨w.heap.size, 0, none⟩) (fun _ => rfl) (.int .i64 (p : Nat))).setCell (p := ⟨w.heap.size, 1, none⟩) (fun _ => rfl) (.int .i64 (d : Nat))).setCell (p := ⟨w.heap.size, 2, none⟩) (fun _ => rfl) (.bool ((y3 : Int) == 1))).setCell (p := ⟨w.heap.size, 3, none⟩) (fun _ => rfl) (.bool ((y4 : Int) == 1))).drew)
  refine wpAnyH_ready (rs := [17]) (by kernel_rfl) (by simp) (AllReadyH.consL rfl (fun K hKcc => ?_) AllReadyH.nil)
  go_simp
  refine hKcc.out _ _ ?held18 (fun hHeld => ?_)
  case held18 => ((try dsimp only); exact ⟨K4.cell (fun e => hne e) c1, K4.cell (fun e => hne e) c2, K4.cell (fun e => hne e) c3, K4.cell (fun e => hne e) c4⟩)
  clear hKcc K
  (try simp only [Act.put, List.setIfInBounds_toArray, List.set_cons_zero, List.set_cons_succ])
  refine wpAnyH_done (by kernel_rfl) ?_ _
  replace hb := ((((hb.set_ 0 (.int .i64 (p : Nat))).set_ 1 (.int .i64 (d : Nat))).set_ 2 (.bool ((y3 : Int) == 1))).set_ 3 (.bool ((y4 : Int) == 1))).drew
  replace c5 := K4.cell (p := ⟨h, 5, none⟩) (fun e => hne e) c5
  replace hK := hK.over K4 (OneBlk.over (Nat.le_refl _))
  clear c0 c1 c2 c3 c4 c f
  generalize World.drew _ = w3 at hb c5 hK K4 hHeld ⊢
  clear K4 hHeld
  replace hb : Bk w3 w.heap.size 25 #[.int .i64 (p : Nat), .int .i64 (d : Nat), .bool ((y3 : Int) == 1), .bool ((y4 : Int) == 1)] := hb
  generalize hb3 : ((y3 : Int) == 1) = b3 at hb hR
  generalize hb4 : ((y4 : Int) == 1) = b4 at hb hR
  have H3 := Lib.hid hb3
  have H4 := Lib.hid hb4
  clear hb3 hb4
  have c := hb.cell
  go_wp2_with fail
  refine (hR _).mono ?_
  rintro e w4 ⟨rfl, hKn⟩
  replace hb := hb.kept hKn id
  replace c5 := hKn.cell id c5
  replace hK := hK.trans hKn
  clear hKn hR
  replace c := hb.cell
  have f := hb.frozen
  cases ok
  · go_wp2
    have g2 := ((((hb.set_ 0 (.int .i64 0)).set_ 1 (.int .i64 0)).set_ 2 (.bool false)).set_ 3 (.bool false)).cell
    refine bodyPost_ret (v := .tuple #[noShape, .bool false, .bool false]) (by simp [results, Try.results28, go_sem, g2, noShape]) rfl ⟨rfl, ?_⟩
    exact (((hK.setCell (p := ⟨_, _, none⟩) (fun h => absurd h (by dsimp only; omega)) _).setCell (p := ⟨_, _, none⟩) (fun h => absurd h (by dsimp only; omega)) _).setCell (p := ⟨_, _, none⟩) (fun h => absurd h (by dsimp only; omega)) _).setCell (p := ⟨_, _, none⟩) (fun h => absurd h (by dsimp only; omega)) _
  · go_wp2_with fail
    refine wp_region_held_drew (S := (fun V => (∀ i, V.cell? ⟨w.heap.size, i, none⟩ = (#[.int .i64 (p : Nat), .int .i64 (d : Nat), .bool b3, .bool b4] : Array Value)[i]?) ∧ V.cell? ⟨h, 5, none⟩ = some (.int .u64 (y5 : Nat)))) (by kernel_rfl) (by ((try dsimp only); exact ⟨c, c5⟩)) (fun hHeld => ?_)
    ((first
      | (refine wpAnyH_takeL (i := 0) (v := ?hv19) rfl (by kernel_rfl) (by kernel_rfl) (by kernel_rfl) (fun _ _ _ h => h) (Or.inl (And.intro ?hw19 ?hy19)) (by assumption) ?rest19
         case hw19 => rfl
         case hy19 => (intro wHy hSw; (try dsimp only at hSw); go_simp; (first | done | with_reducible rfl)))
      | (refine wpAnyH_takeL (i := 0) (v := undef) rfl (by kernel_rfl) (by kernel_rfl) (by kernel_rfl) (fun _ _ _ h => h) (Or.inr (And.intro (by rfl) rfl)) (by assumption) ?rest19x))
     (try simp only [Act.put, List.setIfInBounds_toArray, List.set_cons_zero, List.set_cons_succ]))
    ((first
      | (refine wpAnyH_takeL (i := 1) (v := ?hv20) rfl (by kernel_rfl) (by kernel_rfl) (by kernel_rfl) (fun _ _ _ h => h) (Or.inl (And.intro ?hw20 ?hy20)) (by assumption) ?rest20
         case hw20 => rfl
         case hy20 => (intro wHy hSw; (try dsimp only at hSw); go_simp; (first | done | with_reducible rfl)))
      | (refine wpAnyH_takeL (i := 1) (v := undef) rfl (by kernel_rfl) (by kernel_rfl) (by kernel_rfl) (fun _ _ _ h => h) (Or.inr (And.intro (by rfl) rfl)) (by assumption) ?rest20x))
     (try simp only [Act.put, List.setIfInBounds_toArray, List.set_cons_zero, List.set_cons_succ]))
    ((first
      | (refine wpAnyH_takeL (i := 2) (v := ?hv21) rfl (by kernel_rfl) (by kernel_rfl) (by kernel_rfl) (fun _ _ _ h => h) (Or.inl (And.intro ?hw21 ?hy21)) (by assumption) ?rest21
         case hw21 => rfl
         case hy21 => (intro wHy hSw; (try dsimp only at hSw); go_simp; (first | done | with_reducible rfl)))
      | (refine wpAnyH_takeL (i := 2) (v := undef) rfl (by kernel_rfl) (by kernel_rfl) (by kernel_rfl) (fun _ _ _ h => h) (Or.inr (And.intro (by rfl) rfl)) (by assumption) ?rest21x))
     (try simp only [Act.put, List.setIfInBounds_toArray, List.set_cons_zero, List.set_cons_succ]))
    ((first
      | (refine wpAnyH_takeL (i := 3) (v := ?hv22) rfl (by kernel_rfl) (by kernel_rfl) (by kernel_rfl) (fun _ _ _ h => h) (Or.inl (And.intro ?hw22 ?hy22)) (by assumption) ?rest22
         case hw22 => rfl
         case hy22 => (intro wHy hSw; (try dsimp only at hSw); go_simp; (first | done | with_reducible rfl)))
      | (refine wpAnyH_takeL (i := 3) (v := undef) rfl (by kernel_rfl) (by kernel_rfl) (by kernel_rfl) (fun _ _ _ h => h) (Or.inr (And.intro (by rfl) rfl)) (by assumption) ?rest22x))
     (try simp only [Act.put, List.setIfInBounds_toArray, List.set_cons_zero, List.set_cons_succ]))
    ((first
      | (refine wpAnyH_takeL (i := 4) (v := ?hv23) rfl (by kernel_rfl) (by kernel_rfl) (by kernel_rfl) (fun _ _ _ h => h) (Or.inl (And.intro ?hw23 ?hy23)) (by assumption) ?rest23
         case hw23 => rfl
         case hy23 => (intro wHy hSw; (try dsimp only at hSw); go_simp; (first | done | with_reducible rfl)))
      | (refine wpAnyH_takeL (i := 4) (v := undef) rfl (by kernel_rfl) (by kernel_rfl) (by kernel_rfl) (fun _ _ _ h => h) (Or.inr (And.intro (by rfl) rfl)) (by assumption) ?rest23x))
     (try simp only [Act.put, List.setIfInBounds_toArray, List.set_cons_zero, List.set_cons_succ]))
    have hb2 := ((((hb.set_ 0 (.int .i64 (p : Nat))).set_ 1 (.int .i64 (d : Nat))).set_ 2 (.bool b3)).set_ 3 (.bool b4)).drew
    have K4 := ((((((Kept.refl (OneBlk w.heap.size) w4).setCell (p := ⟨w.heap.size, 0, none⟩) (fun _ => rfl) (.int .i64 (p : Nat))).setCell (p := ⟨w.heap.size, 1, none⟩) (fun _ => rfl) (.int .i64 (d : Nat))).setCell (p := ⟨w.heap.size, 2, none⟩) (fun _ => rfl) (.bool b3)).setCell (p := ⟨w.heap.size, 3, none⟩) (fun _ => rfl) (.bool b4)).drew)
    refine wpAnyH_ready (rs := [5]) (by kernel_rfl) (by simp) (AllReadyH.consL rfl (fun K hKcc => ?_) AllReadyH.nil)
    go_simp
    refine hKcc.out _ _ ?held24 (fun hHeld => ?_)
    case held24 => ((try dsimp only); exact ⟨hb2.cell, K4.cell (fun e => hne e) c5⟩)
    clear hKcc K
    (try simp only [Act.put, List.setIfInBounds_toArray, List.set_cons_zero, List.set_cons_succ])
    ((first
      | (refine wpAnyH_takeL (i := 6) (v := ?hv25) rfl (by kernel_rfl) (by kernel_rfl) (by kernel_rfl) (fun _ _ _ h => h) (Or.inl (And.intro ?hw25 ?hy25)) (by assumption) ?rest25
         case hw25 => rfl
         case hy25 => (intro wHy hSw; (try dsimp only at hSw); go_simp; (first | done | with_reducible rfl)))
      | (refine wpAnyH_takeL (i := 6) (v := undef) rfl (by kernel_rfl) (by kernel_rfl) (by kernel_rfl) (fun _ _ _ h => h) (Or.inr (And.intro (by rfl) rfl)) (by assumption) ?rest25x))
     (try simp only [Act.put, List.setIfInBounds_toArray, List.set_cons_zero, List.set_cons_succ]))
    ((first
      | (refine wpAnyH_takeL (i := 7) (v := ?hv26) rfl (by kernel_rfl) (by kernel_rfl) (by kernel_rfl) (fun _ _ _ h => h) (Or.inl (And.intro ?hw26 ?hy26)) (by assumption) ?rest26
         case hw26 => rfl
         case hy26 => (intro wHy hSw; (try dsimp only at hSw); go_simp; (first | done | with_reducible rfl)))
      | (refine wpAnyH_takeL (i := 7) (v := undef) rfl (by kernel_rfl) (by kernel_rfl) (by kernel_rfl) (fun _ _ _ h => h) (Or.inr (And.intro (by rfl) rfl)) (by assumption) ?rest26x))
     (try simp only [Act.put, List.setIfInBounds_toArray, List.set_cons_zero, List.set_cons_succ]))
    refine wpAnyH_done (by kernel_rfl) ?_ _
    go_wp2
    have g2 := hb2.cell
    refine bodyPost_ret (v := .tuple #[.agg #[.int .i64 (p : Nat), .int .i64 (d : Nat), .bool b3, .bool b4], .bool ((y5 : Int) == 1), .bool true]) (by simp [results, Try.results28, go_sem, g2]) rfl ⟨by rw [← H3.out, ← H4.out], hK.over K4 (OneBlk.over (Nat.le_refl _))⟩

end Go.Proofs.Ytccgnnnildedoaa
