/-
  The walk through the law WordBack: Unpack undoes Pack.
  Conditions: none.
-/
import Derived.Test.YtenphgmohhdjeaaWidths
import Derived.Test.YtenphgmohhdjeaaHeld
set_option linter.unusedVariables false
namespace Go.Proofs.Ytenphgmohhdjeaa
open Go.RowKit Go.Shelf

/-- A slice that is the call's own, of numbers. -/
theorem Sl.ownN {w : World} {base : Nat} {e : TypeId} {k : IntKind} {A : Option Addr} {c : Nat} {ls : List Nat} (h : w.ownsRow base e 1 (.slice A ls.length c) ls.length (natCells k ls)) : Sl w k A ls.length (fun i => (nth ls i : Nat)) :=
  Sl.own h fun i hi => by simp [natCells, nth, hi]
theorem own_lt {w : World} {base : Nat} {e : TypeId} {A : Option Addr} {n c : Nat} {xs : List Value} (h : w.ownsRow base e 1 (.slice A n c) n xs) (b o : Nat) (hA : A = some ⟨b, o, none⟩) : base ≤ b ∧ b < w.heap.size := h.lt b (by rw [hA]; rfl)
theorem wrap_pow (n : Nat) (h : n ≤ 63) : ∃ m : Nat, IntKind.u64.wrap (2 ^ n) = (m : Int) ∧ 1 ≤ m ∧ m = 2 ^ n := by
  refine ⟨2 ^ n, ?_, Nat.two_pow_pos n, rfl⟩
  have h1 := Nat.pow_le_pow_right (show 0 < 2 by omega) h
  have h2 : ((2 : Int) ^ n) = ((2 ^ n : Nat) : Int) := by simp
  have h3 : (2 : Nat) ^ 63 < 18446744073709551616 := by decide
  have h4 : 2 ^ n < 18446744073709551616 := Nat.lt_of_le_of_lt h1 h3
  rw [h2, IntKind.wrap_u64]
  generalize (2 ^ n : Nat) = y at *
  omega
theorem nth_snoc_lt {ls : List Nat} {x k : Nat} (h : k < ls.length) : nth (ls ++ [x]) k = nth ls k := by
  unfold nth; rw [List.getD_eq_getElem?_getD, List.getElem?_append_left h, ← List.getD_eq_getElem?_getD]
theorem nth_snoc_eq (ls : List Nat) (x : Nat) : nth (ls ++ [x]) ls.length = x := by simp [nth]

theorem fit_snoc {ws ls : List Nat} {x : Nat} (h : ∀ k, k < ls.length → nth ls k < 2 ^ nth ws k) (hx : x < 2 ^ nth ws ls.length) : ∀ k, k < (ls ++ [x]).length → nth (ls ++ [x]) k < 2 ^ nth ws k := by
  intro k hk
  rw [List.length_append, List.length_singleton] at hk
  by_cases e : k < ls.length
  · rw [nth_snoc_lt e]; exact h k e
  · obtain rfl : k = ls.length := by omega
    rw [nth_snoc_eq]; exact hx

set_option maxRecDepth 100000 in
set_option maxHeartbeats 2000000 in
theorem back_walk (A B : Option Addr) (len cap len2 cap2 : Nat) (w : World) (hlen : len ≤ 9223372036854775807) (hL : ∀ i, i < len → I64In w w.heap.size A i) (hlen2 : len2 ≤ 9223372036854775807) (hN : ∀ i, i < len2 → U64In w w.heap.size B i) :
    Calls Try.prog 18 #[.slice A len cap, .slice B len2 cap2] w fun e w' => e = .returned (.bool true) ∧ Kept NoBlk w w' := by
  have HL := Lib.hid hL
  have HN := Lib.hid hN
  clear hL hN
  obtain ⟨i0, hi, hz0, hz1, hz2⟩ := info_parts u64_info'
  have HI := Lib.hid (And.intro hi (And.intro hz0 (And.intro hz1 hz2)))
  clear hi hz0 hz1 hz2
  go_enter Try.func18, Try.ntmps18
  go_wp2_with fail
  refine (awake01 _).mono ?_
  rintro e w1 ⟨rfl, hK⟩
  have HI64 : ∀ i, i < len → I64In w1 w1.heap.size A i := fun i hi => by
    obtain ⟨b, o, x, h1, h2, h3, h4⟩ := HL.out i hi
    exact ⟨b, o, x, h1, Nat.lt_of_lt_of_le h2 hK.size, hK.cell id h3, h4⟩
  go_wp2_with fail
  refine (widths01 A len cap w1 hlen HI64).mono ?_
  rintro e w2 ⟨ws, q, c, hW, hl, rfl, hown, hKn⟩
  clear HI64
  have hb1 := hK.size
  replace hK := hK.trans hKn
  clear hKn
  have hown := own_base hown hb1
  have Hown := Lib.hid hown
  clear hown
  have hl20 := hl.out
  go_wp2_with fail
  go_loopw [7, 8] (fun v i wr => ∃ (ls : List Nat) (p : Option Addr) (d : Nat), ls.length ≤ ws.length ∧ i = .int .i64 (ls.length : Nat) ∧ v = .slice p ls.length d ∧ Hid (∀ k, k < ls.length → nth ls k < 2 ^ nth ws k) ∧ wr.ownsRow w2.heap.size 32 1 (.slice p ls.length d) ls.length (natCells .u64 ls) ∧ Kept NoBlk w2 wr) (fun _ i _ => ws.length - (intOf i).toNat)
  case atStart => exact ⟨[], none, 0, by simp, rfl, rfl, fun k hk => absurd hk (by simp), World.ownsRow_nil _ _ _ _, Kept.refl _ _⟩
  case round =>
    obtain ⟨ls, p, d, hle, rfl, rfl, Hfit, hownN, hKr⟩ := hrel
    by_cases hlt : ls.length < ws.length
    · obtain ⟨b1, o1, rfl, c1⟩ := Sl.ownN Hown.out ls.length hlt
      have c1' := hKr.cell id c1
      have hps := hW.out.pos _ hlt
      obtain ⟨n, Hn⟩ : ∃ n, Hid (n = nth ws ls.length) := ⟨_, rfl⟩
      dsimp only at c1'
      rw [← Hn.out] at c1' hps
      clear c1
      obtain ⟨hn1, hn2⟩ := hps
      have hkn : ls.length ≤ 1000000000 := by omega
      have e0 : (0 : Int) ≤ (ls.length : Int) := by omega
      have e1 : (ls.length : Int) < (ws.length : Int) := by omega
      have hbs := hKr.size
      by_cases hlt2 : ls.length < len2
      · obtain ⟨bb, off, x, rfl, hbb, cx, wx⟩ := HN.out ls.length hlt2
        have hbx := wx
        simp only [Lit.wf, Bool.and_eq_true, decide_eq_true_eq] at hbx
        have cx' := hKr.cell id (hK.cell id cx)
        clear cx wx
        obtain ⟨hx0, hx1⟩ := hbx
        obtain ⟨X, rfl⟩ := Int.eq_ofNat_of_zero_le hx0
        obtain ⟨mm, hmm, hm1, hm2⟩ := wrap_pow n (by omega)
        have hm0 : ¬ mm = 0 := by omega
        obtain ⟨u, htm, hu⟩ : ∃ u : Nat, (X : Int).tmod (mm : Int) = (u : Int) ∧ u < mm := ⟨X % mm, rfl, Nat.mod_lt _ hm1⟩
        have Hmm := Lib.hid hm2
        clear hm2
        have e2 : (ls.length : Int) < (len2 : Int) := by omega
        go_wp2_with fail
        refine wp_region_held_drew (S := (fun V => V.cell? ⟨b1, o1 + ls.length, none⟩ = some (.int .i64 (n : Nat)) ∧ V.cell? ⟨bb, off + ls.length, none⟩ = some (.int .u64 (X : Int)))) (by kernel_rfl) (by ((try dsimp only); exact ⟨c1', cx'⟩)) (fun hHeld => ?_)
        ((first
          | (refine wpAnyH_takeL (i := 0) (v := ?hv1) rfl (by kernel_rfl) (by kernel_rfl) (by kernel_rfl) (fun _ _ _ h => h) (Or.inl (And.intro ?hw1 ?hy1)) (by assumption) ?rest1
             case hw1 => rfl
             case hy1 => (intro wHy hSw; (try dsimp only at hSw); go_simp; (first | done | with_reducible rfl)))
          | (refine wpAnyH_takeL (i := 0) (v := undef) rfl (by kernel_rfl) (by kernel_rfl) (by kernel_rfl) (fun _ _ _ h => h) (Or.inr (And.intro (by rfl) rfl)) (by assumption) ?rest1x))
         (try simp only [Act.put, List.setIfInBounds_toArray, List.set_cons_zero, List.set_cons_succ]))
        ((first
          | (refine wpAnyH_takeL (i := 1) (v := ?hv2) rfl (by kernel_rfl) (by kernel_rfl) (by kernel_rfl) (fun _ _ _ h => h) (Or.inl (And.intro ?hw2 ?hy2)) (by assumption) ?rest2
             case hw2 => rfl
             case hy2 => (intro wHy hSw; (try dsimp only at hSw); go_simp; (first | done | with_reducible rfl)))
          | (refine wpAnyH_takeL (i := 1) (v := undef) rfl (by kernel_rfl) (by kernel_rfl) (by kernel_rfl) (fun _ _ _ h => h) (Or.inr (And.intro (by rfl) rfl)) (by assumption) ?rest2x))
         (try simp only [Act.put, List.setIfInBounds_toArray, List.set_cons_zero, List.set_cons_succ]))
        ((first
          | (refine wpAnyH_takeL (i := 2) (v := ?hv3) rfl (by kernel_rfl) (by kernel_rfl) (by kernel_rfl) (fun _ _ _ h => h) (Or.inl (And.intro ?hw3 ?hy3)) (by assumption) ?rest3
             case hw3 => rfl
             case hy3 => (intro wHy hSw; (try dsimp only at hSw); go_simp; (first | done | with_reducible rfl)))
          | (refine wpAnyH_takeL (i := 2) (v := undef) rfl (by kernel_rfl) (by kernel_rfl) (by kernel_rfl) (fun _ _ _ h => h) (Or.inr (And.intro (by rfl) rfl)) (by assumption) ?rest3x))
         (try simp only [Act.put, List.setIfInBounds_toArray, List.set_cons_zero, List.set_cons_succ]))
        ((first
          | (refine wpAnyH_takeL (i := 3) (v := ?hv4) rfl (by kernel_rfl) (by kernel_rfl) (by kernel_rfl) (fun _ _ _ h => h) (Or.inl (And.intro ?hw4 ?hy4)) (by assumption) ?rest4
             case hw4 => rfl
             case hy4 => (intro wHy hSw; (try dsimp only at hSw); go_simp; (first | done | with_reducible rfl)))
          | (refine wpAnyH_takeL (i := 3) (v := undef) rfl (by kernel_rfl) (by kernel_rfl) (by kernel_rfl) (fun _ _ _ h => h) (Or.inr (And.intro (by rfl) rfl)) (by assumption) ?rest4x))
         (try simp only [Act.put, List.setIfInBounds_toArray, List.set_cons_zero, List.set_cons_succ]))
        ((first
          | (refine wpAnyH_takeL (i := 4) (v := ?hv5) rfl (by kernel_rfl) (by kernel_rfl) (by kernel_rfl) (fun _ _ _ h => h) (Or.inl (And.intro ?hw5 ?hy5)) (by assumption) ?rest5
             case hw5 => rfl
             case hy5 => (intro wHy hSw; (try dsimp only at hSw); go_simp; (first | done | with_reducible rfl)))
          | (refine wpAnyH_takeL (i := 4) (v := undef) rfl (by kernel_rfl) (by kernel_rfl) (by kernel_rfl) (fun _ _ _ h => h) (Or.inr (And.intro (by rfl) rfl)) (by assumption) ?rest5x))
         (try simp only [Act.put, List.setIfInBounds_toArray, List.set_cons_zero, List.set_cons_succ]))
        ((first
          | (refine wpAnyH_takeL (i := 5) (v := ?hv6) rfl (by kernel_rfl) (by kernel_rfl) (by kernel_rfl) (fun _ _ _ h => h) (Or.inl (And.intro ?hw6 ?hy6)) (by assumption) ?rest6
             case hw6 => rfl
             case hy6 => (intro wHy hSw; (try dsimp only at hSw); go_simp; (first | done | with_reducible rfl)))
          | (refine wpAnyH_takeL (i := 5) (v := undef) rfl (by kernel_rfl) (by kernel_rfl) (by kernel_rfl) (fun _ _ _ h => h) (Or.inr (And.intro (by rfl) rfl)) (by assumption) ?rest6x))
         (try simp only [Act.put, List.setIfInBounds_toArray, List.set_cons_zero, List.set_cons_succ]))
        ((first
          | (refine wpAnyH_takeL (i := 6) (v := ?hv7) rfl (by kernel_rfl) (by kernel_rfl) (by kernel_rfl) (fun _ _ _ h => h) (Or.inl (And.intro ?hw7 ?hy7)) (by assumption) ?rest7
             case hw7 => rfl
             case hy7 => (intro wHy hSw; (try dsimp only at hSw); go_simp; (first | done | with_reducible rfl)))
          | (refine wpAnyH_takeL (i := 6) (v := undef) rfl (by kernel_rfl) (by kernel_rfl) (by kernel_rfl) (fun _ _ _ h => h) (Or.inr (And.intro (by rfl) rfl)) (by assumption) ?rest7x))
         (try simp only [Act.put, List.setIfInBounds_toArray, List.set_cons_zero, List.set_cons_succ]))
        ((first
          | (refine wpAnyH_takeL (i := 7) (v := ?hv8) rfl (by kernel_rfl) (by kernel_rfl) (by kernel_rfl) (fun _ _ _ h => h) (Or.inl (And.intro ?hw8 ?hy8)) (by assumption) ?rest8
             case hw8 => rfl
             case hy8 => (intro wHy hSw; (try dsimp only at hSw); go_simp; (first | done | with_reducible rfl)))
          | (refine wpAnyH_takeL (i := 7) (v := undef) rfl (by kernel_rfl) (by kernel_rfl) (by kernel_rfl) (fun _ _ _ h => h) (Or.inr (And.intro (by rfl) rfl)) (by assumption) ?rest8x))
         (try simp only [Act.put, List.setIfInBounds_toArray, List.set_cons_zero, List.set_cons_succ]))
        ((first
          | (refine wpAnyH_takeL (i := 8) (v := ?hv9) rfl (by kernel_rfl) (by kernel_rfl) (by kernel_rfl) (fun _ _ _ h => h) (Or.inl (And.intro ?hw9 ?hy9)) (by assumption) ?rest9
             case hw9 => rfl
             case hy9 => (intro wHy hSw; (try dsimp only at hSw); go_simp; (first | done | with_reducible rfl)))
          | (refine wpAnyH_takeL (i := 8) (v := undef) rfl (by kernel_rfl) (by kernel_rfl) (by kernel_rfl) (fun _ _ _ h => h) (Or.inr (And.intro (by rfl) rfl)) (by assumption) ?rest9x))
         (try simp only [Act.put, List.setIfInBounds_toArray, List.set_cons_zero, List.set_cons_succ]))
        ((first
          | (refine wpAnyH_takeL (i := 9) (v := ?hv10) rfl (by kernel_rfl) (by kernel_rfl) (by kernel_rfl) (fun _ _ _ h => h) (Or.inl (And.intro ?hw10 ?hy10)) (by assumption) ?rest10
             case hw10 => rfl
             case hy10 => (intro wHy hSw; (try dsimp only at hSw); go_simp; (first | done | with_reducible rfl)))
          | (refine wpAnyH_takeL (i := 9) (v := undef) rfl (by kernel_rfl) (by kernel_rfl) (by kernel_rfl) (fun _ _ _ h => h) (Or.inr (And.intro (by rfl) rfl)) (by assumption) ?rest10x))
         (try simp only [Act.put, List.setIfInBounds_toArray, List.set_cons_zero, List.set_cons_succ]))
        ((first
          | (refine wpAnyH_takeL (i := 10) (v := ?hv11) rfl (by kernel_rfl) (by kernel_rfl) (by kernel_rfl) (fun _ _ _ h => h) (Or.inl (And.intro ?hw11 ?hy11)) (by assumption) ?rest11
             case hw11 => rfl
             case hy11 => (intro wHy hSw; (try dsimp only at hSw); go_simp; (first | done | with_reducible rfl)))
          | (refine wpAnyH_takeL (i := 10) (v := undef) rfl (by kernel_rfl) (by kernel_rfl) (by kernel_rfl) (fun _ _ _ h => h) (Or.inr (And.intro (by rfl) rfl)) (by assumption) ?rest11x))
         (try simp only [Act.put, List.setIfInBounds_toArray, List.set_cons_zero, List.set_cons_succ]))
        refine wpAnyH_done (by kernel_rfl) ?_ _
        go_wp2_with (at_builtin; refine wpList_append_one rfl (.tmp 37) (.tmp 39) 42 rfl w2.heap.size 32 i0 (.int .u64 0) 8 Try.underlying42 HI.out.1 HI.out.2.1 HI.out.2.2.1 HI.out.2.2.2 rfl _ ls.length (natCells .u64 ls) rfl ((World.ownsRow.drew hownN).alloc _) wr.heap.size 32 (.int .u64 (u : Nat)) rfl (Bk.new _ _ _) rfl hkn (by omega) (by simp; omega) ?_; intro g1 cap1 w5 hown5 hK5)
        go_roundw
        case rel =>
          have e4 : (ls ++ [u]).length = ls.length + 1 := by simp
          refine ⟨ls ++ [u], some ⟨g1, 0, none⟩, cap1, by rw [e4]; omega, by rw [e4]; go_num, by rw [e4], fit_snoc Hfit.out (by rw [← Hn.out, ← Hmm.out]; exact hu), ?_, ((hKr.drew.alloc _).over hK5 (fun i hi => (hownN.lt i hi).1))⟩
          rw [e4, ← natCells_snoc]; exact hown5
        case measure => simp [intOf]; omega
      · have e2 : (len2 : Int) ≤ (ls.length : Int) := by omega
        go_wp2_with (at_builtin; refine wpList_append_one rfl (.tmp 37) (.tmp 39) 42 rfl w2.heap.size 32 i0 (.int .u64 0) 8 Try.underlying42 HI.out.1 HI.out.2.1 HI.out.2.2.1 HI.out.2.2.2 rfl _ ls.length (natCells .u64 ls) rfl (hownN.alloc _) wr.heap.size 32 (.int .u64 0) rfl (Bk.new _ _ _) rfl hkn (by omega) (by simp; omega) ?_; intro g1 cap1 w5 hown5 hK5)
        go_roundw
        case rel =>
          have e4 : (ls ++ [0]).length = ls.length + 1 := by simp
          refine ⟨ls ++ [0], some ⟨g1, 0, none⟩, cap1, by rw [e4]; omega, by rw [e4]; go_num, by rw [e4], fit_snoc Hfit.out (Nat.two_pow_pos _), ?_, ((hKr.alloc _).over hK5 (fun i hi => (hownN.lt i hi).1))⟩
          rw [e4, ← natCells_snoc]; exact hown5
        case measure => simp [intOf]; omega
    · have hll : ls.length = ws.length := by omega
      have hfit : FitsN ws ls := fits_of hll.symm (fun k hk => Hfit.out k (by omega))
      have hown1 := own_kept Hown.out hKr (fun _ h => h.elim)
      have hbk := hKr.size
      have hbw := hK.size
      have hS1 := Sl.ownN hown1
      have hS2 := Sl.ownN hownN
      have hpk := pack_yes q p ws.length c d ws ls hW.out.ok hfit wr rfl hS1 (fun b o h => (own_lt hown1 b o h).2) (hll ▸ hS2) (fun b o h => (own_lt hownN b o h).2)
      have e1 : (ws.length : Int) ≤ (ls.length : Int) := by omega
      have hunp := fun W (hKw : Kept NoBlk wr W) => unpack_yes q ws.length c ws (packN ws ls) hW.out.ok (pack_lt hfit) W rfl (hS1.kept hKw (fun _ _ _ => id)) (fun b o h => Nat.lt_of_lt_of_le (own_lt hown1 b o h).2 hKw.size)
      have Hunp := Lib.hid hunp
      have HS2 := Lib.hid hS2
      have Hll := Lib.hid hll
      clear hunp hS1 hS2 hll hown1
      have e1' : (ws.length : Int) ≤ (ls.length : Int) := e1
      go_wp2_with fail
      rw [Hll.out]
      refine hpk.mono ?_
      rintro e w3 ⟨rfl, hK3⟩
      clear hpk
      go_wp2_with fail
      refine (Hunp.out w3 hK3).mono ?_
      rintro e w4 ⟨q4, c4, rfl, hown4, hK4⟩
      have hS4 : Sl w4 .u64 q4 ws.length (fun i => (nth ls i : Nat)) := Sl.own hown4 fun i hi => by
        rw [unpackV_at hi (Nat.le_refl _), unpack_pack hfit]
      have HS4 := Lib.hid hS4
      clear hS4 hown4
      go_wp2_with fail
      refine (same01 (f := fun i => (nth ls i : Nat)) (by omega) HS4.out (by have := HS2.out.kept (hK3.trans hK4) (fun _ _ _ => id); rw [Hll.out] at this; exact this)).mono ?_
      rintro e w5 ⟨rfl, hK5⟩
      go_wp2
      go_ret
      exact ⟨rfl, (((hK.trans hKr).trans hK3).trans hK4).trans hK5⟩

end Go.Proofs.Ytenphgmohhdjeaa
