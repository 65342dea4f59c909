/-
  The walk through the law WordPlaces.
  Conditions: none.
-/
import Derived.Test.YtenphgmohhdjeaaWBack
set_option linter.unusedVariables false
namespace Go.Proofs.Ytenphgmohhdjeaa
open Go.RowKit Go.Shelf

theorem madeCells_nats (n : Nat) : madeCells #[Value.int .u64 0] n = (natCells .u64 (List.replicate n 0)).toArray := by
  apply Array.ext
  · simp [madeCells, natCells]
  · intro i h1 h2
    simp [madeCells, natCells, Nat.mod_one]

theorem pack_zero : ∀ ws : List Nat, packN ws (List.replicate ws.length 0) = 0
  | [] => rfl
  | w :: ws => by simp [List.replicate_succ, packN, pack_zero ws]
theorem pack_single : ∀ (ws : List Nat) (k u : Nat), k < ws.length → packN ws ((List.replicate ws.length 0).set k u) = u * 2 ^ atN ws k
  | [], _, _, h => absurd h (by simp)
  | w :: ws, 0, u, _ => by simp [List.replicate_succ, packN, pack_zero ws, atN]
  | w :: ws, k + 1, u, h => by
    have ih := pack_single ws k u (by simpa using h)
    simp only [List.length_cons, List.replicate_succ, List.set_cons_succ, packN, ih, atN, List.take_succ_cons, List.sum_cons, Nat.pow_add]
    rw [Nat.zero_add, Nat.mul_left_comm]
theorem fits_single (ws : List Nat) (k u : Nat) (hk : k < ws.length) (hu : u < 2 ^ nth ws k) : FitsN ws ((List.replicate ws.length 0).set k u) := by
  refine fits_of (by simp) (fun j hj => ?_)
  rw [List.getD_eq_getElem?_getD, List.getElem?_set]
  by_cases e : k = j
  · subst e
    rw [if_pos rfl, if_pos (by simpa using hk)]; exact hu
  · rw [if_neg e]
    simp [hj, Nat.two_pow_pos]
theorem nth_single (n k u : Nat) (hk : k < n) : nth ((List.replicate n 0).set k u) k = u := by simp [nth, hk]

set_option maxRecDepth 100000 in
set_option maxHeartbeats 2000000 in
theorem places_walk (A : Option Addr) (len cap X : Nat) (which : Int) (w : World) (hlen : len ≤ 9223372036854775807) (hL : ∀ i, i < len → I64In w w.heap.size A i) (hx : X < 18446744073709551616)
    (h1 : -9223372036854775808 ≤ which) (h2 : which ≤ 9223372036854775807) :
    Calls Try.prog 22 #[.slice A len cap, .int .i64 which, .int .u64 X] w fun e w' => e = .returned (.bool true) ∧ Kept NoBlk w w' := by
  have HL := Lib.hid hL
  clear hL
  go_enter Try.func22, Try.ntmps22
  go_wp2_with fail
  refine (awake01 _).mono ?_
  rintro e w1 ⟨rfl, hK⟩
  have HI64 : ∀ i, i < len → I64In w1 w1.heap.size A i := fun i hi => by
    obtain ⟨b, o, x, h1, h2, h3, h4⟩ := HL.out i hi
    exact ⟨b, o, x, h1, Nat.lt_of_lt_of_le h2 hK.size, hK.cell id h3, h4⟩
  go_wp2_with fail
  refine (widths01 A len cap w1 hlen HI64).mono ?_
  rintro e w2 ⟨ws, q, c, hW, hl, rfl, hown, hKn⟩
  clear HI64
  replace hK := hK.trans hKn
  clear hKn
  have Hown := Lib.hid hown
  clear hown
  have hl20 := hl.out
  have hsum := hW.out.sum
  by_cases h0 : ws.length = 0
  · have H0 := Lib.hid h0
    rw [h0]
    clear h0
    go_wp2
    go_ret
    exact ⟨rfl, hK⟩
  · have hpk := pk_bd which ws.length (by omega)
    obtain ⟨k, Hk⟩ : ∃ k : Nat, Hid ((k : Int) = pk which ws.length) := ⟨(pk which ws.length).toNat, by show _ = _; omega⟩
    rw [← Hk.out] at hpk
    obtain ⟨hk0, hk1⟩ := hpk
    have hkl : k < ws.length := by omega
    obtain ⟨b1, o1, rfl, c1⟩ := Sl.ownN Hown.out k hkl
    dsimp only at c1
    have hps := hW.out.pos _ hkl
    obtain ⟨n, Hn⟩ : ∃ n, Hid (n = nth ws k) := ⟨_, rfl⟩
    rw [← Hn.out] at c1 hps
    obtain ⟨hn1, hn2⟩ := hps
    obtain ⟨mm, hmm, hm1, hm2⟩ := wrap_pow n (by omega)
    have hm0 : ¬ mm = 0 := by omega
    obtain ⟨u, htm, hu⟩ : ∃ u : Nat, (X : Int).tmod (mm : Int) = (u : Int) ∧ u < mm := ⟨X % mm, rfl, Nat.mod_lt _ hm1⟩
    have Hmm := Lib.hid hm2
    clear hm2
    have hmk := fun W => run_make_row' (P := Try.prog) 42 32 (.int .u64 0) 8 Try.underlying42 u64_info' rfl .i64 .i64 ws.length (by omega) (by omega) W
    rw [madeCells_nats] at hmk
    have e0 : (0 : Int) ≤ (k : Int) := by omega
    have hb := Bk.new w2 32 (natCells .u64 (List.replicate ws.length 0)).toArray
    have hKa := (Kept.refl NoBlk w2).alloc (.cells (natCells .u64 (List.replicate ws.length 0)).toArray 32)
    have c1' := hKa.cell id c1
    have ch : (w2.alloc (.cells (natCells .u64 (List.replicate ws.length 0)).toArray 32)).cell? ⟨w2.heap.size, k, none⟩ = some (.int .u64 0) := by
      rw [hb.cell]; simp [natCells, hkl]
    have fh := hb.frozen k
    go_wp2_with fail
    refine (pick01r Hk (by omega) h1 h2 (by omega) _).mono ?_
    rintro e w3 ⟨rfl, rfl⟩
    go_wp2_with fail
    have hset : (natCells .u64 (List.replicate ws.length 0)).set k (.int .u64 (u : Nat)) = natCells .u64 ((List.replicate ws.length 0).set k u) := by simp [natCells, List.map_set]
    rw [hset]
    clear hset hmk c1' ch fh hb hKa
    have hb := Bk.new w2 32 (natCells .u64 ((List.replicate ws.length 0).set k u)).toArray
    have hKa := (Kept.refl NoBlk w2).alloc (.cells (natCells .u64 ((List.replicate ws.length 0).set k u)).toArray 32)
    generalize w2.alloc (.cells (natCells .u64 ((List.replicate ws.length 0).set k u)).toArray 32) = w3 at hb hKa ⊢
    have hun : u < 2 ^ nth ws k := by rw [← Hn.out, ← Hmm.out]; exact hu
    have hfit := fits_single ws k u hkl hun
    have hnth := nth_single ws.length k u hkl
    have hpack := pack_single ws k u hkl
    have hlen3 : ((List.replicate ws.length 0).set k u).length = ws.length := by simp
    generalize (List.replicate ws.length 0).set k u = ls at *
    have hown3 := own_kept Hown.out hKa (fun _ h => h.elim)
    have hS1 := Sl.ownN hown3
    have hS2 := Sl.nats (l := ls) hb rfl
    rw [hlen3] at hS2
    have hpk := pack_yes (some ⟨b1, o1, none⟩) (some ⟨w2.heap.size, 0, none⟩) ws.length c ws.length ws ls hW.out.ok hfit w3 rfl hS1 (fun b o h => (own_lt hown3 b o h).2) hS2 (fun b o h => by injection h with h; injection h with h _ _; rw [← h]; exact hb.lt)
    rw [hpack] at hpk
    have cm := hKa.cell id c1
    have cl : w3.cell? ⟨w2.heap.size, k, none⟩ = some (.int .u64 (u : Nat)) := by
      have := hb.cell k
      have h2 : k < ls.length := by omega
      rw [this]
      have h3 : ls.getD k 0 = u := hnth
      rw [List.getD_eq_getElem?_getD, List.getElem?_eq_getElem h2, Option.getD_some] at h3
      simp only [natCells, List.getElem?_toArray, List.getElem?_map, List.getElem?_eq_getElem h2, Option.map_some, h3]
    have hat := hW.out.ok.at hkl
    have hat' : atN ws k + n ≤ 64 := by rw [Hn.out]; exact hat
    have hP : u * 2 ^ atN ws k < 18446744073709551616 := by
      have h1 := pack_lt hfit
      rw [hpack] at h1
      exact Nat.lt_of_lt_of_le h1 (Nat.pow_le_pow_right (by omega) hsum)
    have hwr : IntKind.u64.wrap ((u : Int) * 2 ^ atN ws k) = ((u * 2 ^ atN ws k : Nat) : Int) := by
      have : ((u : Int) * 2 ^ atN ws k) = ((u * 2 ^ atN ws k : Nat) : Int) := by simp
      rw [this, IntKind.wrap_u64]; omega
    have hget : getN (u * 2 ^ atN ws k) (atN ws k) n = u := by
      unfold getN
      rw [Nat.mul_div_cancel _ (Nat.two_pow_pos _), Hn.out]
      exact Nat.mod_eq_of_lt hun
    have hG := fun W => get_part (u * 2 ^ atN ws k) (atN ws k) n hP hn1 hat' W
    rw [hget] at hG
    have Hpk := Lib.hid hpk
    have Hlen3 := Lib.hid hlen3
    clear hget hpk hS1 hS2 hpack hnth hlen3 c1 hmm htm hun hat
    have hlk : ∀ j, j < k → ∃ y : Nat, 1 ≤ y ∧ y ≤ 20 ∧ w3.cell? ⟨b1, o1 + j, none⟩ = some (.int .i64 y) ∧ Hid (atN ws (j + 1) = atN ws j + y) := fun j hj => by
      obtain ⟨b2, o2, he, c2⟩ := Sl.ownN hown3 j (by omega)
      injection he with he
      injection he with he1 he2 _
      subst he1; subst he2
      have := hW.out.pos j (by omega)
      exact ⟨_, this.1, this.2, c2, nth_succ (by omega)⟩
    have Hlk := Lib.hid hlk
    clear hlk hown3
    generalize hPe : u * 2 ^ atN ws k = P at *
    have HPe := Lib.hid hPe
    clear hPe
    go_loop [11, 12] (fun s i => ∃ j : Nat, j ≤ k ∧ i = .int .i64 j ∧ s = .int .i64 (atN ws j : Nat)) (fun _ i => k - (intOf i).toNat)
    case atStart => exact ⟨0, by omega, rfl, rfl⟩
    case round =>
      obtain ⟨j, hj, rfl, rfl⟩ := hrel
      have hatj := at_bd hW.out.ok j
      by_cases hlt : j < k
      · obtain ⟨y, hy1, hy2, cy, hs⟩ := Hlk.out j hlt
        have e5 : (0 : Int) ≤ (j : Int) := by omega
        have e6 : (j : Int) < (ws.length : Int) := by omega
        go_wp2
        go_round
        case rel => exact ⟨j + 1, by omega, by go_num, by rw [hs.out]; go_num⟩
        case measure => simp [intOf]; omega
      · obtain rfl : j = k := by omega
        have e6 : (j : Int) < (ws.length : Int) := by omega
        go_wp2_with fail
        refine Hpk.out.mono ?_
        rintro e w4 ⟨rfl, hK4⟩
        have cm' := hK4.cell id cm
        have cl' := hK4.cell id cl
        go_wp2_with fail
        refine wp_region_held_drew (S := (fun V => V.cell? ⟨b1, o1 + j, none⟩ = some (.int .i64 (n : Nat)) ∧ V.cell? ⟨w2.heap.size, j, none⟩ = some (.int .u64 (u : Nat)))) (by kernel_rfl) (by ((try dsimp only); exact ⟨cm', cl'⟩)) (fun hHeld => ?_)
        ((first
          | (refine wpAnyH_takeL (i := 0) (v := ?hv1) rfl (by kernel_rfl) (by kernel_rfl) (by kernel_rfl) (fun _ _ _ h => h) (Or.inl (And.intro ?hw1 ?hy1)) (by assumption) ?rest1
             case hw1 => rfl
             case hy1 => (intro wHy hSw; (try dsimp only at hSw); go_simp; (first | done | with_reducible rfl)))
          | (refine wpAnyH_takeL (i := 0) (v := undef) rfl (by kernel_rfl) (by kernel_rfl) (by kernel_rfl) (fun _ _ _ h => h) (Or.inr (And.intro (by rfl) rfl)) (by assumption) ?rest1x))
         (try simp only [Act.put, List.setIfInBounds_toArray, List.set_cons_zero, List.set_cons_succ]))
        ((first
          | (refine wpAnyH_takeL (i := 1) (v := ?hv2) rfl (by kernel_rfl) (by kernel_rfl) (by kernel_rfl) (fun _ _ _ h => h) (Or.inl (And.intro ?hw2 ?hy2)) (by assumption) ?rest2
             case hw2 => rfl
             case hy2 => (intro wHy hSw; (try dsimp only at hSw); go_simp; (first | done | with_reducible rfl)))
          | (refine wpAnyH_takeL (i := 1) (v := undef) rfl (by kernel_rfl) (by kernel_rfl) (by kernel_rfl) (fun _ _ _ h => h) (Or.inr (And.intro (by rfl) rfl)) (by assumption) ?rest2x))
         (try simp only [Act.put, List.setIfInBounds_toArray, List.set_cons_zero, List.set_cons_succ]))
        ((first
          | (refine wpAnyH_takeL (i := 2) (v := ?hv3) rfl (by kernel_rfl) (by kernel_rfl) (by kernel_rfl) (fun _ _ _ h => h) (Or.inl (And.intro ?hw3 ?hy3)) (by assumption) ?rest3
             case hw3 => rfl
             case hy3 => (intro wHy hSw; (try dsimp only at hSw); go_simp; (first | done | with_reducible rfl)))
          | (refine wpAnyH_takeL (i := 2) (v := undef) rfl (by kernel_rfl) (by kernel_rfl) (by kernel_rfl) (fun _ _ _ h => h) (Or.inr (And.intro (by rfl) rfl)) (by assumption) ?rest3x))
         (try simp only [Act.put, List.setIfInBounds_toArray, List.set_cons_zero, List.set_cons_succ]))
        ((first
          | (refine wpAnyH_takeL (i := 3) (v := ?hv4) rfl (by kernel_rfl) (by kernel_rfl) (by kernel_rfl) (fun _ _ _ h => h) (Or.inl (And.intro ?hw4 ?hy4)) (by assumption) ?rest4
             case hw4 => rfl
             case hy4 => (intro wHy hSw; (try dsimp only at hSw); go_simp; (first | done | with_reducible rfl)))
          | (refine wpAnyH_takeL (i := 3) (v := undef) rfl (by kernel_rfl) (by kernel_rfl) (by kernel_rfl) (fun _ _ _ h => h) (Or.inr (And.intro (by rfl) rfl)) (by assumption) ?rest4x))
         (try simp only [Act.put, List.setIfInBounds_toArray, List.set_cons_zero, List.set_cons_succ]))
        ((first
          | (refine wpAnyH_takeL (i := 4) (v := ?hv5) rfl (by kernel_rfl) (by kernel_rfl) (by kernel_rfl) (fun _ _ _ h => h) (Or.inl (And.intro ?hw5 ?hy5)) (by assumption) ?rest5
             case hw5 => rfl
             case hy5 => (intro wHy hSw; (try dsimp only at hSw); go_simp; (first | done | with_reducible rfl)))
          | (refine wpAnyH_takeL (i := 4) (v := undef) rfl (by kernel_rfl) (by kernel_rfl) (by kernel_rfl) (fun _ _ _ h => h) (Or.inr (And.intro (by rfl) rfl)) (by assumption) ?rest5x))
         (try simp only [Act.put, List.setIfInBounds_toArray, List.set_cons_zero, List.set_cons_succ]))
        ((first
          | (refine wpAnyH_takeL (i := 5) (v := ?hv6) rfl (by kernel_rfl) (by kernel_rfl) (by kernel_rfl) (fun _ _ _ h => h) (Or.inl (And.intro ?hw6 ?hy6)) (by assumption) ?rest6
             case hw6 => rfl
             case hy6 => (intro wHy hSw; (try dsimp only at hSw); go_simp; (first | done | with_reducible rfl)))
          | (refine wpAnyH_takeL (i := 5) (v := undef) rfl (by kernel_rfl) (by kernel_rfl) (by kernel_rfl) (fun _ _ _ h => h) (Or.inr (And.intro (by rfl) rfl)) (by assumption) ?rest6x))
         (try simp only [Act.put, List.setIfInBounds_toArray, List.set_cons_zero, List.set_cons_succ]))
        ((first
          | (refine wpAnyH_takeL (i := 6) (v := ?hv7) rfl (by kernel_rfl) (by kernel_rfl) (by kernel_rfl) (fun _ _ _ h => h) (Or.inl (And.intro ?hw7 ?hy7)) (by assumption) ?rest7
             case hw7 => rfl
             case hy7 => (intro wHy hSw; (try dsimp only at hSw); go_simp; (first | done | with_reducible rfl)))
          | (refine wpAnyH_takeL (i := 6) (v := undef) rfl (by kernel_rfl) (by kernel_rfl) (by kernel_rfl) (fun _ _ _ h => h) (Or.inr (And.intro (by rfl) rfl)) (by assumption) ?rest7x))
         (try simp only [Act.put, List.setIfInBounds_toArray, List.set_cons_zero, List.set_cons_succ]))
        ((first
          | (refine wpAnyH_takeL (i := 7) (v := ?hv8) rfl (by kernel_rfl) (by kernel_rfl) (by kernel_rfl) (fun _ _ _ h => h) (Or.inl (And.intro ?hw8 ?hy8)) (by assumption) ?rest8
             case hw8 => rfl
             case hy8 => (intro wHy hSw; (try dsimp only at hSw); go_simp; (first | done | with_reducible rfl)))
          | (refine wpAnyH_takeL (i := 7) (v := undef) rfl (by kernel_rfl) (by kernel_rfl) (by kernel_rfl) (fun _ _ _ h => h) (Or.inr (And.intro (by rfl) rfl)) (by assumption) ?rest8x))
         (try simp only [Act.put, List.setIfInBounds_toArray, List.set_cons_zero, List.set_cons_succ]))
        ((first
          | (refine wpAnyH_takeL (i := 8) (v := ?hv9) rfl (by kernel_rfl) (by kernel_rfl) (by kernel_rfl) (fun _ _ _ h => h) (Or.inl (And.intro ?hw9 ?hy9)) (by assumption) ?rest9
             case hw9 => rfl
             case hy9 => (intro wHy hSw; (try dsimp only at hSw); go_simp; (first | done | with_reducible rfl)))
          | (refine wpAnyH_takeL (i := 8) (v := undef) rfl (by kernel_rfl) (by kernel_rfl) (by kernel_rfl) (fun _ _ _ h => h) (Or.inr (And.intro (by rfl) rfl)) (by assumption) ?rest9x))
         (try simp only [Act.put, List.setIfInBounds_toArray, List.set_cons_zero, List.set_cons_succ]))
        ((first
          | (refine wpAnyH_takeL (i := 9) (v := ?hv10) rfl (by kernel_rfl) (by kernel_rfl) (by kernel_rfl) (fun _ _ _ h => h) (Or.inl (And.intro ?hw10 ?hy10)) (by assumption) ?rest10
             case hw10 => rfl
             case hy10 => (intro wHy hSw; (try dsimp only at hSw); go_simp; (first | done | with_reducible rfl)))
          | (refine wpAnyH_takeL (i := 9) (v := undef) rfl (by kernel_rfl) (by kernel_rfl) (by kernel_rfl) (fun _ _ _ h => h) (Or.inr (And.intro (by rfl) rfl)) (by assumption) ?rest10x))
         (try simp only [Act.put, List.setIfInBounds_toArray, List.set_cons_zero, List.set_cons_succ]))
        ((first
          | (refine wpAnyH_takeL (i := 10) (v := ?hv11) rfl (by kernel_rfl) (by kernel_rfl) (by kernel_rfl) (fun _ _ _ h => h) (Or.inl (And.intro ?hw11 ?hy11)) (by assumption) ?rest11
             case hw11 => rfl
             case hy11 => (intro wHy hSw; (try dsimp only at hSw); go_simp; (first | done | with_reducible rfl)))
          | (refine wpAnyH_takeL (i := 10) (v := undef) rfl (by kernel_rfl) (by kernel_rfl) (by kernel_rfl) (fun _ _ _ h => h) (Or.inr (And.intro (by rfl) rfl)) (by assumption) ?rest11x))
         (try simp only [Act.put, List.setIfInBounds_toArray, List.set_cons_zero, List.set_cons_succ]))
        ((first
          | (refine wpAnyH_takeL (i := 11) (v := ?hv12) rfl (by kernel_rfl) (by kernel_rfl) (by kernel_rfl) (fun _ _ _ h => h) (Or.inl (And.intro ?hw12 ?hy12)) (by assumption) ?rest12
             case hw12 => rfl
             case hy12 => (intro wHy hSw; (try dsimp only at hSw); go_simp; (first | done | with_reducible rfl)))
          | (refine wpAnyH_takeL (i := 11) (v := undef) rfl (by kernel_rfl) (by kernel_rfl) (by kernel_rfl) (fun _ _ _ h => h) (Or.inr (And.intro (by rfl) rfl)) (by assumption) ?rest12x))
         (try simp only [Act.put, List.setIfInBounds_toArray, List.set_cons_zero, List.set_cons_succ]))
        ((first
          | (refine wpAnyH_takeL (i := 12) (v := ?hv13) rfl (by kernel_rfl) (by kernel_rfl) (by kernel_rfl) (fun _ _ _ h => h) (Or.inl (And.intro ?hw13 ?hy13)) (by assumption) ?rest13
             case hw13 => rfl
             case hy13 => (intro wHy hSw; (try dsimp only at hSw); go_simp; (first | done | with_reducible rfl)))
          | (refine wpAnyH_takeL (i := 12) (v := undef) rfl (by kernel_rfl) (by kernel_rfl) (by kernel_rfl) (fun _ _ _ h => h) (Or.inr (And.intro (by rfl) rfl)) (by assumption) ?rest13x))
         (try simp only [Act.put, List.setIfInBounds_toArray, List.set_cons_zero, List.set_cons_succ]))
        ((first
          | (refine wpAnyH_takeL (i := 13) (v := ?hv14) rfl (by kernel_rfl) (by kernel_rfl) (by kernel_rfl) (fun _ _ _ h => h) (Or.inl (And.intro ?hw14 ?hy14)) (by assumption) ?rest14
             case hw14 => rfl
             case hy14 => (intro wHy hSw; (try dsimp only at hSw); go_simp; (first | done | with_reducible rfl)))
          | (refine wpAnyH_takeL (i := 13) (v := undef) rfl (by kernel_rfl) (by kernel_rfl) (by kernel_rfl) (fun _ _ _ h => h) (Or.inr (And.intro (by rfl) rfl)) (by assumption) ?rest14x))
         (try simp only [Act.put, List.setIfInBounds_toArray, List.set_cons_zero, List.set_cons_succ]))
        ((first
          | (refine wpAnyH_takeL (i := 14) (v := ?hv15) rfl (by kernel_rfl) (by kernel_rfl) (by kernel_rfl) (fun _ _ _ h => h) (Or.inl (And.intro ?hw15 ?hy15)) (by assumption) ?rest15
             case hw15 => rfl
             case hy15 => (intro wHy hSw; (try dsimp only at hSw); go_simp; (first | done | with_reducible rfl)))
          | (refine wpAnyH_takeL (i := 14) (v := undef) rfl (by kernel_rfl) (by kernel_rfl) (by kernel_rfl) (fun _ _ _ h => h) (Or.inr (And.intro (by rfl) rfl)) (by assumption) ?rest15x))
         (try simp only [Act.put, List.setIfInBounds_toArray, List.set_cons_zero, List.set_cons_succ]))
        ((first
          | (refine wpAnyH_takeL (i := 15) (v := ?hv16) rfl (by kernel_rfl) (by kernel_rfl) (by kernel_rfl) (fun _ _ _ h => h) (Or.inl (And.intro ?hw16 ?hy16)) (by assumption) ?rest16
             case hw16 => rfl
             case hy16 => (intro wHy hSw; (try dsimp only at hSw); go_simp; (first | done | with_reducible rfl)))
          | (refine wpAnyH_takeL (i := 15) (v := undef) rfl (by kernel_rfl) (by kernel_rfl) (by kernel_rfl) (fun _ _ _ h => h) (Or.inr (And.intro (by rfl) rfl)) (by assumption) ?rest16x))
         (try simp only [Act.put, List.setIfInBounds_toArray, List.set_cons_zero, List.set_cons_succ]))
        ((first
          | (refine wpAnyH_takeL (i := 16) (v := ?hv17) rfl (by kernel_rfl) (by kernel_rfl) (by kernel_rfl) (fun _ _ _ h => h) (Or.inl (And.intro ?hw17 ?hy17)) (by assumption) ?rest17
             case hw17 => rfl
             case hy17 => (intro wHy hSw; (try dsimp only at hSw); go_simp; (first | done | with_reducible rfl)))
          | (refine wpAnyH_takeL (i := 16) (v := undef) rfl (by kernel_rfl) (by kernel_rfl) (by kernel_rfl) (fun _ _ _ h => h) (Or.inr (And.intro (by rfl) rfl)) (by assumption) ?rest17x))
         (try simp only [Act.put, List.setIfInBounds_toArray, List.set_cons_zero, List.set_cons_succ]))
        ((first
          | (refine wpAnyH_takeL (i := 17) (v := ?hv18) rfl (by kernel_rfl) (by kernel_rfl) (by kernel_rfl) (fun _ _ _ h => h) (Or.inl (And.intro ?hw18 ?hy18)) (by assumption) ?rest18
             case hw18 => rfl
             case hy18 => (intro wHy hSw; (try dsimp only at hSw); go_simp; (first | done | with_reducible rfl)))
          | (refine wpAnyH_takeL (i := 17) (v := undef) rfl (by kernel_rfl) (by kernel_rfl) (by kernel_rfl) (fun _ _ _ h => h) (Or.inr (And.intro (by rfl) rfl)) (by assumption) ?rest18x))
         (try simp only [Act.put, List.setIfInBounds_toArray, List.set_cons_zero, List.set_cons_succ]))
        ((first
          | (refine wpAnyH_takeL (i := 18) (v := ?hv19) rfl (by kernel_rfl) (by kernel_rfl) (by kernel_rfl) (fun _ _ _ h => h) (Or.inl (And.intro ?hw19 ?hy19)) (by assumption) ?rest19
             case hw19 => rfl
             case hy19 => (intro wHy hSw; (try dsimp only at hSw); go_simp; (first | done | with_reducible rfl)))
          | (refine wpAnyH_takeL (i := 18) (v := undef) rfl (by kernel_rfl) (by kernel_rfl) (by kernel_rfl) (fun _ _ _ h => h) (Or.inr (And.intro (by rfl) rfl)) (by assumption) ?rest19x))
         (try simp only [Act.put, List.setIfInBounds_toArray, List.set_cons_zero, List.set_cons_succ]))
        ((first
          | (refine wpAnyH_takeL (i := 19) (v := ?hv20) rfl (by kernel_rfl) (by kernel_rfl) (by kernel_rfl) (fun _ _ _ h => h) (Or.inl (And.intro ?hw20 ?hy20)) (by assumption) ?rest20
             case hw20 => rfl
             case hy20 => (intro wHy hSw; (try dsimp only at hSw); go_simp; (first | done | with_reducible rfl)))
          | (refine wpAnyH_takeL (i := 19) (v := undef) rfl (by kernel_rfl) (by kernel_rfl) (by kernel_rfl) (fun _ _ _ h => h) (Or.inr (And.intro (by rfl) rfl)) (by assumption) ?rest20x))
         (try simp only [Act.put, List.setIfInBounds_toArray, List.set_cons_zero, List.set_cons_succ]))
        ((first
          | (refine wpAnyH_takeL (i := 20) (v := ?hv21) rfl (by kernel_rfl) (by kernel_rfl) (by kernel_rfl) (fun _ _ _ h => h) (Or.inl (And.intro ?hw21 ?hy21)) (by assumption) ?rest21
             case hw21 => rfl
             case hy21 => (intro wHy hSw; (try dsimp only at hSw); go_simp; (first | done | with_reducible rfl)))
          | (refine wpAnyH_takeL (i := 20) (v := undef) rfl (by kernel_rfl) (by kernel_rfl) (by kernel_rfl) (fun _ _ _ h => h) (Or.inr (And.intro (by rfl) rfl)) (by assumption) ?rest21x))
         (try simp only [Act.put, List.setIfInBounds_toArray, List.set_cons_zero, List.set_cons_succ]))
        ((first
          | (refine wpAnyH_takeL (i := 21) (v := ?hv22) rfl (by kernel_rfl) (by kernel_rfl) (by kernel_rfl) (fun _ _ _ h => h) (Or.inl (And.intro ?hw22 ?hy22)) (by assumption) ?rest22
             case hw22 => rfl
             case hy22 => (intro wHy hSw; (try dsimp only at hSw); go_simp; (first | done | with_reducible rfl)))
          | (refine wpAnyH_takeL (i := 21) (v := undef) rfl (by kernel_rfl) (by kernel_rfl) (by kernel_rfl) (fun _ _ _ h => h) (Or.inr (And.intro (by rfl) rfl)) (by assumption) ?rest22x))
         (try simp only [Act.put, List.setIfInBounds_toArray, List.set_cons_zero, List.set_cons_succ]))
        ((first
          | (refine wpAnyH_takeL (i := 23) (v := ?hv23) rfl (by kernel_rfl) (by kernel_rfl) (by kernel_rfl) (fun _ _ _ h => h) (Or.inl (And.intro ?hw23 ?hy23)) (by assumption) ?rest23
             case hw23 => rfl
             case hy23 => (intro wHy hSw; (try dsimp only at hSw); go_simp; (first | done | with_reducible rfl)))
          | (refine wpAnyH_takeL (i := 23) (v := undef) rfl (by kernel_rfl) (by kernel_rfl) (by kernel_rfl) (fun _ _ _ h => h) (Or.inr (And.intro (by rfl) rfl)) (by assumption) ?rest23x))
         (try simp only [Act.put, List.setIfInBounds_toArray, List.set_cons_zero, List.set_cons_succ]))
        ((first
          | (refine wpAnyH_takeL (i := 24) (v := ?hv24) rfl (by kernel_rfl) (by kernel_rfl) (by kernel_rfl) (fun _ _ _ h => h) (Or.inl (And.intro ?hw24 ?hy24)) (by assumption) ?rest24
             case hw24 => rfl
             case hy24 => (intro wHy hSw; (try dsimp only at hSw); go_simp; (first | done | with_reducible rfl)))
          | (refine wpAnyH_takeL (i := 24) (v := undef) rfl (by kernel_rfl) (by kernel_rfl) (by kernel_rfl) (fun _ _ _ h => h) (Or.inr (And.intro (by rfl) rfl)) (by assumption) ?rest24x))
         (try simp only [Act.put, List.setIfInBounds_toArray, List.set_cons_zero, List.set_cons_succ]))
        ((first
          | (refine wpAnyH_takeL (i := 25) (v := ?hv25) rfl (by kernel_rfl) (by kernel_rfl) (by kernel_rfl) (fun _ _ _ h => h) (Or.inl (And.intro ?hw25 ?hy25)) (by assumption) ?rest25
             case hw25 => rfl
             case hy25 => (intro wHy hSw; (try dsimp only at hSw); go_simp; (first | done | with_reducible rfl)))
          | (refine wpAnyH_takeL (i := 25) (v := undef) rfl (by kernel_rfl) (by kernel_rfl) (by kernel_rfl) (fun _ _ _ h => h) (Or.inr (And.intro (by rfl) rfl)) (by assumption) ?rest25x))
         (try simp only [Act.put, List.setIfInBounds_toArray, List.set_cons_zero, List.set_cons_succ]))
        ((first
          | (refine wpAnyH_takeL (i := 26) (v := ?hv26) rfl (by kernel_rfl) (by kernel_rfl) (by kernel_rfl) (fun _ _ _ h => h) (Or.inl (And.intro ?hw26 ?hy26)) (by assumption) ?rest26
             case hw26 => rfl
             case hy26 => (intro wHy hSw; (try dsimp only at hSw); go_simp; (first | done | with_reducible rfl)))
          | (refine wpAnyH_takeL (i := 26) (v := undef) rfl (by kernel_rfl) (by kernel_rfl) (by kernel_rfl) (fun _ _ _ h => h) (Or.inr (And.intro (by rfl) rfl)) (by assumption) ?rest26x))
         (try simp only [Act.put, List.setIfInBounds_toArray, List.set_cons_zero, List.set_cons_succ]))
        refine wpAnyH_ready (rs := [22]) (by kernel_rfl) (by simp) (AllReadyH.consL rfl (fun K hKcc => ?_) AllReadyH.nil)
        go_simp
        refine (hG _).mono ?_; rintro e wg ⟨rfl, hKg⟩
        refine hKcc.out _ _ ?held27 (fun hHeld => ?_)
        case held27 => ((try dsimp only); exact ⟨hKg.cell id cm', hKg.cell id cl'⟩)
        clear hKcc K
        (try simp only [Act.put, List.setIfInBounds_toArray, List.set_cons_zero, List.set_cons_succ])
        ((first
          | (refine wpAnyH_takeL (i := 27) (v := ?hv28) rfl (by kernel_rfl) (by kernel_rfl) (by kernel_rfl) (fun _ _ _ h => h) (Or.inl (And.intro ?hw28 ?hy28)) (by assumption) ?rest28
             case hw28 => rfl
             case hy28 => (intro wHy hSw; (try dsimp only at hSw); go_simp; (first | done | with_reducible rfl)))
          | (refine wpAnyH_takeL (i := 27) (v := undef) rfl (by kernel_rfl) (by kernel_rfl) (by kernel_rfl) (fun _ _ _ h => h) (Or.inr (And.intro (by rfl) rfl)) (by assumption) ?rest28x))
         (try simp only [Act.put, List.setIfInBounds_toArray, List.set_cons_zero, List.set_cons_succ]))
        ((first
          | (refine wpAnyH_takeL (i := 28) (v := ?hv29) rfl (by kernel_rfl) (by kernel_rfl) (by kernel_rfl) (fun _ _ _ h => h) (Or.inl (And.intro ?hw29 ?hy29)) (by assumption) ?rest29
             case hw29 => rfl
             case hy29 => (intro wHy hSw; (try dsimp only at hSw); go_simp; (first | done | with_reducible rfl)))
          | (refine wpAnyH_takeL (i := 28) (v := undef) rfl (by kernel_rfl) (by kernel_rfl) (by kernel_rfl) (fun _ _ _ h => h) (Or.inr (And.intro (by rfl) rfl)) (by assumption) ?rest29x))
         (try simp only [Act.put, List.setIfInBounds_toArray, List.set_cons_zero, List.set_cons_succ]))
        ((first
          | (refine wpAnyH_takeL (i := 29) (v := ?hv30) rfl (by kernel_rfl) (by kernel_rfl) (by kernel_rfl) (fun _ _ _ h => h) (Or.inl (And.intro ?hw30 ?hy30)) (by assumption) ?rest30
             case hw30 => rfl
             case hy30 => (intro wHy hSw; (try dsimp only at hSw); go_simp; (first | done | with_reducible rfl)))
          | (refine wpAnyH_takeL (i := 29) (v := undef) rfl (by kernel_rfl) (by kernel_rfl) (by kernel_rfl) (fun _ _ _ h => h) (Or.inr (And.intro (by rfl) rfl)) (by assumption) ?rest30x))
         (try simp only [Act.put, List.setIfInBounds_toArray, List.set_cons_zero, List.set_cons_succ]))
        refine wpAnyH_done (by kernel_rfl) ?_ _
        go_wp2
        go_ret
        exact ⟨rfl, ((hK.trans hKa).trans hK4).trans ⟨hKg.os, hKg.tape, hKg.output, hKg.size, hKg.block⟩⟩

end Go.Proofs.Ytenphgmohhdjeaa
