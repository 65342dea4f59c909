/-
  The small functions of the statements of layer 1: pick, Fit, and the walks through the laws.
  Conditions: as each statement says.
-/
import Derived.Test.YtenphgmohhdjeaaPack
import Derived.Test.YtenphgmohhdjeaaSame01
import Derived.Test.YtenphgmohhdjeaaPick01
set_option linter.unusedVariables false
namespace Go.Proofs.Ytenphgmohhdjeaa
open Go.RowKit Go.Shelf

theorem and_msk (v s n : Nat) (h : s + n ≤ 64) (hv : v < 18446744073709551616) : bits .and .u64 (v : Int) ((mskN s n : Nat) / 2 ^ s) = ((v % 2 ^ n : Nat) : Int) := by
  have h2 : ((mskN s n : Nat) : Int) / 2 ^ s = ((mskN s n / 2 ^ s : Nat) : Int) := by simp
  rw [h2, u64_and_nat _ _ hv (Nat.lt_of_le_of_lt (Nat.div_le_self _ _) (mskN_lt h)), msk_low]
theorem and_msks (s n t m : Nat) (h : s + n ≤ 64) (h2 : t + m ≤ 64) : bits .and .u64 ((mskN s n : Nat) : Int) ((mskN t m : Nat) : Int) = ((mskN s n &&& mskN t m : Nat) : Int) := u64_and_nat _ _ (mskN_lt h) (mskN_lt h2)

/-- The part that two raw numbers speak of. -/
def fitS (x : Int) : Nat := (pk x 64).toNat
def fitN (x y : Int) : Nat := 1 + (pk y (64 - pk x 64)).toNat
theorem fit_bd (x y : Int) : 1 ≤ fitN x y ∧ fitS x + fitN x y ≤ 64 := by
  have h := pk_bd x 64 (by omega)
  have h2 := pk_bd y (64 - pk x 64) (by omega)
  unfold fitN fitS; omega

set_option maxRecDepth 100000 in
set_option maxHeartbeats 400000 in
theorem fit01 (x y : Int) (l0 : -9223372036854775808 ≤ x) (g0 : x ≤ 9223372036854775807) (l1 : -9223372036854775808 ≤ y) (g1 : y ≤ 9223372036854775807) (w : World) :
    Calls Try.prog 53 #[.int .i64 x, .int .i64 y] w fun e w' => e = .returned (.agg #[.int .i64 (fitS x : Nat), .int .i64 (fitN x y : Nat)]) ∧ Kept NoBlk w w' := by
  have h := pk_bd x 64 (by omega)
  have h2 := pk_bd y (64 - pk x 64) (by omega)
  obtain ⟨s, Hs⟩ : ∃ s : Nat, Hid ((s : Int) = pk x 64) := ⟨(pk x 64).toNat, by show _ = _; omega⟩
  rw [← Hs.out] at h h2
  obtain ⟨t, Ht⟩ : ∃ t : Nat, Hid ((t : Int) = pk y (64 - s)) := ⟨(pk y (64 - s)).toNat, by show _ = _; omega⟩
  rw [← Ht.out] at h2
  obtain ⟨h0, h1⟩ := h
  obtain ⟨h2, h3⟩ := h2
  go_enter Try.func53, Try.ntmps53
  go_wp2_with fail
  refine (pick01r Hs (by omega) l0 g0 (by omega) _).mono ?_
  rintro e w1 ⟨rfl, rfl⟩
  go_wp2_with fail
  refine (pick01r Ht (by omega) l1 g1 (by omega) _).mono ?_
  rintro e w1 ⟨rfl, rfl⟩
  go_wp2
  have e1 : fitS x = s := by unfold fitS; have := Hs.out; omega
  have e2 : fitN x y = 1 + t := by unfold fitN; rw [← Hs.out, ← Ht.out]; simp
  rw [e1, e2]
  have hb := Bk.new w 70 (#[.int .i64 s, .int .i64 (1 + t)] : Array Value)
  have c := hb.cell
  refine bodyPost_ret (v := .agg #[.int .i64 s, .int .i64 ((1 + t : Nat) : Int)]) (by simp [results, Try.results53, go_sem, c]) rfl ⟨rfl, (Kept.refl NoBlk w).alloc _⟩

set_option maxRecDepth 100000 in
set_option maxHeartbeats 1000000 in
theorem sets_walk (x v : Nat) (a0 a1 b0 b1 : Int) (w : World) (hx : x < 18446744073709551616) (hv : v < 18446744073709551616)
    (l0 : -9223372036854775808 ≤ a0) (g0 : a0 ≤ 9223372036854775807) (l1 : -9223372036854775808 ≤ a1) (g1 : a1 ≤ 9223372036854775807)
    (l2 : -9223372036854775808 ≤ b0) (g2 : b0 ≤ 9223372036854775807) (l3 : -9223372036854775808 ≤ b1) (g3 : b1 ≤ 9223372036854775807)
    (hawake : ∀ w, Calls Try.prog 52 #[] w fun e w' => e = .returned (.bool true) ∧ Kept NoBlk w w') :
    Calls Try.prog 17 #[.int .u64 x, .int .u64 v, .agg #[.int .i64 a0, .int .i64 a1], .agg #[.int .i64 b0, .int .i64 b1]] w fun e w' => e = .returned (.bool true) ∧ Kept NoBlk w w' := by
  obtain ⟨p1, p2⟩ := fit_bd a0 a1
  obtain ⟨q1, q2⟩ := fit_bd b0 b1
  have hF1 := fit01 a0 a1 l0 g0 l1 g1
  have hF2 := fit01 b0 b1 l2 g2 l3 g3
  generalize fitS a0 = ps at *
  generalize fitN a0 a1 = pn at *
  generalize fitS b0 = qs at *
  generalize fitN b0 b1 = qn at *
  have hu : v % 2 ^ pn < 2 ^ pn := Nat.mod_lt _ (Nat.two_pow_pos _)
  have hU := and_msk v ps pn p2 hv
  have hM := and_msks ps pn qs qn p2 q2
  generalize v % 2 ^ pn = u at hu hU
  have hx1 := setN_lt p2 hx hu
  have hS1 := fun W => set_part x ps pn u hx p1 p2 hu W
  have hG1 := fun W => get_part (setN x ps pn u) ps pn hx1 p1 p2 W
  rw [get_set p2 hx hu] at hG1
  have hG2 := fun W => get_part x ps pn hx p1 p2 W
  have hS2 := fun W => set_part (setN x ps pn u) ps pn (getN x ps pn) hx1 p1 p2 (getN_lt _ _ _) W
  rw [set_back p2 hx hu] at hS2
  have hG3 := fun W => get_part (setN x ps pn u) qs qn hx1 q1 q2 W
  have hG4 := fun W => get_part x qs qn hx q1 q2 W
  have hfar : (ps + pn ≤ qs ∨ qs + qn ≤ ps) → getN (setN x ps pn u) qs qn = getN x qs qn := fun h => get_set_far p2 hx hu h
  have Hfar := Lib.hid hfar
  have hmm := msk_and ps pn qs qn p1 q1
  have Hmm := Lib.hid hmm
  clear hfar hmm
  generalize getN x ps pn = g0 at *
  generalize setN x ps pn u = x1 at *
  generalize mskN ps pn &&& mskN qs qn = mm at *
  go_enter Try.func17, Try.ntmps17
  have hs1 : ∀ (W : World) (o : Obj), (W.alloc o).heap.size = W.heap.size + 1 := fun W o => by simp
  have ha := (Bk.new w 68 (#[.int .i64 a0, .int .i64 a1] : Array Value)).alloc (.cells #[.int .i64 b0, .int .i64 b1] 68)
  have hb := Bk.new (w.alloc (.cells #[.int .i64 a0, .int .i64 a1] 68)) 68 (#[.int .i64 b0, .int .i64 b1] : Array Value)
  rw [hs1] at hb
  have hK : Kept NoBlk w ((w.alloc (.cells #[.int .i64 a0, .int .i64 a1] 68)).alloc (.cells #[.int .i64 b0, .int .i64 b1] 68)) := ((Kept.refl NoBlk w).alloc _).alloc _
  clear hs1
  have c_ha := ha.cell
  have f_ha := ha.frozen
  have c_hb := hb.cell
  have f_hb := hb.frozen
  go_wp2_with fail
  refine (hawake _).mono ?_
  rintro e_ wc1 ⟨rfl, hKn⟩
  replace ha := ha.kept hKn id
  replace hb := hb.kept hKn id
  replace hK := hK.trans hKn
  clear hKn
  replace c_ha := ha.cell
  replace f_ha := ha.frozen
  replace c_hb := hb.cell
  replace f_hb := hb.frozen
  go_wp2_with fail
  refine (hF1 _).mono ?_
  rintro e_ v2 ⟨rfl, hKn⟩
  replace ha := ha.kept hKn id
  replace hb := hb.kept hKn id
  replace hK := hK.trans hKn
  clear hKn
  replace c_ha := ha.cell
  replace f_ha := ha.frozen
  replace c_hb := hb.cell
  replace f_hb := hb.frozen
  replace ha := ha.alloc (.cells #[.int .i64 ps, .int .i64 pn] 70)
  replace hb := hb.alloc (.cells #[.int .i64 ps, .int .i64 pn] 70)
  have hp := Bk.new (v2) 70 (#[.int .i64 ps, .int .i64 pn] : Array Value)
  replace hK := hK.alloc (.cells #[.int .i64 ps, .int .i64 pn] 70)
  have c_hp := hp.cell
  have f_hp := hp.frozen
  replace c_ha := ha.cell
  replace f_ha := ha.frozen
  replace c_hb := hb.cell
  replace f_hb := hb.frozen
  go_wp2_with fail
  refine (hF2 _).mono ?_
  rintro e_ v3 ⟨rfl, hKn⟩
  replace ha := ha.kept hKn id
  replace hb := hb.kept hKn id
  replace hp := hp.kept hKn id
  replace hK := hK.trans hKn
  clear hKn
  replace c_ha := ha.cell
  replace f_ha := ha.frozen
  replace c_hb := hb.cell
  replace f_hb := hb.frozen
  replace c_hp := hp.cell
  replace f_hp := hp.frozen
  clear c_ha f_ha
  clear c_hb f_hb
  replace hp := hp.alloc (.cells #[.int .i64 qs, .int .i64 qn] 70)
  have hq := Bk.new (v3) 70 (#[.int .i64 qs, .int .i64 qn] : Array Value)
  replace hK := hK.alloc (.cells #[.int .i64 qs, .int .i64 qn] 70)
  have c_hq := hq.cell
  have f_hq := hq.frozen
  replace c_hp := hp.cell
  replace f_hp := hp.frozen
  go_wp2_with fail
  clear c_hp f_hp c_hq f_hq
  refine wp_region_held_drew (S := (fun V => Bk V ((v2).heap.size) 70 (#[.int .i64 ps, .int .i64 pn] : Array Value) ∧ Bk V ((v3).heap.size) 70 (#[.int .i64 qs, .int .i64 qn] : Array Value) ∧ Kept NoBlk w V)) (by kernel_rfl) (by ((try dsimp only); exact ⟨Bk.drew hp, Bk.drew hq, hK.drew⟩)) (fun hHeld => ?_)
  clear hp hq hK
  have hHs := hHeld
  (try dsimp only at hHs)
  obtain ⟨hp, hq, hK⟩ := hHs
  ((first
    | (refine wpAnyH_takeL (i := 0) (v := ?hv4) rfl (by kernel_rfl) (by kernel_rfl) (by kernel_rfl) (fun _ _ _ h => h) (Or.inl (And.intro ?hw4 ?hy4)) (by assumption) ?rest4
       case hw4 => rfl
       case hy4 => (intro wHy hSw; (try dsimp only at hSw); obtain ⟨y0, y1, _⟩ := hSw; replace y0 := y0.cell; replace y1 := y1.cell; go_simp; (first | done | with_reducible rfl)))
    | (refine wpAnyH_takeL (i := 0) (v := undef) rfl (by kernel_rfl) (by kernel_rfl) (by kernel_rfl) (fun _ _ _ h => h) (Or.inr (And.intro (by rfl) rfl)) (by assumption) ?rest4x))
   (try simp only [Act.put, List.setIfInBounds_toArray, List.set_cons_zero, List.set_cons_succ]))
  ((first
    | (refine wpAnyH_takeL (i := 1) (v := ?hv5) rfl (by kernel_rfl) (by kernel_rfl) (by kernel_rfl) (fun _ _ _ h => h) (Or.inl (And.intro ?hw5 ?hy5)) (by assumption) ?rest5
       case hw5 => rfl
       case hy5 => (intro wHy hSw; (try dsimp only at hSw); obtain ⟨y0, y1, _⟩ := hSw; replace y0 := y0.cell; replace y1 := y1.cell; go_simp; (first | done | with_reducible rfl)))
    | (refine wpAnyH_takeL (i := 1) (v := undef) rfl (by kernel_rfl) (by kernel_rfl) (by kernel_rfl) (fun _ _ _ h => h) (Or.inr (And.intro (by rfl) rfl)) (by assumption) ?rest5x))
   (try simp only [Act.put, List.setIfInBounds_toArray, List.set_cons_zero, List.set_cons_succ]))
  ((first
    | (refine wpAnyH_takeL (i := 3) (v := ?hv6) rfl (by kernel_rfl) (by kernel_rfl) (by kernel_rfl) (fun _ _ _ h => h) (Or.inl (And.intro ?hw6 ?hy6)) (by assumption) ?rest6
       case hw6 => rfl
       case hy6 => (intro wHy hSw; (try dsimp only at hSw); obtain ⟨y0, y1, _⟩ := hSw; replace y0 := y0.cell; replace y1 := y1.cell; go_simp; (first | done | with_reducible rfl)))
    | (refine wpAnyH_takeL (i := 3) (v := undef) rfl (by kernel_rfl) (by kernel_rfl) (by kernel_rfl) (fun _ _ _ h => h) (Or.inr (And.intro (by rfl) rfl)) (by assumption) ?rest6x))
   (try simp only [Act.put, List.setIfInBounds_toArray, List.set_cons_zero, List.set_cons_succ]))
  ((first
    | (refine wpAnyH_takeL (i := 4) (v := ?hv7) rfl (by kernel_rfl) (by kernel_rfl) (by kernel_rfl) (fun _ _ _ h => h) (Or.inl (And.intro ?hw7 ?hy7)) (by assumption) ?rest7
       case hw7 => rfl
       case hy7 => (intro wHy hSw; (try dsimp only at hSw); obtain ⟨y0, y1, _⟩ := hSw; replace y0 := y0.cell; replace y1 := y1.cell; go_simp; (first | done | with_reducible rfl)))
    | (refine wpAnyH_takeL (i := 4) (v := undef) rfl (by kernel_rfl) (by kernel_rfl) (by kernel_rfl) (fun _ _ _ h => h) (Or.inr (And.intro (by rfl) rfl)) (by assumption) ?rest7x))
   (try simp only [Act.put, List.setIfInBounds_toArray, List.set_cons_zero, List.set_cons_succ]))
  refine wpAnyH_ready (rs := [2]) (by kernel_rfl) (by simp) (AllReadyH.consL rfl (fun K hKcc => ?_) AllReadyH.nil)
  go_simp
  refine (mask_part _ _ p1 p2 _).mono ?_
  rintro e_ v4 ⟨rfl, hKn⟩
  refine hKcc.out _ _ ?held8 (fun hHeld => ?_)
  case held8 => ((try dsimp only); exact ⟨hp.kept hKn id, hq.kept hKn id, hK.trans hKn⟩)
  clear hKcc K
  (try simp only [Act.put, List.setIfInBounds_toArray, List.set_cons_zero, List.set_cons_succ])
  clear hKn
  clear hp hq hK
  have hHs := hHeld
  (try dsimp only at hHs)
  obtain ⟨hp, hq, hK⟩ := hHs
  ((first
    | (refine wpAnyH_takeL (i := 5) (v := ?hv9) rfl (by kernel_rfl) (by kernel_rfl) (by kernel_rfl) (fun _ _ _ h => h) (Or.inl (And.intro ?hw9 ?hy9)) (by assumption) ?rest9
       case hw9 => rfl
       case hy9 => (intro wHy hSw; (try dsimp only at hSw); obtain ⟨y0, y1, _⟩ := hSw; replace y0 := y0.cell; replace y1 := y1.cell; go_simp; (first | done | with_reducible rfl)))
    | (refine wpAnyH_takeL (i := 5) (v := undef) rfl (by kernel_rfl) (by kernel_rfl) (by kernel_rfl) (fun _ _ _ h => h) (Or.inr (And.intro (by rfl) rfl)) (by assumption) ?rest9x))
   (try simp only [Act.put, List.setIfInBounds_toArray, List.set_cons_zero, List.set_cons_succ]))
  ((first
    | (refine wpAnyH_takeL (i := 6) (v := ?hv10) rfl (by kernel_rfl) (by kernel_rfl) (by kernel_rfl) (fun _ _ _ h => h) (Or.inl (And.intro ?hw10 ?hy10)) (by assumption) ?rest10
       case hw10 => rfl
       case hy10 => (intro wHy hSw; (try dsimp only at hSw); obtain ⟨y0, y1, _⟩ := hSw; replace y0 := y0.cell; replace y1 := y1.cell; go_simp; (first | done | with_reducible rfl)))
    | (refine wpAnyH_takeL (i := 6) (v := undef) rfl (by kernel_rfl) (by kernel_rfl) (by kernel_rfl) (fun _ _ _ h => h) (Or.inr (And.intro (by rfl) rfl)) (by assumption) ?rest10x))
   (try simp only [Act.put, List.setIfInBounds_toArray, List.set_cons_zero, List.set_cons_succ]))
  ((first
    | (refine wpAnyH_takeL (i := 7) (v := ?hv11) rfl (by kernel_rfl) (by kernel_rfl) (by kernel_rfl) (fun _ _ _ h => h) (Or.inl (And.intro ?hw11 ?hy11)) (by assumption) ?rest11
       case hw11 => rfl
       case hy11 => (intro wHy hSw; (try dsimp only at hSw); obtain ⟨y0, y1, _⟩ := hSw; replace y0 := y0.cell; replace y1 := y1.cell; go_simp; (first | done | with_reducible rfl)))
    | (refine wpAnyH_takeL (i := 7) (v := undef) rfl (by kernel_rfl) (by kernel_rfl) (by kernel_rfl) (fun _ _ _ h => h) (Or.inr (And.intro (by rfl) rfl)) (by assumption) ?rest11x))
   (try simp only [Act.put, List.setIfInBounds_toArray, List.set_cons_zero, List.set_cons_succ]))
  refine wpAnyH_done (by kernel_rfl) ?_ _
  have c_hp := hp.cell
  have f_hp := hp.frozen
  have c_hq := hq.cell
  have f_hq := hq.frozen
  go_wp2_with fail
  refine (hS1 _).mono ?_
  rintro e_ wc12 ⟨rfl, hKn⟩
  replace hp := hp.kept hKn id
  replace hq := hq.kept hKn id
  replace hK := hK.trans hKn
  clear hKn
  replace c_hp := hp.cell
  replace f_hp := hp.frozen
  replace c_hq := hq.cell
  replace f_hq := hq.frozen
  go_wp2_with fail
  refine (hG1 _).mono ?_
  rintro e_ wc13 ⟨rfl, hKn⟩
  replace hp := hp.kept hKn id
  replace hq := hq.kept hKn id
  replace hK := hK.trans hKn
  clear hKn
  replace c_hp := hp.cell
  replace f_hp := hp.frozen
  replace c_hq := hq.cell
  replace f_hq := hq.frozen
  rcases (show ps + pn ≤ qs ∨ (¬ ps + pn ≤ qs ∧ qs + qn ≤ ps) ∨ (¬ ps + pn ≤ qs ∧ ¬ qs + qn ≤ ps) by omega) with c1 | ⟨c1, c2⟩ | ⟨c1, c2⟩
  · have hM' : bits .and .u64 ((mskN ps pn : Nat) : Int) ((mskN qs qn : Nat) : Int) = 0 := by rw [hM, Hmm.out.2 (.inl c1)]; rfl
    clear hM
    rw [← Hfar.out (.inl c1)] at hG4
    generalize getN x1 qs qn = z at *
    go_wp2_with fail
    clear c_hp f_hp c_hq f_hq
    refine wp_region_held_drew (S := (fun V => Bk V ((v2).heap.size) 70 (#[.int .i64 ps, .int .i64 pn] : Array Value) ∧ Bk V ((v3).heap.size) 70 (#[.int .i64 qs, .int .i64 qn] : Array Value) ∧ Kept NoBlk w V)) (by kernel_rfl) (by ((try dsimp only); exact ⟨Bk.drew hp, Bk.drew hq, hK.drew⟩)) (fun hHeld => ?_)
    clear hp hq hK
    have hHs := hHeld
    (try dsimp only at hHs)
    obtain ⟨hp, hq, hK⟩ := hHs
    ((first
      | (refine wpAnyH_takeL (i := 0) (v := ?hv14) rfl (by kernel_rfl) (by kernel_rfl) (by kernel_rfl) (fun _ _ _ h => h) (Or.inl (And.intro ?hw14 ?hy14)) (by assumption) ?rest14
         case hw14 => rfl
         case hy14 => (intro wHy hSw; (try dsimp only at hSw); obtain ⟨y0, y1, _⟩ := hSw; replace y0 := y0.cell; replace y1 := y1.cell; go_simp; (first | done | with_reducible rfl)))
      | (refine wpAnyH_takeL (i := 0) (v := undef) rfl (by kernel_rfl) (by kernel_rfl) (by kernel_rfl) (fun _ _ _ h => h) (Or.inr (And.intro (by rfl) rfl)) (by assumption) ?rest14x))
     (try simp only [Act.put, List.setIfInBounds_toArray, List.set_cons_zero, List.set_cons_succ]))
    ((first
      | (refine wpAnyH_takeL (i := 1) (v := ?hv15) rfl (by kernel_rfl) (by kernel_rfl) (by kernel_rfl) (fun _ _ _ h => h) (Or.inl (And.intro ?hw15 ?hy15)) (by assumption) ?rest15
         case hw15 => rfl
         case hy15 => (intro wHy hSw; (try dsimp only at hSw); obtain ⟨y0, y1, _⟩ := hSw; replace y0 := y0.cell; replace y1 := y1.cell; go_simp; (first | done | with_reducible rfl)))
      | (refine wpAnyH_takeL (i := 1) (v := undef) rfl (by kernel_rfl) (by kernel_rfl) (by kernel_rfl) (fun _ _ _ h => h) (Or.inr (And.intro (by rfl) rfl)) (by assumption) ?rest15x))
     (try simp only [Act.put, List.setIfInBounds_toArray, List.set_cons_zero, List.set_cons_succ]))
    ((first
      | (refine wpAnyH_takeL (i := 3) (v := ?hv16) rfl (by kernel_rfl) (by kernel_rfl) (by kernel_rfl) (fun _ _ _ h => h) (Or.inl (And.intro ?hw16 ?hy16)) (by assumption) ?rest16
         case hw16 => rfl
         case hy16 => (intro wHy hSw; (try dsimp only at hSw); obtain ⟨y0, y1, _⟩ := hSw; replace y0 := y0.cell; replace y1 := y1.cell; go_simp; (first | done | with_reducible rfl)))
      | (refine wpAnyH_takeL (i := 3) (v := undef) rfl (by kernel_rfl) (by kernel_rfl) (by kernel_rfl) (fun _ _ _ h => h) (Or.inr (And.intro (by rfl) rfl)) (by assumption) ?rest16x))
     (try simp only [Act.put, List.setIfInBounds_toArray, List.set_cons_zero, List.set_cons_succ]))
    refine wpAnyH_ready (rs := [2]) (by kernel_rfl) (by simp) (AllReadyH.consL rfl (fun K hKcc => ?_) AllReadyH.nil)
    go_simp
    refine (mask_part _ _ p1 p2 _).mono ?_
    rintro e_ v5 ⟨rfl, hKn⟩
    refine hKcc.out _ _ ?held17 (fun hHeld => ?_)
    case held17 => ((try dsimp only); exact ⟨hp.kept hKn id, hq.kept hKn id, hK.trans hKn⟩)
    clear hKcc K
    (try simp only [Act.put, List.setIfInBounds_toArray, List.set_cons_zero, List.set_cons_succ])
    clear hKn
    clear hp hq hK
    have hHs := hHeld
    (try dsimp only at hHs)
    obtain ⟨hp, hq, hK⟩ := hHs
    refine wpAnyH_ready (rs := [4]) (by kernel_rfl) (by simp) (AllReadyH.consL rfl (fun K hKcc => ?_) AllReadyH.nil)
    go_simp
    refine (mask_part _ _ q1 q2 _).mono ?_
    rintro e_ v6 ⟨rfl, hKn⟩
    refine hKcc.out _ _ ?held18 (fun hHeld => ?_)
    case held18 => ((try dsimp only); exact ⟨hp.kept hKn id, hq.kept hKn id, hK.trans hKn⟩)
    clear hKcc K
    (try simp only [Act.put, List.setIfInBounds_toArray, List.set_cons_zero, List.set_cons_succ])
    clear hKn
    clear hp hq hK
    have hHs := hHeld
    (try dsimp only at hHs)
    obtain ⟨hp, hq, hK⟩ := hHs
    ((first
      | (refine wpAnyH_takeL (i := 5) (v := ?hv19) rfl (by kernel_rfl) (by kernel_rfl) (by kernel_rfl) (fun _ _ _ h => h) (Or.inl (And.intro ?hw19 ?hy19)) (by assumption) ?rest19
         case hw19 => rfl
         case hy19 => (intro wHy hSw; (try dsimp only at hSw); obtain ⟨y0, y1, _⟩ := hSw; replace y0 := y0.cell; replace y1 := y1.cell; go_simp; (first | done | with_reducible rfl)))
      | (refine wpAnyH_takeL (i := 5) (v := undef) rfl (by kernel_rfl) (by kernel_rfl) (by kernel_rfl) (fun _ _ _ h => h) (Or.inr (And.intro (by rfl) rfl)) (by assumption) ?rest19x))
     (try simp only [Act.put, List.setIfInBounds_toArray, List.set_cons_zero, List.set_cons_succ]))
    ((first
      | (refine wpAnyH_takeL (i := 6) (v := ?hv20) rfl (by kernel_rfl) (by kernel_rfl) (by kernel_rfl) (fun _ _ _ h => h) (Or.inl (And.intro ?hw20 ?hy20)) (by assumption) ?rest20
         case hw20 => rfl
         case hy20 => (intro wHy hSw; (try dsimp only at hSw); obtain ⟨y0, y1, _⟩ := hSw; replace y0 := y0.cell; replace y1 := y1.cell; go_simp; (first | done | with_reducible rfl)))
      | (refine wpAnyH_takeL (i := 6) (v := undef) rfl (by kernel_rfl) (by kernel_rfl) (by kernel_rfl) (fun _ _ _ h => h) (Or.inr (And.intro (by rfl) rfl)) (by assumption) ?rest20x))
     (try simp only [Act.put, List.setIfInBounds_toArray, List.set_cons_zero, List.set_cons_succ]))
    ((first
      | (refine wpAnyH_takeL (i := 7) (v := ?hv21) rfl (by kernel_rfl) (by kernel_rfl) (by kernel_rfl) (fun _ _ _ h => h) (Or.inl (And.intro ?hw21 ?hy21)) (by assumption) ?rest21
         case hw21 => rfl
         case hy21 => (intro wHy hSw; (try dsimp only at hSw); obtain ⟨y0, y1, _⟩ := hSw; replace y0 := y0.cell; replace y1 := y1.cell; go_simp; (first | done | with_reducible rfl)))
      | (refine wpAnyH_takeL (i := 7) (v := undef) rfl (by kernel_rfl) (by kernel_rfl) (by kernel_rfl) (fun _ _ _ h => h) (Or.inr (And.intro (by rfl) rfl)) (by assumption) ?rest21x))
     (try simp only [Act.put, List.setIfInBounds_toArray, List.set_cons_zero, List.set_cons_succ]))
    refine wpAnyH_done (by kernel_rfl) ?_ _
    have c_hp := hp.cell
    have f_hp := hp.frozen
    have c_hq := hq.cell
    have f_hq := hq.frozen
    go_wp2_with fail
    clear c_hp f_hp c_hq f_hq
    refine wp_region_held_drew (S := (fun V => Bk V ((v2).heap.size) 70 (#[.int .i64 ps, .int .i64 pn] : Array Value) ∧ Bk V ((v3).heap.size) 70 (#[.int .i64 qs, .int .i64 qn] : Array Value) ∧ Kept NoBlk w V)) (by kernel_rfl) (by ((try dsimp only); exact ⟨Bk.drew hp, Bk.drew hq, hK.drew⟩)) (fun hHeld => ?_)
    clear hp hq hK
    have hHs := hHeld
    (try dsimp only at hHs)
    obtain ⟨hp, hq, hK⟩ := hHs
    ((first
      | (refine wpAnyH_takeL (i := 0) (v := ?hv22) rfl (by kernel_rfl) (by kernel_rfl) (by kernel_rfl) (fun _ _ _ h => h) (Or.inl (And.intro ?hw22 ?hy22)) (by assumption) ?rest22
         case hw22 => rfl
         case hy22 => (intro wHy hSw; (try dsimp only at hSw); obtain ⟨y0, y1, _⟩ := hSw; replace y0 := y0.cell; replace y1 := y1.cell; go_simp; (first | done | with_reducible rfl)))
      | (refine wpAnyH_takeL (i := 0) (v := undef) rfl (by kernel_rfl) (by kernel_rfl) (by kernel_rfl) (fun _ _ _ h => h) (Or.inr (And.intro (by rfl) rfl)) (by assumption) ?rest22x))
     (try simp only [Act.put, List.setIfInBounds_toArray, List.set_cons_zero, List.set_cons_succ]))
    ((first
      | (refine wpAnyH_takeL (i := 1) (v := ?hv23) rfl (by kernel_rfl) (by kernel_rfl) (by kernel_rfl) (fun _ _ _ h => h) (Or.inl (And.intro ?hw23 ?hy23)) (by assumption) ?rest23
         case hw23 => rfl
         case hy23 => (intro wHy hSw; (try dsimp only at hSw); obtain ⟨y0, y1, _⟩ := hSw; replace y0 := y0.cell; replace y1 := y1.cell; go_simp; (first | done | with_reducible rfl)))
      | (refine wpAnyH_takeL (i := 1) (v := undef) rfl (by kernel_rfl) (by kernel_rfl) (by kernel_rfl) (fun _ _ _ h => h) (Or.inr (And.intro (by rfl) rfl)) (by assumption) ?rest23x))
     (try simp only [Act.put, List.setIfInBounds_toArray, List.set_cons_zero, List.set_cons_succ]))
    ((first
      | (refine wpAnyH_takeL (i := 2) (v := ?hv24) rfl (by kernel_rfl) (by kernel_rfl) (by kernel_rfl) (fun _ _ _ h => h) (Or.inl (And.intro ?hw24 ?hy24)) (by assumption) ?rest24
         case hw24 => rfl
         case hy24 => (intro wHy hSw; (try dsimp only at hSw); obtain ⟨y0, y1, _⟩ := hSw; replace y0 := y0.cell; replace y1 := y1.cell; go_simp; (first | done | with_reducible rfl)))
      | (refine wpAnyH_takeL (i := 2) (v := undef) rfl (by kernel_rfl) (by kernel_rfl) (by kernel_rfl) (fun _ _ _ h => h) (Or.inr (And.intro (by rfl) rfl)) (by assumption) ?rest24x))
     (try simp only [Act.put, List.setIfInBounds_toArray, List.set_cons_zero, List.set_cons_succ]))
    ((first
      | (refine wpAnyH_takeL (i := 3) (v := ?hv25) rfl (by kernel_rfl) (by kernel_rfl) (by kernel_rfl) (fun _ _ _ h => h) (Or.inl (And.intro ?hw25 ?hy25)) (by assumption) ?rest25
         case hw25 => rfl
         case hy25 => (intro wHy hSw; (try dsimp only at hSw); obtain ⟨y0, y1, _⟩ := hSw; replace y0 := y0.cell; replace y1 := y1.cell; go_simp; (first | done | with_reducible rfl)))
      | (refine wpAnyH_takeL (i := 3) (v := undef) rfl (by kernel_rfl) (by kernel_rfl) (by kernel_rfl) (fun _ _ _ h => h) (Or.inr (And.intro (by rfl) rfl)) (by assumption) ?rest25x))
     (try simp only [Act.put, List.setIfInBounds_toArray, List.set_cons_zero, List.set_cons_succ]))
    refine wpAnyH_ready (rs := [4]) (by kernel_rfl) (by simp) (AllReadyH.consL rfl (fun K hKcc => ?_) AllReadyH.nil)
    go_simp
    refine (hG2 _).mono ?_
    rintro e_ v7 ⟨rfl, hKn⟩
    refine hKcc.out _ _ ?held26 (fun hHeld => ?_)
    case held26 => ((try dsimp only); exact ⟨hp.kept hKn id, hq.kept hKn id, hK.trans hKn⟩)
    clear hKcc K
    (try simp only [Act.put, List.setIfInBounds_toArray, List.set_cons_zero, List.set_cons_succ])
    clear hKn
    clear hp hq hK
    have hHs := hHeld
    (try dsimp only at hHs)
    obtain ⟨hp, hq, hK⟩ := hHs
    refine wpAnyH_ready (rs := [5]) (by kernel_rfl) (by simp) (AllReadyH.consL rfl (fun K hKcc => ?_) AllReadyH.nil)
    go_simp
    refine (hS2 _).mono ?_
    rintro e_ v8 ⟨rfl, hKn⟩
    refine hKcc.out _ _ ?held27 (fun hHeld => ?_)
    case held27 => ((try dsimp only); exact ⟨hp.kept hKn id, hq.kept hKn id, hK.trans hKn⟩)
    clear hKcc K
    (try simp only [Act.put, List.setIfInBounds_toArray, List.set_cons_zero, List.set_cons_succ])
    clear hKn
    clear hp hq hK
    have hHs := hHeld
    (try dsimp only at hHs)
    obtain ⟨hp, hq, hK⟩ := hHs
    ((first
      | (refine wpAnyH_takeL (i := 6) (v := ?hv28) rfl (by kernel_rfl) (by kernel_rfl) (by kernel_rfl) (fun _ _ _ h => h) (Or.inl (And.intro ?hw28 ?hy28)) (by assumption) ?rest28
         case hw28 => rfl
         case hy28 => (intro wHy hSw; (try dsimp only at hSw); obtain ⟨y0, y1, _⟩ := hSw; replace y0 := y0.cell; replace y1 := y1.cell; go_simp; (first | done | with_reducible rfl)))
      | (refine wpAnyH_takeL (i := 6) (v := undef) rfl (by kernel_rfl) (by kernel_rfl) (by kernel_rfl) (fun _ _ _ h => h) (Or.inr (And.intro (by rfl) rfl)) (by assumption) ?rest28x))
     (try simp only [Act.put, List.setIfInBounds_toArray, List.set_cons_zero, List.set_cons_succ]))
    ((first
      | (refine wpAnyH_takeL (i := 7) (v := ?hv29) rfl (by kernel_rfl) (by kernel_rfl) (by kernel_rfl) (fun _ _ _ h => h) (Or.inl (And.intro ?hw29 ?hy29)) (by assumption) ?rest29
         case hw29 => rfl
         case hy29 => (intro wHy hSw; (try dsimp only at hSw); obtain ⟨y0, y1, _⟩ := hSw; replace y0 := y0.cell; replace y1 := y1.cell; go_simp; (first | done | with_reducible rfl)))
      | (refine wpAnyH_takeL (i := 7) (v := undef) rfl (by kernel_rfl) (by kernel_rfl) (by kernel_rfl) (fun _ _ _ h => h) (Or.inr (And.intro (by rfl) rfl)) (by assumption) ?rest29x))
     (try simp only [Act.put, List.setIfInBounds_toArray, List.set_cons_zero, List.set_cons_succ]))
    ((first
      | (refine wpAnyH_takeL (i := 8) (v := ?hv30) rfl (by kernel_rfl) (by kernel_rfl) (by kernel_rfl) (fun _ _ _ h => h) (Or.inl (And.intro ?hw30 ?hy30)) (by assumption) ?rest30
         case hw30 => rfl
         case hy30 => (intro wHy hSw; (try dsimp only at hSw); obtain ⟨y0, y1, _⟩ := hSw; replace y0 := y0.cell; replace y1 := y1.cell; go_simp; (first | done | with_reducible rfl)))
      | (refine wpAnyH_takeL (i := 8) (v := undef) rfl (by kernel_rfl) (by kernel_rfl) (by kernel_rfl) (fun _ _ _ h => h) (Or.inr (And.intro (by rfl) rfl)) (by assumption) ?rest30x))
     (try simp only [Act.put, List.setIfInBounds_toArray, List.set_cons_zero, List.set_cons_succ]))
    ((first
      | (refine wpAnyH_takeL (i := 9) (v := ?hv31) rfl (by kernel_rfl) (by kernel_rfl) (by kernel_rfl) (fun _ _ _ h => h) (Or.inl (And.intro ?hw31 ?hy31)) (by assumption) ?rest31
         case hw31 => rfl
         case hy31 => (intro wHy hSw; (try dsimp only at hSw); obtain ⟨y0, y1, _⟩ := hSw; replace y0 := y0.cell; replace y1 := y1.cell; go_simp; (first | done | with_reducible rfl)))
      | (refine wpAnyH_takeL (i := 9) (v := undef) rfl (by kernel_rfl) (by kernel_rfl) (by kernel_rfl) (fun _ _ _ h => h) (Or.inr (And.intro (by rfl) rfl)) (by assumption) ?rest31x))
     (try simp only [Act.put, List.setIfInBounds_toArray, List.set_cons_zero, List.set_cons_succ]))
    ((first
      | (refine wpAnyH_takeL (i := 10) (v := ?hv32) rfl (by kernel_rfl) (by kernel_rfl) (by kernel_rfl) (fun _ _ _ h => h) (Or.inl (And.intro ?hw32 ?hy32)) (by assumption) ?rest32
         case hw32 => rfl
         case hy32 => (intro wHy hSw; (try dsimp only at hSw); obtain ⟨y0, y1, _⟩ := hSw; replace y0 := y0.cell; replace y1 := y1.cell; go_simp; (first | done | with_reducible rfl)))
      | (refine wpAnyH_takeL (i := 10) (v := undef) rfl (by kernel_rfl) (by kernel_rfl) (by kernel_rfl) (fun _ _ _ h => h) (Or.inr (And.intro (by rfl) rfl)) (by assumption) ?rest32x))
     (try simp only [Act.put, List.setIfInBounds_toArray, List.set_cons_zero, List.set_cons_succ]))
    refine wpAnyH_done (by kernel_rfl) ?_ _
    have c_hp := hp.cell
    have f_hp := hp.frozen
    have c_hq := hq.cell
    have f_hq := hq.frozen
    go_wp2_with fail
    clear c_hp f_hp c_hq f_hq
    refine wp_region_held_drew (S := (fun V => Bk V ((v2).heap.size) 70 (#[.int .i64 ps, .int .i64 pn] : Array Value) ∧ Bk V ((v3).heap.size) 70 (#[.int .i64 qs, .int .i64 qn] : Array Value) ∧ Kept NoBlk w V)) (by kernel_rfl) (by ((try dsimp only); exact ⟨Bk.drew hp, Bk.drew hq, hK.drew⟩)) (fun hHeld => ?_)
    clear hp hq hK
    have hHs := hHeld
    (try dsimp only at hHs)
    obtain ⟨hp, hq, hK⟩ := hHs
    ((first
      | (refine wpAnyH_takeL (i := 0) (v := ?hv33) rfl (by kernel_rfl) (by kernel_rfl) (by kernel_rfl) (fun _ _ _ h => h) (Or.inl (And.intro ?hw33 ?hy33)) (by assumption) ?rest33
         case hw33 => rfl
         case hy33 => (intro wHy hSw; (try dsimp only at hSw); obtain ⟨y0, y1, _⟩ := hSw; replace y0 := y0.cell; replace y1 := y1.cell; go_simp; (first | done | with_reducible rfl)))
      | (refine wpAnyH_takeL (i := 0) (v := undef) rfl (by kernel_rfl) (by kernel_rfl) (by kernel_rfl) (fun _ _ _ h => h) (Or.inr (And.intro (by rfl) rfl)) (by assumption) ?rest33x))
     (try simp only [Act.put, List.setIfInBounds_toArray, List.set_cons_zero, List.set_cons_succ]))
    ((first
      | (refine wpAnyH_takeL (i := 1) (v := ?hv34) rfl (by kernel_rfl) (by kernel_rfl) (by kernel_rfl) (fun _ _ _ h => h) (Or.inl (And.intro ?hw34 ?hy34)) (by assumption) ?rest34
         case hw34 => rfl
         case hy34 => (intro wHy hSw; (try dsimp only at hSw); obtain ⟨y0, y1, _⟩ := hSw; replace y0 := y0.cell; replace y1 := y1.cell; go_simp; (first | done | with_reducible rfl)))
      | (refine wpAnyH_takeL (i := 1) (v := undef) rfl (by kernel_rfl) (by kernel_rfl) (by kernel_rfl) (fun _ _ _ h => h) (Or.inr (And.intro (by rfl) rfl)) (by assumption) ?rest34x))
     (try simp only [Act.put, List.setIfInBounds_toArray, List.set_cons_zero, List.set_cons_succ]))
    ((first
      | (refine wpAnyH_takeL (i := 2) (v := ?hv35) rfl (by kernel_rfl) (by kernel_rfl) (by kernel_rfl) (fun _ _ _ h => h) (Or.inl (And.intro ?hw35 ?hy35)) (by assumption) ?rest35
         case hw35 => rfl
         case hy35 => (intro wHy hSw; (try dsimp only at hSw); obtain ⟨y0, y1, _⟩ := hSw; replace y0 := y0.cell; replace y1 := y1.cell; go_simp; (first | done | with_reducible rfl)))
      | (refine wpAnyH_takeL (i := 2) (v := undef) rfl (by kernel_rfl) (by kernel_rfl) (by kernel_rfl) (fun _ _ _ h => h) (Or.inr (And.intro (by rfl) rfl)) (by assumption) ?rest35x))
     (try simp only [Act.put, List.setIfInBounds_toArray, List.set_cons_zero, List.set_cons_succ]))
    ((first
      | (refine wpAnyH_takeL (i := 3) (v := ?hv36) rfl (by kernel_rfl) (by kernel_rfl) (by kernel_rfl) (fun _ _ _ h => h) (Or.inl (And.intro ?hw36 ?hy36)) (by assumption) ?rest36
         case hw36 => rfl
         case hy36 => (intro wHy hSw; (try dsimp only at hSw); obtain ⟨y0, y1, _⟩ := hSw; replace y0 := y0.cell; replace y1 := y1.cell; go_simp; (first | done | with_reducible rfl)))
      | (refine wpAnyH_takeL (i := 3) (v := undef) rfl (by kernel_rfl) (by kernel_rfl) (by kernel_rfl) (fun _ _ _ h => h) (Or.inr (And.intro (by rfl) rfl)) (by assumption) ?rest36x))
     (try simp only [Act.put, List.setIfInBounds_toArray, List.set_cons_zero, List.set_cons_succ]))
    ((first
      | (refine wpAnyH_takeL (i := 4) (v := ?hv37) rfl (by kernel_rfl) (by kernel_rfl) (by kernel_rfl) (fun _ _ _ h => h) (Or.inl (And.intro ?hw37 ?hy37)) (by assumption) ?rest37
         case hw37 => rfl
         case hy37 => (intro wHy hSw; (try dsimp only at hSw); obtain ⟨y0, y1, _⟩ := hSw; replace y0 := y0.cell; replace y1 := y1.cell; go_simp; (first | done | with_reducible rfl)))
      | (refine wpAnyH_takeL (i := 4) (v := undef) rfl (by kernel_rfl) (by kernel_rfl) (by kernel_rfl) (fun _ _ _ h => h) (Or.inr (And.intro (by rfl) rfl)) (by assumption) ?rest37x))
     (try simp only [Act.put, List.setIfInBounds_toArray, List.set_cons_zero, List.set_cons_succ]))
    ((first
      | (refine wpAnyH_takeL (i := 5) (v := ?hv38) rfl (by kernel_rfl) (by kernel_rfl) (by kernel_rfl) (fun _ _ _ h => h) (Or.inl (And.intro ?hw38 ?hy38)) (by assumption) ?rest38
         case hw38 => rfl
         case hy38 => (intro wHy hSw; (try dsimp only at hSw); obtain ⟨y0, y1, _⟩ := hSw; replace y0 := y0.cell; replace y1 := y1.cell; go_simp; (first | done | with_reducible rfl)))
      | (refine wpAnyH_takeL (i := 5) (v := undef) rfl (by kernel_rfl) (by kernel_rfl) (by kernel_rfl) (fun _ _ _ h => h) (Or.inr (And.intro (by rfl) rfl)) (by assumption) ?rest38x))
     (try simp only [Act.put, List.setIfInBounds_toArray, List.set_cons_zero, List.set_cons_succ]))
    ((first
      | (refine wpAnyH_takeL (i := 6) (v := ?hv39) rfl (by kernel_rfl) (by kernel_rfl) (by kernel_rfl) (fun _ _ _ h => h) (Or.inl (And.intro ?hw39 ?hy39)) (by assumption) ?rest39
         case hw39 => rfl
         case hy39 => (intro wHy hSw; (try dsimp only at hSw); obtain ⟨y0, y1, _⟩ := hSw; replace y0 := y0.cell; replace y1 := y1.cell; go_simp; (first | done | with_reducible rfl)))
      | (refine wpAnyH_takeL (i := 6) (v := undef) rfl (by kernel_rfl) (by kernel_rfl) (by kernel_rfl) (fun _ _ _ h => h) (Or.inr (And.intro (by rfl) rfl)) (by assumption) ?rest39x))
     (try simp only [Act.put, List.setIfInBounds_toArray, List.set_cons_zero, List.set_cons_succ]))
    ((first
      | (refine wpAnyH_takeL (i := 7) (v := ?hv40) rfl (by kernel_rfl) (by kernel_rfl) (by kernel_rfl) (fun _ _ _ h => h) (Or.inl (And.intro ?hw40 ?hy40)) (by assumption) ?rest40
         case hw40 => rfl
         case hy40 => (intro wHy hSw; (try dsimp only at hSw); obtain ⟨y0, y1, _⟩ := hSw; replace y0 := y0.cell; replace y1 := y1.cell; go_simp; (first | done | with_reducible rfl)))
      | (refine wpAnyH_takeL (i := 7) (v := undef) rfl (by kernel_rfl) (by kernel_rfl) (by kernel_rfl) (fun _ _ _ h => h) (Or.inr (And.intro (by rfl) rfl)) (by assumption) ?rest40x))
     (try simp only [Act.put, List.setIfInBounds_toArray, List.set_cons_zero, List.set_cons_succ]))
    ((first
      | (refine wpAnyH_takeL (i := 8) (v := ?hv41) rfl (by kernel_rfl) (by kernel_rfl) (by kernel_rfl) (fun _ _ _ h => h) (Or.inl (And.intro ?hw41 ?hy41)) (by assumption) ?rest41
         case hw41 => rfl
         case hy41 => (intro wHy hSw; (try dsimp only at hSw); obtain ⟨y0, y1, _⟩ := hSw; replace y0 := y0.cell; replace y1 := y1.cell; go_simp; (first | done | with_reducible rfl)))
      | (refine wpAnyH_takeL (i := 8) (v := undef) rfl (by kernel_rfl) (by kernel_rfl) (by kernel_rfl) (fun _ _ _ h => h) (Or.inr (And.intro (by rfl) rfl)) (by assumption) ?rest41x))
     (try simp only [Act.put, List.setIfInBounds_toArray, List.set_cons_zero, List.set_cons_succ]))
    ((first
      | (refine wpAnyH_takeL (i := 9) (v := ?hv42) rfl (by kernel_rfl) (by kernel_rfl) (by kernel_rfl) (fun _ _ _ h => h) (Or.inl (And.intro ?hw42 ?hy42)) (by assumption) ?rest42
         case hw42 => rfl
         case hy42 => (intro wHy hSw; (try dsimp only at hSw); obtain ⟨y0, y1, _⟩ := hSw; replace y0 := y0.cell; replace y1 := y1.cell; go_simp; (first | done | with_reducible rfl)))
      | (refine wpAnyH_takeL (i := 9) (v := undef) rfl (by kernel_rfl) (by kernel_rfl) (by kernel_rfl) (fun _ _ _ h => h) (Or.inr (And.intro (by rfl) rfl)) (by assumption) ?rest42x))
     (try simp only [Act.put, List.setIfInBounds_toArray, List.set_cons_zero, List.set_cons_succ]))
    ((first
      | (refine wpAnyH_takeL (i := 10) (v := ?hv43) rfl (by kernel_rfl) (by kernel_rfl) (by kernel_rfl) (fun _ _ _ h => h) (Or.inl (And.intro ?hw43 ?hy43)) (by assumption) ?rest43
         case hw43 => rfl
         case hy43 => (intro wHy hSw; (try dsimp only at hSw); obtain ⟨y0, y1, _⟩ := hSw; replace y0 := y0.cell; replace y1 := y1.cell; go_simp; (first | done | with_reducible rfl)))
      | (refine wpAnyH_takeL (i := 10) (v := undef) rfl (by kernel_rfl) (by kernel_rfl) (by kernel_rfl) (fun _ _ _ h => h) (Or.inr (And.intro (by rfl) rfl)) (by assumption) ?rest43x))
     (try simp only [Act.put, List.setIfInBounds_toArray, List.set_cons_zero, List.set_cons_succ]))
    ((first
      | (refine wpAnyH_takeL (i := 11) (v := ?hv44) rfl (by kernel_rfl) (by kernel_rfl) (by kernel_rfl) (fun _ _ _ h => h) (Or.inl (And.intro ?hw44 ?hy44)) (by assumption) ?rest44
         case hw44 => rfl
         case hy44 => (intro wHy hSw; (try dsimp only at hSw); obtain ⟨y0, y1, _⟩ := hSw; replace y0 := y0.cell; replace y1 := y1.cell; go_simp; (first | done | with_reducible rfl)))
      | (refine wpAnyH_takeL (i := 11) (v := undef) rfl (by kernel_rfl) (by kernel_rfl) (by kernel_rfl) (fun _ _ _ h => h) (Or.inr (And.intro (by rfl) rfl)) (by assumption) ?rest44x))
     (try simp only [Act.put, List.setIfInBounds_toArray, List.set_cons_zero, List.set_cons_succ]))
    ((first
      | (refine wpAnyH_takeL (i := 13) (v := ?hv45) rfl (by kernel_rfl) (by kernel_rfl) (by kernel_rfl) (fun _ _ _ h => h) (Or.inl (And.intro ?hw45 ?hy45)) (by assumption) ?rest45
         case hw45 => rfl
         case hy45 => (intro wHy hSw; (try dsimp only at hSw); obtain ⟨y0, y1, _⟩ := hSw; replace y0 := y0.cell; replace y1 := y1.cell; go_simp; (first | done | with_reducible rfl)))
      | (refine wpAnyH_takeL (i := 13) (v := undef) rfl (by kernel_rfl) (by kernel_rfl) (by kernel_rfl) (fun _ _ _ h => h) (Or.inr (And.intro (by rfl) rfl)) (by assumption) ?rest45x))
     (try simp only [Act.put, List.setIfInBounds_toArray, List.set_cons_zero, List.set_cons_succ]))
    ((first
      | (refine wpAnyH_takeL (i := 14) (v := ?hv46) rfl (by kernel_rfl) (by kernel_rfl) (by kernel_rfl) (fun _ _ _ h => h) (Or.inl (And.intro ?hw46 ?hy46)) (by assumption) ?rest46
         case hw46 => rfl
         case hy46 => (intro wHy hSw; (try dsimp only at hSw); obtain ⟨y0, y1, _⟩ := hSw; replace y0 := y0.cell; replace y1 := y1.cell; go_simp; (first | done | with_reducible rfl)))
      | (refine wpAnyH_takeL (i := 14) (v := undef) rfl (by kernel_rfl) (by kernel_rfl) (by kernel_rfl) (fun _ _ _ h => h) (Or.inr (And.intro (by rfl) rfl)) (by assumption) ?rest46x))
     (try simp only [Act.put, List.setIfInBounds_toArray, List.set_cons_zero, List.set_cons_succ]))
    refine wpAnyH_ready (rs := [12]) (by kernel_rfl) (by simp) (AllReadyH.consL rfl (fun K hKcc => ?_) AllReadyH.nil)
    go_simp
    refine (hG3 _).mono ?_
    rintro e_ v9 ⟨rfl, hKn⟩
    refine hKcc.out _ _ ?held47 (fun hHeld => ?_)
    case held47 => ((try dsimp only); exact ⟨hp.kept hKn id, hq.kept hKn id, hK.trans hKn⟩)
    clear hKcc K
    (try simp only [Act.put, List.setIfInBounds_toArray, List.set_cons_zero, List.set_cons_succ])
    clear hKn
    clear hp hq hK
    have hHs := hHeld
    (try dsimp only at hHs)
    obtain ⟨hp, hq, hK⟩ := hHs
    refine wpAnyH_ready (rs := [15]) (by kernel_rfl) (by simp) (AllReadyH.consL rfl (fun K hKcc => ?_) AllReadyH.nil)
    go_simp
    refine (hG4 _).mono ?_
    rintro e_ v10 ⟨rfl, hKn⟩
    refine hKcc.out _ _ ?held48 (fun hHeld => ?_)
    case held48 => ((try dsimp only); exact ⟨hp.kept hKn id, hq.kept hKn id, hK.trans hKn⟩)
    clear hKcc K
    (try simp only [Act.put, List.setIfInBounds_toArray, List.set_cons_zero, List.set_cons_succ])
    clear hKn
    clear hp hq hK
    have hHs := hHeld
    (try dsimp only at hHs)
    obtain ⟨hp, hq, hK⟩ := hHs
    ((first
      | (refine wpAnyH_takeL (i := 16) (v := ?hv49) rfl (by kernel_rfl) (by kernel_rfl) (by kernel_rfl) (fun _ _ _ h => h) (Or.inl (And.intro ?hw49 ?hy49)) (by assumption) ?rest49
         case hw49 => rfl
         case hy49 => (intro wHy hSw; (try dsimp only at hSw); obtain ⟨y0, y1, _⟩ := hSw; replace y0 := y0.cell; replace y1 := y1.cell; go_simp; (first | done | with_reducible rfl)))
      | (refine wpAnyH_takeL (i := 16) (v := undef) rfl (by kernel_rfl) (by kernel_rfl) (by kernel_rfl) (fun _ _ _ h => h) (Or.inr (And.intro (by rfl) rfl)) (by assumption) ?rest49x))
     (try simp only [Act.put, List.setIfInBounds_toArray, List.set_cons_zero, List.set_cons_succ]))
    ((first
      | (refine wpAnyH_takeL (i := 17) (v := ?hv50) rfl (by kernel_rfl) (by kernel_rfl) (by kernel_rfl) (fun _ _ _ h => h) (Or.inl (And.intro ?hw50 ?hy50)) (by assumption) ?rest50
         case hw50 => rfl
         case hy50 => (intro wHy hSw; (try dsimp only at hSw); obtain ⟨y0, y1, _⟩ := hSw; replace y0 := y0.cell; replace y1 := y1.cell; go_simp; (first | done | with_reducible rfl)))
      | (refine wpAnyH_takeL (i := 17) (v := undef) rfl (by kernel_rfl) (by kernel_rfl) (by kernel_rfl) (fun _ _ _ h => h) (Or.inr (And.intro (by rfl) rfl)) (by assumption) ?rest50x))
     (try simp only [Act.put, List.setIfInBounds_toArray, List.set_cons_zero, List.set_cons_succ]))
    ((first
      | (refine wpAnyH_takeL (i := 18) (v := ?hv51) rfl (by kernel_rfl) (by kernel_rfl) (by kernel_rfl) (fun _ _ _ h => h) (Or.inl (And.intro ?hw51 ?hy51)) (by assumption) ?rest51
         case hw51 => rfl
         case hy51 => (intro wHy hSw; (try dsimp only at hSw); obtain ⟨y0, y1, _⟩ := hSw; replace y0 := y0.cell; replace y1 := y1.cell; go_simp; (first | done | with_reducible rfl)))
      | (refine wpAnyH_takeL (i := 18) (v := undef) rfl (by kernel_rfl) (by kernel_rfl) (by kernel_rfl) (fun _ _ _ h => h) (Or.inr (And.intro (by rfl) rfl)) (by assumption) ?rest51x))
     (try simp only [Act.put, List.setIfInBounds_toArray, List.set_cons_zero, List.set_cons_succ]))
    ((first
      | (refine wpAnyH_takeL (i := 19) (v := ?hv52) rfl (by kernel_rfl) (by kernel_rfl) (by kernel_rfl) (fun _ _ _ h => h) (Or.inl (And.intro ?hw52 ?hy52)) (by assumption) ?rest52
         case hw52 => rfl
         case hy52 => (intro wHy hSw; (try dsimp only at hSw); obtain ⟨y0, y1, _⟩ := hSw; replace y0 := y0.cell; replace y1 := y1.cell; go_simp; (first | done | with_reducible rfl)))
      | (refine wpAnyH_takeL (i := 19) (v := undef) rfl (by kernel_rfl) (by kernel_rfl) (by kernel_rfl) (fun _ _ _ h => h) (Or.inr (And.intro (by rfl) rfl)) (by assumption) ?rest52x))
     (try simp only [Act.put, List.setIfInBounds_toArray, List.set_cons_zero, List.set_cons_succ]))
    refine wpAnyH_done (by kernel_rfl) ?_ _
    have c_hp := hp.cell
    have f_hp := hp.frozen
    have c_hq := hq.cell
    have f_hq := hq.frozen
    go_wp2
    go_ret
    exact ⟨rfl, hK⟩
  ·
    have hM' : bits .and .u64 ((mskN ps pn : Nat) : Int) ((mskN qs qn : Nat) : Int) = 0 := by rw [hM, Hmm.out.2 (.inr c2)]; rfl
    clear hM
    rw [← Hfar.out (.inr c2)] at hG4
    have t1 : decide ((ps : Int) + (pn : Int) ≤ (qs : Int)) = false := decide_eq_false (by omega)
    have t2 : decide ((qs : Int) + (qn : Int) ≤ (ps : Int)) = true := decide_eq_true (by omega)
    generalize getN x1 qs qn = z at *
    go_wp2_with fail
    clear c_hp f_hp c_hq f_hq
    refine wp_region_held_drew (S := (fun V => Bk V ((v2).heap.size) 70 (#[.int .i64 ps, .int .i64 pn] : Array Value) ∧ Bk V ((v3).heap.size) 70 (#[.int .i64 qs, .int .i64 qn] : Array Value) ∧ Kept NoBlk w V)) (by kernel_rfl) (by ((try dsimp only); exact ⟨Bk.drew hp, Bk.drew hq, hK.drew⟩)) (fun hHeld => ?_)
    clear hp hq hK
    have hHs := hHeld
    (try dsimp only at hHs)
    obtain ⟨hp, hq, hK⟩ := hHs
    ((first
      | (refine wpAnyH_takeL (i := 0) (v := ?hv53) rfl (by kernel_rfl) (by kernel_rfl) (by kernel_rfl) (fun _ _ _ h => h) (Or.inl (And.intro ?hw53 ?hy53)) (by assumption) ?rest53
         case hw53 => rfl
         case hy53 => (intro wHy hSw; (try dsimp only at hSw); obtain ⟨y0, y1, _⟩ := hSw; replace y0 := y0.cell; replace y1 := y1.cell; go_simp; (first | done | with_reducible rfl)))
      | (refine wpAnyH_takeL (i := 0) (v := undef) rfl (by kernel_rfl) (by kernel_rfl) (by kernel_rfl) (fun _ _ _ h => h) (Or.inr (And.intro (by rfl) rfl)) (by assumption) ?rest53x))
     (try simp only [Act.put, List.setIfInBounds_toArray, List.set_cons_zero, List.set_cons_succ]))
    ((first
      | (refine wpAnyH_takeL (i := 1) (v := ?hv54) rfl (by kernel_rfl) (by kernel_rfl) (by kernel_rfl) (fun _ _ _ h => h) (Or.inl (And.intro ?hw54 ?hy54)) (by assumption) ?rest54
         case hw54 => rfl
         case hy54 => (intro wHy hSw; (try dsimp only at hSw); obtain ⟨y0, y1, _⟩ := hSw; replace y0 := y0.cell; replace y1 := y1.cell; go_simp; (first | done | with_reducible rfl)))
      | (refine wpAnyH_takeL (i := 1) (v := undef) rfl (by kernel_rfl) (by kernel_rfl) (by kernel_rfl) (fun _ _ _ h => h) (Or.inr (And.intro (by rfl) rfl)) (by assumption) ?rest54x))
     (try simp only [Act.put, List.setIfInBounds_toArray, List.set_cons_zero, List.set_cons_succ]))
    ((first
      | (refine wpAnyH_takeL (i := 3) (v := ?hv55) rfl (by kernel_rfl) (by kernel_rfl) (by kernel_rfl) (fun _ _ _ h => h) (Or.inl (And.intro ?hw55 ?hy55)) (by assumption) ?rest55
         case hw55 => rfl
         case hy55 => (intro wHy hSw; (try dsimp only at hSw); obtain ⟨y0, y1, _⟩ := hSw; replace y0 := y0.cell; replace y1 := y1.cell; go_simp; (first | done | with_reducible rfl)))
      | (refine wpAnyH_takeL (i := 3) (v := undef) rfl (by kernel_rfl) (by kernel_rfl) (by kernel_rfl) (fun _ _ _ h => h) (Or.inr (And.intro (by rfl) rfl)) (by assumption) ?rest55x))
     (try simp only [Act.put, List.setIfInBounds_toArray, List.set_cons_zero, List.set_cons_succ]))
    refine wpAnyH_ready (rs := [2]) (by kernel_rfl) (by simp) (AllReadyH.consL rfl (fun K hKcc => ?_) AllReadyH.nil)
    go_simp
    refine (mask_part _ _ p1 p2 _).mono ?_
    rintro e_ v5 ⟨rfl, hKn⟩
    refine hKcc.out _ _ ?held56 (fun hHeld => ?_)
    case held56 => ((try dsimp only); exact ⟨hp.kept hKn id, hq.kept hKn id, hK.trans hKn⟩)
    clear hKcc K
    (try simp only [Act.put, List.setIfInBounds_toArray, List.set_cons_zero, List.set_cons_succ])
    clear hKn
    clear hp hq hK
    have hHs := hHeld
    (try dsimp only at hHs)
    obtain ⟨hp, hq, hK⟩ := hHs
    refine wpAnyH_ready (rs := [4]) (by kernel_rfl) (by simp) (AllReadyH.consL rfl (fun K hKcc => ?_) AllReadyH.nil)
    go_simp
    refine (mask_part _ _ q1 q2 _).mono ?_
    rintro e_ v6 ⟨rfl, hKn⟩
    refine hKcc.out _ _ ?held57 (fun hHeld => ?_)
    case held57 => ((try dsimp only); exact ⟨hp.kept hKn id, hq.kept hKn id, hK.trans hKn⟩)
    clear hKcc K
    (try simp only [Act.put, List.setIfInBounds_toArray, List.set_cons_zero, List.set_cons_succ])
    clear hKn
    clear hp hq hK
    have hHs := hHeld
    (try dsimp only at hHs)
    obtain ⟨hp, hq, hK⟩ := hHs
    ((first
      | (refine wpAnyH_takeL (i := 5) (v := ?hv58) rfl (by kernel_rfl) (by kernel_rfl) (by kernel_rfl) (fun _ _ _ h => h) (Or.inl (And.intro ?hw58 ?hy58)) (by assumption) ?rest58
         case hw58 => rfl
         case hy58 => (intro wHy hSw; (try dsimp only at hSw); obtain ⟨y0, y1, _⟩ := hSw; replace y0 := y0.cell; replace y1 := y1.cell; go_simp; (first | done | with_reducible rfl)))
      | (refine wpAnyH_takeL (i := 5) (v := undef) rfl (by kernel_rfl) (by kernel_rfl) (by kernel_rfl) (fun _ _ _ h => h) (Or.inr (And.intro (by rfl) rfl)) (by assumption) ?rest58x))
     (try simp only [Act.put, List.setIfInBounds_toArray, List.set_cons_zero, List.set_cons_succ]))
    ((first
      | (refine wpAnyH_takeL (i := 6) (v := ?hv59) rfl (by kernel_rfl) (by kernel_rfl) (by kernel_rfl) (fun _ _ _ h => h) (Or.inl (And.intro ?hw59 ?hy59)) (by assumption) ?rest59
         case hw59 => rfl
         case hy59 => (intro wHy hSw; (try dsimp only at hSw); obtain ⟨y0, y1, _⟩ := hSw; replace y0 := y0.cell; replace y1 := y1.cell; go_simp; (first | done | with_reducible rfl)))
      | (refine wpAnyH_takeL (i := 6) (v := undef) rfl (by kernel_rfl) (by kernel_rfl) (by kernel_rfl) (fun _ _ _ h => h) (Or.inr (And.intro (by rfl) rfl)) (by assumption) ?rest59x))
     (try simp only [Act.put, List.setIfInBounds_toArray, List.set_cons_zero, List.set_cons_succ]))
    ((first
      | (refine wpAnyH_takeL (i := 7) (v := ?hv60) rfl (by kernel_rfl) (by kernel_rfl) (by kernel_rfl) (fun _ _ _ h => h) (Or.inl (And.intro ?hw60 ?hy60)) (by assumption) ?rest60
         case hw60 => rfl
         case hy60 => (intro wHy hSw; (try dsimp only at hSw); obtain ⟨y0, y1, _⟩ := hSw; replace y0 := y0.cell; replace y1 := y1.cell; go_simp; (first | done | with_reducible rfl)))
      | (refine wpAnyH_takeL (i := 7) (v := undef) rfl (by kernel_rfl) (by kernel_rfl) (by kernel_rfl) (fun _ _ _ h => h) (Or.inr (And.intro (by rfl) rfl)) (by assumption) ?rest60x))
     (try simp only [Act.put, List.setIfInBounds_toArray, List.set_cons_zero, List.set_cons_succ]))
    refine wpAnyH_done (by kernel_rfl) ?_ _
    have c_hp := hp.cell
    have f_hp := hp.frozen
    have c_hq := hq.cell
    have f_hq := hq.frozen
    go_wp2_with fail
    clear c_hp f_hp c_hq f_hq
    refine wp_region_held_drew (S := (fun V => Bk V ((v2).heap.size) 70 (#[.int .i64 ps, .int .i64 pn] : Array Value) ∧ Bk V ((v3).heap.size) 70 (#[.int .i64 qs, .int .i64 qn] : Array Value) ∧ Kept NoBlk w V)) (by kernel_rfl) (by ((try dsimp only); exact ⟨Bk.drew hp, Bk.drew hq, hK.drew⟩)) (fun hHeld => ?_)
    clear hp hq hK
    have hHs := hHeld
    (try dsimp only at hHs)
    obtain ⟨hp, hq, hK⟩ := hHs
    ((first
      | (refine wpAnyH_takeL (i := 0) (v := ?hv61) rfl (by kernel_rfl) (by kernel_rfl) (by kernel_rfl) (fun _ _ _ h => h) (Or.inl (And.intro ?hw61 ?hy61)) (by assumption) ?rest61
         case hw61 => rfl
         case hy61 => (intro wHy hSw; (try dsimp only at hSw); obtain ⟨y0, y1, _⟩ := hSw; replace y0 := y0.cell; replace y1 := y1.cell; go_simp; (first | done | with_reducible rfl)))
      | (refine wpAnyH_takeL (i := 0) (v := undef) rfl (by kernel_rfl) (by kernel_rfl) (by kernel_rfl) (fun _ _ _ h => h) (Or.inr (And.intro (by rfl) rfl)) (by assumption) ?rest61x))
     (try simp only [Act.put, List.setIfInBounds_toArray, List.set_cons_zero, List.set_cons_succ]))
    ((first
      | (refine wpAnyH_takeL (i := 1) (v := ?hv62) rfl (by kernel_rfl) (by kernel_rfl) (by kernel_rfl) (fun _ _ _ h => h) (Or.inl (And.intro ?hw62 ?hy62)) (by assumption) ?rest62
         case hw62 => rfl
         case hy62 => (intro wHy hSw; (try dsimp only at hSw); obtain ⟨y0, y1, _⟩ := hSw; replace y0 := y0.cell; replace y1 := y1.cell; go_simp; (first | done | with_reducible rfl)))
      | (refine wpAnyH_takeL (i := 1) (v := undef) rfl (by kernel_rfl) (by kernel_rfl) (by kernel_rfl) (fun _ _ _ h => h) (Or.inr (And.intro (by rfl) rfl)) (by assumption) ?rest62x))
     (try simp only [Act.put, List.setIfInBounds_toArray, List.set_cons_zero, List.set_cons_succ]))
    ((first
      | (refine wpAnyH_takeL (i := 2) (v := ?hv63) rfl (by kernel_rfl) (by kernel_rfl) (by kernel_rfl) (fun _ _ _ h => h) (Or.inl (And.intro ?hw63 ?hy63)) (by assumption) ?rest63
         case hw63 => rfl
         case hy63 => (intro wHy hSw; (try dsimp only at hSw); obtain ⟨y0, y1, _⟩ := hSw; replace y0 := y0.cell; replace y1 := y1.cell; go_simp; (first | done | with_reducible rfl)))
      | (refine wpAnyH_takeL (i := 2) (v := undef) rfl (by kernel_rfl) (by kernel_rfl) (by kernel_rfl) (fun _ _ _ h => h) (Or.inr (And.intro (by rfl) rfl)) (by assumption) ?rest63x))
     (try simp only [Act.put, List.setIfInBounds_toArray, List.set_cons_zero, List.set_cons_succ]))
    ((first
      | (refine wpAnyH_takeL (i := 3) (v := ?hv64) rfl (by kernel_rfl) (by kernel_rfl) (by kernel_rfl) (fun _ _ _ h => h) (Or.inl (And.intro ?hw64 ?hy64)) (by assumption) ?rest64
         case hw64 => rfl
         case hy64 => (intro wHy hSw; (try dsimp only at hSw); obtain ⟨y0, y1, _⟩ := hSw; replace y0 := y0.cell; replace y1 := y1.cell; go_simp; (first | done | with_reducible rfl)))
      | (refine wpAnyH_takeL (i := 3) (v := undef) rfl (by kernel_rfl) (by kernel_rfl) (by kernel_rfl) (fun _ _ _ h => h) (Or.inr (And.intro (by rfl) rfl)) (by assumption) ?rest64x))
     (try simp only [Act.put, List.setIfInBounds_toArray, List.set_cons_zero, List.set_cons_succ]))
    refine wpAnyH_ready (rs := [4]) (by kernel_rfl) (by simp) (AllReadyH.consL rfl (fun K hKcc => ?_) AllReadyH.nil)
    go_simp
    refine (hG2 _).mono ?_
    rintro e_ v7 ⟨rfl, hKn⟩
    refine hKcc.out _ _ ?held65 (fun hHeld => ?_)
    case held65 => ((try dsimp only); exact ⟨hp.kept hKn id, hq.kept hKn id, hK.trans hKn⟩)
    clear hKcc K
    (try simp only [Act.put, List.setIfInBounds_toArray, List.set_cons_zero, List.set_cons_succ])
    clear hKn
    clear hp hq hK
    have hHs := hHeld
    (try dsimp only at hHs)
    obtain ⟨hp, hq, hK⟩ := hHs
    refine wpAnyH_ready (rs := [5]) (by kernel_rfl) (by simp) (AllReadyH.consL rfl (fun K hKcc => ?_) AllReadyH.nil)
    go_simp
    refine (hS2 _).mono ?_
    rintro e_ v8 ⟨rfl, hKn⟩
    refine hKcc.out _ _ ?held66 (fun hHeld => ?_)
    case held66 => ((try dsimp only); exact ⟨hp.kept hKn id, hq.kept hKn id, hK.trans hKn⟩)
    clear hKcc K
    (try simp only [Act.put, List.setIfInBounds_toArray, List.set_cons_zero, List.set_cons_succ])
    clear hKn
    clear hp hq hK
    have hHs := hHeld
    (try dsimp only at hHs)
    obtain ⟨hp, hq, hK⟩ := hHs
    ((first
      | (refine wpAnyH_takeL (i := 6) (v := ?hv67) rfl (by kernel_rfl) (by kernel_rfl) (by kernel_rfl) (fun _ _ _ h => h) (Or.inl (And.intro ?hw67 ?hy67)) (by assumption) ?rest67
         case hw67 => rfl
         case hy67 => (intro wHy hSw; (try dsimp only at hSw); obtain ⟨y0, y1, _⟩ := hSw; replace y0 := y0.cell; replace y1 := y1.cell; go_simp; (first | done | with_reducible rfl)))
      | (refine wpAnyH_takeL (i := 6) (v := undef) rfl (by kernel_rfl) (by kernel_rfl) (by kernel_rfl) (fun _ _ _ h => h) (Or.inr (And.intro (by rfl) rfl)) (by assumption) ?rest67x))
     (try simp only [Act.put, List.setIfInBounds_toArray, List.set_cons_zero, List.set_cons_succ]))
    ((first
      | (refine wpAnyH_takeL (i := 7) (v := ?hv68) rfl (by kernel_rfl) (by kernel_rfl) (by kernel_rfl) (fun _ _ _ h => h) (Or.inl (And.intro ?hw68 ?hy68)) (by assumption) ?rest68
         case hw68 => rfl
         case hy68 => (intro wHy hSw; (try dsimp only at hSw); obtain ⟨y0, y1, _⟩ := hSw; replace y0 := y0.cell; replace y1 := y1.cell; go_simp; (first | done | with_reducible rfl)))
      | (refine wpAnyH_takeL (i := 7) (v := undef) rfl (by kernel_rfl) (by kernel_rfl) (by kernel_rfl) (fun _ _ _ h => h) (Or.inr (And.intro (by rfl) rfl)) (by assumption) ?rest68x))
     (try simp only [Act.put, List.setIfInBounds_toArray, List.set_cons_zero, List.set_cons_succ]))
    ((first
      | (refine wpAnyH_takeL (i := 8) (v := ?hv69) rfl (by kernel_rfl) (by kernel_rfl) (by kernel_rfl) (fun _ _ _ h => h) (Or.inl (And.intro ?hw69 ?hy69)) (by assumption) ?rest69
         case hw69 => rfl
         case hy69 => (intro wHy hSw; (try dsimp only at hSw); obtain ⟨y0, y1, _⟩ := hSw; replace y0 := y0.cell; replace y1 := y1.cell; go_simp; (first | done | with_reducible rfl)))
      | (refine wpAnyH_takeL (i := 8) (v := undef) rfl (by kernel_rfl) (by kernel_rfl) (by kernel_rfl) (fun _ _ _ h => h) (Or.inr (And.intro (by rfl) rfl)) (by assumption) ?rest69x))
     (try simp only [Act.put, List.setIfInBounds_toArray, List.set_cons_zero, List.set_cons_succ]))
    ((first
      | (refine wpAnyH_takeL (i := 9) (v := ?hv70) rfl (by kernel_rfl) (by kernel_rfl) (by kernel_rfl) (fun _ _ _ h => h) (Or.inl (And.intro ?hw70 ?hy70)) (by assumption) ?rest70
         case hw70 => rfl
         case hy70 => (intro wHy hSw; (try dsimp only at hSw); obtain ⟨y0, y1, _⟩ := hSw; replace y0 := y0.cell; replace y1 := y1.cell; go_simp; (first | done | with_reducible rfl)))
      | (refine wpAnyH_takeL (i := 9) (v := undef) rfl (by kernel_rfl) (by kernel_rfl) (by kernel_rfl) (fun _ _ _ h => h) (Or.inr (And.intro (by rfl) rfl)) (by assumption) ?rest70x))
     (try simp only [Act.put, List.setIfInBounds_toArray, List.set_cons_zero, List.set_cons_succ]))
    ((first
      | (refine wpAnyH_takeL (i := 10) (v := ?hv71) rfl (by kernel_rfl) (by kernel_rfl) (by kernel_rfl) (fun _ _ _ h => h) (Or.inl (And.intro ?hw71 ?hy71)) (by assumption) ?rest71
         case hw71 => rfl
         case hy71 => (intro wHy hSw; (try dsimp only at hSw); obtain ⟨y0, y1, _⟩ := hSw; replace y0 := y0.cell; replace y1 := y1.cell; go_simp; (first | done | with_reducible rfl)))
      | (refine wpAnyH_takeL (i := 10) (v := undef) rfl (by kernel_rfl) (by kernel_rfl) (by kernel_rfl) (fun _ _ _ h => h) (Or.inr (And.intro (by rfl) rfl)) (by assumption) ?rest71x))
     (try simp only [Act.put, List.setIfInBounds_toArray, List.set_cons_zero, List.set_cons_succ]))
    refine wpAnyH_done (by kernel_rfl) ?_ _
    have c_hp := hp.cell
    have f_hp := hp.frozen
    have c_hq := hq.cell
    have f_hq := hq.frozen
    go_wp2_with fail
    clear c_hp f_hp c_hq f_hq
    refine wp_region_held_drew (S := (fun V => Bk V ((v2).heap.size) 70 (#[.int .i64 ps, .int .i64 pn] : Array Value) ∧ Bk V ((v3).heap.size) 70 (#[.int .i64 qs, .int .i64 qn] : Array Value) ∧ Kept NoBlk w V)) (by kernel_rfl) (by ((try dsimp only); exact ⟨Bk.drew hp, Bk.drew hq, hK.drew⟩)) (fun hHeld => ?_)
    clear hp hq hK
    have hHs := hHeld
    (try dsimp only at hHs)
    obtain ⟨hp, hq, hK⟩ := hHs
    ((first
      | (refine wpAnyH_takeL (i := 0) (v := ?hv72) rfl (by kernel_rfl) (by kernel_rfl) (by kernel_rfl) (fun _ _ _ h => h) (Or.inl (And.intro ?hw72 ?hy72)) (by assumption) ?rest72
         case hw72 => rfl
         case hy72 => (intro wHy hSw; (try dsimp only at hSw); obtain ⟨y0, y1, _⟩ := hSw; replace y0 := y0.cell; replace y1 := y1.cell; go_simp; (first | done | with_reducible rfl)))
      | (refine wpAnyH_takeL (i := 0) (v := undef) rfl (by kernel_rfl) (by kernel_rfl) (by kernel_rfl) (fun _ _ _ h => h) (Or.inr (And.intro (by rfl) rfl)) (by assumption) ?rest72x))
     (try simp only [Act.put, List.setIfInBounds_toArray, List.set_cons_zero, List.set_cons_succ]))
    ((first
      | (refine wpAnyH_takeL (i := 1) (v := ?hv73) rfl (by kernel_rfl) (by kernel_rfl) (by kernel_rfl) (fun _ _ _ h => h) (Or.inl (And.intro ?hw73 ?hy73)) (by assumption) ?rest73
         case hw73 => rfl
         case hy73 => (intro wHy hSw; (try dsimp only at hSw); obtain ⟨y0, y1, _⟩ := hSw; replace y0 := y0.cell; replace y1 := y1.cell; go_simp; (first | done | with_reducible rfl)))
      | (refine wpAnyH_takeL (i := 1) (v := undef) rfl (by kernel_rfl) (by kernel_rfl) (by kernel_rfl) (fun _ _ _ h => h) (Or.inr (And.intro (by rfl) rfl)) (by assumption) ?rest73x))
     (try simp only [Act.put, List.setIfInBounds_toArray, List.set_cons_zero, List.set_cons_succ]))
    ((first
      | (refine wpAnyH_takeL (i := 2) (v := ?hv74) rfl (by kernel_rfl) (by kernel_rfl) (by kernel_rfl) (fun _ _ _ h => h) (Or.inl (And.intro ?hw74 ?hy74)) (by assumption) ?rest74
         case hw74 => rfl
         case hy74 => (intro wHy hSw; (try dsimp only at hSw); obtain ⟨y0, y1, _⟩ := hSw; replace y0 := y0.cell; replace y1 := y1.cell; go_simp; (first | done | with_reducible rfl)))
      | (refine wpAnyH_takeL (i := 2) (v := undef) rfl (by kernel_rfl) (by kernel_rfl) (by kernel_rfl) (fun _ _ _ h => h) (Or.inr (And.intro (by rfl) rfl)) (by assumption) ?rest74x))
     (try simp only [Act.put, List.setIfInBounds_toArray, List.set_cons_zero, List.set_cons_succ]))
    ((first
      | (refine wpAnyH_takeL (i := 3) (v := ?hv75) rfl (by kernel_rfl) (by kernel_rfl) (by kernel_rfl) (fun _ _ _ h => h) (Or.inl (And.intro ?hw75 ?hy75)) (by assumption) ?rest75
         case hw75 => rfl
         case hy75 => (intro wHy hSw; (try dsimp only at hSw); obtain ⟨y0, y1, _⟩ := hSw; replace y0 := y0.cell; replace y1 := y1.cell; go_simp; (first | done | with_reducible rfl)))
      | (refine wpAnyH_takeL (i := 3) (v := undef) rfl (by kernel_rfl) (by kernel_rfl) (by kernel_rfl) (fun _ _ _ h => h) (Or.inr (And.intro (by rfl) rfl)) (by assumption) ?rest75x))
     (try simp only [Act.put, List.setIfInBounds_toArray, List.set_cons_zero, List.set_cons_succ]))
    ((first
      | (refine wpAnyH_takeL (i := 4) (v := ?hv76) rfl (by kernel_rfl) (by kernel_rfl) (by kernel_rfl) (fun _ _ _ h => h) (Or.inl (And.intro ?hw76 ?hy76)) (by assumption) ?rest76
         case hw76 => rfl
         case hy76 => (intro wHy hSw; (try dsimp only at hSw); obtain ⟨y0, y1, _⟩ := hSw; replace y0 := y0.cell; replace y1 := y1.cell; go_simp; (first | done | with_reducible rfl)))
      | (refine wpAnyH_takeL (i := 4) (v := undef) rfl (by kernel_rfl) (by kernel_rfl) (by kernel_rfl) (fun _ _ _ h => h) (Or.inr (And.intro (by rfl) rfl)) (by assumption) ?rest76x))
     (try simp only [Act.put, List.setIfInBounds_toArray, List.set_cons_zero, List.set_cons_succ]))
    ((first
      | (refine wpAnyH_takeL (i := 5) (v := ?hv77) rfl (by kernel_rfl) (by kernel_rfl) (by kernel_rfl) (fun _ _ _ h => h) (Or.inl (And.intro ?hw77 ?hy77)) (by assumption) ?rest77
         case hw77 => rfl
         case hy77 => (intro wHy hSw; (try dsimp only at hSw); obtain ⟨y0, y1, _⟩ := hSw; replace y0 := y0.cell; replace y1 := y1.cell; go_simp; (first | done | with_reducible rfl)))
      | (refine wpAnyH_takeL (i := 5) (v := undef) rfl (by kernel_rfl) (by kernel_rfl) (by kernel_rfl) (fun _ _ _ h => h) (Or.inr (And.intro (by rfl) rfl)) (by assumption) ?rest77x))
     (try simp only [Act.put, List.setIfInBounds_toArray, List.set_cons_zero, List.set_cons_succ]))
    ((first
      | (refine wpAnyH_takeL (i := 6) (v := ?hv78) rfl (by kernel_rfl) (by kernel_rfl) (by kernel_rfl) (fun _ _ _ h => h) (Or.inl (And.intro ?hw78 ?hy78)) (by assumption) ?rest78
         case hw78 => rfl
         case hy78 => (intro wHy hSw; (try dsimp only at hSw); obtain ⟨y0, y1, _⟩ := hSw; replace y0 := y0.cell; replace y1 := y1.cell; go_simp; (first | done | with_reducible rfl)))
      | (refine wpAnyH_takeL (i := 6) (v := undef) rfl (by kernel_rfl) (by kernel_rfl) (by kernel_rfl) (fun _ _ _ h => h) (Or.inr (And.intro (by rfl) rfl)) (by assumption) ?rest78x))
     (try simp only [Act.put, List.setIfInBounds_toArray, List.set_cons_zero, List.set_cons_succ]))
    ((first
      | (refine wpAnyH_takeL (i := 7) (v := ?hv79) rfl (by kernel_rfl) (by kernel_rfl) (by kernel_rfl) (fun _ _ _ h => h) (Or.inl (And.intro ?hw79 ?hy79)) (by assumption) ?rest79
         case hw79 => rfl
         case hy79 => (intro wHy hSw; (try dsimp only at hSw); obtain ⟨y0, y1, _⟩ := hSw; replace y0 := y0.cell; replace y1 := y1.cell; go_simp; (first | done | with_reducible rfl)))
      | (refine wpAnyH_takeL (i := 7) (v := undef) rfl (by kernel_rfl) (by kernel_rfl) (by kernel_rfl) (fun _ _ _ h => h) (Or.inr (And.intro (by rfl) rfl)) (by assumption) ?rest79x))
     (try simp only [Act.put, List.setIfInBounds_toArray, List.set_cons_zero, List.set_cons_succ]))
    ((first
      | (refine wpAnyH_takeL (i := 8) (v := ?hv80) rfl (by kernel_rfl) (by kernel_rfl) (by kernel_rfl) (fun _ _ _ h => h) (Or.inl (And.intro ?hw80 ?hy80)) (by assumption) ?rest80
         case hw80 => rfl
         case hy80 => (intro wHy hSw; (try dsimp only at hSw); obtain ⟨y0, y1, _⟩ := hSw; replace y0 := y0.cell; replace y1 := y1.cell; go_simp; (first | done | with_reducible rfl)))
      | (refine wpAnyH_takeL (i := 8) (v := undef) rfl (by kernel_rfl) (by kernel_rfl) (by kernel_rfl) (fun _ _ _ h => h) (Or.inr (And.intro (by rfl) rfl)) (by assumption) ?rest80x))
     (try simp only [Act.put, List.setIfInBounds_toArray, List.set_cons_zero, List.set_cons_succ]))
    ((first
      | (refine wpAnyH_takeL (i := 9) (v := ?hv81) rfl (by kernel_rfl) (by kernel_rfl) (by kernel_rfl) (fun _ _ _ h => h) (Or.inl (And.intro ?hw81 ?hy81)) (by assumption) ?rest81
         case hw81 => rfl
         case hy81 => (intro wHy hSw; (try dsimp only at hSw); obtain ⟨y0, y1, _⟩ := hSw; replace y0 := y0.cell; replace y1 := y1.cell; go_simp; (first | done | with_reducible rfl)))
      | (refine wpAnyH_takeL (i := 9) (v := undef) rfl (by kernel_rfl) (by kernel_rfl) (by kernel_rfl) (fun _ _ _ h => h) (Or.inr (And.intro (by rfl) rfl)) (by assumption) ?rest81x))
     (try simp only [Act.put, List.setIfInBounds_toArray, List.set_cons_zero, List.set_cons_succ]))
    ((first
      | (refine wpAnyH_takeL (i := 10) (v := ?hv82) rfl (by kernel_rfl) (by kernel_rfl) (by kernel_rfl) (fun _ _ _ h => h) (Or.inl (And.intro ?hw82 ?hy82)) (by assumption) ?rest82
         case hw82 => rfl
         case hy82 => (intro wHy hSw; (try dsimp only at hSw); obtain ⟨y0, y1, _⟩ := hSw; replace y0 := y0.cell; replace y1 := y1.cell; go_simp; (first | done | with_reducible rfl)))
      | (refine wpAnyH_takeL (i := 10) (v := undef) rfl (by kernel_rfl) (by kernel_rfl) (by kernel_rfl) (fun _ _ _ h => h) (Or.inr (And.intro (by rfl) rfl)) (by assumption) ?rest82x))
     (try simp only [Act.put, List.setIfInBounds_toArray, List.set_cons_zero, List.set_cons_succ]))
    ((first
      | (refine wpAnyH_takeL (i := 11) (v := ?hv83) rfl (by kernel_rfl) (by kernel_rfl) (by kernel_rfl) (fun _ _ _ h => h) (Or.inl (And.intro ?hw83 ?hy83)) (by assumption) ?rest83
         case hw83 => rfl
         case hy83 => (intro wHy hSw; (try dsimp only at hSw); obtain ⟨y0, y1, _⟩ := hSw; replace y0 := y0.cell; replace y1 := y1.cell; go_simp; (first | done | with_reducible rfl)))
      | (refine wpAnyH_takeL (i := 11) (v := undef) rfl (by kernel_rfl) (by kernel_rfl) (by kernel_rfl) (fun _ _ _ h => h) (Or.inr (And.intro (by rfl) rfl)) (by assumption) ?rest83x))
     (try simp only [Act.put, List.setIfInBounds_toArray, List.set_cons_zero, List.set_cons_succ]))
    ((first
      | (refine wpAnyH_takeL (i := 13) (v := ?hv84) rfl (by kernel_rfl) (by kernel_rfl) (by kernel_rfl) (fun _ _ _ h => h) (Or.inl (And.intro ?hw84 ?hy84)) (by assumption) ?rest84
         case hw84 => rfl
         case hy84 => (intro wHy hSw; (try dsimp only at hSw); obtain ⟨y0, y1, _⟩ := hSw; replace y0 := y0.cell; replace y1 := y1.cell; go_simp; (first | done | with_reducible rfl)))
      | (refine wpAnyH_takeL (i := 13) (v := undef) rfl (by kernel_rfl) (by kernel_rfl) (by kernel_rfl) (fun _ _ _ h => h) (Or.inr (And.intro (by rfl) rfl)) (by assumption) ?rest84x))
     (try simp only [Act.put, List.setIfInBounds_toArray, List.set_cons_zero, List.set_cons_succ]))
    ((first
      | (refine wpAnyH_takeL (i := 14) (v := ?hv85) rfl (by kernel_rfl) (by kernel_rfl) (by kernel_rfl) (fun _ _ _ h => h) (Or.inl (And.intro ?hw85 ?hy85)) (by assumption) ?rest85
         case hw85 => rfl
         case hy85 => (intro wHy hSw; (try dsimp only at hSw); obtain ⟨y0, y1, _⟩ := hSw; replace y0 := y0.cell; replace y1 := y1.cell; go_simp; (first | done | with_reducible rfl)))
      | (refine wpAnyH_takeL (i := 14) (v := undef) rfl (by kernel_rfl) (by kernel_rfl) (by kernel_rfl) (fun _ _ _ h => h) (Or.inr (And.intro (by rfl) rfl)) (by assumption) ?rest85x))
     (try simp only [Act.put, List.setIfInBounds_toArray, List.set_cons_zero, List.set_cons_succ]))
    refine wpAnyH_ready (rs := [12]) (by kernel_rfl) (by simp) (AllReadyH.consL rfl (fun K hKcc => ?_) AllReadyH.nil)
    go_simp
    refine (hG3 _).mono ?_
    rintro e_ v9 ⟨rfl, hKn⟩
    refine hKcc.out _ _ ?held86 (fun hHeld => ?_)
    case held86 => ((try dsimp only); exact ⟨hp.kept hKn id, hq.kept hKn id, hK.trans hKn⟩)
    clear hKcc K
    (try simp only [Act.put, List.setIfInBounds_toArray, List.set_cons_zero, List.set_cons_succ])
    clear hKn
    clear hp hq hK
    have hHs := hHeld
    (try dsimp only at hHs)
    obtain ⟨hp, hq, hK⟩ := hHs
    refine wpAnyH_ready (rs := [15]) (by kernel_rfl) (by simp) (AllReadyH.consL rfl (fun K hKcc => ?_) AllReadyH.nil)
    go_simp
    refine (hG4 _).mono ?_
    rintro e_ v10 ⟨rfl, hKn⟩
    refine hKcc.out _ _ ?held87 (fun hHeld => ?_)
    case held87 => ((try dsimp only); exact ⟨hp.kept hKn id, hq.kept hKn id, hK.trans hKn⟩)
    clear hKcc K
    (try simp only [Act.put, List.setIfInBounds_toArray, List.set_cons_zero, List.set_cons_succ])
    clear hKn
    clear hp hq hK
    have hHs := hHeld
    (try dsimp only at hHs)
    obtain ⟨hp, hq, hK⟩ := hHs
    ((first
      | (refine wpAnyH_takeL (i := 16) (v := ?hv88) rfl (by kernel_rfl) (by kernel_rfl) (by kernel_rfl) (fun _ _ _ h => h) (Or.inl (And.intro ?hw88 ?hy88)) (by assumption) ?rest88
         case hw88 => rfl
         case hy88 => (intro wHy hSw; (try dsimp only at hSw); obtain ⟨y0, y1, _⟩ := hSw; replace y0 := y0.cell; replace y1 := y1.cell; go_simp; (first | done | with_reducible rfl)))
      | (refine wpAnyH_takeL (i := 16) (v := undef) rfl (by kernel_rfl) (by kernel_rfl) (by kernel_rfl) (fun _ _ _ h => h) (Or.inr (And.intro (by rfl) rfl)) (by assumption) ?rest88x))
     (try simp only [Act.put, List.setIfInBounds_toArray, List.set_cons_zero, List.set_cons_succ]))
    ((first
      | (refine wpAnyH_takeL (i := 17) (v := ?hv89) rfl (by kernel_rfl) (by kernel_rfl) (by kernel_rfl) (fun _ _ _ h => h) (Or.inl (And.intro ?hw89 ?hy89)) (by assumption) ?rest89
         case hw89 => rfl
         case hy89 => (intro wHy hSw; (try dsimp only at hSw); obtain ⟨y0, y1, _⟩ := hSw; replace y0 := y0.cell; replace y1 := y1.cell; go_simp; (first | done | with_reducible rfl)))
      | (refine wpAnyH_takeL (i := 17) (v := undef) rfl (by kernel_rfl) (by kernel_rfl) (by kernel_rfl) (fun _ _ _ h => h) (Or.inr (And.intro (by rfl) rfl)) (by assumption) ?rest89x))
     (try simp only [Act.put, List.setIfInBounds_toArray, List.set_cons_zero, List.set_cons_succ]))
    ((first
      | (refine wpAnyH_takeL (i := 18) (v := ?hv90) rfl (by kernel_rfl) (by kernel_rfl) (by kernel_rfl) (fun _ _ _ h => h) (Or.inl (And.intro ?hw90 ?hy90)) (by assumption) ?rest90
         case hw90 => rfl
         case hy90 => (intro wHy hSw; (try dsimp only at hSw); obtain ⟨y0, y1, _⟩ := hSw; replace y0 := y0.cell; replace y1 := y1.cell; go_simp; (first | done | with_reducible rfl)))
      | (refine wpAnyH_takeL (i := 18) (v := undef) rfl (by kernel_rfl) (by kernel_rfl) (by kernel_rfl) (fun _ _ _ h => h) (Or.inr (And.intro (by rfl) rfl)) (by assumption) ?rest90x))
     (try simp only [Act.put, List.setIfInBounds_toArray, List.set_cons_zero, List.set_cons_succ]))
    ((first
      | (refine wpAnyH_takeL (i := 19) (v := ?hv91) rfl (by kernel_rfl) (by kernel_rfl) (by kernel_rfl) (fun _ _ _ h => h) (Or.inl (And.intro ?hw91 ?hy91)) (by assumption) ?rest91
         case hw91 => rfl
         case hy91 => (intro wHy hSw; (try dsimp only at hSw); obtain ⟨y0, y1, _⟩ := hSw; replace y0 := y0.cell; replace y1 := y1.cell; go_simp; (first | done | with_reducible rfl)))
      | (refine wpAnyH_takeL (i := 19) (v := undef) rfl (by kernel_rfl) (by kernel_rfl) (by kernel_rfl) (fun _ _ _ h => h) (Or.inr (And.intro (by rfl) rfl)) (by assumption) ?rest91x))
     (try simp only [Act.put, List.setIfInBounds_toArray, List.set_cons_zero, List.set_cons_succ]))
    refine wpAnyH_done (by kernel_rfl) ?_ _
    have c_hp := hp.cell
    have f_hp := hp.frozen
    have c_hq := hq.cell
    have f_hq := hq.frozen
    go_wp2
    go_ret
    exact ⟨rfl, hK⟩
  ·
    have hne : ¬ mm = 0 := fun h => by have := Hmm.out.1 h; omega
    have t1 : decide ((ps : Int) + (pn : Int) ≤ (qs : Int)) = false := decide_eq_false (by omega)
    have t2 : decide ((qs : Int) + (qn : Int) ≤ (ps : Int)) = false := decide_eq_false (by omega)
    go_wp2_with fail
    clear c_hp f_hp c_hq f_hq
    refine wp_region_held_drew (S := (fun V => Bk V ((v2).heap.size) 70 (#[.int .i64 ps, .int .i64 pn] : Array Value) ∧ Bk V ((v3).heap.size) 70 (#[.int .i64 qs, .int .i64 qn] : Array Value) ∧ Kept NoBlk w V)) (by kernel_rfl) (by ((try dsimp only); exact ⟨Bk.drew hp, Bk.drew hq, hK.drew⟩)) (fun hHeld => ?_)
    clear hp hq hK
    have hHs := hHeld
    (try dsimp only at hHs)
    obtain ⟨hp, hq, hK⟩ := hHs
    ((first
      | (refine wpAnyH_takeL (i := 0) (v := ?hv92) rfl (by kernel_rfl) (by kernel_rfl) (by kernel_rfl) (fun _ _ _ h => h) (Or.inl (And.intro ?hw92 ?hy92)) (by assumption) ?rest92
         case hw92 => rfl
         case hy92 => (intro wHy hSw; (try dsimp only at hSw); obtain ⟨y0, y1, _⟩ := hSw; replace y0 := y0.cell; replace y1 := y1.cell; go_simp; (first | done | with_reducible rfl)))
      | (refine wpAnyH_takeL (i := 0) (v := undef) rfl (by kernel_rfl) (by kernel_rfl) (by kernel_rfl) (fun _ _ _ h => h) (Or.inr (And.intro (by rfl) rfl)) (by assumption) ?rest92x))
     (try simp only [Act.put, List.setIfInBounds_toArray, List.set_cons_zero, List.set_cons_succ]))
    ((first
      | (refine wpAnyH_takeL (i := 1) (v := ?hv93) rfl (by kernel_rfl) (by kernel_rfl) (by kernel_rfl) (fun _ _ _ h => h) (Or.inl (And.intro ?hw93 ?hy93)) (by assumption) ?rest93
         case hw93 => rfl
         case hy93 => (intro wHy hSw; (try dsimp only at hSw); obtain ⟨y0, y1, _⟩ := hSw; replace y0 := y0.cell; replace y1 := y1.cell; go_simp; (first | done | with_reducible rfl)))
      | (refine wpAnyH_takeL (i := 1) (v := undef) rfl (by kernel_rfl) (by kernel_rfl) (by kernel_rfl) (fun _ _ _ h => h) (Or.inr (And.intro (by rfl) rfl)) (by assumption) ?rest93x))
     (try simp only [Act.put, List.setIfInBounds_toArray, List.set_cons_zero, List.set_cons_succ]))
    ((first
      | (refine wpAnyH_takeL (i := 3) (v := ?hv94) rfl (by kernel_rfl) (by kernel_rfl) (by kernel_rfl) (fun _ _ _ h => h) (Or.inl (And.intro ?hw94 ?hy94)) (by assumption) ?rest94
         case hw94 => rfl
         case hy94 => (intro wHy hSw; (try dsimp only at hSw); obtain ⟨y0, y1, _⟩ := hSw; replace y0 := y0.cell; replace y1 := y1.cell; go_simp; (first | done | with_reducible rfl)))
      | (refine wpAnyH_takeL (i := 3) (v := undef) rfl (by kernel_rfl) (by kernel_rfl) (by kernel_rfl) (fun _ _ _ h => h) (Or.inr (And.intro (by rfl) rfl)) (by assumption) ?rest94x))
     (try simp only [Act.put, List.setIfInBounds_toArray, List.set_cons_zero, List.set_cons_succ]))
    refine wpAnyH_ready (rs := [2]) (by kernel_rfl) (by simp) (AllReadyH.consL rfl (fun K hKcc => ?_) AllReadyH.nil)
    go_simp
    refine (mask_part _ _ p1 p2 _).mono ?_
    rintro e_ v5 ⟨rfl, hKn⟩
    refine hKcc.out _ _ ?held95 (fun hHeld => ?_)
    case held95 => ((try dsimp only); exact ⟨hp.kept hKn id, hq.kept hKn id, hK.trans hKn⟩)
    clear hKcc K
    (try simp only [Act.put, List.setIfInBounds_toArray, List.set_cons_zero, List.set_cons_succ])
    clear hKn
    clear hp hq hK
    have hHs := hHeld
    (try dsimp only at hHs)
    obtain ⟨hp, hq, hK⟩ := hHs
    refine wpAnyH_ready (rs := [4]) (by kernel_rfl) (by simp) (AllReadyH.consL rfl (fun K hKcc => ?_) AllReadyH.nil)
    go_simp
    refine (mask_part _ _ q1 q2 _).mono ?_
    rintro e_ v6 ⟨rfl, hKn⟩
    refine hKcc.out _ _ ?held96 (fun hHeld => ?_)
    case held96 => ((try dsimp only); exact ⟨hp.kept hKn id, hq.kept hKn id, hK.trans hKn⟩)
    clear hKcc K
    (try simp only [Act.put, List.setIfInBounds_toArray, List.set_cons_zero, List.set_cons_succ])
    clear hKn
    clear hp hq hK
    have hHs := hHeld
    (try dsimp only at hHs)
    obtain ⟨hp, hq, hK⟩ := hHs
    ((first
      | (refine wpAnyH_takeL (i := 5) (v := ?hv97) rfl (by kernel_rfl) (by kernel_rfl) (by kernel_rfl) (fun _ _ _ h => h) (Or.inl (And.intro ?hw97 ?hy97)) (by assumption) ?rest97
         case hw97 => rfl
         case hy97 => (intro wHy hSw; (try dsimp only at hSw); obtain ⟨y0, y1, _⟩ := hSw; replace y0 := y0.cell; replace y1 := y1.cell; go_simp; (first | done | with_reducible rfl)))
      | (refine wpAnyH_takeL (i := 5) (v := undef) rfl (by kernel_rfl) (by kernel_rfl) (by kernel_rfl) (fun _ _ _ h => h) (Or.inr (And.intro (by rfl) rfl)) (by assumption) ?rest97x))
     (try simp only [Act.put, List.setIfInBounds_toArray, List.set_cons_zero, List.set_cons_succ]))
    ((first
      | (refine wpAnyH_takeL (i := 6) (v := ?hv98) rfl (by kernel_rfl) (by kernel_rfl) (by kernel_rfl) (fun _ _ _ h => h) (Or.inl (And.intro ?hw98 ?hy98)) (by assumption) ?rest98
         case hw98 => rfl
         case hy98 => (intro wHy hSw; (try dsimp only at hSw); obtain ⟨y0, y1, _⟩ := hSw; replace y0 := y0.cell; replace y1 := y1.cell; go_simp; (first | done | with_reducible rfl)))
      | (refine wpAnyH_takeL (i := 6) (v := undef) rfl (by kernel_rfl) (by kernel_rfl) (by kernel_rfl) (fun _ _ _ h => h) (Or.inr (And.intro (by rfl) rfl)) (by assumption) ?rest98x))
     (try simp only [Act.put, List.setIfInBounds_toArray, List.set_cons_zero, List.set_cons_succ]))
    ((first
      | (refine wpAnyH_takeL (i := 7) (v := ?hv99) rfl (by kernel_rfl) (by kernel_rfl) (by kernel_rfl) (fun _ _ _ h => h) (Or.inl (And.intro ?hw99 ?hy99)) (by assumption) ?rest99
         case hw99 => rfl
         case hy99 => (intro wHy hSw; (try dsimp only at hSw); obtain ⟨y0, y1, _⟩ := hSw; replace y0 := y0.cell; replace y1 := y1.cell; go_simp; (first | done | with_reducible rfl)))
      | (refine wpAnyH_takeL (i := 7) (v := undef) rfl (by kernel_rfl) (by kernel_rfl) (by kernel_rfl) (fun _ _ _ h => h) (Or.inr (And.intro (by rfl) rfl)) (by assumption) ?rest99x))
     (try simp only [Act.put, List.setIfInBounds_toArray, List.set_cons_zero, List.set_cons_succ]))
    refine wpAnyH_done (by kernel_rfl) ?_ _
    have c_hp := hp.cell
    have f_hp := hp.frozen
    have c_hq := hq.cell
    have f_hq := hq.frozen
    go_wp2_with fail
    clear c_hp f_hp c_hq f_hq
    refine wp_region_held_drew (S := (fun V => Bk V ((v2).heap.size) 70 (#[.int .i64 ps, .int .i64 pn] : Array Value) ∧ Bk V ((v3).heap.size) 70 (#[.int .i64 qs, .int .i64 qn] : Array Value) ∧ Kept NoBlk w V)) (by kernel_rfl) (by ((try dsimp only); exact ⟨Bk.drew hp, Bk.drew hq, hK.drew⟩)) (fun hHeld => ?_)
    clear hp hq hK
    have hHs := hHeld
    (try dsimp only at hHs)
    obtain ⟨hp, hq, hK⟩ := hHs
    ((first
      | (refine wpAnyH_takeL (i := 0) (v := ?hv100) rfl (by kernel_rfl) (by kernel_rfl) (by kernel_rfl) (fun _ _ _ h => h) (Or.inl (And.intro ?hw100 ?hy100)) (by assumption) ?rest100
         case hw100 => rfl
         case hy100 => (intro wHy hSw; (try dsimp only at hSw); obtain ⟨y0, y1, _⟩ := hSw; replace y0 := y0.cell; replace y1 := y1.cell; go_simp; (first | done | with_reducible rfl)))
      | (refine wpAnyH_takeL (i := 0) (v := undef) rfl (by kernel_rfl) (by kernel_rfl) (by kernel_rfl) (fun _ _ _ h => h) (Or.inr (And.intro (by rfl) rfl)) (by assumption) ?rest100x))
     (try simp only [Act.put, List.setIfInBounds_toArray, List.set_cons_zero, List.set_cons_succ]))
    ((first
      | (refine wpAnyH_takeL (i := 1) (v := ?hv101) rfl (by kernel_rfl) (by kernel_rfl) (by kernel_rfl) (fun _ _ _ h => h) (Or.inl (And.intro ?hw101 ?hy101)) (by assumption) ?rest101
         case hw101 => rfl
         case hy101 => (intro wHy hSw; (try dsimp only at hSw); obtain ⟨y0, y1, _⟩ := hSw; replace y0 := y0.cell; replace y1 := y1.cell; go_simp; (first | done | with_reducible rfl)))
      | (refine wpAnyH_takeL (i := 1) (v := undef) rfl (by kernel_rfl) (by kernel_rfl) (by kernel_rfl) (fun _ _ _ h => h) (Or.inr (And.intro (by rfl) rfl)) (by assumption) ?rest101x))
     (try simp only [Act.put, List.setIfInBounds_toArray, List.set_cons_zero, List.set_cons_succ]))
    ((first
      | (refine wpAnyH_takeL (i := 2) (v := ?hv102) rfl (by kernel_rfl) (by kernel_rfl) (by kernel_rfl) (fun _ _ _ h => h) (Or.inl (And.intro ?hw102 ?hy102)) (by assumption) ?rest102
         case hw102 => rfl
         case hy102 => (intro wHy hSw; (try dsimp only at hSw); obtain ⟨y0, y1, _⟩ := hSw; replace y0 := y0.cell; replace y1 := y1.cell; go_simp; (first | done | with_reducible rfl)))
      | (refine wpAnyH_takeL (i := 2) (v := undef) rfl (by kernel_rfl) (by kernel_rfl) (by kernel_rfl) (fun _ _ _ h => h) (Or.inr (And.intro (by rfl) rfl)) (by assumption) ?rest102x))
     (try simp only [Act.put, List.setIfInBounds_toArray, List.set_cons_zero, List.set_cons_succ]))
    ((first
      | (refine wpAnyH_takeL (i := 3) (v := ?hv103) rfl (by kernel_rfl) (by kernel_rfl) (by kernel_rfl) (fun _ _ _ h => h) (Or.inl (And.intro ?hw103 ?hy103)) (by assumption) ?rest103
         case hw103 => rfl
         case hy103 => (intro wHy hSw; (try dsimp only at hSw); obtain ⟨y0, y1, _⟩ := hSw; replace y0 := y0.cell; replace y1 := y1.cell; go_simp; (first | done | with_reducible rfl)))
      | (refine wpAnyH_takeL (i := 3) (v := undef) rfl (by kernel_rfl) (by kernel_rfl) (by kernel_rfl) (fun _ _ _ h => h) (Or.inr (And.intro (by rfl) rfl)) (by assumption) ?rest103x))
     (try simp only [Act.put, List.setIfInBounds_toArray, List.set_cons_zero, List.set_cons_succ]))
    refine wpAnyH_ready (rs := [4]) (by kernel_rfl) (by simp) (AllReadyH.consL rfl (fun K hKcc => ?_) AllReadyH.nil)
    go_simp
    refine (hG2 _).mono ?_
    rintro e_ v7 ⟨rfl, hKn⟩
    refine hKcc.out _ _ ?held104 (fun hHeld => ?_)
    case held104 => ((try dsimp only); exact ⟨hp.kept hKn id, hq.kept hKn id, hK.trans hKn⟩)
    clear hKcc K
    (try simp only [Act.put, List.setIfInBounds_toArray, List.set_cons_zero, List.set_cons_succ])
    clear hKn
    clear hp hq hK
    have hHs := hHeld
    (try dsimp only at hHs)
    obtain ⟨hp, hq, hK⟩ := hHs
    refine wpAnyH_ready (rs := [5]) (by kernel_rfl) (by simp) (AllReadyH.consL rfl (fun K hKcc => ?_) AllReadyH.nil)
    go_simp
    refine (hS2 _).mono ?_
    rintro e_ v8 ⟨rfl, hKn⟩
    refine hKcc.out _ _ ?held105 (fun hHeld => ?_)
    case held105 => ((try dsimp only); exact ⟨hp.kept hKn id, hq.kept hKn id, hK.trans hKn⟩)
    clear hKcc K
    (try simp only [Act.put, List.setIfInBounds_toArray, List.set_cons_zero, List.set_cons_succ])
    clear hKn
    clear hp hq hK
    have hHs := hHeld
    (try dsimp only at hHs)
    obtain ⟨hp, hq, hK⟩ := hHs
    ((first
      | (refine wpAnyH_takeL (i := 6) (v := ?hv106) rfl (by kernel_rfl) (by kernel_rfl) (by kernel_rfl) (fun _ _ _ h => h) (Or.inl (And.intro ?hw106 ?hy106)) (by assumption) ?rest106
         case hw106 => rfl
         case hy106 => (intro wHy hSw; (try dsimp only at hSw); obtain ⟨y0, y1, _⟩ := hSw; replace y0 := y0.cell; replace y1 := y1.cell; go_simp; (first | done | with_reducible rfl)))
      | (refine wpAnyH_takeL (i := 6) (v := undef) rfl (by kernel_rfl) (by kernel_rfl) (by kernel_rfl) (fun _ _ _ h => h) (Or.inr (And.intro (by rfl) rfl)) (by assumption) ?rest106x))
     (try simp only [Act.put, List.setIfInBounds_toArray, List.set_cons_zero, List.set_cons_succ]))
    ((first
      | (refine wpAnyH_takeL (i := 7) (v := ?hv107) rfl (by kernel_rfl) (by kernel_rfl) (by kernel_rfl) (fun _ _ _ h => h) (Or.inl (And.intro ?hw107 ?hy107)) (by assumption) ?rest107
         case hw107 => rfl
         case hy107 => (intro wHy hSw; (try dsimp only at hSw); obtain ⟨y0, y1, _⟩ := hSw; replace y0 := y0.cell; replace y1 := y1.cell; go_simp; (first | done | with_reducible rfl)))
      | (refine wpAnyH_takeL (i := 7) (v := undef) rfl (by kernel_rfl) (by kernel_rfl) (by kernel_rfl) (fun _ _ _ h => h) (Or.inr (And.intro (by rfl) rfl)) (by assumption) ?rest107x))
     (try simp only [Act.put, List.setIfInBounds_toArray, List.set_cons_zero, List.set_cons_succ]))
    ((first
      | (refine wpAnyH_takeL (i := 8) (v := ?hv108) rfl (by kernel_rfl) (by kernel_rfl) (by kernel_rfl) (fun _ _ _ h => h) (Or.inl (And.intro ?hw108 ?hy108)) (by assumption) ?rest108
         case hw108 => rfl
         case hy108 => (intro wHy hSw; (try dsimp only at hSw); obtain ⟨y0, y1, _⟩ := hSw; replace y0 := y0.cell; replace y1 := y1.cell; go_simp; (first | done | with_reducible rfl)))
      | (refine wpAnyH_takeL (i := 8) (v := undef) rfl (by kernel_rfl) (by kernel_rfl) (by kernel_rfl) (fun _ _ _ h => h) (Or.inr (And.intro (by rfl) rfl)) (by assumption) ?rest108x))
     (try simp only [Act.put, List.setIfInBounds_toArray, List.set_cons_zero, List.set_cons_succ]))
    ((first
      | (refine wpAnyH_takeL (i := 9) (v := ?hv109) rfl (by kernel_rfl) (by kernel_rfl) (by kernel_rfl) (fun _ _ _ h => h) (Or.inl (And.intro ?hw109 ?hy109)) (by assumption) ?rest109
         case hw109 => rfl
         case hy109 => (intro wHy hSw; (try dsimp only at hSw); obtain ⟨y0, y1, _⟩ := hSw; replace y0 := y0.cell; replace y1 := y1.cell; go_simp; (first | done | with_reducible rfl)))
      | (refine wpAnyH_takeL (i := 9) (v := undef) rfl (by kernel_rfl) (by kernel_rfl) (by kernel_rfl) (fun _ _ _ h => h) (Or.inr (And.intro (by rfl) rfl)) (by assumption) ?rest109x))
     (try simp only [Act.put, List.setIfInBounds_toArray, List.set_cons_zero, List.set_cons_succ]))
    ((first
      | (refine wpAnyH_takeL (i := 10) (v := ?hv110) rfl (by kernel_rfl) (by kernel_rfl) (by kernel_rfl) (fun _ _ _ h => h) (Or.inl (And.intro ?hw110 ?hy110)) (by assumption) ?rest110
         case hw110 => rfl
         case hy110 => (intro wHy hSw; (try dsimp only at hSw); obtain ⟨y0, y1, _⟩ := hSw; replace y0 := y0.cell; replace y1 := y1.cell; go_simp; (first | done | with_reducible rfl)))
      | (refine wpAnyH_takeL (i := 10) (v := undef) rfl (by kernel_rfl) (by kernel_rfl) (by kernel_rfl) (fun _ _ _ h => h) (Or.inr (And.intro (by rfl) rfl)) (by assumption) ?rest110x))
     (try simp only [Act.put, List.setIfInBounds_toArray, List.set_cons_zero, List.set_cons_succ]))
    refine wpAnyH_done (by kernel_rfl) ?_ _
    have c_hp := hp.cell
    have f_hp := hp.frozen
    have c_hq := hq.cell
    have f_hq := hq.frozen
    go_wp2_with fail
    clear c_hp f_hp c_hq f_hq
    refine wp_region_held_drew (S := (fun V => Bk V ((v2).heap.size) 70 (#[.int .i64 ps, .int .i64 pn] : Array Value) ∧ Bk V ((v3).heap.size) 70 (#[.int .i64 qs, .int .i64 qn] : Array Value) ∧ Kept NoBlk w V)) (by kernel_rfl) (by ((try dsimp only); exact ⟨Bk.drew hp, Bk.drew hq, hK.drew⟩)) (fun hHeld => ?_)
    clear hp hq hK
    have hHs := hHeld
    (try dsimp only at hHs)
    obtain ⟨hp, hq, hK⟩ := hHs
    ((first
      | (refine wpAnyH_takeL (i := 0) (v := ?hv111) rfl (by kernel_rfl) (by kernel_rfl) (by kernel_rfl) (fun _ _ _ h => h) (Or.inl (And.intro ?hw111 ?hy111)) (by assumption) ?rest111
         case hw111 => rfl
         case hy111 => (intro wHy hSw; (try dsimp only at hSw); obtain ⟨y0, y1, _⟩ := hSw; replace y0 := y0.cell; replace y1 := y1.cell; go_simp; (first | done | with_reducible rfl)))
      | (refine wpAnyH_takeL (i := 0) (v := undef) rfl (by kernel_rfl) (by kernel_rfl) (by kernel_rfl) (fun _ _ _ h => h) (Or.inr (And.intro (by rfl) rfl)) (by assumption) ?rest111x))
     (try simp only [Act.put, List.setIfInBounds_toArray, List.set_cons_zero, List.set_cons_succ]))
    ((first
      | (refine wpAnyH_takeL (i := 1) (v := ?hv112) rfl (by kernel_rfl) (by kernel_rfl) (by kernel_rfl) (fun _ _ _ h => h) (Or.inl (And.intro ?hw112 ?hy112)) (by assumption) ?rest112
         case hw112 => rfl
         case hy112 => (intro wHy hSw; (try dsimp only at hSw); obtain ⟨y0, y1, _⟩ := hSw; replace y0 := y0.cell; replace y1 := y1.cell; go_simp; (first | done | with_reducible rfl)))
      | (refine wpAnyH_takeL (i := 1) (v := undef) rfl (by kernel_rfl) (by kernel_rfl) (by kernel_rfl) (fun _ _ _ h => h) (Or.inr (And.intro (by rfl) rfl)) (by assumption) ?rest112x))
     (try simp only [Act.put, List.setIfInBounds_toArray, List.set_cons_zero, List.set_cons_succ]))
    ((first
      | (refine wpAnyH_takeL (i := 2) (v := ?hv113) rfl (by kernel_rfl) (by kernel_rfl) (by kernel_rfl) (fun _ _ _ h => h) (Or.inl (And.intro ?hw113 ?hy113)) (by assumption) ?rest113
         case hw113 => rfl
         case hy113 => (intro wHy hSw; (try dsimp only at hSw); obtain ⟨y0, y1, _⟩ := hSw; replace y0 := y0.cell; replace y1 := y1.cell; go_simp; (first | done | with_reducible rfl)))
      | (refine wpAnyH_takeL (i := 2) (v := undef) rfl (by kernel_rfl) (by kernel_rfl) (by kernel_rfl) (fun _ _ _ h => h) (Or.inr (And.intro (by rfl) rfl)) (by assumption) ?rest113x))
     (try simp only [Act.put, List.setIfInBounds_toArray, List.set_cons_zero, List.set_cons_succ]))
    ((first
      | (refine wpAnyH_takeL (i := 3) (v := ?hv114) rfl (by kernel_rfl) (by kernel_rfl) (by kernel_rfl) (fun _ _ _ h => h) (Or.inl (And.intro ?hw114 ?hy114)) (by assumption) ?rest114
         case hw114 => rfl
         case hy114 => (intro wHy hSw; (try dsimp only at hSw); obtain ⟨y0, y1, _⟩ := hSw; replace y0 := y0.cell; replace y1 := y1.cell; go_simp; (first | done | with_reducible rfl)))
      | (refine wpAnyH_takeL (i := 3) (v := undef) rfl (by kernel_rfl) (by kernel_rfl) (by kernel_rfl) (fun _ _ _ h => h) (Or.inr (And.intro (by rfl) rfl)) (by assumption) ?rest114x))
     (try simp only [Act.put, List.setIfInBounds_toArray, List.set_cons_zero, List.set_cons_succ]))
    ((first
      | (refine wpAnyH_takeL (i := 4) (v := ?hv115) rfl (by kernel_rfl) (by kernel_rfl) (by kernel_rfl) (fun _ _ _ h => h) (Or.inl (And.intro ?hw115 ?hy115)) (by assumption) ?rest115
         case hw115 => rfl
         case hy115 => (intro wHy hSw; (try dsimp only at hSw); obtain ⟨y0, y1, _⟩ := hSw; replace y0 := y0.cell; replace y1 := y1.cell; go_simp; (first | done | with_reducible rfl)))
      | (refine wpAnyH_takeL (i := 4) (v := undef) rfl (by kernel_rfl) (by kernel_rfl) (by kernel_rfl) (fun _ _ _ h => h) (Or.inr (And.intro (by rfl) rfl)) (by assumption) ?rest115x))
     (try simp only [Act.put, List.setIfInBounds_toArray, List.set_cons_zero, List.set_cons_succ]))
    ((first
      | (refine wpAnyH_takeL (i := 5) (v := ?hv116) rfl (by kernel_rfl) (by kernel_rfl) (by kernel_rfl) (fun _ _ _ h => h) (Or.inl (And.intro ?hw116 ?hy116)) (by assumption) ?rest116
         case hw116 => rfl
         case hy116 => (intro wHy hSw; (try dsimp only at hSw); obtain ⟨y0, y1, _⟩ := hSw; replace y0 := y0.cell; replace y1 := y1.cell; go_simp; (first | done | with_reducible rfl)))
      | (refine wpAnyH_takeL (i := 5) (v := undef) rfl (by kernel_rfl) (by kernel_rfl) (by kernel_rfl) (fun _ _ _ h => h) (Or.inr (And.intro (by rfl) rfl)) (by assumption) ?rest116x))
     (try simp only [Act.put, List.setIfInBounds_toArray, List.set_cons_zero, List.set_cons_succ]))
    ((first
      | (refine wpAnyH_takeL (i := 6) (v := ?hv117) rfl (by kernel_rfl) (by kernel_rfl) (by kernel_rfl) (fun _ _ _ h => h) (Or.inl (And.intro ?hw117 ?hy117)) (by assumption) ?rest117
         case hw117 => rfl
         case hy117 => (intro wHy hSw; (try dsimp only at hSw); obtain ⟨y0, y1, _⟩ := hSw; replace y0 := y0.cell; replace y1 := y1.cell; go_simp; (first | done | with_reducible rfl)))
      | (refine wpAnyH_takeL (i := 6) (v := undef) rfl (by kernel_rfl) (by kernel_rfl) (by kernel_rfl) (fun _ _ _ h => h) (Or.inr (And.intro (by rfl) rfl)) (by assumption) ?rest117x))
     (try simp only [Act.put, List.setIfInBounds_toArray, List.set_cons_zero, List.set_cons_succ]))
    ((first
      | (refine wpAnyH_takeL (i := 7) (v := ?hv118) rfl (by kernel_rfl) (by kernel_rfl) (by kernel_rfl) (fun _ _ _ h => h) (Or.inl (And.intro ?hw118 ?hy118)) (by assumption) ?rest118
         case hw118 => rfl
         case hy118 => (intro wHy hSw; (try dsimp only at hSw); obtain ⟨y0, y1, _⟩ := hSw; replace y0 := y0.cell; replace y1 := y1.cell; go_simp; (first | done | with_reducible rfl)))
      | (refine wpAnyH_takeL (i := 7) (v := undef) rfl (by kernel_rfl) (by kernel_rfl) (by kernel_rfl) (fun _ _ _ h => h) (Or.inr (And.intro (by rfl) rfl)) (by assumption) ?rest118x))
     (try simp only [Act.put, List.setIfInBounds_toArray, List.set_cons_zero, List.set_cons_succ]))
    ((first
      | (refine wpAnyH_takeL (i := 8) (v := ?hv119) rfl (by kernel_rfl) (by kernel_rfl) (by kernel_rfl) (fun _ _ _ h => h) (Or.inl (And.intro ?hw119 ?hy119)) (by assumption) ?rest119
         case hw119 => rfl
         case hy119 => (intro wHy hSw; (try dsimp only at hSw); obtain ⟨y0, y1, _⟩ := hSw; replace y0 := y0.cell; replace y1 := y1.cell; go_simp; (first | done | with_reducible rfl)))
      | (refine wpAnyH_takeL (i := 8) (v := undef) rfl (by kernel_rfl) (by kernel_rfl) (by kernel_rfl) (fun _ _ _ h => h) (Or.inr (And.intro (by rfl) rfl)) (by assumption) ?rest119x))
     (try simp only [Act.put, List.setIfInBounds_toArray, List.set_cons_zero, List.set_cons_succ]))
    ((first
      | (refine wpAnyH_takeL (i := 9) (v := ?hv120) rfl (by kernel_rfl) (by kernel_rfl) (by kernel_rfl) (fun _ _ _ h => h) (Or.inl (And.intro ?hw120 ?hy120)) (by assumption) ?rest120
         case hw120 => rfl
         case hy120 => (intro wHy hSw; (try dsimp only at hSw); obtain ⟨y0, y1, _⟩ := hSw; replace y0 := y0.cell; replace y1 := y1.cell; go_simp; (first | done | with_reducible rfl)))
      | (refine wpAnyH_takeL (i := 9) (v := undef) rfl (by kernel_rfl) (by kernel_rfl) (by kernel_rfl) (fun _ _ _ h => h) (Or.inr (And.intro (by rfl) rfl)) (by assumption) ?rest120x))
     (try simp only [Act.put, List.setIfInBounds_toArray, List.set_cons_zero, List.set_cons_succ]))
    ((refine wpAnyH_takeL (i := 10) (v := undef) rfl (by kernel_rfl) (by kernel_rfl) (by kernel_rfl) (fun _ _ _ h => h) (Or.inr (And.intro (by rfl) rfl)) (by assumption) ?rest121)
     (try simp only [Act.put, List.setIfInBounds_toArray, List.set_cons_zero, List.set_cons_succ]))
    ((refine wpAnyH_takeL (i := 11) (v := undef) rfl (by kernel_rfl) (by kernel_rfl) (by kernel_rfl) (fun _ _ _ h => h) (Or.inr (And.intro (by rfl) rfl)) (by assumption) ?rest122)
     (try simp only [Act.put, List.setIfInBounds_toArray, List.set_cons_zero, List.set_cons_succ]))
    ((refine wpAnyH_takeL (i := 12) (v := undef) rfl (by kernel_rfl) (by kernel_rfl) (by kernel_rfl) (fun _ _ _ h => h) (Or.inr (And.intro (by rfl) rfl)) (by assumption) ?rest123)
     (try simp only [Act.put, List.setIfInBounds_toArray, List.set_cons_zero, List.set_cons_succ]))
    ((refine wpAnyH_takeL (i := 13) (v := undef) rfl (by kernel_rfl) (by kernel_rfl) (by kernel_rfl) (fun _ _ _ h => h) (Or.inr (And.intro (by rfl) rfl)) (by assumption) ?rest124)
     (try simp only [Act.put, List.setIfInBounds_toArray, List.set_cons_zero, List.set_cons_succ]))
    ((refine wpAnyH_takeL (i := 14) (v := undef) rfl (by kernel_rfl) (by kernel_rfl) (by kernel_rfl) (fun _ _ _ h => h) (Or.inr (And.intro (by rfl) rfl)) (by assumption) ?rest125)
     (try simp only [Act.put, List.setIfInBounds_toArray, List.set_cons_zero, List.set_cons_succ]))
    ((refine wpAnyH_takeL (i := 15) (v := undef) rfl (by kernel_rfl) (by kernel_rfl) (by kernel_rfl) (fun _ _ _ h => h) (Or.inr (And.intro (by rfl) rfl)) (by assumption) ?rest126)
     (try simp only [Act.put, List.setIfInBounds_toArray, List.set_cons_zero, List.set_cons_succ]))
    ((refine wpAnyH_takeL (i := 16) (v := undef) rfl (by kernel_rfl) (by kernel_rfl) (by kernel_rfl) (fun _ _ _ h => h) (Or.inr (And.intro (by rfl) rfl)) (by assumption) ?rest127)
     (try simp only [Act.put, List.setIfInBounds_toArray, List.set_cons_zero, List.set_cons_succ]))
    ((first
      | (refine wpAnyH_takeL (i := 17) (v := ?hv128) rfl (by kernel_rfl) (by kernel_rfl) (by kernel_rfl) (fun _ _ _ h => h) (Or.inl (And.intro ?hw128 ?hy128)) (by assumption) ?rest128
         case hw128 => rfl
         case hy128 => (intro wHy hSw; (try dsimp only at hSw); obtain ⟨y0, y1, _⟩ := hSw; replace y0 := y0.cell; replace y1 := y1.cell; go_simp; (first | done | with_reducible rfl)))
      | (refine wpAnyH_takeL (i := 17) (v := undef) rfl (by kernel_rfl) (by kernel_rfl) (by kernel_rfl) (fun _ _ _ h => h) (Or.inr (And.intro (by rfl) rfl)) (by assumption) ?rest128x))
     (try simp only [Act.put, List.setIfInBounds_toArray, List.set_cons_zero, List.set_cons_succ]))
    ((first
      | (refine wpAnyH_takeL (i := 18) (v := ?hv129) rfl (by kernel_rfl) (by kernel_rfl) (by kernel_rfl) (fun _ _ _ h => h) (Or.inl (And.intro ?hw129 ?hy129)) (by assumption) ?rest129
         case hw129 => rfl
         case hy129 => (intro wHy hSw; (try dsimp only at hSw); obtain ⟨y0, y1, _⟩ := hSw; replace y0 := y0.cell; replace y1 := y1.cell; go_simp; (first | done | with_reducible rfl)))
      | (refine wpAnyH_takeL (i := 18) (v := undef) rfl (by kernel_rfl) (by kernel_rfl) (by kernel_rfl) (fun _ _ _ h => h) (Or.inr (And.intro (by rfl) rfl)) (by assumption) ?rest129x))
     (try simp only [Act.put, List.setIfInBounds_toArray, List.set_cons_zero, List.set_cons_succ]))
    ((first
      | (refine wpAnyH_takeL (i := 19) (v := ?hv130) rfl (by kernel_rfl) (by kernel_rfl) (by kernel_rfl) (fun _ _ _ h => h) (Or.inl (And.intro ?hw130 ?hy130)) (by assumption) ?rest130
         case hw130 => rfl
         case hy130 => (intro wHy hSw; (try dsimp only at hSw); obtain ⟨y0, y1, _⟩ := hSw; replace y0 := y0.cell; replace y1 := y1.cell; go_simp; (first | done | with_reducible rfl)))
      | (refine wpAnyH_takeL (i := 19) (v := undef) rfl (by kernel_rfl) (by kernel_rfl) (by kernel_rfl) (fun _ _ _ h => h) (Or.inr (And.intro (by rfl) rfl)) (by assumption) ?rest130x))
     (try simp only [Act.put, List.setIfInBounds_toArray, List.set_cons_zero, List.set_cons_succ]))
    refine wpAnyH_done (by kernel_rfl) ?_ _
    have c_hp := hp.cell
    have f_hp := hp.frozen
    have c_hq := hq.cell
    have f_hq := hq.frozen
    go_wp2
    go_ret
    exact ⟨rfl, hK⟩

end Go.Proofs.Ytenphgmohhdjeaa
