/-
  Package mover: Copy, over an arena where objects stand, or have gone.
  Conditions: the arena has at most 65536 words; the space is a right one.
-/
import Derived.Test.YtccgnnnildedoaaMover
import Derived.Test.YtccgnnnildedoaaHeld
set_option linter.unusedVariables false
namespace Go.Proofs.Ytccgnnnildedoaa
open Go.RowKit

theorem copied_at {ws : List Int} {p t : Nat} {o : Obj} (ho : ObjAt ws p o) (ht1 : 1 ≤ t) (hn : ws.length ≤ 65536) (hfit : t + o.size ≤ ws.length) (hap : p < t ∨ t + o.size ≤ p) :
    ((moveN ws p t o.size).set p (4 * (t : Int) + 2)).length = ws.length ∧ ObjAt ((moveN ws p t o.size).set p (4 * (t : Int) + 2)) t o ∧ GoneAt ((moveN ws p t o.size).set p (4 * (t : Int) + 2)) p t ∧
      (∀ i, i ≠ p → (i < t ∨ t + o.size ≤ i) → wd ((moveN ws p t o.size).set p (4 * (t : Int) + 2)) i = wd ws i) := by
  have hf := ho.fit
  have h3 := o.size3
  have hl := length_moveN ws p t o.size hf hfit
  have hl2 : ((moveN ws p t o.size).set p (4 * (t : Int) + 2)).length = ws.length := by rw [List.length_set]; exact hl
  refine ⟨hl2, ?_, ⟨by omega, ht1, by omega, ?_⟩, ?_⟩
  · have h1 : ObjAt (moveN ws p t o.size) t o := moved_at ho (by rw [hl]; exact hfit) (fun i hi => by
      rw [moveN_wd _ _ _ _ hf hfit, if_pos (by omega)]
      congr 1; omega)
    exact h1.set_far _ hap
  · rw [wd_set' _ _ _ _ (by omega), if_pos rfl]
  · intro i hi hj
    rw [wd_set' _ _ _ _ (by omega), if_neg hi, moveN_wd _ _ _ _ hf hfit, if_neg (by omega)]

section
variable {b g : Nat} {ws : List Int} {w : World}

set_option maxRecDepth 100000 in
set_option maxHeartbeats 1000000 in
theorem copy_gone (hA : ArenaAt w b g ws) (hn : ws.length ≤ 65536) {p k : Nat} (h : GoneAt ws p k) (b0 s0 t0 : Int) :
    Calls Try.prog 49 #[.pointer (some ⟨b, 0, none⟩), .int .i64 p, .agg #[.int .i64 b0, .int .i64 s0, .int .i64 t0]] w fun e w' => e = .returned (.tuple #[.agg #[.int .i64 b0, .int .i64 s0, .int .i64 t0], .int .i64 k, .int .i64 0]) ∧ Kept NoBlk w w' := by
  have c1 : ∀ W, Kept NoBlk w W → _ := fun W kk => mat_gone (hA.kept kk id id) hn h
  clear hA h
  go_enter Try.func49, Try.ntmps49
  have hK := Kept.refl NoBlk w
  have hs1 : ∀ (W : World) (o : Go.Obj), (W.alloc o).heap.size = W.heap.size + 1 := fun W o => by simp
  have hB : Bk ((w).alloc (.cells #[.int .i64 b0, .int .i64 s0, .int .i64 t0] 77)) (w.heap.size) 77 (#[.int .i64 b0, .int .i64 s0, .int .i64 t0] : Array Value) := by (have h := Bk.new (w) 77 (#[.int .i64 b0, .int .i64 s0, .int .i64 t0] : Array Value)); simpa only [hs1] using h
  replace hK := hK.alloc (.cells #[.int .i64 b0, .int .i64 s0, .int .i64 t0] 77)
  replace hB := hB.alloc (.cells #[.int .i64 0, .int .i64 0, .int .i64 0] 77)
  have hR : Bk (((w).alloc (.cells #[.int .i64 b0, .int .i64 s0, .int .i64 t0] 77)).alloc (.cells #[.int .i64 0, .int .i64 0, .int .i64 0] 77)) (w.heap.size + 1) 77 (#[.int .i64 0, .int .i64 0, .int .i64 0] : Array Value) := by (have h := Bk.new ((w).alloc (.cells #[.int .i64 b0, .int .i64 s0, .int .i64 t0] 77)) 77 (#[.int .i64 0, .int .i64 0, .int .i64 0] : Array Value)); simpa only [hs1] using h
  replace hK := hK.alloc (.cells #[.int .i64 0, .int .i64 0, .int .i64 0] 77)
  clear hs1
  (try clear c_hB f_hB)
  (try clear c_hR f_hR)
  have c_hB := hB.cell
  have f_hB := hB.frozen
  have c_hR := hR.cell
  have f_hR := hR.frozen
  go_wp2_with fail
  refine (c1 _ hK).mono ?_
  rintro e w1 ⟨rfl, hw⟩
  generalize (w.alloc (.cells #[.int .i64 b0, .int .i64 s0, .int .i64 t0] 77)).alloc (.cells #[.int .i64 0, .int .i64 0, .int .i64 0] 77) = v1 at *
  obtain rfl := hw
  go_wp2
  replace hB := hB.far (p := (⟨w.heap.size + 1, 0, none⟩ : Addr)) (by dsimp only; omega) (.int .i64 b0)
  replace hR := hR.set_ 0 (.int .i64 b0)
  replace hK := hK.setCell (p := (⟨w.heap.size + 1, 0, none⟩ : Addr)) (fun h => absurd h (by dsimp only; omega)) (.int .i64 b0)
  replace hB := hB.far (p := (⟨w.heap.size + 1, 1, none⟩ : Addr)) (by dsimp only; omega) (.int .i64 s0)
  replace hR := hR.set_ 1 (.int .i64 s0)
  replace hK := hK.setCell (p := (⟨w.heap.size + 1, 1, none⟩ : Addr)) (fun h => absurd h (by dsimp only; omega)) (.int .i64 s0)
  replace hB := hB.far (p := (⟨w.heap.size + 1, 2, none⟩ : Addr)) (by dsimp only; omega) (.int .i64 t0)
  replace hR := hR.set_ 2 (.int .i64 t0)
  replace hK := hK.setCell (p := (⟨w.heap.size + 1, 2, none⟩ : Addr)) (fun h => absurd h (by dsimp only; omega)) (.int .i64 t0)
  replace hR : Bk ((((v1).setCell (⟨w.heap.size + 1, 0, none⟩ : Addr) (.int .i64 b0)).setCell (⟨w.heap.size + 1, 1, none⟩ : Addr) (.int .i64 s0)).setCell (⟨w.heap.size + 1, 2, none⟩ : Addr) (.int .i64 t0)) (w.heap.size + 1) 77 (#[.int .i64 b0, .int .i64 s0, .int .i64 t0] : Array Value) := by simpa using hR
  generalize ((((v1).setCell (⟨w.heap.size + 1, 0, none⟩ : Addr) (.int .i64 b0)).setCell (⟨w.heap.size + 1, 1, none⟩ : Addr) (.int .i64 s0)).setCell (⟨w.heap.size + 1, 2, none⟩ : Addr) (.int .i64 t0)) = v2 at *
  replace c_hB := hB.cell
  replace f_hB := hB.frozen
  replace c_hR := hR.cell
  replace f_hR := hR.frozen
  refine bodyPost_ret (v := .tuple #[.agg #[.int .i64 b0, .int .i64 s0, .int .i64 t0], .int .i64 k, .int .i64 0]) (by simp [results, Try.results49, go_sem, c_hR]) rfl ⟨rfl, hK⟩

set_option maxRecDepth 100000 in
set_option maxHeartbeats 2000000 in
theorem copy_yes (hA : ArenaAt w b g ws) (hn : ws.length ≤ 65536) {p t : Nat} {o : Obj} (ho : ObjAt ws p o) {b0 s0 : Int} (hs : RightSp b0 s0 t) (hroom : (o.shp.tk : Int) ≤ s0 - (t - b0)) (ht1 : 1 ≤ t) (hfit : t + o.size ≤ ws.length) (hap : p < t ∨ t + o.size ≤ p) :
    Calls Try.prog 49 #[.pointer (some ⟨b, 0, none⟩), .int .i64 p, .agg #[.int .i64 b0, .int .i64 s0, .int .i64 t]] w fun e w' => e = .returned (.tuple #[.agg #[.int .i64 b0, .int .i64 s0, .int .i64 ((t + o.shp.tk : Nat) : Int)], .int .i64 t, .int .i64 0]) ∧
      ∃ ws', ArenaAt w' b g ws' ∧ ws'.length = ws.length ∧ ObjAt ws' t o ∧ GoneAt ws' p t ∧ (∀ i, i ≠ p → (i < t ∨ t + o.size ≤ i) → wd ws' i = wd ws i) ∧ Kept (OneBlk g) w w' := by
  have hpure := copied_at ho ht1 hn hfit hap
  have hf := ho.fit
  have h3 := o.size3
  have hz := Shp.size_le ho.ok.shp
  have hz' : o.size = o.shp.size := rfl
  have hl := length_moveN ws p t o.size hf hfit
  have c1 : ∀ W, Kept NoBlk w W → _ := fun W kk => mat_obj (hA.kept kk id id) hn ho
  have c2 : ∀ W, Kept NoBlk w W → _ := fun W kk => msize_yes (hA.kept kk id id) hn ho
  have c3 := fun W => take_yes (b := b0) (s := s0) (t := t) (o.size : Int) (by omega) (by omega) hs W
  have c4 := fun W => gone_yes (t : Int) (by omega) (by omega) W
  have c5 : ∀ W, Kept NoBlk w W → _ := fun W kk => move_yes (hA.kept kk id id) hn (p : Int) (t : Int) (o.size : Int) (by omega) (by omega) (by omega) (by omega) (by omega)
  simp only [Int.toNat_natCast] at c5
  have c6 : ∀ W, ArenaAt W b g (moveN ws p t o.size) → _ := fun W kk => store_yes kk (by omega) (p : Int) (goneI t) (by omega) (by omega)
  simp only [Int.toNat_natCast] at c6
  unfold goneI at c4 c6
  have htk : ∀ k, ClassOf (o.size : Int) k → csz k = (o.shp.tk : Int) := fun k hk => rnd_class (by omega) hk
  have hgl := hA.glt
  obtain ⟨q1, q2, q3, q4, q5, q6⟩ := hs
  rw [show ((t + o.shp.tk : Nat) : Int) = (t : Int) + o.shp.tk by omega]
  have hK0 : ∀ W, Kept NoBlk w W → ArenaAt W b g ws := fun W kk => hA.kept kk id id
  generalize (moveN ws p t o.size).set p (4 * (t : Int) + 2) = ws' at *
  generalize moveN ws p t o.size = ws1 at *
  generalize o.shp.tk = tk at *
  generalize o.size = n at *
  clear ho hf h3 hz hz' hl hA
  go_enter Try.func49, Try.ntmps49
  have hK := Kept.refl NoBlk w
  have hs1 : ∀ (W : World) (o : Go.Obj), (W.alloc o).heap.size = W.heap.size + 1 := fun W o => by simp
  have hB : Bk ((w).alloc (.cells #[.int .i64 b0, .int .i64 s0, .int .i64 t] 77)) (w.heap.size) 77 (#[.int .i64 b0, .int .i64 s0, .int .i64 t] : Array Value) := by (have h := Bk.new (w) 77 (#[.int .i64 b0, .int .i64 s0, .int .i64 t] : Array Value)); simpa only [hs1] using h
  replace hK := hK.alloc (.cells #[.int .i64 b0, .int .i64 s0, .int .i64 t] 77)
  replace hB := hB.alloc (.cells #[.int .i64 0, .int .i64 0, .int .i64 0] 77)
  have hR : Bk (((w).alloc (.cells #[.int .i64 b0, .int .i64 s0, .int .i64 t] 77)).alloc (.cells #[.int .i64 0, .int .i64 0, .int .i64 0] 77)) (w.heap.size + 1) 77 (#[.int .i64 0, .int .i64 0, .int .i64 0] : Array Value) := by (have h := Bk.new ((w).alloc (.cells #[.int .i64 b0, .int .i64 s0, .int .i64 t] 77)) 77 (#[.int .i64 0, .int .i64 0, .int .i64 0] : Array Value)); simpa only [hs1] using h
  replace hK := hK.alloc (.cells #[.int .i64 0, .int .i64 0, .int .i64 0] 77)
  clear hs1
  (try clear c_hB f_hB)
  (try clear c_hR f_hR)
  have c_hB := hB.cell
  have f_hB := hB.frozen
  have c_hR := hR.cell
  have f_hR := hR.frozen
  go_wp2_with fail
  refine (c1 _ hK).mono ?_
  rintro e_ wc1 ⟨rfl, rfl⟩
  go_wp2_with fail
  refine (c2 _ hK).mono ?_
  rintro e_ wc2 ⟨rfl, hKn⟩
  replace hB := hB.kept hKn id
  replace hR := hR.kept hKn id
  replace hK := hK.trans hKn
  clear hKn
  replace c_hB := hB.cell
  replace f_hB := hB.frozen
  replace c_hR := hR.cell
  replace f_hR := hR.frozen
  go_wp2_with fail
  refine (c3 _).mono ?_
  rintro e v3 ⟨k, hk, hKn, hor⟩
  rw [htk k hk] at hor
  clear hk htk
  rcases hor with ⟨hle, rfl⟩ | ⟨hlt, rfl⟩
  case inr => omega
  replace hB := hB.kept hKn id
  replace hR := hR.kept hKn id
  replace hK := hK.trans hKn
  clear hKn
  have hv3 := hK.size
  have hv3R := hR.lt
  replace c_hB := hB.cell
  replace f_hB := hB.frozen
  replace c_hR := hR.cell
  replace f_hR := hR.frozen
  replace hB := hB.alloc (.cells #[.int .i64 b0, .int .i64 s0, .int .i64 (t + tk)] 77)
  replace hR := hR.alloc (.cells #[.int .i64 b0, .int .i64 s0, .int .i64 (t + tk)] 77)
  have hT := Bk.new (v3) 77 (#[.int .i64 b0, .int .i64 s0, .int .i64 (t + tk)] : Array Value)
  replace hK := hK.alloc (.cells #[.int .i64 b0, .int .i64 s0, .int .i64 (t + tk)] 77)
  have c_hT := hT.cell
  have f_hT := hT.frozen
  replace c_hB := hB.cell
  replace f_hB := hB.frozen
  replace c_hR := hR.cell
  replace f_hR := hR.frozen
  go_wp2_with fail
  refine (c4 _).mono ?_
  rintro e_ wc3 ⟨rfl, rfl⟩
  clear c_hB f_hB
  clear hB
  have neR : ¬ OneBlk g (w.heap.size + 1) := fun h => by have h2 : w.heap.size + 1 = g := h; omega
  have neT : ¬ OneBlk g v3.heap.size := fun h => by have h2 : v3.heap.size = g := h; omega
  go_wp2_with fail
  refine (c5 _ hK).mono ?_
  rintro e v4 ⟨rfl, hA, hKn⟩
  replace hR := hR.kept hKn neR
  replace hT := hT.kept hKn neT
  have hK2 := (NoBlk.one hK g).trans hKn
  clear hKn hK
  replace c_hR := hR.cell
  replace f_hR := hR.frozen
  replace c_hT := hT.cell
  replace f_hT := hT.frozen
  go_wp2_with fail
  refine wp_region_held_drew (S := (fun V => V.cell? ⟨v3.heap.size, 0, none⟩ = some (.int .i64 b0) ∧ V.cell? ⟨v3.heap.size, 1, none⟩ = some (.int .i64 s0) ∧ V.cell? ⟨v3.heap.size, 2, none⟩ = some (.int .i64 (t + tk)))) (by kernel_rfl) (by ((try dsimp only); exact ⟨hT.drew.cell 0, hT.drew.cell 1, hT.drew.cell 2⟩)) (fun hHeld => ?_)
  replace hR := hR.drew
  replace hT := hT.drew
  replace hA := hA.drew
  replace hK2 := hK2.drew
  clear c_hR f_hR c_hT f_hT
  generalize v4.drew = v5 at *
  ((first
    | (refine wpAnyH_takeL (i := 0) (v := ?hv4) rfl (by kernel_rfl) (by kernel_rfl) (by kernel_rfl) (fun _ _ _ h => h) (Or.inl (And.intro ?hw4 ?hy4)) (by assumption) ?rest4
       case hw4 => rfl
       case hy4 => (intro wHy hSw; (try dsimp only at hSw); go_simp; (first | done | with_reducible rfl)))
    | (refine wpAnyH_takeL (i := 0) (v := undef) rfl (by kernel_rfl) (by kernel_rfl) (by kernel_rfl) (fun _ _ _ h => h) (Or.inr (And.intro (by rfl) rfl)) (by assumption) ?rest4x))
   (try simp only [Act.put, List.setIfInBounds_toArray, List.set_cons_zero, List.set_cons_succ]))
  ((first
    | (refine wpAnyH_takeL (i := 1) (v := ?hv5) rfl (by kernel_rfl) (by kernel_rfl) (by kernel_rfl) (fun _ _ _ h => h) (Or.inl (And.intro ?hw5 ?hy5)) (by assumption) ?rest5
       case hw5 => rfl
       case hy5 => (intro wHy hSw; (try dsimp only at hSw); go_simp; (first | done | with_reducible rfl)))
    | (refine wpAnyH_takeL (i := 1) (v := undef) rfl (by kernel_rfl) (by kernel_rfl) (by kernel_rfl) (fun _ _ _ h => h) (Or.inr (And.intro (by rfl) rfl)) (by assumption) ?rest5x))
   (try simp only [Act.put, List.setIfInBounds_toArray, List.set_cons_zero, List.set_cons_succ]))
  ((first
    | (refine wpAnyH_takeL (i := 2) (v := ?hv6) rfl (by kernel_rfl) (by kernel_rfl) (by kernel_rfl) (fun _ _ _ h => h) (Or.inl (And.intro ?hw6 ?hy6)) (by assumption) ?rest6
       case hw6 => rfl
       case hy6 => (intro wHy hSw; (try dsimp only at hSw); go_simp; (first | done | with_reducible rfl)))
    | (refine wpAnyH_takeL (i := 2) (v := undef) rfl (by kernel_rfl) (by kernel_rfl) (by kernel_rfl) (fun _ _ _ h => h) (Or.inr (And.intro (by rfl) rfl)) (by assumption) ?rest6x))
   (try simp only [Act.put, List.setIfInBounds_toArray, List.set_cons_zero, List.set_cons_succ]))
  ((first
    | (refine wpAnyH_takeL (i := 3) (v := ?hv7) rfl (by kernel_rfl) (by kernel_rfl) (by kernel_rfl) (fun _ _ _ h => h) (Or.inl (And.intro ?hw7 ?hy7)) (by assumption) ?rest7
       case hw7 => rfl
       case hy7 => (intro wHy hSw; (try dsimp only at hSw); go_simp; (first | done | with_reducible rfl)))
    | (refine wpAnyH_takeL (i := 3) (v := undef) rfl (by kernel_rfl) (by kernel_rfl) (by kernel_rfl) (fun _ _ _ h => h) (Or.inr (And.intro (by rfl) rfl)) (by assumption) ?rest7x))
   (try simp only [Act.put, List.setIfInBounds_toArray, List.set_cons_zero, List.set_cons_succ]))
  ((first
    | (refine wpAnyH_takeL (i := 4) (v := ?hv8) rfl (by kernel_rfl) (by kernel_rfl) (by kernel_rfl) (fun _ _ _ h => h) (Or.inl (And.intro ?hw8 ?hy8)) (by assumption) ?rest8
       case hw8 => rfl
       case hy8 => (intro wHy hSw; (try dsimp only at hSw); go_simp; (first | done | with_reducible rfl)))
    | (refine wpAnyH_takeL (i := 4) (v := undef) rfl (by kernel_rfl) (by kernel_rfl) (by kernel_rfl) (fun _ _ _ h => h) (Or.inr (And.intro (by rfl) rfl)) (by assumption) ?rest8x))
   (try simp only [Act.put, List.setIfInBounds_toArray, List.set_cons_zero, List.set_cons_succ]))
  refine wpAnyH_ready (rs := [5]) (by kernel_rfl) (by simp) (AllReadyH.consL rfl (fun K hKcc => ?_) AllReadyH.nil)
  go_simp
  refine (c6 _ hA).mono ?_; rintro e v6 ⟨rfl, hA6, hKn⟩; replace hR := hR.kept hKn neR; replace hT := hT.kept hKn neT; have hK3 := hK2.trans hKn
  refine hKcc.out _ _ ?held9 (fun hHeld => ?_)
  case held9 => ((try dsimp only); exact ⟨hT.cell 0, hT.cell 1, hT.cell 2⟩)
  clear hKcc K
  (try simp only [Act.put, List.setIfInBounds_toArray, List.set_cons_zero, List.set_cons_succ])
  clear hHeld hKn hA hK2
  have c_hR := hR.cell
  have f_hR := hR.frozen
  refine wpAnyH_ready (rs := [6]) (by kernel_rfl) (by simp) (AllReadyH.consL rfl (fun K hKcc => ?_) AllReadyH.nil)
  go_simp
  refine hKcc.out _ _ ?held10 (fun hHeld => ?_)
  case held10 => ((try dsimp only); exact ⟨((hT.far (p := ⟨w.heap.size + 1, 0, none⟩) (by dsimp only; omega) _).far (p := ⟨w.heap.size + 1, 1, none⟩) (by dsimp only; omega) _).far (p := ⟨w.heap.size + 1, 2, none⟩) (by dsimp only; omega) _ |>.cell 0, ((hT.far (p := ⟨w.heap.size + 1, 0, none⟩) (by dsimp only; omega) _).far (p := ⟨w.heap.size + 1, 1, none⟩) (by dsimp only; omega) _).far (p := ⟨w.heap.size + 1, 2, none⟩) (by dsimp only; omega) _ |>.cell 1, ((hT.far (p := ⟨w.heap.size + 1, 0, none⟩) (by dsimp only; omega) _).far (p := ⟨w.heap.size + 1, 1, none⟩) (by dsimp only; omega) _).far (p := ⟨w.heap.size + 1, 2, none⟩) (by dsimp only; omega) _ |>.cell 2⟩)
  clear hKcc K
  (try simp only [Act.put, List.setIfInBounds_toArray, List.set_cons_zero, List.set_cons_succ])
  ((first
    | (refine wpAnyH_takeL (i := 7) (v := ?hv11) rfl (by kernel_rfl) (by kernel_rfl) (by kernel_rfl) (fun _ _ _ h => h) (Or.inl (And.intro ?hw11 ?hy11)) (by assumption) ?rest11
       case hw11 => rfl
       case hy11 => (intro wHy hSw; (try dsimp only at hSw); go_simp; (first | done | with_reducible rfl)))
    | (refine wpAnyH_takeL (i := 7) (v := undef) rfl (by kernel_rfl) (by kernel_rfl) (by kernel_rfl) (fun _ _ _ h => h) (Or.inr (And.intro (by rfl) rfl)) (by assumption) ?rest11x))
   (try simp only [Act.put, List.setIfInBounds_toArray, List.set_cons_zero, List.set_cons_succ]))
  ((first
    | (refine wpAnyH_takeL (i := 8) (v := ?hv12) rfl (by kernel_rfl) (by kernel_rfl) (by kernel_rfl) (fun _ _ _ h => h) (Or.inl (And.intro ?hw12 ?hy12)) (by assumption) ?rest12
       case hw12 => rfl
       case hy12 => (intro wHy hSw; (try dsimp only at hSw); go_simp; (first | done | with_reducible rfl)))
    | (refine wpAnyH_takeL (i := 8) (v := undef) rfl (by kernel_rfl) (by kernel_rfl) (by kernel_rfl) (fun _ _ _ h => h) (Or.inr (And.intro (by rfl) rfl)) (by assumption) ?rest12x))
   (try simp only [Act.put, List.setIfInBounds_toArray, List.set_cons_zero, List.set_cons_succ]))
  refine wpAnyH_done (by kernel_rfl) ?_ _
  go_wp2
  clear hHeld
  have hR7 := ((hR.set_ 0 (.int .i64 b0)).set_ 1 (.int .i64 s0)).set_ 2 (.int .i64 (t + tk))
  have r7 := hR7.cell
  obtain ⟨f1, f2, f3, f4⟩ := hpure
  refine bodyPost_ret (v := .tuple #[.agg #[.int .i64 b0, .int .i64 s0, .int .i64 (t + tk)], .int .i64 t, .int .i64 0]) (by simp [results, Try.results49, go_sem, r7]) rfl ⟨rfl, ws', ?_, f1, f2, f3, f4, ?_⟩
  · have hb6 := hA6.blt
    have hbw := (hK0 w (Kept.refl _ _)).blt
    exact ((hA6.far (p := ⟨_, _, none⟩) (by dsimp only; omega) (by dsimp only; omega) _).far (p := ⟨_, _, none⟩) (by dsimp only; omega) (by dsimp only; omega) _).far (p := ⟨_, _, none⟩) (by dsimp only; omega) (by dsimp only; omega) _
  · exact ((hK3.setCell (p := ⟨_, _, none⟩) (fun h => absurd h (by dsimp only; omega)) _).setCell (p := ⟨_, _, none⟩) (fun h => absurd h (by dsimp only; omega)) _).setCell (p := ⟨_, _, none⟩) (fun h => absurd h (by dsimp only; omega)) _

set_option maxRecDepth 100000 in
set_option maxHeartbeats 2000000 in
theorem copy_room (hA : ArenaAt w b g ws) (hn : ws.length ≤ 65536) {p t : Nat} {o : Obj} (ho : ObjAt ws p o) {b0 s0 : Int} (hs : RightSp b0 s0 t) (hroom : s0 - (t - b0) < (o.shp.tk : Int)) :
    Calls Try.prog 49 #[.pointer (some ⟨b, 0, none⟩), .int .i64 p, .agg #[.int .i64 b0, .int .i64 s0, .int .i64 t]] w fun e w' => e = .returned (.tuple #[.agg #[.int .i64 b0, .int .i64 s0, .int .i64 t], .int .i64 0, .int .i64 80]) ∧ Kept NoBlk w w' := by
  have hz := Shp.size_le ho.ok.shp
  have hz' : o.size = o.shp.size := rfl
  have c1 : ∀ W, Kept NoBlk w W → _ := fun W kk => mat_obj (hA.kept kk id id) hn ho
  have c2 : ∀ W, Kept NoBlk w W → _ := fun W kk => msize_yes (hA.kept kk id id) hn ho
  have c3 := fun W => take_yes (b := b0) (s := s0) (t := t) (o.size : Int) (by omega) (by omega) hs W
  have c4 := fun W => gone_no 0 (by omega) W
  have htk : ∀ k, ClassOf (o.size : Int) k → csz k = (o.shp.tk : Int) := fun k hk => rnd_class (by omega) hk
  obtain ⟨q1, q2, q3, q4, q5, q6⟩ := hs
  generalize o.shp.tk = tk at *
  generalize o.size = n at *
  clear ho hz hz' hA
  go_enter Try.func49, Try.ntmps49
  have hK := Kept.refl NoBlk w
  have hs1 : ∀ (W : World) (o : Go.Obj), (W.alloc o).heap.size = W.heap.size + 1 := fun W o => by simp
  have hB : Bk ((w).alloc (.cells #[.int .i64 b0, .int .i64 s0, .int .i64 t] 77)) (w.heap.size) 77 (#[.int .i64 b0, .int .i64 s0, .int .i64 t] : Array Value) := by (have h := Bk.new (w) 77 (#[.int .i64 b0, .int .i64 s0, .int .i64 t] : Array Value)); simpa only [hs1] using h
  replace hK := hK.alloc (.cells #[.int .i64 b0, .int .i64 s0, .int .i64 t] 77)
  replace hB := hB.alloc (.cells #[.int .i64 0, .int .i64 0, .int .i64 0] 77)
  have hR : Bk (((w).alloc (.cells #[.int .i64 b0, .int .i64 s0, .int .i64 t] 77)).alloc (.cells #[.int .i64 0, .int .i64 0, .int .i64 0] 77)) (w.heap.size + 1) 77 (#[.int .i64 0, .int .i64 0, .int .i64 0] : Array Value) := by (have h := Bk.new ((w).alloc (.cells #[.int .i64 b0, .int .i64 s0, .int .i64 t] 77)) 77 (#[.int .i64 0, .int .i64 0, .int .i64 0] : Array Value)); simpa only [hs1] using h
  replace hK := hK.alloc (.cells #[.int .i64 0, .int .i64 0, .int .i64 0] 77)
  clear hs1
  (try clear c_hB f_hB)
  (try clear c_hR f_hR)
  have c_hB := hB.cell
  have f_hB := hB.frozen
  have c_hR := hR.cell
  have f_hR := hR.frozen
  go_wp2_with fail
  refine (c1 _ hK).mono ?_
  rintro e_ wc13 ⟨rfl, rfl⟩
  go_wp2_with fail
  refine (c2 _ hK).mono ?_
  rintro e_ wc14 ⟨rfl, hKn⟩
  replace hB := hB.kept hKn id
  replace hR := hR.kept hKn id
  replace hK := hK.trans hKn
  clear hKn
  replace c_hB := hB.cell
  replace f_hB := hB.frozen
  replace c_hR := hR.cell
  replace f_hR := hR.frozen
  go_wp2_with fail
  refine (c3 _).mono ?_
  rintro e v3 ⟨k, hk, hKn, hor⟩
  rw [htk k hk] at hor
  clear hk htk
  rcases hor with ⟨hle, rfl⟩ | ⟨hlt, rfl⟩
  case inl => omega
  replace hB := hB.kept hKn id
  replace hR := hR.kept hKn id
  replace hK := hK.trans hKn
  clear hKn
  have hv3 := hK.size
  have hv3R := hR.lt
  replace c_hB := hB.cell
  replace f_hB := hB.frozen
  replace c_hR := hR.cell
  replace f_hR := hR.frozen
  replace hB := hB.alloc (.cells #[.int .i64 b0, .int .i64 s0, .int .i64 t] 77)
  replace hR := hR.alloc (.cells #[.int .i64 b0, .int .i64 s0, .int .i64 t] 77)
  have hT := Bk.new (v3) 77 (#[.int .i64 b0, .int .i64 s0, .int .i64 t] : Array Value)
  replace hK := hK.alloc (.cells #[.int .i64 b0, .int .i64 s0, .int .i64 t] 77)
  have c_hT := hT.cell
  have f_hT := hT.frozen
  replace c_hB := hB.cell
  replace f_hB := hB.frozen
  replace c_hR := hR.cell
  replace f_hR := hR.frozen
  go_wp2_with fail
  refine (c4 _).mono ?_
  rintro e_ v4 ⟨rfl, hw4⟩
  generalize (v3.alloc (.cells #[.int .i64 b0, .int .i64 s0, .int .i64 t] 77)) = v5 at *
  obtain rfl := hw4
  go_wp2
  replace hB := hB.far (p := (⟨w.heap.size + 1, 0, none⟩ : Addr)) (by dsimp only; omega) (.int .i64 b0)
  replace hT := hT.far (p := (⟨w.heap.size + 1, 0, none⟩ : Addr)) (by dsimp only; omega) (.int .i64 b0)
  replace hR := hR.set_ 0 (.int .i64 b0)
  replace hK := hK.setCell (p := (⟨w.heap.size + 1, 0, none⟩ : Addr)) (fun h => absurd h (by dsimp only; omega)) (.int .i64 b0)
  replace hB := hB.far (p := (⟨w.heap.size + 1, 1, none⟩ : Addr)) (by dsimp only; omega) (.int .i64 s0)
  replace hT := hT.far (p := (⟨w.heap.size + 1, 1, none⟩ : Addr)) (by dsimp only; omega) (.int .i64 s0)
  replace hR := hR.set_ 1 (.int .i64 s0)
  replace hK := hK.setCell (p := (⟨w.heap.size + 1, 1, none⟩ : Addr)) (fun h => absurd h (by dsimp only; omega)) (.int .i64 s0)
  replace hB := hB.far (p := (⟨w.heap.size + 1, 2, none⟩ : Addr)) (by dsimp only; omega) (.int .i64 t)
  replace hT := hT.far (p := (⟨w.heap.size + 1, 2, none⟩ : Addr)) (by dsimp only; omega) (.int .i64 t)
  replace hR := hR.set_ 2 (.int .i64 t)
  replace hK := hK.setCell (p := (⟨w.heap.size + 1, 2, none⟩ : Addr)) (fun h => absurd h (by dsimp only; omega)) (.int .i64 t)
  replace hR : Bk ((((v5).setCell (⟨w.heap.size + 1, 0, none⟩ : Addr) (.int .i64 b0)).setCell (⟨w.heap.size + 1, 1, none⟩ : Addr) (.int .i64 s0)).setCell (⟨w.heap.size + 1, 2, none⟩ : Addr) (.int .i64 t)) (w.heap.size + 1) 77 (#[.int .i64 b0, .int .i64 s0, .int .i64 t] : Array Value) := by simpa using hR
  generalize ((((v5).setCell (⟨w.heap.size + 1, 0, none⟩ : Addr) (.int .i64 b0)).setCell (⟨w.heap.size + 1, 1, none⟩ : Addr) (.int .i64 s0)).setCell (⟨w.heap.size + 1, 2, none⟩ : Addr) (.int .i64 t)) = v7 at *
  replace c_hB := hB.cell
  replace f_hB := hB.frozen
  replace c_hR := hR.cell
  replace f_hR := hR.frozen
  replace c_hT := hT.cell
  replace f_hT := hT.frozen
  refine bodyPost_ret (v := .tuple #[.agg #[.int .i64 b0, .int .i64 s0, .int .i64 t], .int .i64 0, .int .i64 80]) (by simp [results, Try.results49, go_sem, c_hR]) rfl ⟨rfl, hK⟩

/-- The pointers that keep what they lead to. -/
def Obj.strong (o : Obj) : List Int := if o.shp.wk = true then [] else o.ptrs
def intCells (l : List Int) : List Value := l.map (Value.int .i64)
theorem intCells_snoc (l : List Int) (k : Nat) (h : k < l.length) : intCells (l.take k) ++ [.int .i64 (wd l k)] = intCells (l.take (k + 1)) := by
  rw [List.take_succ_eq_append_getElem h]
  unfold intCells wd
  rw [List.map_append, List.getD_eq_getElem?_getD, List.getElem?_eq_getElem h]
  rfl
theorem intCells_at (l : List Int) (k : Nat) (h : k < l.length) : (intCells l)[k]? = some (.int .i64 (wd l k)) := by
  simp [intCells, wd, h]

theorem int_infoM : (Try.prog.info? 3).map (fun i => (i.zero, i.size, i.bytes)) = some (some (.int .i64 0), 1, 8) := by kernel_rfl

set_option maxRecDepth 100000 in
set_option maxHeartbeats 2000000 in
theorem strong_yes (hA : ArenaAt w b g ws) (hn : ws.length ≤ 65536) {p : Nat} {o : Obj} (ho : ObjAt ws p o) :
    Calls Try.prog 58 #[.pointer (some ⟨b, 0, none⟩), .int .i64 p] w fun e w' => ∃ v, e = .returned (.tuple #[v, .int .i64 0]) ∧ w'.ownsRow w.heap.size 3 1 v o.strong.length (intCells o.strong) ∧ Kept NoBlk w w' := by
  have c1 : ∀ W, Kept NoBlk w W → _ := fun W kk => oshape_yes (hA.kept kk id id) hn ho
  have c2 : ∀ W, Kept NoBlk w W → _ := fun W kk (i : Nat) (hi : i < o.shp.p) => optr_yes (hA.kept kk id id) hn ho i hi
  obtain ⟨hp8, hd8, hwx⟩ := Shp.ok_bd ho.ok.shp
  clear hwx
  have hlen := ho.ok.np
  obtain ⟨i0, hi, hz0, hz1, hz2⟩ := info_parts int_infoM
  have HI := Lib.hid (And.intro hi (And.intro hz0 (And.intro hz1 hz2)))
  clear hi hz0 hz1 hz2 hA ho
  obtain ⟨⟨P, D, wk, fn⟩, fr, sc, sr, ps, ns⟩ := o
  dsimp only at *
  unfold Obj.strong
  dsimp only
  cases wk
  · rw [if_neg (by simp)]
    have HL := Lib.hid hlen
    rw [hlen]
    clear hlen
    go_enter Try.func58, Try.ntmps58
    have hK := Kept.refl NoBlk w
    go_wp2_with fail
    refine (c1 _ hK).mono ?_
    rintro e v1 ⟨rfl, hKn⟩
    replace hK := hK.trans hKn
    clear hKn
    have hS := Bk.new (v1) 25 (#[.int .i64 P, .int .i64 D, .bool false, .bool fn] : Array Value)
    replace hK := hK.alloc (.cells #[.int .i64 P, .int .i64 D, .bool false, .bool fn] 25)
    have c_hS := hS.cell
    have f_hS := hS.frozen
    go_wp2_with fail
    go_loopw [4, 27] (fun v i wr => ∃ k : Nat, k ≤ P ∧ i = .int .i64 k ∧ wr.ownsRow w.heap.size 3 1 v k (intCells (ps.take k)) ∧ Kept NoBlk w wr) (fun _ i _ => P - (intOf i).toNat)
    case atStart => exact ⟨0, by omega, rfl, World.ownsRow_nil _ _ _ _, hK⟩
    case round =>
      obtain ⟨k, hk, rfl, hown, hK3⟩ := hrel
      clear hS c_hS f_hS hK
      by_cases hlt : k < P
      · go_wp2_with fail
        refine (c2 _ hK3 k hlt).mono ?_
        rintro e w4 ⟨rfl, hKn⟩
        have hK4 := hK3.trans hKn
        have hown4 := own_kept hown hKn (fun _ h => h.elim)
        have hb4 := hK4.size
        clear hown hKn
        go_wp2_with (at_builtin; refine wpList_append_one rfl (.tmp 37) (.tmp 39) 74 rfl w.heap.size 3 i0 (.int .i64 0) 8 Try.underlying74 HI.out.1 HI.out.2.1 HI.out.2.2.1 HI.out.2.2.2 rfl _ k (intCells (ps.take k)) rfl (hown4.alloc _) w4.heap.size 3 (.int .i64 (wd ps k)) rfl (Bk.new _ _ _) rfl (by omega) (by omega) (by simp; omega) ?_; intro g1 cap1 w5 hown5 hK5)
        go_roundw
        case rel =>
          refine ⟨k + 1, by omega, by go_num, ?_, ?_⟩
          · rw [intCells_snoc _ _ (by have := HL.out; omega)] at hown5; exact hown5
          · exact (hK4.alloc _).over hK5 (fun i hi => (hown4.lt i hi).1)
        case measure => simp [intOf]; omega
      · obtain rfl : k = P := by omega
        have hws : ps.take k = ps := List.take_of_length_le (by have := HL.out; omega)
        rw [hws] at hown
        clear hws
        go_wp2
        go_ret2
        exact ⟨_, rfl, hown, hK3⟩
  · go_enter Try.func58, Try.ntmps58
    have hK := Kept.refl NoBlk w
    go_wp2_with fail
    refine (c1 _ hK).mono ?_
    rintro e v1 ⟨rfl, hKn⟩
    replace hK := hK.trans hKn
    clear hKn
    have hS := Bk.new (v1) 25 (#[.int .i64 P, .int .i64 D, .bool true, .bool fn] : Array Value)
    replace hK := hK.alloc (.cells #[.int .i64 P, .int .i64 D, .bool true, .bool fn] 25)
    have c_hS := hS.cell
    have f_hS := hS.frozen
    go_wp2
    go_ret2
    exact ⟨_, rfl, World.ownsRow_nil _ _ _ _, hK⟩

end

end Go.Proofs.Ytccgnnnildedoaa
