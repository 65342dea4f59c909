/-
  The contracts of the document's own arena (middenheapref02): what each of its functions answers, and what becomes of memory.
  Conditions: as each statement says; the arena has at most 65536 words.
-/
import Derived.Test.YtenphgmohhdjeaaFillAny
import Derived.Test.YtenphgmohhdjeaaHeld
set_option linter.unusedVariables false
namespace Go.Proofs.Ytenphgmohhdjeaa
open Go.RowKit

set_option maxHeartbeats 400000 in
theorem rhas_yes {b g : Nat} {ws : List Int} {w : World} (hA : ArenaAt w b g ws) (hn : ws.length ≤ 65536) (at_ k : Int)
   (h0 : 0 ≤ at_) (h1 : 0 ≤ k) (h2 : at_ + k ≤ ws.length) :
    Calls Try.prog 65 #[.pointer (some ⟨b, 0, none⟩), .int .i64 at_, .int .i64 k] w fun e w' => e = .returned (.bool true) ∧ w = w' := by
  have hb := hA.hcell
  obtain ⟨n, hn'⟩ : ∃ n, ws.length = n := ⟨_, rfl⟩
  rw [hn'] at hb h2 hn
  clear hn' hA
  go_enter Try.func65, Try.ntmps65
  go_wp2
  go_ret
  exact ⟨congrArg Ending.returned (congrArg Value.bool (decide_eq_true (by omega))), rfl⟩

set_option maxHeartbeats 400000 in
theorem rhas_no {b g : Nat} {ws : List Int} {w : World} (hA : ArenaAt w b g ws) (hn : ws.length ≤ 65536) (at_ k : Int)
   (bd1 : -9223372036854775808 ≤ at_) (bd2 : at_ ≤ 9223372036854775807) (bd3 : -9223372036854775808 ≤ k) (bd4 : k ≤ 9223372036854775807)
   (h : fitsA ws.length at_ k = false) :
    Calls Try.prog 65 #[.pointer (some ⟨b, 0, none⟩), .int .i64 at_, .int .i64 k] w fun e w' => e = .returned (.bool false) ∧ w = w' := by
  have hb := hA.hcell
  have h := fitsA_f h
  obtain ⟨n, hn'⟩ : ∃ n, ws.length = n := ⟨_, rfl⟩
  rw [hn'] at hb h hn
  clear hn' hA
  by_cases c1 : at_ < 0
  · clear h
    go_enter Try.func65, Try.ntmps65
    go_wp2
    go_ret
    exact ⟨rfl, rfl⟩
  by_cases c2 : k < 0
  · clear h
    go_enter Try.func65, Try.ntmps65
    go_wp2
    go_ret
    exact ⟨rfl, rfl⟩
  by_cases c3 : (n : Int) < at_
  · clear h
    go_enter Try.func65, Try.ntmps65
    go_wp2
    go_ret
    exact ⟨rfl, rfl⟩
  have c4 : ¬ k ≤ n - at_ := by omega
  clear h
  go_enter Try.func65, Try.ntmps65
  go_wp2
  go_ret
  exact ⟨rfl, rfl⟩

theorem rhas_any {b g : Nat} {ws : List Int} {w : World} (hA : ArenaAt w b g ws) (hn : ws.length ≤ 65536) (at_ k : Int)
   (bd1 : -9223372036854775808 ≤ at_) (bd2 : at_ ≤ 9223372036854775807) (bd3 : -9223372036854775808 ≤ k) (bd4 : k ≤ 9223372036854775807) :
    Calls Try.prog 65 #[.pointer (some ⟨b, 0, none⟩), .int .i64 at_, .int .i64 k] w fun e w' => e = .returned (.bool (fitsA ws.length at_ k)) ∧ w = w' := by
  cases h : fitsA ws.length at_ k with
  | true => obtain ⟨h0, h1, h2, h3⟩ := fitsA_t h; exact rhas_yes hA hn at_ k h0 h1 (by omega)
  | false => exact rhas_no hA hn at_ k bd1 bd2 bd3 bd4 h

set_option maxHeartbeats 400000 in
theorem rlen_any {b g : Nat} {ws : List Int} {w : World} (hA : ArenaAt w b g ws) :
    Calls Try.prog 37 #[.pointer (some ⟨b, 0, none⟩)] w fun e w' => e = .returned (.int .i64 ws.length) ∧ w = w' := by
  have hb := hA.hcell
  go_enter Try.func37, Try.ntmps37
  go_wp2
  go_ret
  exact ⟨rfl, rfl⟩

set_option maxHeartbeats 400000 in
theorem rload_yes {b g : Nat} {ws : List Int} {w : World} (hA : ArenaAt w b g ws) (hn : ws.length ≤ 65536) (at_ : Int) (h0 : 0 ≤ at_) (h1 : at_ < ws.length) :
    Calls Try.prog 35 #[.pointer (some ⟨b, 0, none⟩), .int .i64 at_] w fun e w' =>
      e = .returned (.tuple #[.int .u64 (wd ws at_.toNat), .int .i64 0]) ∧ w = w' := by
  have hw := hA.word (i := at_.toNat) (by omega)
  have hb := hA.hcell
  go_enter Try.func35, Try.ntmps35
  go_wp2_with fail
  refine (rhas_yes hA hn _ _ h0 (by omega) (by omega)).mono ?_
  rintro e w' ⟨rfl, rfl⟩
  go_wp2
  go_ret2
  exact ⟨rfl, rfl⟩

set_option maxHeartbeats 400000 in
theorem rload_no {b g : Nat} {ws : List Int} {w : World} (hA : ArenaAt w b g ws) (hn : ws.length ≤ 65536) (at_ : Int)
    (bd1 : -9223372036854775808 ≤ at_) (bd2 : at_ ≤ 9223372036854775807) (h : fitsA ws.length at_ 1 = false) :
    Calls Try.prog 35 #[.pointer (some ⟨b, 0, none⟩), .int .i64 at_] w fun e w' =>
      e = .returned (.tuple #[.int .u64 0, .int .i64 20]) ∧ w = w' := by
  have H := Lib.hid h
  clear h
  go_enter Try.func35, Try.ntmps35
  go_wp2_with fail
  refine (rhas_no hA hn _ _ bd1 bd2 (by omega) (by omega) H.out).mono ?_
  rintro e w' ⟨rfl, rfl⟩
  go_wp2
  go_ret2
  exact ⟨rfl, rfl⟩

set_option maxHeartbeats 1000000 in
theorem rfill_yes {b g : Nat} {ws : List Int} {w : World} (hA : ArenaAt w b g ws) (hn : ws.length ≤ 65536) (at_ k x : Int)
   (h0 : 0 ≤ at_) (h1 : 0 ≤ k) (h2 : at_ + k ≤ ws.length) :
    Calls Try.prog 31 #[.pointer (some ⟨b, 0, none⟩), .int .i64 at_, .int .i64 k, .int .u64 x] w fun e w' =>
      e = .returned (.int .i64 0) ∧ ArenaAt w' b g (fillN ws at_.toNat k.toNat x) ∧ Kept (OneBlk g) w w' := by
  go_enter Try.func31, Try.ntmps31
  go_wp2_with fail
  refine (rhas_yes hA hn _ _ h0 h1 h2).mono ?_
  rintro e w' ⟨rfl, rfl⟩
  obtain ⟨k, rfl⟩ := Int.eq_ofNat_of_zero_le h1
  obtain ⟨p, rfl⟩ := Int.eq_ofNat_of_zero_le h0
  simp only [Int.toNat_natCast]
  go_wp2
  go_loopw [10] (fun i wr => ∃ j : Nat, j ≤ k ∧ i = .int .i64 j ∧ ArenaAt wr b g (fillN ws p j x) ∧ Kept (OneBlk g) w wr) (fun i _ => k - (intOf i).toNat)
  case atStart => exact ⟨0, by omega, rfl, hA, Kept.refl _ _⟩
  case round =>
    obtain ⟨j, hj, rfl, hA', hK⟩ := hrel
    by_cases hlt : j < k
    · have hl := length_fillN ws p j x
      have hw := hA'.word (i := p + j) (by omega)
      have hf := hA'.free (p + j)
      have hb := hA'.hcell
      rw [hl] at hb
      have Hl := Lib.hid hl
      clear hl
      have e0 : (0 : Int) ≤ (p : Int) + (j : Int) := by omega
      have e1 : (p : Int) + (j : Int) < (ws.length : Int) := by omega
      go_wp2
      go_roundw
      case rel => exact ⟨j + 1, by omega, by go_num, hA'.set_ _ _, hK.setCell (p := ⟨g, _, none⟩) (fun _ => rfl) _⟩
      case measure => simp [intOf]; omega
    · obtain rfl : j = k := by omega
      go_wp2
      go_ret
      exact ⟨rfl, hA', hK⟩

set_option maxHeartbeats 400000 in
theorem rfill_no {b g : Nat} {ws : List Int} {w : World} (hA : ArenaAt w b g ws) (hn : ws.length ≤ 65536) (at_ k x : Int)
    (bd1 : -9223372036854775808 ≤ at_) (bd2 : at_ ≤ 9223372036854775807) (bd3 : -9223372036854775808 ≤ k) (bd4 : k ≤ 9223372036854775807) (h : fitsA ws.length at_ k = false) :
    Calls Try.prog 31 #[.pointer (some ⟨b, 0, none⟩), .int .i64 at_, .int .i64 k, .int .u64 x] w fun e w' =>
      e = .returned (.int .i64 20) ∧ w = w' := by
  have H := Lib.hid h
  clear h
  go_enter Try.func31, Try.ntmps31
  go_wp2_with fail
  refine (rhas_no hA hn _ _ bd1 bd2 bd3 bd4 H.out).mono ?_
  rintro e w' ⟨rfl, rfl⟩
  go_wp2
  go_ret
  exact ⟨rfl, rfl⟩

theorem rfill_any {b g : Nat} {ws : List Int} {w : World} (hA : ArenaAt w b g ws) (hn : ws.length ≤ 65536) (at_ k x : Int)
    (bd1 : -9223372036854775808 ≤ at_) (bd2 : at_ ≤ 9223372036854775807) (bd3 : -9223372036854775808 ≤ k) (bd4 : k ≤ 9223372036854775807) :
    Calls Try.prog 31 #[.pointer (some ⟨b, 0, none⟩), .int .i64 at_, .int .i64 k, .int .u64 x] w fun e w' =>
      ∃ (c : Int) (ws' : List Int), e = .returned (.int .i64 c) ∧ Hid (ws'.length = ws.length) ∧ Hid (if fitsA ws.length at_ k then c = 0 ∧ ws' = fillN ws at_.toNat k.toNat x else c = 20 ∧ ws' = ws) ∧ ArenaAt w' b g ws' ∧ Kept (OneBlk g) w w' := by
  cases h : fitsA ws.length at_ k with
  | true =>
    obtain ⟨h0, h1, h2, h3⟩ := fitsA_t h
    exact (rfill_yes hA hn at_ k x h0 h1 (by omega)).mono fun _ _ ⟨he, hA', hK⟩ => ⟨_, _, he, length_fillN _ _ _ _, by show ite _ _ _; rw [if_pos rfl]; exact ⟨rfl, rfl⟩, hA', hK⟩
  | false =>
    exact (rfill_no hA hn at_ k x bd1 bd2 bd3 bd4 h).mono fun _ _ ⟨he, hw⟩ => ⟨_, ws, he, rfl, by show ite _ _ _; rw [if_neg (by simp)]; exact ⟨rfl, rfl⟩, hw ▸ hA, hw ▸ Kept.refl _ _⟩

set_option maxHeartbeats 400000 in
theorem rstore_yes {b g : Nat} {ws : List Int} {w : World} (hA : ArenaAt w b g ws) (hn : ws.length ≤ 65536) (at_ x : Int)
   (h0 : 0 ≤ at_) (h1 : at_ < ws.length) :
    Calls Try.prog 29 #[.pointer (some ⟨b, 0, none⟩), .int .i64 at_, .int .u64 x] w fun e w' =>
      e = .returned (.int .i64 0) ∧ ArenaAt w' b g (ws.set at_.toNat x) ∧ Kept (OneBlk g) w w' := by
  go_enter Try.func29, Try.ntmps29
  go_wp2_with fail
  refine (rfill_yes hA hn _ _ _ h0 (by omega) (by omega)).mono ?_
  rintro e w' ⟨rfl, hA', hK⟩
  go_wp2
  go_ret
  exact ⟨rfl, by simpa [fillN] using hA', hK⟩

set_option maxHeartbeats 400000 in
theorem rstore_no {b g : Nat} {ws : List Int} {w : World} (hA : ArenaAt w b g ws) (hn : ws.length ≤ 65536) (at_ x : Int)
    (bd1 : -9223372036854775808 ≤ at_) (bd2 : at_ ≤ 9223372036854775807) (h : fitsA ws.length at_ 1 = false) :
    Calls Try.prog 29 #[.pointer (some ⟨b, 0, none⟩), .int .i64 at_, .int .u64 x] w fun e w' =>
      e = .returned (.int .i64 20) ∧ w = w' := by
  have H := Lib.hid h
  clear h
  go_enter Try.func29, Try.ntmps29
  go_wp2_with fail
  refine (rfill_no hA hn _ _ _ bd1 bd2 (by omega) (by omega) H.out).mono ?_
  rintro e w' ⟨rfl, rfl⟩
  go_wp2
  go_ret
  exact ⟨rfl, rfl⟩

theorem rstore_any {b g : Nat} {ws : List Int} {w : World} (hA : ArenaAt w b g ws) (hn : ws.length ≤ 65536) (at_ x : Int)
    (bd1 : -9223372036854775808 ≤ at_) (bd2 : at_ ≤ 9223372036854775807) :
    Calls Try.prog 29 #[.pointer (some ⟨b, 0, none⟩), .int .i64 at_, .int .u64 x] w fun e w' =>
      ∃ (c : Int) (ws' : List Int), e = .returned (.int .i64 c) ∧ Hid (ws'.length = ws.length) ∧ Hid (if fitsA ws.length at_ 1 then c = 0 ∧ ws' = ws.set at_.toNat x else c = 20 ∧ ws' = ws) ∧ ArenaAt w' b g ws' ∧ Kept (OneBlk g) w w' := by
  cases h : fitsA ws.length at_ 1 with
  | true =>
    obtain ⟨h0, h1, h2, h3⟩ := fitsA_t h
    exact (rstore_yes hA hn at_ x h0 (by omega)).mono fun _ _ ⟨he, hA', hK⟩ => ⟨_, _, he, List.length_set, by show ite _ _ _; rw [if_pos rfl]; exact ⟨rfl, rfl⟩, hA', hK⟩
  | false =>
    exact (rstore_no hA hn at_ x bd1 bd2 h).mono fun _ _ ⟨he, hw⟩ => ⟨_, ws, he, rfl, by show ite _ _ _; rw [if_neg (by simp)]; exact ⟨rfl, rfl⟩, hw ▸ hA, hw ▸ Kept.refl _ _⟩

set_option maxHeartbeats 400000 in
theorem rnew_yes (n : Nat) (h1 : 1 ≤ n) (h2 : n ≤ 65536) (w : World) :
    Calls Try.prog 26 #[.int .i64 n] w fun e w' =>
      ∃ b g : Nat, e = .returned (.tuple #[.pointer (some ⟨b, 0, none⟩), .int .i64 0]) ∧ ArenaAt w' b g (List.replicate n 0) ∧ Kept NoBlk w w' ∧ w.heap.size ≤ b ∧ w.heap.size ≤ g := by
  have hmk := fun W => run_make_row' (P := Try.prog) 42 32 (.int .u64 0) 8 Try.underlying42 u64_info rfl .i64 .i64 n (by omega) (by omega) W
  rw [madeCells_words] at hmk
  go_enter Try.func26, Try.ntmps26
  go_wp2
  go_ret2
  refine ⟨w.heap.size + 1, w.heap.size, rfl, ⟨⟨92, ?_⟩, ⟨32, (Bk.new w _ _).alloc _⟩, by omega⟩, ((Kept.refl _ _).alloc _).alloc _, Nat.le_succ _, Nat.le_refl _⟩
  have := Bk.new (w.alloc (.cells (wordCells (List.replicate n 0)).toArray 32)) 92 #[Value.slice (some ⟨w.heap.size, 0, none⟩) n n]
  simpa using this

set_option maxHeartbeats 400000 in
theorem rnew_no (n : Int) (h1 : n < 1 ∨ 65536 < n) (w : World) :
    Calls Try.prog 26 #[.int .i64 n] w fun e w' => e = .returned (.tuple #[.pointer none, .int .i64 1]) ∧ w = w' := by
  rcases h1 with h1 | h1
  · go_enter Try.func26, Try.ntmps26
    go_wp2
    go_ret2
    exact ⟨rfl, rfl⟩
  · have h2 : ¬ n < 1 := by omega
    go_enter Try.func26, Try.ntmps26
    go_wp2
    go_ret2
    exact ⟨rfl, rfl⟩

/-- What the document's Move makes of words, after j rounds. -/
def mvN (ws : List Int) (p q : Nat) : Nat → List Int
  | 0 => ws
  | j + 1 => (mvN ws p q j).set (q + j) (wd ws (p + j))
theorem length_mvN (ws : List Int) (p q : Nat) : ∀ j, (mvN ws p q j).length = ws.length
  | 0 => rfl
  | j + 1 => by simp [mvN, length_mvN ws p q j]
theorem mvN_wd (ws : List Int) (p q : Nat) : ∀ j, q + j ≤ ws.length → ∀ i, wd (mvN ws p q j) i = if q ≤ i ∧ i < q + j then wd ws (p + (i - q)) else wd ws i
  | 0, _, i => by rw [if_neg (by omega)]; rfl
  | j + 1, h, i => by
    have ih := mvN_wd ws p q j (by omega) i
    have hl := length_mvN ws p q j
    unfold wd at ih ⊢
    simp only [mvN, List.getD_eq_getElem?_getD, List.getElem?_set] at ih ⊢
    by_cases e : q + j = i
    · subst e
      rw [if_pos rfl, if_pos (by omega), if_pos (by omega), show p + (q + j - q) = p + j by omega]
      rfl
    · rw [if_neg e, ih]
      by_cases hc : q ≤ i ∧ i < q + j
      · rw [if_pos hc, if_pos (by omega)]
      · rw [if_neg hc, if_neg (by omega)]
theorem wd_ext {a b : List Int} (hl : a.length = b.length) (h : ∀ i, i < a.length → wd a i = wd b i) : a = b := by
  apply List.ext_getElem hl
  intro i h1 h2
  have := h i h1
  unfold wd at this
  simpa [h1, h2] using this
theorem mvN_move (ws : List Int) (p q n : Nat) (h1 : p + n ≤ ws.length) (h2 : q + n ≤ ws.length) : mvN ws p q n = moveN ws p q n := by
  apply wd_ext
  · rw [length_mvN, length_moveN ws p q n h1 h2]
  · intro i _
    rw [mvN_wd ws p q n h2, moveN_wd ws p q n h1 h2]

set_option maxRecDepth 100000 in
set_option maxHeartbeats 1000000 in
theorem rmove_yes {b g : Nat} {ws : List Int} {w : World} (hA : ArenaAt w b g ws) (hn : ws.length ≤ 65536) (p q n : Int)
   (h0 : 0 ≤ p) (h1 : 0 ≤ q) (h2 : 0 ≤ n) (h3 : p + n ≤ ws.length) (h4 : q + n ≤ ws.length) :
    Calls Try.prog 33 #[.pointer (some ⟨b, 0, none⟩), .int .i64 p, .int .i64 q, .int .i64 n] w fun e w' =>
      e = .returned (.int .i64 0) ∧ ArenaAt w' b g (moveN ws p.toNat q.toNat n.toNat) ∧ Kept (OneBlk g) w w' := by
  obtain ⟨n, rfl⟩ := Int.eq_ofNat_of_zero_le h2
  obtain ⟨p, rfl⟩ := Int.eq_ofNat_of_zero_le h0
  obtain ⟨q, rfl⟩ := Int.eq_ofNat_of_zero_le h1
  simp only [Int.toNat_natCast]
  obtain ⟨i0, hi, hz0, hz1, hz2⟩ := info_parts u64_info
  have HI := Lib.hid (And.intro hi (And.intro hz0 (And.intro hz1 hz2)))
  clear hi hz0 hz1 hz2
  rw [← mvN_move ws p q n (by omega) (by omega)]
  have hR1 := rhas_yes hA hn p n h0 h2 h3
  have hR2 := rhas_yes hA hn q n h1 h2 h4
  have hb := hA.hcell
  have hg := hA.glt
  have hbl := hA.blt
  have HA := Lib.hid hA
  clear hA
  obtain ⟨len, hlen⟩ : ∃ len, ws.length = len := ⟨_, rfl⟩
  rw [hlen] at hb hn h3 h4
  have HLEN := Lib.hid hlen
  clear hlen
  by_cases hz : n = 0
  · subst hz
    by_cases hpl : p = len
    all_goals
      (try subst hpl)
      go_enter Try.func33, Try.ntmps33
      go_wp2_with fail
      refine hR1.mono ?_
      rintro e w1 ⟨rfl, rfl⟩
      go_wp2_with fail
      refine hR2.mono ?_
      rintro e w1 ⟨rfl, rfl⟩
      go_wp2_with fail
      go_loop [12] (fun i => i = .int .i64 0) (fun _ => 0)
      case atStart => rfl
      case round =>
        obtain rfl := hrel
        go_wp2
        go_ret
        exact ⟨rfl, HA.out, Kept.refl _ _⟩
  · have hpn : ¬ p = len := by omega
    have hUc : ∀ i, i < len → w.cell? ⟨g, i, none⟩ = some (.int .u64 (wd ws i)) := fun i hi => HA.out.word (by rw [HLEN.out]; exact hi)
    have HUc := Lib.hid hUc
    clear hUc
    have hnews : ∀ (j : Nat) (u : Value), (wordCells ((ws.drop p).take n))[j]? = some u → w.cell? ((⟨g, p, none⟩ : Addr).add j) = some u := by
      intro j u hj
      rw [addr_add]
      simp only [wordCells, List.getElem?_map, List.getElem?_take, List.getElem?_drop] at hj
      by_cases c : j < n
      · rw [if_pos c] at hj
        have hjl : p + j < ws.length := by have := HLEN.out; omega
        rw [HUc.out (p + j) (by omega)]
        unfold wd
        rw [List.getD_eq_getElem?_getD]
        rw [List.getElem?_eq_getElem hjl] at hj ⊢
        simpa using hj
      · rw [if_neg c] at hj; cases hj
    have hnl : (wordCells ((ws.drop p).take n)).length = (p + n - p) * 1 := by have := HLEN.out; simp [wordCells]; omega
    have hone : ∀ u ∈ wordCells ((ws.drop p).take n), u.oneCell' = true := fun v hv => by
      obtain ⟨x, _, rfl⟩ := List.mem_map.1 hv; rfl
    have Hnews := Lib.hid hnews
    have Hnl := Lib.hid hnl
    have Hone := Lib.hid hone
    clear hnews hnl hone
    go_enter Try.func33, Try.ntmps33
    go_wp2_with fail
    refine hR1.mono ?_
    rintro e w1 ⟨rfl, rfl⟩
    go_wp2_with fail
    refine hR2.mono ?_
    rintro e w1 ⟨rfl, rfl⟩
    go_wp2_with (at_builtin; refine wpList_append_own w rfl (.const (.slice none 0 0)) (.tmp 35) 42 rfl w.heap.size 32 i0 (.int .u64 0) 1 8 Try.underlying42 HI.out.1 HI.out.2.1 HI.out.2.2.1 HI.out.2.2.2 rfl (by decide) (.slice none 0 0) 0 [] rfl (World.ownsRow_nil _ _ _ _) ⟨g, p, none⟩ (p + n - p) (len - p) (wordCells ((ws.drop p).take n)) rfl Hnl.out Hnews.out Hone.out (by simp only [maxLen]; omega) (by omega) (Nat.le_refl _) ?_; intro v1 w1 hown1 hgr1 _)
    rw [Nat.add_sub_cancel_left, Nat.zero_add, List.nil_append] at hown1
    obtain ⟨r, cap, rfl, hrb, hrl⟩ := hown1.form (by omega)
    have hK1 : Kept NoBlk w w1 := (Kept.refl NoBlk w).grown hgr1 (fun k hk _ => by simp [Value.ownBlock] at hk)
    have hA1 := HA.out.kept hK1 id id
    clear hgr1
    have Hown1 := Lib.hid hown1
    clear hown1
    go_wp2_with fail
    go_loopw [12] (fun i wr => ∃ j : Nat, j ≤ n ∧ i = .int .i64 j ∧ ArenaAt wr b g (mvN ws p q j) ∧ wr.ownsRow w.heap.size 32 1 (.slice (some ⟨r, 0, none⟩) n cap) n (wordCells ((ws.drop p).take n)) ∧ Kept (OneBlk g) w wr) (fun i _ => n - (intOf i).toNat)
    case atStart => exact ⟨0, by omega, rfl, hA1, Hown1.out, hK1.mono (fun _ _ h => h.elim)⟩
    case round =>
      obtain ⟨j, hj, rfl, hAr, hor, hKr⟩ := hrel
      by_cases hlt : j < n
      · have hl := length_mvN ws p q j
        have hjl : p + j < ws.length := by have := HLEN.out; omega
        have cl : wr.cell? ⟨r, j, none⟩ = some (.int .u64 (wd ws (p + j))) := own_cell hor (by
          simp only [wordCells, List.getElem?_map, List.getElem?_take, List.getElem?_drop, if_pos hlt]
          unfold wd
          rw [List.getD_eq_getElem?_getD, List.getElem?_eq_getElem hjl]; rfl)
        have ch := hAr.hcell
        rw [hl, HLEN.out] at ch
        have cw := hAr.word (i := q + j) (by rw [hl]; have := HLEN.out; omega)
        have fw := hAr.free (q + j)
        have Hl := Lib.hid hl
        clear hl
        have hrlt := (hor.lt r rfl).1
        have e0 : (0 : Int) ≤ (j : Int) := by omega
        have e1 : (j : Int) < (n : Int) := by omega
        have e2 : (0 : Int) ≤ (q : Int) + (j : Int) := by omega
        have e3 : (q : Int) + (j : Int) < (len : Int) := by omega
        have hbg := HA.out.ne
        have hw1 : IntKind.i64.wrap ((q : Int) + (j : Int)) = (q : Int) + (j : Int) := IntWalk.i64_in _ (by omega)
        have hw2 : ((q : Int) + (j : Int)).toNat = q + j := by omega
        have hrg : r ≠ g := by omega
        go_wp2_with fail
        refine wp_region_held_drew (S := (fun V => V.cell? ⟨r, j, none⟩ = some (.int .u64 (wd ws (p + j))) ∧ V.cell? ⟨b, 0, none⟩ = some (.slice (some ⟨g, 0, none⟩) len len))) (by kernel_rfl) (by ((try dsimp only); exact ⟨cl, ch⟩)) (fun hHeld => ?_)
        ((first
          | (refine wpAnyH_takeL (i := 0) (v := ?hv1) rfl (by kernel_rfl) (by kernel_rfl) (by kernel_rfl) (fun _ _ _ h => h) (Or.inl (And.intro ?hw1 ?hy1)) (by assumption) ?rest1
             case hw1 => rfl
             case hy1 => (intro wHy hSw; (try dsimp only at hSw); go_simp; (first | done | with_reducible rfl)))
          | (refine wpAnyH_takeL (i := 0) (v := undef) rfl (by kernel_rfl) (by kernel_rfl) (by kernel_rfl) (fun _ _ _ h => h) (Or.inr (And.intro (by rfl) rfl)) (by assumption) ?rest1x))
         (try simp only [Act.put, List.setIfInBounds_toArray, List.set_cons_zero, List.set_cons_succ]))
        ((first
          | (refine wpAnyH_takeL (i := 1) (v := ?hv2) rfl (by kernel_rfl) (by kernel_rfl) (by kernel_rfl) (fun _ _ _ h => h) (Or.inl (And.intro ?hw2 ?hy2)) (by assumption) ?rest2
             case hw2 => rfl
             case hy2 => (intro wHy hSw; (try dsimp only at hSw); go_simp; (first | done | with_reducible rfl)))
          | (refine wpAnyH_takeL (i := 1) (v := undef) rfl (by kernel_rfl) (by kernel_rfl) (by kernel_rfl) (fun _ _ _ h => h) (Or.inr (And.intro (by rfl) rfl)) (by assumption) ?rest2x))
         (try simp only [Act.put, List.setIfInBounds_toArray, List.set_cons_zero, List.set_cons_succ]))
        ((first
          | (refine wpAnyH_takeL (i := 2) (v := ?hv3) rfl (by kernel_rfl) (by kernel_rfl) (by kernel_rfl) (fun _ _ _ h => h) (Or.inl (And.intro ?hw3 ?hy3)) (by assumption) ?rest3
             case hw3 => rfl
             case hy3 => (intro wHy hSw; (try dsimp only at hSw); go_simp; (first | done | with_reducible rfl)))
          | (refine wpAnyH_takeL (i := 2) (v := undef) rfl (by kernel_rfl) (by kernel_rfl) (by kernel_rfl) (fun _ _ _ h => h) (Or.inr (And.intro (by rfl) rfl)) (by assumption) ?rest3x))
         (try simp only [Act.put, List.setIfInBounds_toArray, List.set_cons_zero, List.set_cons_succ]))
        ((first
          | (refine wpAnyH_takeL (i := 3) (v := ?hv4) rfl (by kernel_rfl) (by kernel_rfl) (by kernel_rfl) (fun _ _ _ h => h) (Or.inl (And.intro ?hw4 ?hy4)) (by assumption) ?rest4
             case hw4 => rfl
             case hy4 => (intro wHy hSw; (try dsimp only at hSw); go_simp; (first | done | with_reducible rfl)))
          | (refine wpAnyH_takeL (i := 3) (v := undef) rfl (by kernel_rfl) (by kernel_rfl) (by kernel_rfl) (fun _ _ _ h => h) (Or.inr (And.intro (by rfl) rfl)) (by assumption) ?rest4x))
         (try simp only [Act.put, List.setIfInBounds_toArray, List.set_cons_zero, List.set_cons_succ]))
        ((first
          | (refine wpAnyH_takeL (i := 4) (v := ?hv5) rfl (by kernel_rfl) (by kernel_rfl) (by kernel_rfl) (fun _ _ _ h => h) (Or.inl (And.intro ?hw5 ?hy5)) (by assumption) ?rest5
             case hw5 => rfl
             case hy5 => (intro wHy hSw; (try dsimp only at hSw); go_simp; (first | done | with_reducible rfl)))
          | (refine wpAnyH_takeL (i := 4) (v := undef) rfl (by kernel_rfl) (by kernel_rfl) (by kernel_rfl) (fun _ _ _ h => h) (Or.inr (And.intro (by rfl) rfl)) (by assumption) ?rest5x))
         (try simp only [Act.put, List.setIfInBounds_toArray, List.set_cons_zero, List.set_cons_succ]))
        ((first
          | (refine wpAnyH_takeL (i := 5) (v := ?hv6) rfl (by kernel_rfl) (by kernel_rfl) (by kernel_rfl) (fun _ _ _ h => h) (Or.inl (And.intro ?hw6 ?hy6)) (by assumption) ?rest6
             case hw6 => rfl
             case hy6 => (intro wHy hSw; (try dsimp only at hSw); go_simp; (first | done | with_reducible rfl)))
          | (refine wpAnyH_takeL (i := 5) (v := undef) rfl (by kernel_rfl) (by kernel_rfl) (by kernel_rfl) (fun _ _ _ h => h) (Or.inr (And.intro (by rfl) rfl)) (by assumption) ?rest6x))
         (try simp only [Act.put, List.setIfInBounds_toArray, List.set_cons_zero, List.set_cons_succ]))
        ((first
          | (refine wpAnyH_takeL (i := 6) (v := ?hv7) rfl (by kernel_rfl) (by kernel_rfl) (by kernel_rfl) (fun _ _ _ h => h) (Or.inl (And.intro ?hw7 ?hy7)) (by assumption) ?rest7
             case hw7 => rfl
             case hy7 => (intro wHy hSw; (try dsimp only at hSw); go_simp; (first | done | with_reducible rfl)))
          | (refine wpAnyH_takeL (i := 6) (v := undef) rfl (by kernel_rfl) (by kernel_rfl) (by kernel_rfl) (fun _ _ _ h => h) (Or.inr (And.intro (by rfl) rfl)) (by assumption) ?rest7x))
         (try simp only [Act.put, List.setIfInBounds_toArray, List.set_cons_zero, List.set_cons_succ]))
        ((first
          | (refine wpAnyH_takeL (i := 7) (v := ?hv8) rfl (by kernel_rfl) (by kernel_rfl) (by kernel_rfl) (fun _ _ _ h => h) (Or.inl (And.intro ?hw8 ?hy8)) (by assumption) ?rest8
             case hw8 => rfl
             case hy8 => (intro wHy hSw; (try dsimp only at hSw); go_simp; (first | done | with_reducible rfl)))
          | (refine wpAnyH_takeL (i := 7) (v := undef) rfl (by kernel_rfl) (by kernel_rfl) (by kernel_rfl) (fun _ _ _ h => h) (Or.inr (And.intro (by rfl) rfl)) (by assumption) ?rest8x))
         (try simp only [Act.put, List.setIfInBounds_toArray, List.set_cons_zero, List.set_cons_succ]))
        ((first
          | (refine wpAnyH_takeL (i := 8) (v := ?hv9) rfl (by kernel_rfl) (by kernel_rfl) (by kernel_rfl) (fun _ _ _ h => h) (Or.inl (And.intro ?hw9 ?hy9)) (by assumption) ?rest9
             case hw9 => rfl
             case hy9 => (intro wHy hSw; (try dsimp only at hSw); go_simp; (first | done | with_reducible rfl)))
          | (refine wpAnyH_takeL (i := 8) (v := undef) rfl (by kernel_rfl) (by kernel_rfl) (by kernel_rfl) (fun _ _ _ h => h) (Or.inr (And.intro (by rfl) rfl)) (by assumption) ?rest9x))
         (try simp only [Act.put, List.setIfInBounds_toArray, List.set_cons_zero, List.set_cons_succ]))
        ((first
          | (refine wpAnyH_takeL (i := 9) (v := ?hv10) rfl (by kernel_rfl) (by kernel_rfl) (by kernel_rfl) (fun _ _ _ h => h) (Or.inl (And.intro ?hw10 ?hy10)) (by assumption) ?rest10
             case hw10 => rfl
             case hy10 => (intro wHy hSw; (try dsimp only at hSw); go_simp; (first | done | with_reducible rfl)))
          | (refine wpAnyH_takeL (i := 9) (v := undef) rfl (by kernel_rfl) (by kernel_rfl) (by kernel_rfl) (fun _ _ _ h => h) (Or.inr (And.intro (by rfl) rfl)) (by assumption) ?rest10x))
         (try simp only [Act.put, List.setIfInBounds_toArray, List.set_cons_zero, List.set_cons_succ]))
        ((first
          | (refine wpAnyH_takeL (i := 10) (v := ?hv11) rfl (by kernel_rfl) (by kernel_rfl) (by kernel_rfl) (fun _ _ _ h => h) (Or.inl (And.intro ?hw11 ?hy11)) (by assumption) ?rest11
             case hw11 => rfl
             case hy11 => (intro wHy hSw; (try dsimp only at hSw); go_simp; (first | done | with_reducible rfl)))
          | (refine wpAnyH_takeL (i := 10) (v := undef) rfl (by kernel_rfl) (by kernel_rfl) (by kernel_rfl) (fun _ _ _ h => h) (Or.inr (And.intro (by rfl) rfl)) (by assumption) ?rest11x))
         (try simp only [Act.put, List.setIfInBounds_toArray, List.set_cons_zero, List.set_cons_succ]))
        ((first
          | (refine wpAnyH_takeL (i := 11) (v := ?hv12) rfl (by kernel_rfl) (by kernel_rfl) (by kernel_rfl) (fun _ _ _ h => h) (Or.inl (And.intro ?hw12 ?hy12)) (by assumption) ?rest12
             case hw12 => rfl
             case hy12 => (intro wHy hSw; (try dsimp only at hSw); go_simp; (first | done | with_reducible rfl)))
          | (refine wpAnyH_takeL (i := 11) (v := undef) rfl (by kernel_rfl) (by kernel_rfl) (by kernel_rfl) (fun _ _ _ h => h) (Or.inr (And.intro (by rfl) rfl)) (by assumption) ?rest12x))
         (try simp only [Act.put, List.setIfInBounds_toArray, List.set_cons_zero, List.set_cons_succ]))
        refine wpAnyH_ready (rs := [12]) (by kernel_rfl) (by simp) (AllReadyH.consL rfl (fun K hKcc => ?_) AllReadyH.nil)
        go_simp
        refine hKcc.out _ _ ?held13 (fun hHeld => ?_)
        case held13 => ((try dsimp only); exact ⟨(World.cell?_setCell_far _ _ _ _ (by dsimp only; omega)).trans cl, (World.cell?_setCell_far _ _ _ _ (by dsimp only; omega)).trans ch⟩)
        clear hKcc K
        (try simp only [Act.put, List.setIfInBounds_toArray, List.set_cons_zero, List.set_cons_succ])
        refine wpAnyH_done (by kernel_rfl) ?_ _
        clear hw1 hw2
        go_wp2
        go_roundw
        case rel =>
          refine ⟨j + 1, by omega, by go_num, hAr.drew.set_ _ _, own_kept (World.ownsRow.drew hor) ((Kept.refl (OneBlk g) wr.drew).setCell (p := ⟨g, _, none⟩) (fun _ => rfl) _) (fun k hk => by rw [show k = g from hk]; exact hg), hKr.drew.setCell (p := ⟨g, _, none⟩) (fun _ => rfl) _⟩
        case measure => simp [intOf]; omega
      · obtain rfl : j = n := by omega
        go_wp2
        go_ret
        exact ⟨rfl, hAr, hKr⟩

set_option maxHeartbeats 400000 in
theorem rmove_no {b g : Nat} {ws : List Int} {w : World} (hA : ArenaAt w b g ws) (hn : ws.length ≤ 65536) (p q n : Int)
    (bd1 : -9223372036854775808 ≤ p) (bd2 : p ≤ 9223372036854775807) (bd3 : -9223372036854775808 ≤ q) (bd4 : q ≤ 9223372036854775807) (bd5 : -9223372036854775808 ≤ n) (bd6 : n ≤ 9223372036854775807)
    (h : fitsA ws.length p n = false ∨ fitsA ws.length q n = false) :
    Calls Try.prog 33 #[.pointer (some ⟨b, 0, none⟩), .int .i64 p, .int .i64 q, .int .i64 n] w fun e w' =>
      e = .returned (.int .i64 20) ∧ w = w' := by
  have hR1 := rhas_any hA hn p n bd1 bd2 bd5 bd6
  have hR2 := rhas_any hA hn q n bd3 bd4 bd5 bd6
  clear hA
  cases e1 : fitsA ws.length p n with
  | false =>
    rw [e1] at hR1
    generalize fitsA ws.length q n = t at *
    clear h e1
    cases t
    all_goals
      go_enter Try.func33, Try.ntmps33
      go_wp2_with fail
      refine hR1.mono ?_
      rintro e w1 ⟨rfl, rfl⟩
      go_wp2_with fail
      refine hR2.mono ?_
      rintro e w1 ⟨rfl, rfl⟩
      go_wp2
      go_ret
      exact ⟨rfl, rfl⟩
  | true =>
    have e2 : fitsA ws.length q n = false := by
      rcases h with h | h
      · rw [h] at e1; cases e1
      · exact h
    rw [e1] at hR1
    rw [e2] at hR2
    clear h e1 e2
    go_enter Try.func33, Try.ntmps33
    go_wp2_with fail
    refine hR1.mono ?_
    rintro e w1 ⟨rfl, rfl⟩
    go_wp2_with fail
    refine hR2.mono ?_
    rintro e w1 ⟨rfl, rfl⟩
    go_wp2
    go_ret
    exact ⟨rfl, rfl⟩

theorem rnew_any (n : Int) (h1 : 1 ≤ n) (h2 : n ≤ 65536) (w : World) :
    Calls Try.prog 26 #[.int .i64 n] w fun e w' =>
      ∃ (b g : Nat) (ws : List Int), e = .returned (.tuple #[.pointer (some ⟨b, 0, none⟩), .int .i64 0]) ∧ Hid (ws = List.replicate n.toNat 0) ∧ ArenaAt w' b g ws ∧ Kept NoBlk w w' ∧ w.heap.size ≤ b ∧ w.heap.size ≤ g := by
  obtain ⟨k, rfl⟩ := Int.eq_ofNat_of_zero_le (show 0 ≤ n by omega)
  exact (rnew_yes k (by omega) (by omega) w).mono fun _ _ ⟨b, g, he, hA, hK, h3, h4⟩ => ⟨b, g, _, he, rfl, by simpa using hA, hK, h3, h4⟩

end Go.Proofs.Ytenphgmohhdjeaa
