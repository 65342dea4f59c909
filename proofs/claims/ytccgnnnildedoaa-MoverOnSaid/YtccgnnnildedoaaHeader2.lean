/-
  The contracts of package header, second part: widths, Head, Shape.
  Conditions: as each statement says.
-/
import Derived.Test.YtccgnnnildedoaaHeader
import Derived.Test.YtccgnnnildedoaaPack
import Derived.Test.YtccgnnnildedoaaNats
import Derived.Test.YtccgnnnildedoaaHeld
set_option linter.unusedVariables false
namespace Go.Proofs.Ytccgnnnildedoaa
open Go.RowKit Go.Shelf

def ones (k : Nat) : Array Value := ((List.range 6).map fun i => Value.int .i64 (if i < k then 1 else 0)).toArray
theorem int_infoH : (Try.prog.info? 3).map (fun i => (i.zero, i.size, i.bytes)) = some (some (.int .i64 0), 1, 8) := by kernel_rfl
theorem u64_infoH : (Try.prog.info? 27).map (fun i => (i.zero, i.size, i.bytes)) = some (some (.int .u64 0), 1, 8) := by kernel_rfl
theorem made6u : madeCells #[Value.int .u64 0] 6 = #[.int .u64 0, .int .u64 0, .int .u64 0, .int .u64 0, .int .u64 0, .int .u64 0] := by
  apply Array.ext
  · simp [madeCells]
  · intro i h1 h2
    have h3 : i < 6 := by simpa using h2
    match i, h3 with
    | 0, _ => simp [madeCells, Nat.mod_one]
    | 1, _ => simp [madeCells, Nat.mod_one]
    | 2, _ => simp [madeCells, Nat.mod_one]
    | 3, _ => simp [madeCells, Nat.mod_one]
    | 4, _ => simp [madeCells, Nat.mod_one]
    | 5, _ => simp [madeCells, Nat.mod_one]
theorem made6 : madeCells #[Value.int .i64 0] 6 = ones 0 := by
  apply Array.ext
  · simp [madeCells, ones]
  · intro i h1 h2; simp [madeCells, ones, Nat.mod_one]
theorem ones_set (k : Nat) (h : k < 6) : (ones k).setIfInBounds k (.int .i64 1) = ones (k + 1) := by
  match k, h with
  | 0, _ => rfl
  | 1, _ => rfl
  | 2, _ => rfl
  | 3, _ => rfl
  | 4, _ => rfl
  | 5, _ => rfl
theorem ones_at (k : Nat) (h : k < 6) : (ones k)[k]? = some (.int .i64 0) := by
  match k, h with
  | 0, _ => rfl
  | 1, _ => rfl
  | 2, _ => rfl
  | 3, _ => rfl
  | 4, _ => rfl
  | 5, _ => rfl

set_option maxRecDepth 100000 in
set_option maxHeartbeats 1000000 in
theorem widths_any (w : World) :
    Calls Try.prog 65 #[] w fun e w' => e = .returned (.slice (some ⟨w.heap.size, 0, none⟩) 6 6) ∧ Bk w' w.heap.size 3 #[.int .i64 1, .int .i64 4, .int .i64 4, .int .i64 1, .int .i64 1, .int .i64 1] ∧ Kept NoBlk w w' := by
  have hmk := fun W => run_make_row' (P := Try.prog) 74 3 (.int .i64 0) 8 Try.underlying74 int_infoH rfl .i64 .i64 6 (by omega) (by omega) W
  rw [made6] at hmk
  simp only [show ((6 : Nat) : Int) = 6 from rfl] at hmk
  go_enter Try.func65, Try.ntmps65
  go_wp2_with fail
  go_loopw [6] (fun i wr => ∃ k : Nat, k ≤ 6 ∧ i = .int .i64 k ∧ Bk wr w.heap.size 3 (ones k) ∧ Kept NoBlk w wr) (fun i _ => 6 - (intOf i).toNat)
  case atStart => exact ⟨0, by omega, rfl, Bk.new w _ _, (Kept.refl NoBlk w).alloc _⟩
  case round =>
    obtain ⟨k, hk, rfl, hb, hK⟩ := hrel
    by_cases hlt : k < 6
    · have c0 := hb.cell k
      rw [ones_at k hlt] at c0
      have f0 := hb.frozen k
      have e0 : (0 : Int) ≤ (k : Int) := by omega
      have e1 : (k : Int) < 6 := by omega
      have hs := Lib.hid (ones_set k hlt)
      go_wp2
      go_roundw
      case rel => exact ⟨k + 1, by omega, by go_num, hs.out ▸ hb.set_ k (.int .i64 1), hK.setCell (p := ⟨w.heap.size, _, none⟩) (fun h => absurd h (by dsimp only; omega)) _⟩
      case measure => simp [intOf]; omega
    · obtain rfl : k = 6 := by omega
      have c1 := hb.cell 1
      have c2 := hb.cell 2
      have f1 := hb.frozen 1
      have f2 := hb.frozen 2
      rw [show (ones 6)[1]? = some (.int .i64 1) from rfl] at c1
      rw [show (ones 6)[2]? = some (.int .i64 1) from rfl] at c2
      go_wp2
      go_ret
      exact ⟨rfl, (hb.set_ 1 (.int .i64 4)).set_ 2 (.int .i64 4), (hK.setCell (p := ⟨w.heap.size, _, none⟩) (fun h => absurd h (by dsimp only; omega)) _).setCell (p := ⟨w.heap.size, _, none⟩) (fun h => absurd h (by dsimp only; omega)) _⟩

set_option maxRecDepth 100000 in
set_option maxHeartbeats 2000000 in
theorem head_yes (s : Shp) (f : Bool) (hs : s.ok) (w : World) :
    Calls Try.prog 19 #[.agg #[.int .i64 (s.p : Nat), .int .i64 (s.d : Nat), .bool s.wk, .bool s.fin], .bool f] w fun e w' => e = .returned (.tuple #[.int .u64 (headN s f : Nat), .bool true]) ∧ Kept NoBlk w w' := by
  obtain ⟨hp, hd, _⟩ := Shp.ok_bd hs
  have hR := fun W => hright_any s.p s.d s.wk s.fin (by omega) (by omega) (by omega) (by omega) W
  have hs' : okB s.p s.d s.wk s.fin = true := hs
  rw [hs'] at hR
  clear hs'
  have hpack := fun (W : World) (g h : Nat) (hg : Bk W g 3 #[.int .i64 1, .int .i64 4, .int .i64 4, .int .i64 1, .int .i64 1, .int .i64 1]) (hh : Bk W h 27 #[.int .u64 1, .int .u64 (s.p : Nat), .int .u64 (s.d : Nat), .int .u64 (b2n s.wk : Nat), .int .u64 (b2n s.fin : Nat), .int .u64 (b2n f : Nat)]) =>
    pack_yes (some ⟨g, 0, none⟩) (some ⟨h, 0, none⟩) 6 6 6 hws (headL s f) hws_ok (headL_fits hs f) W rfl (Sl.nats (l := hws) hg rfl) (fun b o e => by injection e with e; injection e with e1 _ _; rw [← e1]; exact hg.lt) (Sl.nats (l := headL s f) hh rfl) (fun b o e => by injection e with e; injection e with e1 _ _; rw [← e1]; exact hh.lt)
  have Hpack := Lib.hid hpack
  clear hpack
  have hf1 := fun W => flag_any s.wk W
  have hf2 := fun W => flag_any s.fin W
  have hf3 := fun W => flag_any f W
  have hmk := fun W => run_make_row' (P := Try.prog) 44 27 (.int .u64 0) 8 Try.underlying44 u64_infoH rfl .i64 .i64 6 (by omega) (by omega) W
  rw [made6u] at hmk
  simp only [show ((6 : Nat) : Int) = 6 from rfl] at hmk
  rw [show packN hws (headL s f) = headN s f from rfl] at Hpack
  generalize headN s f = hN at *
  generalize b2n s.wk = x1 at *
  generalize b2n s.fin = x2 at *
  generalize b2n f = x3 at *
  generalize s.p = p at *
  generalize s.d = d at *
  have HS := Lib.hid hs
  clear hs
  go_enter Try.func19, Try.ntmps19
  have hK := Kept.refl NoBlk w
  have hb := Bk.new w 25 (#[.int .i64 (p : Nat), .int .i64 (d : Nat), .bool s.wk, .bool s.fin] : Array Value)
  replace hK := hK.alloc (.cells #[.int .i64 (p : Nat), .int .i64 (d : Nat), .bool s.wk, .bool s.fin] 25)
  have c_hb := hb.cell
  have f_hb := hb.frozen
  go_wp2_with fail
  refine (hR _).mono ?_
  rintro e_ w1 ⟨rfl, hKn⟩
  replace hb := hb.kept hKn id
  replace hK := hK.trans hKn
  clear hKn
  replace c_hb := hb.cell
  replace f_hb := hb.frozen
  have hbl := hb.lt
  have hL := Bk.new w1 27 (#[.int .u64 0, .int .u64 0, .int .u64 0, .int .u64 0, .int .u64 0, .int .u64 0] : Array Value)
  replace hb := hb.alloc (.cells #[.int .u64 0, .int .u64 0, .int .u64 0, .int .u64 0, .int .u64 0, .int .u64 0] 27)
  replace hK := hK.alloc (.cells #[.int .u64 0, .int .u64 0, .int .u64 0, .int .u64 0, .int .u64 0, .int .u64 0] 27)
  have hne : w.heap.size ≠ w1.heap.size := by omega
  have hle : w.heap.size ≤ w1.heap.size := by omega
  have hw1 : IntKind.u64.wrap (p : Int) = (p : Int) := IntWalk.u64_in _ (by omega)
  have hw2 : IntKind.u64.wrap (d : Int) = (d : Int) := IntWalk.u64_in _ (by omega)
  go_wp2_with fail
  generalize w1.alloc (.cells #[.int .u64 0, .int .u64 0, .int .u64 0, .int .u64 0, .int .u64 0, .int .u64 0] 27) = w2 at hb hK hL ⊢
  replace c_hb := hb.cell
  replace f_hb := hb.frozen
  have cL := hL.cell
  have fL := hL.frozen
  clear c_hb f_hb
  refine wp_region_held_drew (S := (fun V => Bk V (w.heap.size) 25 (#[.int .i64 (p : Nat), .int .i64 (d : Nat), .bool s.wk, .bool s.fin] : Array Value) ∧ Kept NoBlk w V)) (by kernel_rfl) (by ((try dsimp only); exact ⟨Bk.drew hb, hK.drew⟩)) (fun hHeld => ?_)
  clear hb hK
  have hHs := hHeld
  (try dsimp only at hHs)
  obtain ⟨hb, hK⟩ := hHs
  ((first
    | (refine wpAnyH_takeL (i := 0) (v := ?hv2) rfl (by kernel_rfl) (by kernel_rfl) (by kernel_rfl) (fun _ _ _ h => h) (Or.inl (And.intro ?hw2 ?hy2)) (by assumption) ?rest2
       case hw2 => rfl
       case hy2 => (intro wHy hSw; (try dsimp only at hSw); obtain ⟨y0, _⟩ := hSw; replace y0 := y0.cell; go_simp; (first | done | with_reducible rfl)))
    | (refine wpAnyH_takeL (i := 0) (v := undef) rfl (by kernel_rfl) (by kernel_rfl) (by kernel_rfl) (fun _ _ _ h => h) (Or.inr (And.intro (by rfl) rfl)) (by assumption) ?rest2x))
   (try simp only [Act.put, List.setIfInBounds_toArray, List.set_cons_zero, List.set_cons_succ]))
  ((first
    | (refine wpAnyH_takeL (i := 1) (v := ?hv3) rfl (by kernel_rfl) (by kernel_rfl) (by kernel_rfl) (fun _ _ _ h => h) (Or.inl (And.intro ?hw3 ?hy3)) (by assumption) ?rest3
       case hw3 => rfl
       case hy3 => (intro wHy hSw; (try dsimp only at hSw); obtain ⟨y0, _⟩ := hSw; replace y0 := y0.cell; go_simp; (first | done | with_reducible rfl)))
    | (refine wpAnyH_takeL (i := 1) (v := undef) rfl (by kernel_rfl) (by kernel_rfl) (by kernel_rfl) (fun _ _ _ h => h) (Or.inr (And.intro (by rfl) rfl)) (by assumption) ?rest3x))
   (try simp only [Act.put, List.setIfInBounds_toArray, List.set_cons_zero, List.set_cons_succ]))
  ((first
    | (refine wpAnyH_takeL (i := 2) (v := ?hv4) rfl (by kernel_rfl) (by kernel_rfl) (by kernel_rfl) (fun _ _ _ h => h) (Or.inl (And.intro ?hw4 ?hy4)) (by assumption) ?rest4
       case hw4 => rfl
       case hy4 => (intro wHy hSw; (try dsimp only at hSw); obtain ⟨y0, _⟩ := hSw; replace y0 := y0.cell; go_simp; (first | done | with_reducible rfl)))
    | (refine wpAnyH_takeL (i := 2) (v := undef) rfl (by kernel_rfl) (by kernel_rfl) (by kernel_rfl) (fun _ _ _ h => h) (Or.inr (And.intro (by rfl) rfl)) (by assumption) ?rest4x))
   (try simp only [Act.put, List.setIfInBounds_toArray, List.set_cons_zero, List.set_cons_succ]))
  ((first
    | (refine wpAnyH_takeL (i := 3) (v := ?hv5) rfl (by kernel_rfl) (by kernel_rfl) (by kernel_rfl) (fun _ _ _ h => h) (Or.inl (And.intro ?hw5 ?hy5)) (by assumption) ?rest5
       case hw5 => rfl
       case hy5 => (intro wHy hSw; (try dsimp only at hSw); obtain ⟨y0, _⟩ := hSw; replace y0 := y0.cell; go_simp; (first | done | with_reducible rfl)))
    | (refine wpAnyH_takeL (i := 3) (v := undef) rfl (by kernel_rfl) (by kernel_rfl) (by kernel_rfl) (fun _ _ _ h => h) (Or.inr (And.intro (by rfl) rfl)) (by assumption) ?rest5x))
   (try simp only [Act.put, List.setIfInBounds_toArray, List.set_cons_zero, List.set_cons_succ]))
  ((first
    | (refine wpAnyH_takeL (i := 4) (v := ?hv6) rfl (by kernel_rfl) (by kernel_rfl) (by kernel_rfl) (fun _ _ _ h => h) (Or.inl (And.intro ?hw6 ?hy6)) (by assumption) ?rest6
       case hw6 => rfl
       case hy6 => (intro wHy hSw; (try dsimp only at hSw); obtain ⟨y0, _⟩ := hSw; replace y0 := y0.cell; go_simp; (first | done | with_reducible rfl)))
    | (refine wpAnyH_takeL (i := 4) (v := undef) rfl (by kernel_rfl) (by kernel_rfl) (by kernel_rfl) (fun _ _ _ h => h) (Or.inr (And.intro (by rfl) rfl)) (by assumption) ?rest6x))
   (try simp only [Act.put, List.setIfInBounds_toArray, List.set_cons_zero, List.set_cons_succ]))
  ((first
    | (refine wpAnyH_takeL (i := 5) (v := ?hv7) rfl (by kernel_rfl) (by kernel_rfl) (by kernel_rfl) (fun _ _ _ h => h) (Or.inl (And.intro ?hw7 ?hy7)) (by assumption) ?rest7
       case hw7 => rfl
       case hy7 => (intro wHy hSw; (try dsimp only at hSw); obtain ⟨y0, _⟩ := hSw; replace y0 := y0.cell; go_simp; (first | done | with_reducible rfl)))
    | (refine wpAnyH_takeL (i := 5) (v := undef) rfl (by kernel_rfl) (by kernel_rfl) (by kernel_rfl) (fun _ _ _ h => h) (Or.inr (And.intro (by rfl) rfl)) (by assumption) ?rest7x))
   (try simp only [Act.put, List.setIfInBounds_toArray, List.set_cons_zero, List.set_cons_succ]))
  ((first
    | (refine wpAnyH_takeL (i := 6) (v := ?hv8) rfl (by kernel_rfl) (by kernel_rfl) (by kernel_rfl) (fun _ _ _ h => h) (Or.inl (And.intro ?hw8 ?hy8)) (by assumption) ?rest8
       case hw8 => rfl
       case hy8 => (intro wHy hSw; (try dsimp only at hSw); obtain ⟨y0, _⟩ := hSw; replace y0 := y0.cell; go_simp; (first | done | with_reducible rfl)))
    | (refine wpAnyH_takeL (i := 6) (v := undef) rfl (by kernel_rfl) (by kernel_rfl) (by kernel_rfl) (fun _ _ _ h => h) (Or.inr (And.intro (by rfl) rfl)) (by assumption) ?rest8x))
   (try simp only [Act.put, List.setIfInBounds_toArray, List.set_cons_zero, List.set_cons_succ]))
  ((first
    | (refine wpAnyH_takeL (i := 7) (v := ?hv9) rfl (by kernel_rfl) (by kernel_rfl) (by kernel_rfl) (fun _ _ _ h => h) (Or.inl (And.intro ?hw9 ?hy9)) (by assumption) ?rest9
       case hw9 => rfl
       case hy9 => (intro wHy hSw; (try dsimp only at hSw); obtain ⟨y0, _⟩ := hSw; replace y0 := y0.cell; go_simp; (first | done | with_reducible rfl)))
    | (refine wpAnyH_takeL (i := 7) (v := undef) rfl (by kernel_rfl) (by kernel_rfl) (by kernel_rfl) (fun _ _ _ h => h) (Or.inr (And.intro (by rfl) rfl)) (by assumption) ?rest9x))
   (try simp only [Act.put, List.setIfInBounds_toArray, List.set_cons_zero, List.set_cons_succ]))
  ((first
    | (refine wpAnyH_takeL (i := 8) (v := ?hv10) rfl (by kernel_rfl) (by kernel_rfl) (by kernel_rfl) (fun _ _ _ h => h) (Or.inl (And.intro ?hw10 ?hy10)) (by assumption) ?rest10
       case hw10 => rfl
       case hy10 => (intro wHy hSw; (try dsimp only at hSw); obtain ⟨y0, _⟩ := hSw; replace y0 := y0.cell; go_simp; (first | done | with_reducible rfl)))
    | (refine wpAnyH_takeL (i := 8) (v := undef) rfl (by kernel_rfl) (by kernel_rfl) (by kernel_rfl) (fun _ _ _ h => h) (Or.inr (And.intro (by rfl) rfl)) (by assumption) ?rest10x))
   (try simp only [Act.put, List.setIfInBounds_toArray, List.set_cons_zero, List.set_cons_succ]))
  ((first
    | (refine wpAnyH_takeL (i := 9) (v := ?hv11) rfl (by kernel_rfl) (by kernel_rfl) (by kernel_rfl) (fun _ _ _ h => h) (Or.inl (And.intro ?hw11 ?hy11)) (by assumption) ?rest11
       case hw11 => rfl
       case hy11 => (intro wHy hSw; (try dsimp only at hSw); obtain ⟨y0, _⟩ := hSw; replace y0 := y0.cell; go_simp; (first | done | with_reducible rfl)))
    | (refine wpAnyH_takeL (i := 9) (v := undef) rfl (by kernel_rfl) (by kernel_rfl) (by kernel_rfl) (fun _ _ _ h => h) (Or.inr (And.intro (by rfl) rfl)) (by assumption) ?rest11x))
   (try simp only [Act.put, List.setIfInBounds_toArray, List.set_cons_zero, List.set_cons_succ]))
  refine wpAnyH_ready (rs := [10]) (by kernel_rfl) (by simp) (AllReadyH.consL rfl (fun K hKcc => ?_) AllReadyH.nil)
  go_simp
  refine hKcc.out _ _ ?held12 (fun hHeld => ?_)
  case held12 => ((try dsimp only); exact ⟨hb.far (p := ⟨_, _, none⟩) (by dsimp only; omega) _, hK.setCell (p := ⟨_, _, none⟩) (fun h => absurd h (by dsimp only; omega)) _⟩)
  clear hKcc K
  (try simp only [Act.put, List.setIfInBounds_toArray, List.set_cons_zero, List.set_cons_succ])
  clear hb hK
  have hHs := hHeld
  (try dsimp only at hHs)
  obtain ⟨hb, hK⟩ := hHs
  ((first
    | (refine wpAnyH_takeL (i := 11) (v := ?hv13) rfl (by kernel_rfl) (by kernel_rfl) (by kernel_rfl) (fun _ _ _ h => h) (Or.inl (And.intro ?hw13 ?hy13)) (by assumption) ?rest13
       case hw13 => rfl
       case hy13 => (intro wHy hSw; (try dsimp only at hSw); obtain ⟨y0, _⟩ := hSw; replace y0 := y0.cell; go_simp; (first | done | with_reducible rfl)))
    | (refine wpAnyH_takeL (i := 11) (v := undef) rfl (by kernel_rfl) (by kernel_rfl) (by kernel_rfl) (fun _ _ _ h => h) (Or.inr (And.intro (by rfl) rfl)) (by assumption) ?rest13x))
   (try simp only [Act.put, List.setIfInBounds_toArray, List.set_cons_zero, List.set_cons_succ]))
  refine wpAnyH_ready (rs := [12]) (by kernel_rfl) (by simp) (AllReadyH.consL rfl (fun K hKcc => ?_) AllReadyH.nil)
  go_simp
  refine hKcc.out _ _ ?held14 (fun hHeld => ?_)
  case held14 => ((try dsimp only); exact ⟨hb.far (p := ⟨_, _, none⟩) (by dsimp only; omega) _, hK.setCell (p := ⟨_, _, none⟩) (fun h => absurd h (by dsimp only; omega)) _⟩)
  clear hKcc K
  (try simp only [Act.put, List.setIfInBounds_toArray, List.set_cons_zero, List.set_cons_succ])
  clear hb hK
  have hHs := hHeld
  (try dsimp only at hHs)
  obtain ⟨hb, hK⟩ := hHs
  ((first
    | (refine wpAnyH_takeL (i := 13) (v := ?hv15) rfl (by kernel_rfl) (by kernel_rfl) (by kernel_rfl) (fun _ _ _ h => h) (Or.inl (And.intro ?hw15 ?hy15)) (by assumption) ?rest15
       case hw15 => rfl
       case hy15 => (intro wHy hSw; (try dsimp only at hSw); obtain ⟨y0, _⟩ := hSw; replace y0 := y0.cell; go_simp; (first | done | with_reducible rfl)))
    | (refine wpAnyH_takeL (i := 13) (v := undef) rfl (by kernel_rfl) (by kernel_rfl) (by kernel_rfl) (fun _ _ _ h => h) (Or.inr (And.intro (by rfl) rfl)) (by assumption) ?rest15x))
   (try simp only [Act.put, List.setIfInBounds_toArray, List.set_cons_zero, List.set_cons_succ]))
  refine wpAnyH_ready (rs := [14]) (by kernel_rfl) (by simp) (AllReadyH.consL rfl (fun K hKcc => ?_) AllReadyH.nil)
  go_simp
  refine hKcc.out _ _ ?held16 (fun hHeld => ?_)
  case held16 => ((try dsimp only); exact ⟨hb.far (p := ⟨_, _, none⟩) (by dsimp only; omega) _, hK.setCell (p := ⟨_, _, none⟩) (fun h => absurd h (by dsimp only; omega)) _⟩)
  clear hKcc K
  (try simp only [Act.put, List.setIfInBounds_toArray, List.set_cons_zero, List.set_cons_succ])
  clear hb hK
  have hHs := hHeld
  (try dsimp only at hHs)
  obtain ⟨hb, hK⟩ := hHs
  refine wpAnyH_done (by kernel_rfl) ?_ _
  have c_hb := hb.cell
  have f_hb := hb.frozen
  replace hL := (((hL.set_ 0 (.int .u64 1)).set_ 1 (.int .u64 (p : Nat))).set_ 2 (.int .u64 (d : Nat))).drew
  clear cL fL
  generalize World.drew _ = w3 at hb hK hL ⊢
  clear c_hb f_hb
  have c_hb := hb.cell
  have f_hb := hb.frozen
  replace hL : Bk w3 w1.heap.size 27 #[.int .u64 1, .int .u64 (p : Nat), .int .u64 (d : Nat), .int .u64 0, .int .u64 0, .int .u64 0] := hL
  have cL := hL.cell
  have fL := hL.frozen
  go_wp2_with fail
  clear c_hb f_hb
  refine wp_region_held_drew (S := (fun V => Bk V (w.heap.size) 25 (#[.int .i64 (p : Nat), .int .i64 (d : Nat), .bool s.wk, .bool s.fin] : Array Value) ∧ Kept NoBlk w V)) (by kernel_rfl) (by ((try dsimp only); exact ⟨Bk.drew hb, hK.drew⟩)) (fun hHeld => ?_)
  clear hb hK
  have hHs := hHeld
  (try dsimp only at hHs)
  obtain ⟨hb, hK⟩ := hHs
  ((first
    | (refine wpAnyH_takeL (i := 0) (v := ?hv17) rfl (by kernel_rfl) (by kernel_rfl) (by kernel_rfl) (fun _ _ _ h => h) (Or.inl (And.intro ?hw17 ?hy17)) (by assumption) ?rest17
       case hw17 => rfl
       case hy17 => (intro wHy hSw; (try dsimp only at hSw); obtain ⟨y0, _⟩ := hSw; replace y0 := y0.cell; go_simp; (first | done | with_reducible rfl)))
    | (refine wpAnyH_takeL (i := 0) (v := undef) rfl (by kernel_rfl) (by kernel_rfl) (by kernel_rfl) (fun _ _ _ h => h) (Or.inr (And.intro (by rfl) rfl)) (by assumption) ?rest17x))
   (try simp only [Act.put, List.setIfInBounds_toArray, List.set_cons_zero, List.set_cons_succ]))
  ((first
    | (refine wpAnyH_takeL (i := 1) (v := ?hv18) rfl (by kernel_rfl) (by kernel_rfl) (by kernel_rfl) (fun _ _ _ h => h) (Or.inl (And.intro ?hw18 ?hy18)) (by assumption) ?rest18
       case hw18 => rfl
       case hy18 => (intro wHy hSw; (try dsimp only at hSw); obtain ⟨y0, _⟩ := hSw; replace y0 := y0.cell; go_simp; (first | done | with_reducible rfl)))
    | (refine wpAnyH_takeL (i := 1) (v := undef) rfl (by kernel_rfl) (by kernel_rfl) (by kernel_rfl) (fun _ _ _ h => h) (Or.inr (And.intro (by rfl) rfl)) (by assumption) ?rest18x))
   (try simp only [Act.put, List.setIfInBounds_toArray, List.set_cons_zero, List.set_cons_succ]))
  ((first
    | (refine wpAnyH_takeL (i := 2) (v := ?hv19) rfl (by kernel_rfl) (by kernel_rfl) (by kernel_rfl) (fun _ _ _ h => h) (Or.inl (And.intro ?hw19 ?hy19)) (by assumption) ?rest19
       case hw19 => rfl
       case hy19 => (intro wHy hSw; (try dsimp only at hSw); obtain ⟨y0, _⟩ := hSw; replace y0 := y0.cell; go_simp; (first | done | with_reducible rfl)))
    | (refine wpAnyH_takeL (i := 2) (v := undef) rfl (by kernel_rfl) (by kernel_rfl) (by kernel_rfl) (fun _ _ _ h => h) (Or.inr (And.intro (by rfl) rfl)) (by assumption) ?rest19x))
   (try simp only [Act.put, List.setIfInBounds_toArray, List.set_cons_zero, List.set_cons_succ]))
  ((first
    | (refine wpAnyH_takeL (i := 3) (v := ?hv20) rfl (by kernel_rfl) (by kernel_rfl) (by kernel_rfl) (fun _ _ _ h => h) (Or.inl (And.intro ?hw20 ?hy20)) (by assumption) ?rest20
       case hw20 => rfl
       case hy20 => (intro wHy hSw; (try dsimp only at hSw); obtain ⟨y0, _⟩ := hSw; replace y0 := y0.cell; go_simp; (first | done | with_reducible rfl)))
    | (refine wpAnyH_takeL (i := 3) (v := undef) rfl (by kernel_rfl) (by kernel_rfl) (by kernel_rfl) (fun _ _ _ h => h) (Or.inr (And.intro (by rfl) rfl)) (by assumption) ?rest20x))
   (try simp only [Act.put, List.setIfInBounds_toArray, List.set_cons_zero, List.set_cons_succ]))
  ((first
    | (refine wpAnyH_takeL (i := 4) (v := ?hv21) rfl (by kernel_rfl) (by kernel_rfl) (by kernel_rfl) (fun _ _ _ h => h) (Or.inl (And.intro ?hw21 ?hy21)) (by assumption) ?rest21
       case hw21 => rfl
       case hy21 => (intro wHy hSw; (try dsimp only at hSw); obtain ⟨y0, _⟩ := hSw; replace y0 := y0.cell; go_simp; (first | done | with_reducible rfl)))
    | (refine wpAnyH_takeL (i := 4) (v := undef) rfl (by kernel_rfl) (by kernel_rfl) (by kernel_rfl) (fun _ _ _ h => h) (Or.inr (And.intro (by rfl) rfl)) (by assumption) ?rest21x))
   (try simp only [Act.put, List.setIfInBounds_toArray, List.set_cons_zero, List.set_cons_succ]))
  ((first
    | (refine wpAnyH_takeL (i := 6) (v := ?hv22) rfl (by kernel_rfl) (by kernel_rfl) (by kernel_rfl) (fun _ _ _ h => h) (Or.inl (And.intro ?hw22 ?hy22)) (by assumption) ?rest22
       case hw22 => rfl
       case hy22 => (intro wHy hSw; (try dsimp only at hSw); obtain ⟨y0, _⟩ := hSw; replace y0 := y0.cell; go_simp; (first | done | with_reducible rfl)))
    | (refine wpAnyH_takeL (i := 6) (v := undef) rfl (by kernel_rfl) (by kernel_rfl) (by kernel_rfl) (fun _ _ _ h => h) (Or.inr (And.intro (by rfl) rfl)) (by assumption) ?rest22x))
   (try simp only [Act.put, List.setIfInBounds_toArray, List.set_cons_zero, List.set_cons_succ]))
  ((first
    | (refine wpAnyH_takeL (i := 7) (v := ?hv23) rfl (by kernel_rfl) (by kernel_rfl) (by kernel_rfl) (fun _ _ _ h => h) (Or.inl (And.intro ?hw23 ?hy23)) (by assumption) ?rest23
       case hw23 => rfl
       case hy23 => (intro wHy hSw; (try dsimp only at hSw); obtain ⟨y0, _⟩ := hSw; replace y0 := y0.cell; go_simp; (first | done | with_reducible rfl)))
    | (refine wpAnyH_takeL (i := 7) (v := undef) rfl (by kernel_rfl) (by kernel_rfl) (by kernel_rfl) (fun _ _ _ h => h) (Or.inr (And.intro (by rfl) rfl)) (by assumption) ?rest23x))
   (try simp only [Act.put, List.setIfInBounds_toArray, List.set_cons_zero, List.set_cons_succ]))
  ((first
    | (refine wpAnyH_takeL (i := 9) (v := ?hv24) rfl (by kernel_rfl) (by kernel_rfl) (by kernel_rfl) (fun _ _ _ h => h) (Or.inl (And.intro ?hw24 ?hy24)) (by assumption) ?rest24
       case hw24 => rfl
       case hy24 => (intro wHy hSw; (try dsimp only at hSw); obtain ⟨y0, _⟩ := hSw; replace y0 := y0.cell; go_simp; (first | done | with_reducible rfl)))
    | (refine wpAnyH_takeL (i := 9) (v := undef) rfl (by kernel_rfl) (by kernel_rfl) (by kernel_rfl) (fun _ _ _ h => h) (Or.inr (And.intro (by rfl) rfl)) (by assumption) ?rest24x))
   (try simp only [Act.put, List.setIfInBounds_toArray, List.set_cons_zero, List.set_cons_succ]))
  refine wpAnyH_ready (rs := [5]) (by kernel_rfl) (by simp) (AllReadyH.consL rfl (fun K hKcc => ?_) AllReadyH.nil)
  go_simp
  refine (hf1 _).mono ?_
  rintro e_ w4 ⟨rfl, rfl⟩
  refine hKcc.out _ _ ?held25 (fun hHeld => ?_)
  case held25 => ((try dsimp only); exact ⟨hb, hK⟩)
  clear hKcc K
  (try simp only [Act.put, List.setIfInBounds_toArray, List.set_cons_zero, List.set_cons_succ])
  clear hb hK
  have hHs := hHeld
  (try dsimp only at hHs)
  obtain ⟨hb, hK⟩ := hHs
  refine wpAnyH_ready (rs := [8]) (by kernel_rfl) (by simp) (AllReadyH.consL rfl (fun K hKcc => ?_) AllReadyH.nil)
  go_simp
  refine (hf2 _).mono ?_
  rintro e_ w4 ⟨rfl, rfl⟩
  refine hKcc.out _ _ ?held26 (fun hHeld => ?_)
  case held26 => ((try dsimp only); exact ⟨hb, hK⟩)
  clear hKcc K
  (try simp only [Act.put, List.setIfInBounds_toArray, List.set_cons_zero, List.set_cons_succ])
  clear hb hK
  have hHs := hHeld
  (try dsimp only at hHs)
  obtain ⟨hb, hK⟩ := hHs
  refine wpAnyH_ready (rs := [10]) (by kernel_rfl) (by simp) (AllReadyH.consL rfl (fun K hKcc => ?_) AllReadyH.nil)
  go_simp
  refine (hf3 _).mono ?_
  rintro e_ w4 ⟨rfl, rfl⟩
  refine hKcc.out _ _ ?held27 (fun hHeld => ?_)
  case held27 => ((try dsimp only); exact ⟨hb, hK⟩)
  clear hKcc K
  (try simp only [Act.put, List.setIfInBounds_toArray, List.set_cons_zero, List.set_cons_succ])
  clear hb hK
  have hHs := hHeld
  (try dsimp only at hHs)
  obtain ⟨hb, hK⟩ := hHs
  ((first
    | (refine wpAnyH_takeL (i := 11) (v := ?hv28) rfl (by kernel_rfl) (by kernel_rfl) (by kernel_rfl) (fun _ _ _ h => h) (Or.inl (And.intro ?hw28 ?hy28)) (by assumption) ?rest28
       case hw28 => rfl
       case hy28 => (intro wHy hSw; (try dsimp only at hSw); obtain ⟨y0, _⟩ := hSw; replace y0 := y0.cell; go_simp; (first | done | with_reducible rfl)))
    | (refine wpAnyH_takeL (i := 11) (v := undef) rfl (by kernel_rfl) (by kernel_rfl) (by kernel_rfl) (fun _ _ _ h => h) (Or.inr (And.intro (by rfl) rfl)) (by assumption) ?rest28x))
   (try simp only [Act.put, List.setIfInBounds_toArray, List.set_cons_zero, List.set_cons_succ]))
  refine wpAnyH_ready (rs := [12]) (by kernel_rfl) (by simp) (AllReadyH.consL rfl (fun K hKcc => ?_) AllReadyH.nil)
  go_simp
  refine hKcc.out _ _ ?held29 (fun hHeld => ?_)
  case held29 => ((try dsimp only); exact ⟨hb.far (p := ⟨_, _, none⟩) (by dsimp only; omega) _, hK.setCell (p := ⟨_, _, none⟩) (fun h => absurd h (by dsimp only; omega)) _⟩)
  clear hKcc K
  (try simp only [Act.put, List.setIfInBounds_toArray, List.set_cons_zero, List.set_cons_succ])
  clear hb hK
  have hHs := hHeld
  (try dsimp only at hHs)
  obtain ⟨hb, hK⟩ := hHs
  ((first
    | (refine wpAnyH_takeL (i := 13) (v := ?hv30) rfl (by kernel_rfl) (by kernel_rfl) (by kernel_rfl) (fun _ _ _ h => h) (Or.inl (And.intro ?hw30 ?hy30)) (by assumption) ?rest30
       case hw30 => rfl
       case hy30 => (intro wHy hSw; (try dsimp only at hSw); obtain ⟨y0, _⟩ := hSw; replace y0 := y0.cell; go_simp; (first | done | with_reducible rfl)))
    | (refine wpAnyH_takeL (i := 13) (v := undef) rfl (by kernel_rfl) (by kernel_rfl) (by kernel_rfl) (fun _ _ _ h => h) (Or.inr (And.intro (by rfl) rfl)) (by assumption) ?rest30x))
   (try simp only [Act.put, List.setIfInBounds_toArray, List.set_cons_zero, List.set_cons_succ]))
  refine wpAnyH_ready (rs := [14]) (by kernel_rfl) (by simp) (AllReadyH.consL rfl (fun K hKcc => ?_) AllReadyH.nil)
  go_simp
  refine hKcc.out _ _ ?held31 (fun hHeld => ?_)
  case held31 => ((try dsimp only); exact ⟨hb.far (p := ⟨_, _, none⟩) (by dsimp only; omega) _, hK.setCell (p := ⟨_, _, none⟩) (fun h => absurd h (by dsimp only; omega)) _⟩)
  clear hKcc K
  (try simp only [Act.put, List.setIfInBounds_toArray, List.set_cons_zero, List.set_cons_succ])
  clear hb hK
  have hHs := hHeld
  (try dsimp only at hHs)
  obtain ⟨hb, hK⟩ := hHs
  ((first
    | (refine wpAnyH_takeL (i := 15) (v := ?hv32) rfl (by kernel_rfl) (by kernel_rfl) (by kernel_rfl) (fun _ _ _ h => h) (Or.inl (And.intro ?hw32 ?hy32)) (by assumption) ?rest32
       case hw32 => rfl
       case hy32 => (intro wHy hSw; (try dsimp only at hSw); obtain ⟨y0, _⟩ := hSw; replace y0 := y0.cell; go_simp; (first | done | with_reducible rfl)))
    | (refine wpAnyH_takeL (i := 15) (v := undef) rfl (by kernel_rfl) (by kernel_rfl) (by kernel_rfl) (fun _ _ _ h => h) (Or.inr (And.intro (by rfl) rfl)) (by assumption) ?rest32x))
   (try simp only [Act.put, List.setIfInBounds_toArray, List.set_cons_zero, List.set_cons_succ]))
  refine wpAnyH_ready (rs := [16]) (by kernel_rfl) (by simp) (AllReadyH.consL rfl (fun K hKcc => ?_) AllReadyH.nil)
  go_simp
  refine hKcc.out _ _ ?held33 (fun hHeld => ?_)
  case held33 => ((try dsimp only); exact ⟨hb.far (p := ⟨_, _, none⟩) (by dsimp only; omega) _, hK.setCell (p := ⟨_, _, none⟩) (fun h => absurd h (by dsimp only; omega)) _⟩)
  clear hKcc K
  (try simp only [Act.put, List.setIfInBounds_toArray, List.set_cons_zero, List.set_cons_succ])
  clear hb hK
  have hHs := hHeld
  (try dsimp only at hHs)
  obtain ⟨hb, hK⟩ := hHs
  refine wpAnyH_done (by kernel_rfl) ?_ _
  have c_hb := hb.cell
  have f_hb := hb.frozen
  replace hL := (((hL.set_ 3 (.int .u64 (x1 : Nat))).set_ 4 (.int .u64 (x2 : Nat))).set_ 5 (.int .u64 (x3 : Nat))).drew
  clear cL fL
  generalize World.drew _ = w4 at hb hK hL ⊢
  replace hL : Bk w4 w1.heap.size 27 #[.int .u64 1, .int .u64 (p : Nat), .int .u64 (d : Nat), .int .u64 (x1 : Nat), .int .u64 (x2 : Nat), .int .u64 (x3 : Nat)] := hL
  clear c_hb f_hb
  go_wp2_with fail
  refine (widths_any _).mono ?_
  rintro e w5 ⟨rfl, hW, hKn⟩
  replace hL := hL.kept hKn id
  replace hK := hK.trans hKn
  clear hKn
  go_wp2_with fail
  refine (Hpack.out _ _ _ hW hL).mono ?_
  rintro e w6 ⟨rfl, hKn⟩
  go_wp2
  go_ret2
  exact ⟨rfl, hK.trans hKn⟩

end Go.Proofs.Ytccgnnnildedoaa
