/-
  Widths: of raw numbers, widths that may be.
  Conditions: none.
-/
import Derived.Test.YtenphgmohhdjeaaAwake01
import Derived.Test.YtenphgmohhdjeaaPick01
import Derived.Test.YtenphgmohhdjeaaU64s
set_option linter.unusedVariables false
namespace Go.Proofs.Ytenphgmohhdjeaa
open Go.RowKit Go.Shelf

theorem int_info' : (Try.prog.info? 3).map (fun i => (i.zero, i.size, i.bytes)) = some (some (.int .i64 0), 1, 8) := by kernel_rfl

def natCells (k : IntKind) (ws : List Nat) : List Value := ws.map fun x => .int k (x : Nat)
theorem natCells_snoc (k : IntKind) (ws : List Nat) (x : Nat) : natCells k ws ++ [.int k (x : Nat)] = natCells k (ws ++ [x]) := by simp [natCells]

/-- Widths that may be, each at most 20. -/
structure Wide (ws : List Nat) : Prop where
  pos : ∀ k, k < ws.length → 1 ≤ nth ws k ∧ nth ws k ≤ 20
  sum : ws.sum ≤ 64
theorem Wide.ok {ws : List Nat} (h : Wide ws) : WidthsOk ws := ⟨fun k hk => (h.pos k hk).1, h.sum⟩
theorem Wide.snoc {ws : List Nat} {x : Nat} (h : Wide ws) (h1 : 1 ≤ x) (h2 : x ≤ 20) (h3 : ws.sum + x ≤ 64) : Wide (ws ++ [x]) := by
  refine ⟨fun k hk => ?_, by simpa using h3⟩
  rw [List.length_append, List.length_singleton] at hk
  unfold nth
  by_cases e : k < ws.length
  · have := h.pos k e
    unfold nth at this
    rw [List.getD_eq_getElem?_getD, List.getElem?_append_left e, ← List.getD_eq_getElem?_getD]; exact this
  · have e : k = ws.length := by omega
    subst e
    simp; omega

set_option maxRecDepth 100000 in
set_option maxHeartbeats 1000000 in
theorem widths01 (A : Option Addr) (len cap : Nat) (w : World) (hlen : len ≤ 9223372036854775807) (hL : ∀ i, i < len → I64In w w.heap.size A i) :
    Calls Try.prog 57 #[.slice A len cap] w fun e w' => ∃ ws q c, Hid (Wide ws) ∧ Hid (ws.length ≤ 20) ∧ e = .returned (.slice q ws.length c) ∧ w'.ownsRow w.heap.size 3 1 (.slice q ws.length c) ws.length (natCells .i64 ws) ∧ Kept NoBlk w w' := by
  have HL := Lib.hid hL
  clear hL
  obtain ⟨i0, hi, hz0, hz1, hz2⟩ := info_parts int_info'
  have HI := Lib.hid (And.intro hi (And.intro hz0 (And.intro hz1 hz2)))
  clear hi hz0 hz1 hz2
  go_enter Try.func57, Try.ntmps57
  go_wp2_with fail
  go_loopw [3, 4, 5] (fun v s i wr => ∃ (j : Nat) (ws : List Nat) (q : Option Addr) (c : Nat), j ≤ 20 ∧ i = .int .i64 j ∧ s = .int .i64 (ws.sum : Nat) ∧ v = .slice q ws.length c ∧ Hid (Wide ws) ∧ ws.length ≤ j ∧ wr.ownsRow w.heap.size 3 1 (.slice q ws.length c) ws.length (natCells .i64 ws) ∧ Kept NoBlk w wr) (fun _ _ i _ => 20 - (intOf i).toNat)
  case atStart => exact ⟨0, [], none, 0, by omega, rfl, rfl, rfl, ⟨fun k hk => absurd hk (by simp), by simp⟩, by simp, World.ownsRow_nil _ _ _ _, Kept.refl _ _⟩
  case round =>
    obtain ⟨j, ws, q, c, hj, rfl, rfl, rfl, hW, hl, hown, hK⟩ := hrel
    have hsum := hW.out.sum
    by_cases hlt : j < len ∧ j < 20
    · obtain ⟨hlt, hlt2⟩ := hlt
      obtain ⟨bb, off, x, rfl, hbb, cx, wx⟩ := HL.out j hlt
      have hbx := wx
      simp only [Lit.wf, Bool.and_eq_true, decide_eq_true_eq] at hbx
      have cx' := hK.cell id cx
      clear cx wx
      have hpk := pk_bd x 20 (by omega)
      obtain ⟨r, Hr⟩ : ∃ r : Nat, Hid ((r : Int) = pk x 20) := ⟨(pk x 20).toNat, by show _ = _; omega⟩
      rw [← Hr.out] at hpk
      obtain ⟨hr0, hr1⟩ := hpk
      obtain ⟨hx0, hx1⟩ := hbx
      have e0 : (0 : Int) ≤ (j : Int) := by omega
      have e1 : (j : Int) < (len : Int) := by omega
      have e2 : (j : Int) < 20 := by omega
      go_wp2_with fail
      refine (pick01r Hr (by omega) hx0 hx1 (by omega) _).mono ?_
      rintro e w0 ⟨rfl, rfl⟩
      have hkn : ws.length ≤ 1000000000 := by omega
      have hbs := hK.size
      by_cases hfit : ws.sum + (1 + r) ≤ 64
      · have e3 : decide ((ws.sum : Int) + (1 + (r : Int)) ≤ 64) = true := decide_eq_true (by omega)
        go_wp2_with (at_builtin; refine wpList_append_one rfl (.tmp 27) (.tmp 29) 58 rfl w.heap.size 3 i0 (.int .i64 0) 8 Try.underlying58 HI.out.1 HI.out.2.1 HI.out.2.2.1 HI.out.2.2.2 rfl _ ws.length (natCells .i64 ws) rfl (hown.alloc _) wr.heap.size 3 (.int .i64 (1 + r)) rfl (Bk.new _ _ _) rfl hkn (by omega) (by simp; omega) ?_; intro g1 cap1 w5 hown5 hK5)
        go_roundw
        case rel =>
          have e4 : (ws ++ [1 + r]).length = ws.length + 1 := by simp
          refine ⟨j + 1, ws ++ [1 + r], some ⟨g1, 0, none⟩, cap1, by omega, by go_num, ?_, by rw [e4], hW.out.snoc (by omega) (by omega) hfit, by rw [e4]; omega, ?_, (hK.alloc _).over hK5 (fun i hi => (hown.lt i hi).1)⟩
          · rw [List.sum_append]; simp
          · rw [e4, ← natCells_snoc]; exact hown5
        case measure => simp [intOf]; omega
      · have e3 : decide ((ws.sum : Int) + (1 + (r : Int)) ≤ 64) = false := decide_eq_false (by omega)
        go_wp2
        go_roundw
        case rel => exact ⟨j + 1, ws, q, c, by omega, by go_num, rfl, rfl, hW, by omega, hown, hK⟩
        case measure => simp [intOf]; omega
    · rcases (show (len : Int) ≤ (j : Int) ∨ ((j : Int) < (len : Int) ∧ (20 : Int) ≤ (j : Int)) by omega) with hx | ⟨hx0, hx⟩
      all_goals
        go_wp2
        go_ret
        exact ⟨ws, q, c, hW, (by show ws.length ≤ 20; omega), rfl, hown, hK⟩

end Go.Proofs.Ytenphgmohhdjeaa
