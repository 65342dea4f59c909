/-
  What an argument's reading says of the cells that a walk meets: slices of numbers, of structs, of arrays, to any depth. No program is looked at here.
  Conditions: as each statement says.
-/
import Derived.Test.YtccgnnnildedoaaBase
import Derived.Deep.Slices
import Derived.Deep.Fields
import Derived.ChangeSame
import Derived.ProofKit
import Derived.OpenShut
set_option linter.unusedVariables false
namespace Go.Proofs.Ytccgnnnildedoaa
open Go.ChangeShapes Go.WideShapes Go.ChangeAt Go.RowKit Go.Deep

/-- The cells cs read as type t does, so many steps deep: numbers and bools are such, each element of a slice lies in memory below block B. -/
def ReadsT (P : Program) (w : World) (B : Nat) : Nat → TypeId → List Value → Prop
  | 0, _, _ => True
  | n + 1, t, cs => match P.underlying t with
    | some (.int k) => ∃ x, cs = [.int k x] ∧ (Lit.int k x).wf = true
    | some .bool => ∃ b, cs = [.bool b]
    | some (.array m e) => cs.length = P.cellsOf t ∧ ∀ i, i < m → ReadsT P w B n e ((cs.drop (i * P.cellsOf e)).take (P.cellsOf e))
    | some (.struct fs) => cs.length = P.cellsOf t ∧ ∀ (i : Nat) (f : Field), fs[i]? = some f → ReadsT P w B n f.type ((cs.drop f.offset).take (P.cellsOf f.type))
    | some (.slice e) => ∃ A len cap, cs = [.slice A len cap] ∧ len ≤ cap ∧ cap ≤ maxLen ∧ (0 < P.cellsOf e → ∀ i, i < len → ∃ b off cs', A = some ⟨b, off, none⟩ ∧ b < B ∧ cs'.length = P.cellsOf e ∧
        (∀ j v, cs'[j]? = some v → w.cell? ⟨b, off + i * P.cellsOf e + j, none⟩ = some v) ∧ ReadsT P w B n e cs')
    | _ => True

section
variable {H : Type} {enc : TypeId × Value → H} {P : Program} {w : World} {base : Nat} {spare : Nat → Bool} {held : Bool}

theorem spot_of_cell {a : Addr} {v : Value} (h : w.cell? a = some v) : a.spot = none ∧ a.block < w.heap.size := by
  unfold World.cell? at h
  split at h
  · rename_i c e f hb
    refine ⟨?_, (Array.getElem?_eq_some_iff.1 hb).1⟩
    cases hs : a.spot with
    | none => rfl
    | some x => rw [hs] at h; cases h
  · cases h

theorem addr_form {a : Addr} (h : a.spot = none) : a = ⟨a.block, a.off, none⟩ := by
  obtain ⟨b, o, s⟩ := a
  cases h; rfl

theorem reads_of_trod : ∀ (n : Nat) {t : TypeId} {fuel : Nat} {cs : List Value} {x : DataW H × List MemPlace}, DataW.trod enc P w base spare held fuel t cs = some x → ReadsT P w w.heap.size n t cs
  | 0, _, _, _, _, _ => trivial
  | n + 1, t, fuel, cs, x, h => by
    unfold ReadsT
    split
    · rename_i k ht
      obtain ⟨m, rfl, _, hw⟩ := DataW.trod_int ht h
      exact ⟨m, rfl, hw⟩
    · rename_i ht
      obtain ⟨b, rfl, _⟩ := DataW.trod_bool ht h
      exact ⟨b, rfl⟩
    · rename_i m e ht
      obtain ⟨xs, m', _, _, hl, hxl, hi⟩ := DataW.trod_array ht h
      refine ⟨hl, fun i him => ?_⟩
      have := hi i him
      rw [List.getElem?_eq_getElem (by omega)] at this
      exact reads_of_trod n this
    · rename_i fs ht
      obtain ⟨xs, m', _, _, hl, hxl, hi⟩ := DataW.trod_struct ht h
      refine ⟨hl, fun i f hf => ?_⟩
      have := hi i f hf
      have hlt : i < fs.size := (Array.getElem?_eq_some_iff.1 hf).1
      rw [List.getElem?_eq_getElem (by omega)] at this
      exact reads_of_trod n this
    · rename_i e ht
      rcases open_slice ht h with ⟨rfl, _⟩ | ⟨a, len, cap, m, n', D, Pl, rfl, hb, hlc, hm, hmm, _, hi⟩
      · exact ⟨none, 0, 0, rfl, Nat.le_refl _, Nat.zero_le _, fun _ i hi => absurd hi (by omega)⟩
      · have hlm : len ≤ m := by rw [hmm]; split <;> omega
        refine ⟨some a, len, cap, rfl, hlc, hm, fun hpos i hil => ?_⟩
        obtain ⟨cs0, hc0, _⟩ := hi 0 (by omega)
        obtain ⟨_, hl0, hat0⟩ := World.cells?_some hc0
        have hs : a.spot = none ∧ a.block < w.heap.size := by
          have h0 := hat0 0 hpos
          rw [List.getElem?_eq_getElem (by omega)] at h0
          have := spot_of_cell h0
          simpa [Addr.add] using this
        obtain ⟨cs', hc, ht'⟩ := hi i (by omega)
        obtain ⟨_, hl', hat⟩ := World.cells?_some hc
        refine ⟨a.block, a.off, cs', by rw [← addr_form hs.1], hs.2, hl', fun j v hj => ?_, reads_of_trod n ht'⟩
        have hjl : j < cs'.length := (List.getElem?_eq_some_iff.1 hj).1
        have := hat j (by omega)
        rw [hj, addr_form hs.1, addr_add, addr_add] at this
        exact this
    · trivial
end

section
variable {P : Program} {w : World} {B n : Nat} {t : TypeId}
theorem readsT_int {k : IntKind} {cs : List Value} (ht : P.underlying t = some (.int k)) (h : ReadsT P w B (n + 1) t cs) : ∃ x, cs = [.int k x] ∧ (Lit.int k x).wf = true := by
  unfold ReadsT at h; rw [ht] at h; exact h
theorem readsT_bool {cs : List Value} (ht : P.underlying t = some .bool) (h : ReadsT P w B (n + 1) t cs) : ∃ b, cs = [.bool b] := by
  unfold ReadsT at h; rw [ht] at h; exact h
theorem readsT_array {m : Nat} {e : TypeId} {cs : List Value} (ht : P.underlying t = some (.array m e)) (h : ReadsT P w B (n + 1) t cs) :
    cs.length = P.cellsOf t ∧ ∀ i, i < m → ReadsT P w B n e ((cs.drop (i * P.cellsOf e)).take (P.cellsOf e)) := by
  unfold ReadsT at h; rw [ht] at h; exact h
theorem readsT_struct {fs : Array Field} {cs : List Value} (ht : P.underlying t = some (.struct fs)) (h : ReadsT P w B (n + 1) t cs) :
    cs.length = P.cellsOf t ∧ ∀ (i : Nat) (f : Field), fs[i]? = some f → ReadsT P w B n f.type ((cs.drop f.offset).take (P.cellsOf f.type)) := by
  unfold ReadsT at h; rw [ht] at h; exact h
theorem readsT_slice {e : TypeId} {cs : List Value} (ht : P.underlying t = some (.slice e)) (hpos : 0 < P.cellsOf e) (h : ReadsT P w B (n + 1) t cs) :
    ∃ A len cap, cs = [.slice A len cap] ∧ len ≤ cap ∧ cap ≤ maxLen ∧ ∀ i, i < len → ∃ b off cs', A = some ⟨b, off, none⟩ ∧ b < B ∧ cs'.length = P.cellsOf e ∧
      (∀ j v, cs'[j]? = some v → w.cell? ⟨b, off + i * P.cellsOf e + j, none⟩ = some v) ∧ ReadsT P w B n e cs' := by
  unfold ReadsT at h; rw [ht] at h
  obtain ⟨A, len, cap, h1, h2, h3, h4⟩ := h
  exact ⟨A, len, cap, h1, h2, h3, h4 hpos⟩
end

def leafInt (P : Program) (t : TypeId) (i : Nat) (k : IntKind) (off : Nat) : Bool :=
  match P.underlying t with
  | some (.struct fs) => (match fs[i]? with
    | some f => (match P.underlying f.type with | some (.int k') => decide (k' = k) | _ => false) && decide (P.cellsOf f.type = 1) && decide (f.offset = off)
    | none => false)
  | _ => false

theorem readsT_leaf {P : Program} {w : World} {B n : Nat} {t : TypeId} {cs : List Value} (h : ReadsT P w B (n + 2) t cs) (i off : Nat) (k : IntKind) (hl : leafInt P t i k off = true) :
    ∃ x, cs[off]? = some (.int k x) ∧ (Lit.int k x).wf = true := by
  unfold leafInt at hl
  split at hl
  · rename_i fs ht
    obtain ⟨_, hr⟩ := readsT_struct ht h
    split at hl
    · rename_i f hf
      have h1 := hr i f hf
      simp only [Bool.and_eq_true, decide_eq_true_eq] at hl
      obtain ⟨⟨ha, hb⟩, rfl⟩ := hl
      split at ha
      · rename_i k' hk
        have ha := of_decide_eq_true ha
        subst ha
        obtain ⟨x, hx, hw⟩ := readsT_int hk h1
        refine ⟨x, ?_, hw⟩
        rw [hb] at hx
        have : (List.take 1 (List.drop f.offset cs))[0]? = some (.int k' x) := by rw [hx]; rfl
        simpa [List.getElem?_take, List.getElem?_drop] using this
      · cases ha
    · cases hl
  · cases hl

attribute [irreducible] ReadsT

theorem list2 {α : Type} {l : List α} (h : l.length = 2) : ∃ a b, l = [a, b] := by
  match l, h with
  | [a, b], _ => exact ⟨a, b, rfl⟩
theorem list3 {α : Type} {l : List α} (h : l.length = 3) : ∃ a b c, l = [a, b, c] := by
  match l, h with
  | [a, b, c], _ => exact ⟨a, b, c, rfl⟩
theorem list5 {α : Type} {l : List α} (h : l.length = 5) : ∃ a b c d e, l = [a, b, c, d, e] := by
  match l, h with
  | [a, b, c, d, e], _ => exact ⟨a, b, c, d, e, rfl⟩
theorem list8 {α : Type} {l : List α} (h : l.length = 8) : ∃ a b c d e f g i, l = [a, b, c, d, e, f, g, i] := by
  match l, h with
  | [a, b, c, d, e, f, g, i], _ => exact ⟨a, b, c, d, e, f, g, i, rfl⟩

end Go.Proofs.Ytccgnnnildedoaa
