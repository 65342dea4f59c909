/-
  A slice of numbers that a walk reads: element i is f i. No program is looked at here.
  Conditions: none.
-/
import Derived.Test.YtccgnnnildedoaaBase
set_option linter.unusedVariables false
namespace Go.Proofs.Ytccgnnnildedoaa
open Go.RowKit

/-- Of the slice over A the first n elements are the numbers f 0, f 1, .. -/
def Sl (w : World) (k : IntKind) (A : Option Addr) (n : Nat) (f : Nat → Int) : Prop := ∀ i, i < n → ∃ b o, A = some ⟨b, o, none⟩ ∧ w.cell? ⟨b, o + i, none⟩ = some (.int k (f i))

theorem Sl.kept {w w' : World} {k : IntKind} {A : Option Addr} {n : Nat} {f : Nat → Int} {S : Nat → Prop} (h : Sl w k A n f) (hk : Kept S w w') (hS : ∀ b o, A = some ⟨b, o, none⟩ → ¬ S b) : Sl w' k A n f := fun i hi => by
  obtain ⟨b, o, hA, hc⟩ := h i hi
  exact ⟨b, o, hA, hk.cell (hS b o hA) hc⟩
theorem Sl.own {w : World} {base : Nat} {e : TypeId} {k : IntKind} {A : Option Addr} {n c : Nat} {xs : List Value} {f : Nat → Int} (h : w.ownsRow base e 1 (.slice A n c) n xs) (hf : ∀ i, i < n → xs[i]? = some (.int k (f i))) : Sl w k A n f := fun i hi => by
  obtain ⟨g, cap, hv, _, _⟩ := h.form (by omega)
  injection hv with h1 h2 h3
  subst h1; subst h3
  refine ⟨g, 0, rfl, ?_⟩
  rw [Nat.zero_add]
  exact own_cell h (hf i hi)
theorem Sl.blk {w : World} {g : Nat} {t : TypeId} {k : IntKind} {n : Nat} {l : List Int} (h : Bk w g t ((l.map (Value.int k)).toArray)) (hn : n = l.length) : Sl w k (some ⟨g, 0, none⟩) n (fun i => l.getD i 0) := fun i hi => by
  refine ⟨g, 0, rfl, ?_⟩
  rw [h.cell, Nat.zero_add]
  simp [hn ▸ hi]

end Go.Proofs.Ytccgnnnildedoaa
