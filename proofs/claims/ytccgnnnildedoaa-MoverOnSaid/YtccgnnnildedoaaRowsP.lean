/-
  Rows that a call has made, of elements of one cell or more: appended to, stored into, read. No program is looked at here.
  Conditions: as each statement says.
-/
import Derived.Test.YtccgnnnildedoaaBase
import Derived.Laws.OwnMore
set_option linter.unusedVariables false
namespace Go.Proofs.Ytccgnnnildedoaa
open Go.RowKit

/-- append(out, x): out is the call's own; x, of some cells, lies in a block of its own. -/
theorem wpList_append_row {P : Program} {w : World} {ops : Array Oper} {rest : List Oper} {o : Oper} {a : Act} {Q : Exit → Act → World → Prop} (hgd : o.guard = none) (s x : Operand) (t : TypeId)
    (ho : o.op = .call { callee := .builtin .append, args := #[s, x], argTypes := #[t, t] }) (base : Nat)
    (e : TypeId) (i : TypeInfo) (z : Value) (size bytes : Nat) (ht : P.underlying t = some (.slice e)) (hi : P.info? e = some i) (hz : i.zero = some z)
    (hsize : i.size = size) (hby : i.bytes = bytes) (hzs : z.cells.size = size) (hsz : 0 < size)
    (v : Value) (n : Nat) (xs : List Value) (hs : a.eval s = v) (hown : w.ownsRow base e size v n xs)
    (B : Nat) (T : TypeId) (us : List Value) (hx : a.eval x = .slice (some ⟨B, 0, none⟩) 1 1) (hB : Bk w B T us.toArray) (hl : us.length = size) (hu : ∀ u ∈ us, u.oneCell' = true)
    (hn : n ≤ 1000000000) (hb : bytes ≤ 1000) (hbase : base ≤ w.heap.size)
    (h : ∀ g cap w', w'.ownsRow base e size (.slice (some ⟨g, 0, none⟩) (n + 1) cap) (n + 1) (xs ++ us) → Kept (fun k => v.ownBlock = some k) w w' → wpList P ops Q rest (a.put o.dst (.slice (some ⟨g, 0, none⟩) (n + 1) cap)) w') : wpList P ops Q (o :: rest) a w := by
  have hmul : (n + 1) * bytes ≤ 1000000001 * 1000 := Nat.mul_le_mul (by omega) hb
  refine wpList_append_lies w hgd s x t ho base e i z size bytes ht hi hz hsize hby hzs hsz v n xs hs hown ⟨B, 0, none⟩ 1 1 us hx (by rw [hl, Nat.one_mul]) (fun j u hj => World.news_of_block hB j u (by simpa using hj)) hu (by omega) (by simp only [maxLen]; omega) (by omega) hbase w.heap.size rfl ?_
  intro g cap w' h1 h2 _ _
  exact h g cap w' h1 ((Kept.refl _ w).grown h2 (fun k hk _ => hk))

section
variable {w w' : World} {base : Nat} {e : TypeId} {size : Nat} {v : Value} {n : Nat} {xs : List Value} {S : Nat → Prop}
theorem own_kept2 (h : w.ownsRow base e size v n xs) (hk : Kept S w w') (hS : ∀ k, v.ownBlock = some k → ¬ S k) : w'.ownsRow base e size v n xs := by
  refine ⟨h.1, ?_⟩
  rcases h.2 with hn | ⟨g, cap, cur, rfl, hb, hg, rest⟩
  · exact .inl hn
  · exact .inr ⟨g, cap, cur, rfl, hb, (hk.block g (Array.getElem?_eq_some_iff.1 hg).1 (hS g rfl)).trans hg, rest⟩
/-- The block of a row is known by its kind. -/
theorem own_type (h : w.ownsRow base e size v n xs) {k : Nat} (hk : v.ownBlock = some k) : ∃ cur, w.heap[k]? = some (.cells cur e (0, 0)) := by
  rcases h.2 with ⟨rfl, _⟩ | ⟨g, cap, cur, rfl, hb, hg, rest⟩
  · simp [Value.ownBlock] at hk
  · simp [Value.ownBlock] at hk
    subst hk
    exact ⟨cur, hg⟩
/-- Rows of unlike kinds do not share a block. -/
theorem own_apart {base2 size2 n2 : Nat} {e2 : TypeId} {v2 : Value} {xs2 : List Value} (h : w.ownsRow base e size v n xs) (h2 : w.ownsRow base2 e2 size2 v2 n2 xs2) (he : e ≠ e2) : ∀ k, v.ownBlock = some k → ¬ (fun i => v2.ownBlock = some i) k := by
  intro k hk hk2
  obtain ⟨c1, h1⟩ := own_type h hk
  obtain ⟨c2, h2⟩ := own_type h2 hk2
  rw [h1] at h2
  injection h2 with h2
  injection h2 with _ h3
  exact he h3
theorem own_bk {X : Nat} {T : TypeId} {cs : Array Value} (h : w.ownsRow base e size v n xs) (hB : Bk w X T cs) (he : e ≠ T) : ∀ k, v.ownBlock = some k → ¬ OneBlk X k := by
  intro k hk hx
  obtain ⟨c1, h1⟩ := own_type h hk
  have e1 : k = X := hx
  subst e1
  unfold Bk at hB
  rw [h1] at hB
  injection hB with hB
  injection hB with _ h3
  exact he h3
theorem own_own {base2 size2 n2 g2 c2 : Nat} {e2 : TypeId} {xs2 : List Value} (h : w.ownsRow base e size v n xs) (h2 : w.ownsRow base2 e2 size2 (.slice (some ⟨g2, 0, none⟩) n2 c2) n2 xs2) (he : e ≠ e2) : ∀ k, v.ownBlock = some k → ¬ OneBlk g2 k := by
  intro k hk hx
  have e1 : k = g2 := hx
  subst e1
  exact own_apart h h2 he k hk rfl
theorem set1_one (V : World) (X i : Nat) (a : Value) : Kept (OneBlk X) V (V.setCell ⟨X, i, none⟩ a) := (Kept.refl (OneBlk X) V).setCell (p := ⟨X, i, none⟩) (fun _ => rfl) _
theorem own_shape (h : w.ownsRow base e size v n xs) : ∃ A c, v = .slice A n c := by
  rcases h.2 with ⟨rfl, rfl⟩ | ⟨g, cap, cur, rfl, _⟩
  · exact ⟨_, _, rfl⟩
  · exact ⟨_, _, rfl⟩
theorem own_store {g c : Nat} (h : w.ownsRow base e size (.slice (some ⟨g, 0, none⟩) n c) n xs) (j : Nat) (u : Value) : (w.setCell ⟨g, j, none⟩ u).ownsRow base e size (.slice (some ⟨g, 0, none⟩) n c) n (xs.set j u) := (World.ownsRow.stored h j u).1
end

end Go.Proofs.Ytccgnnnildedoaa
