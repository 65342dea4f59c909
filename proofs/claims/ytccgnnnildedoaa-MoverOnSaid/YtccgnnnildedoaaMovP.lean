/-
  Objects one behind the other: how many words each takes, where the next one is. No program is looked at here.
  Conditions: none.
-/
import Derived.Test.YtccgnnnildedoaaObjP
import Derived.Test.YtccgnnnildedoaaClassP
set_option linter.unusedVariables false
namespace Go.Proofs.Ytccgnnnildedoaa
open Go.RowKit

/-- How many words an object of so many words takes. -/
def rnd (n : Nat) : Nat := if n ≤ 4 then 4 else if n ≤ 6 then 6 else if n ≤ 8 then 8 else if n ≤ 12 then 12 else if n ≤ 16 then 16 else 24
theorem rnd_bd (n : Nat) (h : n ≤ 24) : 4 ≤ rnd n ∧ n ≤ rnd n ∧ rnd n ≤ 24 := by
  unfold rnd
  repeat' split
  all_goals omega
theorem csz0 : csz 0 = 4 := by decide
theorem csz1 : csz 1 = 6 := by decide
theorem csz2 : csz 2 = 8 := by decide
theorem csz3 : csz 3 = 12 := by decide
theorem csz4 : csz 4 = 16 := by decide
theorem csz5 : csz 5 = 24 := by decide
theorem rnd_class {n k : Nat} (h : n ≤ 24) (hk : ClassOf n k) : csz k = (rnd n : Nat) := by
  have below : ∀ j : Nat, csz j < n → ∀ i, i ≤ j → csz i < n := fun j h i hi => Int.lt_of_le_of_lt (csz_le hi) h
  unfold rnd
  split
  · rw [hk.uniq (k' := 0) ⟨by rw [csz0]; omega, fun j hj => absurd hj (by omega)⟩, csz0]; rfl
  split
  · rw [hk.uniq (k' := 1) ⟨by rw [csz1]; omega, fun j hj => below 0 (by rw [csz0]; omega) j (by omega)⟩, csz1]; rfl
  split
  · rw [hk.uniq (k' := 2) ⟨by rw [csz2]; omega, fun j hj => below 1 (by rw [csz1]; omega) j (by omega)⟩, csz2]; rfl
  split
  · rw [hk.uniq (k' := 3) ⟨by rw [csz3]; omega, fun j hj => below 2 (by rw [csz2]; omega) j (by omega)⟩, csz3]; rfl
  split
  · rw [hk.uniq (k' := 4) ⟨by rw [csz4]; omega, fun j hj => below 3 (by rw [csz3]; omega) j (by omega)⟩, csz4]; rfl
  · rw [hk.uniq (k' := 5) ⟨by rw [csz5]; omega, fun j hj => below 4 (by rw [csz4]; omega) j (by omega)⟩, csz5]; rfl

/-- How many words a shape takes. -/
def Shp.tk (s : Shp) : Nat := rnd s.size
theorem Shp.size_le {s : Shp} (h : s.ok) : 3 ≤ s.size ∧ s.size ≤ 19 := by
  obtain ⟨h1, h2, _⟩ := Shp.ok_bd h
  unfold Shp.size; omega
theorem Shp.tk_bd {s : Shp} (h : s.ok) : 4 ≤ s.tk ∧ s.size ≤ s.tk ∧ s.tk ≤ 24 := by
  have := Shp.size_le h
  exact rnd_bd _ (by omega)

/-- Objects (of shapes f) lie at the places l, one behind the other, from b to t. -/
def Laid (f : Nat → Shp) : Nat → List Nat → Nat → Prop
  | b, [], t => t = b
  | b, p :: l, t => p = b ∧ Laid f (b + (f p).tk) l t

section
variable {f f' : Nat → Shp}
theorem Laid.congr : ∀ {l : List Nat} {b t : Nat}, (∀ p ∈ l, f' p = f p) → Laid f b l t → Laid f' b l t
  | [], _, _, _, h => h
  | p :: l, b, t, hf, h => ⟨h.1, by
      have e := hf p List.mem_cons_self
      show Laid f' (b + (f' p).tk) l t
      rw [e]
      exact Laid.congr (fun q hq => hf q (List.mem_cons_of_mem _ hq)) h.2⟩
theorem Laid.snoc : ∀ {l : List Nat} {b t : Nat}, Laid f b l t → Laid f b (l ++ [t]) (t + (f t).tk)
  | [], b, t, h => by
    have h : t = b := h
    subst h
    exact ⟨rfl, rfl⟩
  | p :: l, b, t, h => ⟨h.1, Laid.snoc h.2⟩
theorem Laid.le : ∀ {l : List Nat} {b t : Nat}, Laid f b l t → b ≤ t
  | [], b, t, h => by have h : t = b := h; omega
  | p :: l, b, t, h => by have := Laid.le h.2; omega
theorem Laid.mem : ∀ {l : List Nat} {b t p : Nat}, Laid f b l t → p ∈ l → b ≤ p ∧ p + (f p).tk ≤ t
  | [], _, _, _, _, h => by cases h
  | q :: l, b, t, p, h, hp => by
    have hl := Laid.le h.2
    have h1 := h.1
    rcases List.mem_cons.1 hp with e | hq
    · subst e; subst h1; exact ⟨Nat.le_refl _, hl⟩
    · have := Laid.mem h.2 hq; omega
theorem Laid.first {l : List Nat} {b t : Nat} (h : Laid f b l t) : l.getD 0 t = b := by
  cases l with
  | nil => exact h
  | cons p l => exact h.1
theorem Laid.next : ∀ {l : List Nat} {b t k : Nat}, Laid f b l t → k < l.length → l.getD (k + 1) t = l.getD k t + (f (l.getD k t)).tk
  | [], _, _, _, _, h => by simp at h
  | p :: l, b, t, 0, h, _ => by
    have e := Laid.first h.2
    have h1 := h.1
    subst h1
    simpa using e
  | p :: l, b, t, k + 1, h, hk => by
    have := Laid.next h.2 (k := k) (by simpa using hk)
    simpa using this
theorem Laid.last {l : List Nat} {t : Nat} : l.getD l.length t = t := by simp
/-- The objects ahead of the k-th one. -/
theorem Laid.take : ∀ {l : List Nat} {b t : Nat} (k : Nat), Laid f b l t → Laid f b (l.take k) (l.getD k t)
  | [], b, t, k, h => by
    have h : t = b := h
    subst h
    simp [Laid]
  | p :: l, b, t, 0, h => by
    have h1 := h.1
    subst h1
    simp [Laid]
  | p :: l, b, t, k + 1, h => by
    simp only [List.take_succ_cons, List.getD_cons_succ]
    exact ⟨h.1, Laid.take k h.2⟩
/-- Two of them do not overlap. -/
theorem Laid.apart : ∀ {l : List Nat} {b t p q : Nat}, Laid f b l t → (∀ x ∈ l, 0 < (f x).tk) → p ∈ l → q ∈ l → p ≠ q → p + (f p).tk ≤ q ∨ q + (f q).tk ≤ p
  | [], _, _, _, _, _, _, h, _, _ => by cases h
  | r :: l, b, t, p, q, h, h0, hp, hq, hne => by
    have hl := h.1
    rcases List.mem_cons.1 hp with e1 | hp'
    · rcases List.mem_cons.1 hq with e2 | hq'
      · exact absurd (e1.trans e2.symm) hne
      · subst e1; subst hl; exact .inl (Laid.mem h.2 hq').1
    · rcases List.mem_cons.1 hq with e2 | hq'
      · subst e2; subst hl; exact .inr (Laid.mem h.2 hp').1
      · exact Laid.apart h.2 (fun x hx => h0 x (List.mem_cons_of_mem _ hx)) hp' hq' hne
theorem Laid.nodup : ∀ {l : List Nat} {b t : Nat}, Laid f b l t → (∀ x ∈ l, 0 < (f x).tk) → l.Nodup
  | [], _, _, _, _ => List.nodup_nil
  | p :: l, b, t, h, h0 => by
    refine List.nodup_cons.2 ⟨fun hp => ?_, Laid.nodup h.2 fun x hx => h0 x (List.mem_cons_of_mem _ hx)⟩
    have h1 := (Laid.mem h.2 hp).1
    have h2 := h0 p List.mem_cons_self
    have h3 := h.1
    omega
theorem Laid.sum : ∀ {l : List Nat} {b t : Nat}, Laid f b l t → t = b + (l.map fun p => (f p).tk).sum
  | [], b, t, h => by simpa [Laid] using h
  | p :: l, b, t, h => by
    have := Laid.sum h.2
    simp only [List.map_cons, List.sum_cons]
    omega
theorem Laid.few : ∀ {l : List Nat} {b t : Nat}, Laid f b l t → (∀ x ∈ l, 4 ≤ (f x).tk) → b + 4 * l.length ≤ t
  | [], b, t, h, _ => by have h : t = b := h; simp; omega
  | p :: l, b, t, h, h0 => by
    have := Laid.few h.2 fun x hx => h0 x (List.mem_cons_of_mem _ hx)
    have := h0 p List.mem_cons_self
    simp only [List.length_cons]
    omega
end

/-- At place p an object of shape s stands, or stood: then, where it is now, one of its shape stands. -/
structure GoneAt (ws : List Int) (p k : Nat) : Prop where
  lt : p < ws.length
  k1 : 1 ≤ k
  k2 : k ≤ 131072
  w : wd ws p = 4 * (k : Int) + 2
def StandAt (ws : List Int) (p : Nat) (s : Shp) : Prop := (∃ o, ObjAt ws p o ∧ o.shp = s) ∨ ∃ k, GoneAt ws p k ∧ ∃ o, ObjAt ws k o ∧ o.shp = s

def natInts (l : List Nat) : List Int := l.map fun p => ((p : Nat) : Int)
theorem natInts_len (l : List Nat) : (natInts l).length = l.length := by simp [natInts]
theorem natInts_take (l : List Nat) (k : Nat) : natInts (l.take k) = (natInts l).take k := by simp [natInts, List.map_take]
theorem natInts_wd (l : List Nat) (k : Nat) (h : k < l.length) (d : Nat) : wd (natInts l) k = ((l.getD k d : Nat) : Int) := by simp [natInts, wd, h]

end Go.Proofs.Ytccgnnnildedoaa
