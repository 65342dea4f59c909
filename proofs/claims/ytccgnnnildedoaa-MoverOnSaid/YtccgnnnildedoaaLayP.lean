/-
  Objects laid one behind the other from an arena's second word on: what holds of them. No program is looked at here.
  Conditions: none.
-/
import Derived.Test.YtccgnnnildedoaaObject6
import Derived.Test.YtccgnnnildedoaaMovP
set_option linter.unusedVariables false
namespace Go.Proofs.Ytccgnnnildedoaa
open Go.RowKit

def upd {α : Type} (f : Nat → α) (a : Nat) (x : α) : Nat → α := fun b => if b = a then x else f b
theorem upd_same {α : Type} (f : Nat → α) (a : Nat) (x : α) : upd f a x a = x := if_pos rfl
theorem upd_far {α : Type} (f : Nat → α) {a b : Nat} (x : α) (h : b ≠ a) : upd f a x b = f b := if_neg h

/-- Of what were the words ws, objects O lie at the places l, from 1 to t, of the serials 1, 2, ..; beyond the hundred and fifty words nothing is other. -/
structure LaidIn (ws ws' : List Int) (l : List Nat) (t : Nat) (O : Nat → Obj) : Prop where
  laid : Laid (fun p => (O p).shp) 1 l t
  top : t ≤ 151
  len : ws'.length = ws.length
  obj : ∀ p ∈ l, ObjAt ws' p (O p)
  ser : ∀ (k : Nat) p, l[k]? = some p → (O p).ser = (k : Int) + 1
  far : ∀ i, (i < 1 ∨ 151 ≤ i) → wd ws' i = wd ws i

section
variable {ws ws' ws'' : List Int} {l : List Nat} {t : Nat} {O : Nat → Obj} {o : Obj}
theorem LaidIn.start (ws : List Int) (O : Nat → Obj) : LaidIn ws ws [] 1 O := ⟨rfl, by omega, rfl, fun _ h => absurd h (by simp), fun _ _ h => absurd h (by simp), fun _ _ => rfl⟩
theorem LaidIn.tk (h : LaidIn ws ws' l t O) : ∀ p ∈ l, 4 ≤ (O p).shp.tk ∧ (O p).size ≤ (O p).shp.tk := fun p hp => by
  have := Shp.tk_bd (h.obj p hp).ok.shp
  exact ⟨this.1, this.2.1⟩
theorem LaidIn.few (h : LaidIn ws ws' l t O) : 1 + 4 * l.length ≤ t := Laid.few h.laid fun p hp => (h.tk p hp).1
theorem LaidIn.snoc (h : LaidIn ws ws' l t O) (ho : ObjAt ws'' t o) (hs : o.ser = (l.length : Int) + 1) (hF : Frame ws' ws'' t o.size) (ht : t + o.shp.tk ≤ 151) : LaidIn ws ws'' (l ++ [t]) (t + o.shp.tk) (upd O t o) := by
  have hne : ∀ p ∈ l, p ≠ t := fun p hp e => by have := Laid.mem h.laid hp; have := (h.tk p hp).1; omega
  have h1 : 1 ≤ t := Laid.le h.laid
  have hk := Shp.tk_bd ho.ok.shp
  have hsz : o.size = o.shp.size := rfl
  refine ⟨?_, ht, hF.len.trans h.len, ?_, ?_, ?_⟩
  · have := (Laid.congr (f := fun p => (O p).shp) (f' := fun p => (upd O t o p).shp) (fun p hp => by rw [upd_far _ _ (hne p hp)]) h.laid).snoc
    rwa [upd_same] at this
  · intro p hp
    rcases List.mem_append.1 hp with hp | hp
    · rw [upd_far _ _ (hne p hp)]
      have h2 := Laid.mem h.laid hp
      have h3 := h.tk p hp
      exact hF.obj (h.obj p hp) (.inl (by omega))
    · rw [List.mem_singleton.1 hp, upd_same]; exact ho
  · intro k p hk
    rcases Nat.lt_or_ge k l.length with hlt | hge
    · rw [List.getElem?_append_left hlt] at hk
      rw [upd_far _ _ (hne p (List.mem_of_getElem? hk))]; exact h.ser k p hk
    · rw [List.getElem?_append_right hge] at hk
      have h0 : k - l.length = 0 := by
        rcases Nat.eq_zero_or_pos (k - l.length) with h | h
        · exact h
        · rw [List.getElem?_eq_none (by simp; omega)] at hk; cases hk
      rw [h0] at hk
      simp at hk
      rw [← hk, upd_same, hs]; omega
  · intro i hi
    rw [hF.far i (by omega)]; exact h.far i hi
/-- One of the objects is another one, of its shape and serial. -/
theorem LaidIn.turn (h : LaidIn ws ws' l t O) {p : Nat} (hp : p ∈ l) (ho : ObjAt ws'' p o) (hs : o.ser = (O p).ser) (hsh : o.shp = (O p).shp) (hF : Frame ws' ws'' p o.size) : LaidIn ws ws'' l t (upd O p o) := by
  have hshp : ∀ q, (upd O p o q).shp = (O q).shp := fun q => by
    by_cases e : q = p
    · rw [e, upd_same, hsh]
    · rw [upd_far _ _ e]
  have hser : ∀ q, (upd O p o q).ser = (O q).ser := fun q => by
    by_cases e : q = p
    · rw [e, upd_same, hs]
    · rw [upd_far _ _ e]
  have hpm := Laid.mem h.laid hp
  have h3 := h.tk p hp
  have hsz : o.size = (O p).size := by unfold Obj.size; rw [hsh]
  refine ⟨Laid.congr (fun q hq => hshp q) h.laid, h.top, hF.len.trans h.len, ?_, fun k q hk => by rw [hser]; exact h.ser k q hk, ?_⟩
  · intro q hq
    by_cases e : q = p
    · rw [e, upd_same]; exact ho
    · rw [upd_far _ _ e]
      have h4 := h.tk q hq
      have := Laid.apart h.laid (fun x hx => by have := (h.tk x hx).1; omega) hp hq (fun e' => e e'.symm)
      exact hF.obj (h.obj q hq) (by omega)
  · intro i hi
    rw [hF.far i (by have := h.top; omega)]; exact h.far i hi
end

end Go.Proofs.Ytccgnnnildedoaa
