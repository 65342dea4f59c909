/-
  Objects that are copied one behind the other into a space: what holds between two copies. No program is looked at here.
  Conditions: none.
-/
import Derived.Test.YtccgnnnildedoaaLayP
set_option linter.unusedVariables false
namespace Go.Proofs.Ytccgnnnildedoaa
open Go.RowKit

def sumTk (os : List Obj) : Nat := (os.map fun o => o.shp.tk).sum
theorem sumTk_take (os : List Obj) (j : Nat) : sumTk (os.take j) ≤ sumTk os := by
  unfold sumTk
  induction os generalizing j with
  | nil => simp
  | cons o os ih =>
    cases j with
    | zero => simp
    | succ j => simp only [List.take_succ_cons, List.map_cons, List.sum_cons]; have := ih j; omega
theorem sumTk_snoc (os : List Obj) {j : Nat} {o : Obj} (h : os[j]? = some o) : sumTk (os.take (j + 1)) = sumTk (os.take j) + o.shp.tk := by
  unfold sumTk
  obtain ⟨hj, e⟩ := List.getElem?_eq_some_iff.1 h
  rw [List.take_succ_eq_append_getElem hj, List.map_append, List.sum_append, e]; simp

/-- The objects os stand at the places q, one behind the other, from b to t. -/
structure Row8 (ws : List Int) (b : Nat) (q : List Nat) (t : Nat) (O : Nat → Obj) (os : List Obj) : Prop where
  laid : Laid (fun p => (O p).shp) b q t
  map : q.map O = os
  obj : ∀ p ∈ q, ObjAt ws p (O p)

section
variable {ws ws' : List Int} {b t : Nat} {q : List Nat} {O : Nat → Obj} {os : List Obj}
theorem Row8.len (h : Row8 ws b q t O os) : q.length = os.length := by rw [← h.map]; simp
theorem Row8.at (h : Row8 ws b q t O os) {k p : Nat} (hk : q[k]? = some p) : os[k]? = some (O p) := by rw [← h.map, List.getElem?_map, hk]; rfl
theorem Row8.tk (h : Row8 ws b q t O os) : ∀ p ∈ q, 4 ≤ (O p).shp.tk ∧ (O p).size ≤ (O p).shp.tk := fun p hp => by
  have := Shp.tk_bd (h.obj p hp).ok.shp
  exact ⟨this.1, this.2.1⟩
theorem Row8.sum (h : Row8 ws b q t O os) : t = b + sumTk os := by
  rw [Laid.sum h.laid, ← h.map]
  unfold sumTk
  rw [List.map_map]; rfl
end

/-- Between two copies: the first j of q have been copied to r, from c to u. -/
structure Half8 (ws : List Int) (b : Nat) (q : List Nat) (t : Nat) (O : Nat → Obj) (c : Nat) (r : List Nat) (u : Nat) (R : Nat → Obj) (os : List Obj) (j : Nat) : Prop where
  laid : Laid (fun p => (O p).shp) b q t
  map : q.map O = os
  tkq : ∀ p ∈ q, 4 ≤ (O p).shp.tk ∧ (O p).size ≤ (O p).shp.tk
  obj : ∀ k p, j ≤ k → q[k]? = some p → ObjAt ws p (O p)
  new : Row8 ws c r u R (os.take j)
  le : j ≤ os.length
  apart : t ≤ c

section
variable {ws ws' : List Int} {b t c u j : Nat} {q r : List Nat} {O R : Nat → Obj} {os : List Obj}
theorem Half8.start (h : Row8 ws b q t O os) (hc : t ≤ c) (R : Nat → Obj) : Half8 ws b q t O c [] c R os 0 :=
  ⟨h.laid, h.map, h.tk, fun k p _ hk => h.obj p (List.mem_of_getElem? hk), ⟨rfl, by simp, fun p hp => by simp at hp⟩, Nat.zero_le _, hc⟩
theorem Half8.end_ (h : Half8 ws b q t O c r u R os os.length) : Row8 ws c r u R os := by
  have := h.new
  rwa [List.take_length] at this
theorem Half8.rlen (h : Half8 ws b q t O c r u R os j) : r.length = j := by rw [h.new.len, List.length_take]; have := h.le; omega
theorem Half8.room (h : Half8 ws b q t O c r u R os j) {p : Nat} (hp : q[j]? = some p) : u + (O p).shp.tk ≤ c + sumTk os := by
  have h1 := h.new.sum
  have h2 : os[j]? = some (O p) := by rw [← h.map, List.getElem?_map, hp]; rfl
  have h3 := sumTk_snoc os h2
  have h4 := sumTk_take os (j + 1)
  omega
/-- One more is copied. -/
theorem Half8.step (h : Half8 ws b q t O c r u R os j) {p : Nat} (hp : q[j]? = some p) (hl : ws'.length = ws.length) (ho : ObjAt ws' u (O p)) (hfar : ∀ i, i ≠ p → (i < u ∨ u + (O p).size ≤ i) → wd ws' i = wd ws i) :
    Half8 ws' b q t O c (r ++ [u]) (u + (O p).shp.tk) (upd R u (O p)) os (j + 1) := by
  have hpq := List.mem_of_getElem? hp
  have hjl := (List.getElem?_eq_some_iff.1 hp).1
  have hlen : q.length = os.length := by rw [← h.map]; simp
  have hcu := Laid.le h.new.laid
  have htc := h.apart
  have h0 : ∀ x ∈ q, 0 < (O x).shp.tk := fun x hx => by have := (h.tkq x hx).1; omega
  have hpm := Laid.mem h.laid hpq
  have hnd := Laid.nodup h.laid h0
  have hpt := (h.tkq p hpq).1
  have hos : os[j]? = some (O p) := by rw [← h.map, List.getElem?_map, hp]; rfl
  have hne : ∀ x ∈ r, x ≠ u := fun x hx e => by have := Laid.mem h.new.laid hx; have := (h.new.tk x hx).1; omega
  refine ⟨h.laid, h.map, h.tkq, ?_, ⟨?_, ?_, ?_⟩, by omega, htc⟩
  · intro k x hk hx
    have hxq := List.mem_of_getElem? hx
    have hxm := Laid.mem h.laid hxq
    have hxt := h.tkq x hxq
    have hxp : x ≠ p := fun e => by
      subst e
      have := (List.getElem?_inj (by exact (List.getElem?_eq_some_iff.1 hx).1) hnd).1 (hx.trans hp.symm)
      omega
    have hap := Laid.apart h.laid h0 hxq hpq hxp
    refine (h.obj k x (by omega) hx).far hl fun i hi => ?_
    exact hfar _ (by omega) (.inl (by omega))
  · have := (Laid.congr (f := fun x => (R x).shp) (f' := fun x => (upd R u (O p) x).shp) (fun x hx => by rw [upd_far _ _ (hne x hx)]) h.new.laid).snoc
    rwa [upd_same] at this
  · rw [List.map_append, List.take_succ_eq_append_getElem (by omega), ← h.new.map]
    congr 1
    · exact List.map_congr_left fun x hx => upd_far _ _ (hne x hx)
    · obtain ⟨_, e⟩ := List.getElem?_eq_some_iff.1 hos
      simp [upd_same, e]
  · intro x hx
    rcases List.mem_append.1 hx with hx | hx
    · rw [upd_far _ _ (hne x hx)]
      have hxm := Laid.mem h.new.laid hx
      have hxt := h.new.tk x hx
      refine (h.new.obj x hx).far hl fun i hi => ?_
      exact hfar _ (by omega) (.inl (by omega))
    · rw [List.mem_singleton.1 hx, upd_same]; exact ho
end

theorem LaidIn.row8 {ws ws' : List Int} {l : List Nat} {t : Nat} {O : Nat → Obj} (h : LaidIn ws ws' l t O) : Row8 ws' 1 l t O (l.map O) := ⟨h.laid, rfl, h.obj⟩

end Go.Proofs.Ytccgnnnildedoaa
