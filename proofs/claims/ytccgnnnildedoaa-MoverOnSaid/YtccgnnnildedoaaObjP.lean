/-
  Objects as numbers: what stands in an arena's words. No program is looked at here.
  Conditions: none.
-/
import Derived.Test.YtccgnnnildedoaaHeadP
set_option linter.unusedVariables false
namespace Go.Proofs.Ytccgnnnildedoaa
open Go.RowKit

/-- An object: its shape, is it freed, its second word, its serial, its pointers, its numbers. -/
structure Obj where
  shp : Shp
  freed : Bool
  sec : Int
  ser : Int
  ptrs : List Int
  nums : List Int

structure Obj.Ok (o : Obj) : Prop where
  shp : o.shp.ok
  np : o.ptrs.length = o.shp.p
  nd : o.nums.length = o.shp.d
  sec0 : 0 ≤ o.sec
  sec1 : o.sec < 18446744073709551616
  ser0 : 0 ≤ o.ser
  ser1 : o.ser ≤ 1099511627776
  ptr : ∀ i, i < o.shp.p → 0 ≤ wd o.ptrs i ∧ wd o.ptrs i ≤ 131072
  num : ∀ i, i < o.shp.d → -9223372036854775808 ≤ wd o.nums i ∧ wd o.nums i ≤ 9223372036854775807

def Obj.words (o : Obj) : List Int := ((headN o.shp o.freed : Nat) : Int) :: o.sec :: o.ser :: (o.ptrs ++ o.nums.map zigI)
def Obj.size (o : Obj) : Nat := o.shp.size

theorem Obj.Ok.length {o : Obj} (h : o.Ok) : o.words.length = o.size := by
  unfold Obj.words Obj.size Shp.size
  simp only [List.length_cons, List.length_append, List.length_map, h.np, h.nd]; omega
theorem words0 (o : Obj) : wd o.words 0 = ((headN o.shp o.freed : Nat) : Int) := rfl
theorem words1 (o : Obj) : wd o.words 1 = o.sec := rfl
theorem words2 (o : Obj) : wd o.words 2 = o.ser := rfl
theorem words_ptr {o : Obj} (h : o.Ok) {i : Nat} (hi : i < o.shp.p) : wd o.words (3 + i) = wd o.ptrs i := by
  have := h.np
  unfold wd Obj.words
  rw [show 3 + i = i + 1 + 1 + 1 by omega]
  simp only [List.getD_eq_getElem?_getD, List.getElem?_cons_succ]
  rw [List.getElem?_append_left (by omega)]
theorem words_num {o : Obj} (h : o.Ok) {i : Nat} (hi : i < o.shp.d) : wd o.words (3 + o.shp.p + i) = zigI (wd o.nums i) := by
  have h1 := h.np
  have h2 := h.nd
  unfold wd Obj.words
  rw [show 3 + o.shp.p + i = o.shp.p + i + 1 + 1 + 1 by omega]
  simp only [List.getD_eq_getElem?_getD, List.getElem?_cons_succ]
  rw [List.getElem?_append_right (by omega), List.getElem?_map, h1, Nat.add_sub_cancel_left, List.getElem?_eq_getElem (by omega)]
  rfl

/-- Object o stands at place a. -/
structure ObjAt (ws : List Int) (a : Nat) (o : Obj) : Prop where
  ok : o.Ok
  fit : a + o.size ≤ ws.length
  w : ∀ i, i < o.size → wd ws (a + i) = wd o.words i

section
variable {ws ws' : List Int} {a : Nat} {o : Obj}
theorem Obj.size3 (o : Obj) : 3 ≤ o.size := by unfold Obj.size Shp.size; omega
theorem ObjAt.head (h : ObjAt ws a o) : wd ws a = ((headN o.shp o.freed : Nat) : Int) := by have := h.w 0 (by have := o.size3; omega); rwa [Nat.add_zero, words0] at this
theorem ObjAt.sec (h : ObjAt ws a o) : wd ws (a + 1) = o.sec := by rw [h.w 1 (by have := o.size3; omega), words1]
theorem ObjAt.ser (h : ObjAt ws a o) : wd ws (a + 2) = o.ser := by rw [h.w 2 (by have := o.size3; omega), words2]
theorem ObjAt.ptr (h : ObjAt ws a o) {i : Nat} (hi : i < o.shp.p) : wd ws (a + (3 + i)) = wd o.ptrs i := by
  rw [h.w (3 + i) (by unfold Obj.size Shp.size; omega), words_ptr h.ok hi]
theorem ObjAt.num (h : ObjAt ws a o) {i : Nat} (hi : i < o.shp.d) : wd ws (a + (3 + o.shp.p + i)) = zigI (wd o.nums i) := by
  rw [h.w (3 + o.shp.p + i) (by unfold Obj.size Shp.size; omega), words_num h.ok hi]
theorem ObjAt.far (h : ObjAt ws a o) (hl : ws'.length = ws.length) (hw : ∀ i, i < o.size → wd ws' (a + i) = wd ws (a + i)) : ObjAt ws' a o :=
  ⟨h.ok, by rw [hl]; exact h.fit, fun i hi => (hw i hi).trans (h.w i hi)⟩
/-- A word elsewhere is another one. -/
theorem ObjAt.set_far (h : ObjAt ws a o) {i : Nat} (x : Int) (hi : i < a ∨ a + o.size ≤ i) : ObjAt (ws.set i x) a o := by
  refine h.far (by simp) fun k hk => ?_
  unfold wd
  simp only [List.getD_eq_getElem?_getD, List.getElem?_set]
  rw [if_neg (by omega)]
end

theorem wd_set' (ws : List Int) (p : Nat) (x : Int) (k : Nat) (hp : p < ws.length) : wd (ws.set p x) k = if k = p then x else wd ws k := by
  unfold wd
  simp only [List.getD_eq_getElem?_getD, List.getElem?_set]
  by_cases e : p = k
  · subst e; rw [if_pos rfl, if_pos rfl, if_pos hp]; rfl
  · rw [if_neg e, if_neg (fun h => e h.symm)]

section
variable {ws : List Int} {a : Nat} {o : Obj}
/-- Word i of an object is another one. -/
theorem ObjAt.set_at {o' : Obj} {i : Nat} {x : Int} (h : ObjAt ws a o) (hok : o'.Ok) (hs : o'.size = o.size) (hi : i < o.size)
    (hw : ∀ k, k < o.size → wd o'.words k = if k = i then x else wd o.words k) : ObjAt (ws.set (a + i) x) a o' := by
  have hf := h.fit
  refine ⟨hok, by rw [List.length_set, hs]; exact h.fit, fun k hk => ?_⟩
  rw [hs] at hk
  rw [wd_set' _ _ _ _ (by omega), hw k hk, h.w k hk]
  by_cases e : k = i
  · rw [if_pos e, if_pos (by omega)]
  · rw [if_neg e, if_neg (by omega)]
def Obj.setPtr (o : Obj) (i : Nat) (x : Int) : Obj := { o with ptrs := o.ptrs.set i x }
def Obj.setNum (o : Obj) (i : Nat) (x : Int) : Obj := { o with nums := o.nums.set i x }
def Obj.setFreed (o : Obj) (f : Bool) : Obj := { o with freed := f }
def Obj.setSec (o : Obj) (x : Int) : Obj := { o with sec := x }
theorem Obj.Ok.setPtr (h : o.Ok) {i : Nat} {x : Int} (h0 : 0 ≤ x) (h1 : x ≤ 131072) : (o.setPtr i x).Ok :=
  ⟨h.shp, by unfold Obj.setPtr; rw [List.length_set]; exact h.np, h.nd, h.sec0, h.sec1, h.ser0, h.ser1, fun k hk => by
    have hk' : k < o.shp.p := hk
    show 0 ≤ wd (o.ptrs.set i x) k ∧ wd (o.ptrs.set i x) k ≤ 131072
    by_cases hi : i < o.ptrs.length
    · rw [wd_set' _ _ _ _ hi]
      split
      · exact ⟨h0, h1⟩
      · exact h.ptr k hk'
    · rw [List.set_eq_of_length_le (by omega)]; exact h.ptr k hk', h.num⟩
theorem Obj.Ok.setNum (h : o.Ok) {i : Nat} {x : Int} (h0 : -9223372036854775808 ≤ x) (h1 : x ≤ 9223372036854775807) : (o.setNum i x).Ok :=
  ⟨h.shp, h.np, by unfold Obj.setNum; rw [List.length_set]; exact h.nd, h.sec0, h.sec1, h.ser0, h.ser1, h.ptr, fun k hk => by
    have hk' : k < o.shp.d := hk
    show -9223372036854775808 ≤ wd (o.nums.set i x) k ∧ wd (o.nums.set i x) k ≤ 9223372036854775807
    by_cases hi : i < o.nums.length
    · rw [wd_set' _ _ _ _ hi]
      split
      · exact ⟨h0, h1⟩
      · exact h.num k hk'
    · rw [List.set_eq_of_length_le (by omega)]; exact h.num k hk'⟩
theorem Obj.Ok.setFreed (h : o.Ok) (f : Bool) : (o.setFreed f).Ok := ⟨h.shp, h.np, h.nd, h.sec0, h.sec1, h.ser0, h.ser1, h.ptr, h.num⟩
theorem Obj.Ok.setSec (h : o.Ok) {x : Int} (h0 : 0 ≤ x) (h1 : x < 18446744073709551616) : (o.setSec x).Ok := ⟨h.shp, h.np, h.nd, h0, h1, h.ser0, h.ser1, h.ptr, h.num⟩

theorem ObjAt.setFreed (h : ObjAt ws a o) (f : Bool) : ObjAt (ws.set a ((headN o.shp f : Nat) : Int)) a (o.setFreed f) := by
  have := h.set_at (o' := o.setFreed f) (i := 0) (x := ((headN o.shp f : Nat) : Int)) (h.ok.setFreed f) rfl (by have := o.size3; omega) (fun k hk => by
    match k with
    | 0 => rfl
    | k + 1 => rw [if_neg (by omega)]; rfl)
  simpa using this
theorem ObjAt.setSec (h : ObjAt ws a o) {x : Int} (h0 : 0 ≤ x) (h1 : x < 18446744073709551616) : ObjAt (ws.set (a + 1) x) a (o.setSec x) :=
  h.set_at (o' := o.setSec x) (h.ok.setSec h0 h1) rfl (by have := o.size3; omega) (fun k hk => by
    match k with
    | 0 => rfl
    | 1 => rfl
    | k + 2 => rw [if_neg (by omega)]; rfl)
/-- The words of an object, told by what they are. -/
theorem words_cases {o : Obj} (h : o.Ok) {k : Nat} (hk : k < o.size) : k = 0 ∨ k = 1 ∨ k = 2 ∨ (∃ i, i < o.shp.p ∧ k = 3 + i) ∨ (∃ i, i < o.shp.d ∧ k = 3 + o.shp.p + i) := by
  unfold Obj.size Shp.size at hk
  by_cases c : k < 3
  · omega
  · by_cases c2 : k < 3 + o.shp.p
    · exact .inr (.inr (.inr (.inl ⟨k - 3, by omega, by omega⟩)))
    · exact .inr (.inr (.inr (.inr ⟨k - 3 - o.shp.p, by omega, by omega⟩)))
theorem ObjAt.setPtr (h : ObjAt ws a o) {i : Nat} {x : Int} (hi : i < o.shp.p) (h0 : 0 ≤ x) (h1 : x ≤ 131072) : ObjAt (ws.set (a + (3 + i)) x) a (o.setPtr i x) := by
  have hok : (o.setPtr i x).Ok := h.ok.setPtr h0 h1
  refine h.set_at hok rfl (by unfold Obj.size Shp.size; omega) (fun k hk => ?_)
  have hnp := h.ok.np
  rcases words_cases h.ok hk with rfl | rfl | rfl | ⟨j, hj, rfl⟩ | ⟨j, hj, rfl⟩
  · rw [if_neg (by omega)]; rfl
  · rw [if_neg (by omega)]; rfl
  · rw [if_neg (by omega)]; rfl
  · rw [words_ptr hok (show j < (o.setPtr i x).shp.p from hj), words_ptr h.ok hj]
    show wd (o.ptrs.set i x) j = _
    rw [wd_set' _ _ _ _ (by omega)]
    by_cases e : j = i
    · rw [if_pos e, if_pos (by omega)]
    · rw [if_neg e, if_neg (by omega)]
  · have e1 := words_num hok (i := j) hj
    have e2 := words_num h.ok hj
    have e3 : (o.setPtr i x).shp.p = o.shp.p := rfl
    rw [e3] at e1
    rw [e1, e2, if_neg (by omega)]; rfl
theorem ObjAt.setNum (h : ObjAt ws a o) {i : Nat} {x : Int} (hi : i < o.shp.d) (h0 : -9223372036854775808 ≤ x) (h1 : x ≤ 9223372036854775807) : ObjAt (ws.set (a + (3 + o.shp.p + i)) (zigI x)) a (o.setNum i x) := by
  have hok : (o.setNum i x).Ok := h.ok.setNum h0 h1
  refine h.set_at hok rfl (by unfold Obj.size Shp.size; omega) (fun k hk => ?_)
  have hnd := h.ok.nd
  rcases words_cases h.ok hk with rfl | rfl | rfl | ⟨j, hj, rfl⟩ | ⟨j, hj, rfl⟩
  · rw [if_neg (by omega)]; rfl
  · rw [if_neg (by omega)]; rfl
  · rw [if_neg (by omega)]; rfl
  · have e1 := words_ptr hok (i := j) hj
    rw [e1, words_ptr h.ok hj, if_neg (by omega)]; rfl
  · have e1 := words_num hok (i := j) hj
    have e2 := words_num h.ok hj
    have e3 : (o.setNum i x).shp.p = o.shp.p := rfl
    rw [e3] at e1
    rw [e1, e2]
    show zigI (wd (o.nums.set i x) j) = _
    rw [wd_set' _ _ _ _ (by omega)]
    by_cases e : j = i
    · rw [if_pos e, if_pos (by omega)]
    · rw [if_neg e, if_neg (by omega)]
end

/-- A new object. -/
def newObj (s : Shp) (n : Int) : Obj := ⟨s, false, 0, n, List.replicate s.p 0, List.replicate s.d 0⟩
theorem wd_rep (n i : Nat) : wd (List.replicate n 0) i = 0 := by
  unfold wd; simp only [List.getD_eq_getElem?_getD, List.getElem?_replicate]; split <;> rfl
theorem newObj_ok {s : Shp} (h : s.ok) {n : Int} (h0 : 0 ≤ n) (h1 : n ≤ 1099511627776) : (newObj s n).Ok :=
  ⟨h, by simp [newObj], by simp [newObj], by simp [newObj], by simp [newObj], h0, h1, fun i _ => by rw [show wd (newObj s n).ptrs i = 0 from wd_rep _ _]; omega, fun i _ => by rw [show wd (newObj s n).nums i = 0 from wd_rep _ _]; omega⟩
/-- What Make lays. -/
def madeN (ws : List Int) (a : Nat) (s : Shp) (n : Int) : List Int := ((fillN ws a s.size 0).set (a + 2) n).set a ((headN s false : Nat) : Int)
theorem length_madeN (ws : List Int) (a : Nat) (s : Shp) (n : Int) : (madeN ws a s n).length = ws.length := by simp [madeN, length_fillN]
theorem madeN_far {ws : List Int} {a : Nat} {s : Shp} {n : Int} (h : a + s.size ≤ ws.length) {i : Nat} (hi : i < a ∨ a + s.size ≤ i) : wd (madeN ws a s n) i = wd ws i := by
  have hs : 3 ≤ s.size := by unfold Shp.size; omega
  unfold madeN
  rw [wd_set' _ _ _ _ (by rw [List.length_set, length_fillN]; omega), if_neg (by omega), wd_set' _ _ _ _ (by rw [length_fillN]; omega), if_neg (by omega), fillN_wd _ _ _ _ h, if_neg (by omega)]
theorem madeN_at {ws : List Int} {a : Nat} {s : Shp} {n : Int} (h : a + s.size ≤ ws.length) (hs : s.ok) (h0 : 0 ≤ n) (h1 : n ≤ 1099511627776) : ObjAt (madeN ws a s n) a (newObj s n) := by
  have h3 : 3 ≤ s.size := by unfold Shp.size; omega
  refine ⟨newObj_ok hs h0 h1, by rw [length_madeN]; exact h, fun i hi => ?_⟩
  have hi' : i < s.size := hi
  unfold madeN
  rw [wd_set' _ _ _ _ (by rw [List.length_set, length_fillN]; omega), wd_set' _ _ _ _ (by rw [length_fillN]; omega), fillN_wd _ _ _ _ h]
  have hok := newObj_ok hs h0 h1
  rcases words_cases hok hi with rfl | rfl | rfl | ⟨j, hj, rfl⟩ | ⟨j, hj, rfl⟩
  · rw [if_pos (by omega)]; rfl
  · rw [if_neg (by omega), if_neg (by omega), if_pos (by omega)]; rfl
  · rw [if_neg (by omega), if_pos (by omega)]; rfl
  · rw [if_neg (by omega), if_neg (by omega), if_pos (by omega), words_ptr hok hj, show wd (newObj s n).ptrs j = 0 from wd_rep _ _]
  · rw [if_neg (by omega), if_neg (by omega), if_pos (by omega), words_num hok hj, show wd (newObj s n).nums j = 0 from wd_rep _ _]; rfl
/-- Words that are moved are an object elsewhere. -/
theorem moved_at {ws ws' : List Int} {a b : Nat} {o : Obj} (h : ObjAt ws a o) (hb : b + o.size ≤ ws'.length) (hw : ∀ i, i < o.size → wd ws' (b + i) = wd ws (a + i)) : ObjAt ws' b o :=
  ⟨h.ok, hb, fun i hi => (hw i hi).trans (h.w i hi)⟩

end Go.Proofs.Ytccgnnnildedoaa
