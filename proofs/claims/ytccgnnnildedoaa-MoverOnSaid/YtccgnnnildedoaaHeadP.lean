/-
  Shapes and heads, as numbers. No program is looked at here.
  Conditions: none.
-/
import Derived.Test.YtccgnnnildedoaaWordP
set_option linter.unusedVariables false
namespace Go.Proofs.Ytccgnnnildedoaa
open Go.RowKit

/-- A shape: pointers, numbers, is it weak, is it to be finalized. -/
structure Shp where
  p : Nat
  d : Nat
  wk : Bool
  fin : Bool

/-- May the shape be? -/
def okB (p d : Int) (wk fin : Bool) : Bool := if wk = true then (decide (p = 1) && decide (d = 0) && !fin) else (decide (0 ≤ p) && decide (0 ≤ d) && decide (p ≤ 8) && decide (d ≤ 8))
def Shp.ok (s : Shp) : Prop := okB s.p s.d s.wk s.fin = true
theorem Shp.ok_bd {s : Shp} (h : s.ok) : s.p ≤ 8 ∧ s.d ≤ 8 ∧ (s.wk = true → s.p = 1 ∧ s.d = 0 ∧ s.fin = false) := by
  unfold Shp.ok okB at h
  cases hw : s.wk with
  | true => rw [hw] at h; simp at h; refine ⟨by omega, by omega, fun _ => ⟨by omega, by omega, h.2⟩⟩
  | false => rw [hw] at h; simp at h; refine ⟨by omega, by omega, fun h => by cases h⟩
def Shp.v (s : Shp) : Value := .agg #[.int .i64 (s.p : Nat), .int .i64 (s.d : Nat), .bool s.wk, .bool s.fin]
def noShape : Value := .agg #[.int .i64 0, .int .i64 0, .bool false, .bool false]
/-- How many words an object of a shape has. -/
def Shp.size (s : Shp) : Nat := 3 + s.p + s.d

def b2n (b : Bool) : Nat := if b = true then 1 else 0
theorem b2n_lt (b : Bool) : b2n b < 2 := by cases b <;> decide
theorem b2n_inj {a b : Bool} (h : b2n a = b2n b) : a = b := by cases a <;> cases b <;> simp [b2n] at h <;> rfl
/-- The widths of a head's parts. -/
def hws : List Nat := [1, 4, 4, 1, 1, 1]
def headL (s : Shp) (f : Bool) : List Nat := [1, s.p, s.d, b2n s.wk, b2n s.fin, b2n f]
def headN (s : Shp) (f : Bool) : Nat := packN hws (headL s f)
theorem hws_ok : WidthsOk hws := ⟨fun k hk => by
  match k, hk with
  | 0, _ => decide
  | 1, _ => decide
  | 2, _ => decide
  | 3, _ => decide
  | 4, _ => decide
  | 5, _ => decide, by decide⟩
theorem hws_sum : hws.sum = 12 := by decide
theorem headL_fits {s : Shp} (h : s.ok) (f : Bool) : FitsN hws (headL s f) := by
  obtain ⟨h1, h2, _⟩ := Shp.ok_bd h
  have := b2n_lt s.wk
  have := b2n_lt s.fin
  have := b2n_lt f
  unfold hws headL
  simp only [FitsN]
  refine ⟨by decide, by omega, by omega, by omega, by omega, by omega, trivial⟩
theorem headN_eq (s : Shp) (f : Bool) : headN s f = 1 + 2 * s.p + 32 * s.d + 512 * b2n s.wk + 1024 * b2n s.fin + 2048 * b2n f := by
  unfold headN hws headL
  simp only [packN]
  omega
theorem headN_lt {s : Shp} (h : s.ok) (f : Bool) : headN s f < 4096 := by
  have := pack_lt (headL_fits h f)
  rw [hws_sum] at this
  exact this
theorem headN_odd (s : Shp) (f : Bool) : headN s f % 2 = 1 := by rw [headN_eq]; omega
theorem headN_inj {s t : Shp} {f g : Bool} (hs : s.ok) (ht : t.ok) (h : headN s f = headN t g) : s = t ∧ f = g := by
  obtain ⟨s1, s2, _⟩ := Shp.ok_bd hs
  obtain ⟨t1, t2, _⟩ := Shp.ok_bd ht
  rw [headN_eq, headN_eq] at h
  have a1 := b2n_lt s.wk
  have a2 := b2n_lt s.fin
  have a3 := b2n_lt f
  have b1 := b2n_lt t.wk
  have b2 := b2n_lt t.fin
  have b3 := b2n_lt g
  obtain ⟨sp, sd, sw, sf⟩ := s
  obtain ⟨tp, td, tw, tf⟩ := t
  simp only at *
  obtain rfl : sp = tp := by omega
  obtain rfl : sd = td := by omega
  obtain rfl : sw = tw := b2n_inj (by omega)
  obtain rfl : sf = tf := b2n_inj (by omega)
  exact ⟨rfl, b2n_inj (by omega)⟩

/-- The shape that a word tells, if it is a head. -/
def shpOf (x : Nat) : Shp := ⟨x / 2 % 16, x / 32 % 16, decide (x / 512 % 2 = 1), decide (x / 1024 % 2 = 1)⟩
def frdOf (x : Nat) : Bool := decide (x / 2048 % 2 = 1)
theorem b2n_dec (y : Nat) (h : y < 2) : b2n (decide (y = 1)) = y := by
  match y, h with
  | 0, _ => rfl
  | 1, _ => rfl
theorem head_of (x : Nat) (h : x < 4096) (h1 : x % 2 = 1) : headN (shpOf x) (frdOf x) = x := by
  rw [headN_eq]
  unfold shpOf frdOf
  simp only
  rw [b2n_dec _ (Nat.mod_lt _ (by omega)), b2n_dec _ (Nat.mod_lt _ (by omega)), b2n_dec _ (Nat.mod_lt _ (by omega))]
  omega
/-- Is a word a head? -/
def isHead (x : Nat) : Bool := decide (x < 4096) && decide (x % 2 = 1) && okB (shpOf x).p (shpOf x).d (shpOf x).wk (shpOf x).fin
theorem shpOf_head {s : Shp} (h : s.ok) (f : Bool) : shpOf (headN s f) = s ∧ frdOf (headN s f) = f := by
  obtain ⟨h1, h2, _⟩ := Shp.ok_bd h
  have a1 := b2n_lt s.wk
  have a2 := b2n_lt s.fin
  have a3 := b2n_lt f
  have e := headN_eq s f
  generalize headN s f = x at e
  obtain ⟨p, d, wk, fin⟩ := s
  simp only at *
  have e1 : x / 2 % 16 = p := by omega
  have e2 : x / 32 % 16 = d := by omega
  have e3 : x / 512 % 2 = b2n wk := by omega
  have e4 : x / 1024 % 2 = b2n fin := by omega
  have e5 : x / 2048 % 2 = b2n f := by omega
  unfold shpOf frdOf
  rw [e1, e2, e3, e4, e5]
  refine ⟨?_, ?_⟩
  · cases wk <;> cases fin <;> rfl
  · cases f <;> rfl
theorem isHead_head {s : Shp} (h : s.ok) (f : Bool) : isHead (headN s f) = true := by
  unfold isHead
  rw [(shpOf_head h f).1]
  have h1 : okB s.p s.d s.wk s.fin = true := h
  simp [headN_lt h f, headN_odd s f, h1]
theorem isHead_of {x : Nat} (h : isHead x = true) : (shpOf x).ok ∧ headN (shpOf x) (frdOf x) = x := by
  unfold isHead at h
  simp only [Bool.and_eq_true, decide_eq_true_eq] at h
  exact ⟨h.2, head_of x h.1.1 h.1.2⟩
theorem isHead_even {x : Nat} (h : x % 2 = 0) : isHead x = false := by
  unfold isHead
  have : decide (x % 2 = 1) = false := decide_eq_false (by omega)
  simp [this]

end Go.Proofs.Ytccgnnnildedoaa
