/-
  Package object once more: each function at any field, told by the objects that stand ahead of it and behind it.
  Conditions: the arena has at most 65536 words.
-/
import Derived.Test.YtccgnnnildedoaaObject3
import Derived.Test.YtccgnnnildedoaaObject5
set_option linter.unusedVariables false
namespace Go.Proofs.Ytccgnnnildedoaa
open Go.RowKit

/-- Only words of the stretch at a, n long, may be others. -/
structure Frame (ws ws' : List Int) (a n : Nat) : Prop where
  len : ws'.length = ws.length
  far : ∀ i, (i < a ∨ a + n ≤ i) → wd ws' i = wd ws i
section
variable {ws ws' ws'' : List Int} {a n p : Nat} {o : Obj}
theorem Frame.refl (ws : List Int) (a n : Nat) : Frame ws ws a n := ⟨rfl, fun _ _ => rfl⟩
theorem Frame.trans (h : Frame ws ws' a n) (k : Frame ws' ws'' a n) : Frame ws ws'' a n := ⟨k.len.trans h.len, fun i hi => (k.far i hi).trans (h.far i hi)⟩
theorem Frame.set (ws : List Int) (i : Nat) (x : Int) (h1 : a ≤ i) (h2 : i < a + n) : Frame ws (ws.set i x) a n := by
  refine ⟨List.length_set, fun k hk => ?_⟩
  unfold wd
  simp only [List.getD_eq_getElem?_getD, List.getElem?_set]
  rw [if_neg (by omega)]
theorem Frame.obj (h : Frame ws ws' a n) (ho : ObjAt ws p o) (hp : p + o.size ≤ a ∨ a + n ≤ p) : ObjAt ws' p o :=
  ho.far h.len fun i hi => h.far _ (by omega)
end

def inP (o : Obj) (K : Int) : Bool := decide (0 ≤ K ∧ K < o.shp.p)
def inD (o : Obj) (K : Int) : Bool := decide (0 ≤ K ∧ K < o.shp.d)

section
variable {b g : Nat} {ws : List Int} {w : World} {a : Nat} {o : Obj}

theorem optr_any (hA : ArenaAt w b g ws) (hn : ws.length ≤ 65536) (ho : ObjAt ws a o) (K : Int) :
    Calls Try.prog 41 #[.pointer (some ⟨b, 0, none⟩), .int .i64 a, .int .i64 K] w fun e w' => e = .returned (.tuple #[.int .i64 (cond (inP o K) (wd o.ptrs K.toNat) 0), .int .i64 (cond (inP o K) 0 71)]) ∧ Kept NoBlk w w' := by
  cases h : inP o K
  · exact optr_no hA hn ho K (by have := of_decide_eq_false h; omega)
  · have := of_decide_eq_true h
    obtain ⟨k, rfl⟩ := Int.eq_ofNat_of_zero_le this.1
    exact optr_yes hA hn ho k (by omega)
theorem onum_any (hA : ArenaAt w b g ws) (hn : ws.length ≤ 65536) (ho : ObjAt ws a o) (K : Int) :
    Calls Try.prog 42 #[.pointer (some ⟨b, 0, none⟩), .int .i64 a, .int .i64 K] w fun e w' => e = .returned (.tuple #[.int .i64 (cond (inD o K) (wd o.nums K.toNat) 0), .int .i64 (cond (inD o K) 0 71)]) ∧ Kept NoBlk w w' := by
  cases h : inD o K
  · exact onum_no hA hn ho K (by have := of_decide_eq_false h; omega)
  · have := of_decide_eq_true h
    obtain ⟨k, rfl⟩ := Int.eq_ofNat_of_zero_le this.1
    exact onum_yes hA hn ho k (by omega)
theorem osetptr_any (hA : ArenaAt w b g ws) (hn : ws.length ≤ 65536) (ho : ObjAt ws a o) (K x : Int) (h0 : 0 ≤ x) (h1 : x ≤ 131072) :
    Calls Try.prog 39 #[.pointer (some ⟨b, 0, none⟩), .int .i64 a, .int .i64 K, .int .i64 x] w fun e w' => e = .returned (.int .i64 (cond (inP o K) 0 71)) ∧ ∃ ws', ArenaAt w' b g ws' ∧ ObjAt ws' a (cond (inP o K) (o.setPtr K.toNat x) o) ∧ Frame ws ws' a o.size ∧ Kept (OneBlk g) w w' := by
  cases h : inP o K
  · refine (osetptr_no hA hn ho K (by have := of_decide_eq_false h; omega) x h0 h1).mono ?_
    rintro e w' ⟨rfl, hK⟩
    exact ⟨rfl, ws, hA.kept hK id id, ho, Frame.refl _ _ _, NoBlk.one hK g⟩
  · have := of_decide_eq_true h
    obtain ⟨k, rfl⟩ := Int.eq_ofNat_of_zero_le this.1
    have hk : k < o.shp.p := by omega
    refine (osetptr_yes hA hn ho k hk x h0 h1).mono ?_
    rintro e w' ⟨rfl, hA', hK⟩
    exact ⟨rfl, _, hA', ho.setPtr hk h0 h1, Frame.set _ _ _ (by omega) (by unfold Obj.size Shp.size; omega), hK⟩
theorem osetnum_any (hA : ArenaAt w b g ws) (hn : ws.length ≤ 65536) (ho : ObjAt ws a o) (K x : Int) (h0 : -9223372036854775808 ≤ x) (h1 : x ≤ 9223372036854775807) :
    Calls Try.prog 40 #[.pointer (some ⟨b, 0, none⟩), .int .i64 a, .int .i64 K, .int .i64 x] w fun e w' => e = .returned (.int .i64 (cond (inD o K) 0 71)) ∧ ∃ ws', ArenaAt w' b g ws' ∧ ObjAt ws' a (cond (inD o K) (o.setNum K.toNat x) o) ∧ Frame ws ws' a o.size ∧ Kept (OneBlk g) w w' := by
  cases h : inD o K
  · refine (osetnum_no hA hn ho K (by have := of_decide_eq_false h; omega) x h0 h1).mono ?_
    rintro e w' ⟨rfl, hK⟩
    exact ⟨rfl, ws, hA.kept hK id id, ho, Frame.refl _ _ _, NoBlk.one hK g⟩
  · have := of_decide_eq_true h
    obtain ⟨k, rfl⟩ := Int.eq_ofNat_of_zero_le this.1
    have hk : k < o.shp.d := by omega
    refine (osetnum_yes hA hn ho k hk x h0 h1).mono ?_
    rintro e w' ⟨rfl, hA', hK⟩
    exact ⟨rfl, _, hA', ho.setNum hk h0 h1, Frame.set _ _ _ (by omega) (by unfold Obj.size Shp.size; omega), hK⟩
theorem osetsec_any (hA : ArenaAt w b g ws) (hn : ws.length ≤ 65536) (ho : ObjAt ws a o) (x : Int) (h0 : 0 ≤ x) (h1 : x < 18446744073709551616) :
    Calls Try.prog 44 #[.pointer (some ⟨b, 0, none⟩), .int .i64 a, .int .u64 x] w fun e w' => e = .returned (.int .i64 0) ∧ ∃ ws', ArenaAt w' b g ws' ∧ ObjAt ws' a (o.setSec x) ∧ Frame ws ws' a o.size ∧ Kept (OneBlk g) w w' := by
  refine (osetsec_yes hA hn ho x).mono ?_
  rintro e w' ⟨rfl, hA', hK⟩
  exact ⟨rfl, _, hA', ho.setSec h0 h1, Frame.set _ _ _ (by omega) (by have := o.size3; omega), hK⟩
theorem osetfreed_any (hA : ArenaAt w b g ws) (hn : ws.length ≤ 65536) (ho : ObjAt ws a o) (f : Bool) :
    Calls Try.prog 43 #[.pointer (some ⟨b, 0, none⟩), .int .i64 a, .bool f] w fun e w' => e = .returned (.int .i64 0) ∧ ∃ ws', ArenaAt w' b g ws' ∧ ObjAt ws' a (o.setFreed f) ∧ Frame ws ws' a o.size ∧ Kept (OneBlk g) w w' := by
  refine (osetfreed_yes hA hn ho f).mono ?_
  rintro e w' ⟨rfl, hA', hK⟩
  exact ⟨rfl, _, hA', ho.setFreed f, Frame.set _ _ _ (by omega) (by have := o.size3; omega), hK⟩
theorem omake_any (hA : ArenaAt w b g ws) (hn : ws.length ≤ 65536) (a : Nat) (s : Shp) (hs : s.ok) (n : Int) (h0 : 0 ≤ n) (h1 : n ≤ 1099511627776) (hf : a + s.size ≤ ws.length) :
    Calls Try.prog 33 #[.pointer (some ⟨b, 0, none⟩), .int .i64 a, .agg #[.int .i64 (s.p : Nat), .int .i64 (s.d : Nat), .bool s.wk, .bool s.fin], .int .i64 n] w fun e w' => e = .returned (.int .i64 0) ∧ ∃ ws', ArenaAt w' b g ws' ∧ ObjAt ws' a (newObj s n) ∧ Frame ws ws' a s.size ∧ Kept (OneBlk g) w w' := by
  refine (omake_yes hA hn a s hs n h0 h1 hf).mono ?_
  rintro e w' ⟨rfl, hA', hK⟩
  exact ⟨rfl, _, hA', madeN_at hf hs h0 h1, ⟨length_madeN _ _ _ _, fun i hi => madeN_far hf hi⟩, hK⟩
end

end Go.Proofs.Ytccgnnnildedoaa
