/-
  A loop over an iterator (for k, v := range seq): one law, stated for rounds that are counted: the k-th round is handed the values encs k. The iterator is given as what it does with whatever invariant holds between two rounds. No program is looked at here.
  Conditions: as each statement says.
-/
import Derived.Test.YtccgnnnildedoaaBase
import Derived.RangeFuncNested
import Derived.RangeFuncBound
import Derived.RangeFuncCalls
import Derived.RangeFuncLeaves
import Derived.Shelf.Abstract
import Derived.OwnWalkIn
import Derived.TacticsInMore
import Derived.LoopNIn
import Derived.LoopIn
set_option linter.unusedVariables false
namespace Go.Proofs.Ytccgnnnildedoaa
open Go.RowKit

/-- Nothing has turned but blocks at or beyond B that hold no cells (a loop's own records). -/
structure Same (B : Nat) (w w' : World) : Prop where
  os : w'.os = w.os
  tape : w'.tape = w.tape
  output : w'.output = w.output
  size : w.heap.size ≤ w'.heap.size
  block : ∀ i o, w.heap[i]? = some o → (i < B ∨ o.isCells = true) → w'.heap[i]? = some o

section
variable {B : Nat} {w w' w'' : World} {S : Nat → Prop}
theorem Same.refl (B : Nat) (w : World) : Same B w w := ⟨rfl, rfl, rfl, Nat.le_refl _, fun _ _ h _ => h⟩
theorem Same.alloc (B : Nat) (w : World) (o : Obj) : Same B w (w.alloc o) :=
  ⟨rfl, rfl, rfl, by simp, fun i o' h _ => (Below.heap_alloc w o i (Array.getElem?_eq_some_iff.1 h).1).trans h⟩
theorem Same.putObj {l : Nat} {o : Obj} (o' : Obj) (hB : B ≤ l) (hl : w.heap[l]? = some o) (ho : o.isCells = false) : Same B w (w.putObj l o') :=
  ⟨rfl, rfl, rfl, by simp, fun i o2 h hc => by
    by_cases e : i = l
    · subst e; rw [hl] at h; cases h; rcases hc with hc | hc
      · omega
      · rw [ho] at hc; cases hc
    · exact (World.putObj_heap_other e).trans h⟩
theorem Same.of_kept (h : Kept NoBlk w w') (B : Nat) : Same B w w' :=
  ⟨h.os, h.tape, h.output, h.size, fun i o hi _ => (h.block i (Array.getElem?_eq_some_iff.1 hi).1 id).trans hi⟩
theorem Same.bk {g : Nat} {t : TypeId} {cs : Array Value} (h : Same B w w') (hb : Bk w g t cs) : Bk w' g t cs := h.block g _ hb (.inr rfl)
theorem Same.cell {p : Addr} {v : Value} (h : Same B w w') (hc : w.cell? p = some v) : w'.cell? p = some v := by
  obtain ⟨o, ho, hk⟩ := cells_of_cell hc
  exact (World.cell?_of_block ((h.block _ _ ho (.inr hk)).trans ho.symm)).trans hc
theorem Same.arena {b g : Nat} {ws : List Int} (h : Same B w w') (hA : ArenaAt w b g ws) : ArenaAt w' b g ws := by
  obtain ⟨⟨T, h1⟩, ⟨U, h2⟩, h3⟩ := hA
  exact ⟨⟨T, h.bk h1⟩, ⟨U, h.bk h2⟩, h3⟩
theorem Same.own {base : Nat} {e : TypeId} {size : Nat} {v : Value} {n : Nat} {xs : List Value} (h : Same B w w') (ho : w.ownsRow base e size v n xs) : w'.ownsRow base e size v n xs := by
  refine ⟨ho.1, ?_⟩
  rcases ho.2 with hn | ⟨g, cap, cur, rfl, hb, hg, rest⟩
  · exact .inl hn
  · exact .inr ⟨g, cap, cur, rfl, hb, h.block g _ hg (.inr rfl), rest⟩
/-- What was kept since a world that is no larger than B stays so. -/
theorem Same.kept {a : World} (h : Same B w w') (hk : Kept S a w) (hB : a.heap.size ≤ B) : Kept S a w' :=
  ⟨h.os.trans hk.os, h.tape.trans hk.tape, h.output.trans hk.output, Nat.le_trans hk.size h.size, fun k hlt hs => by
    have e := hk.block k hlt hs
    have : w.heap[k]? = some (w.heap[k]'(Nat.lt_of_lt_of_le hlt hk.size)) := Array.getElem?_eq_getElem _
    rw [← e, this]
    exact h.block k _ this (.inl (by omega))⟩
theorem others_of_kept (h : Kept NoBlk w w') : KeepsOthers w w' := ⟨h.size, fun i o hi _ => (h.block i (Array.getElem?_eq_some_iff.1 hi).1 id).trans hi⟩
end

theorem others_of_kept' {S : Nat → Prop} {w w' : World} (h : Kept S w w') (hS : ∀ i o, S i → w.heap[i]? = some o → o.isCells = true) : KeepsOthers w w' :=
  ⟨h.size, fun i o hi ho => (h.block i (Array.getElem?_eq_some_iff.1 hi).1 (fun hs => by rw [hS i o hs hi] at ho; cases ho)).trans hi⟩
theorem own_cells {w : World} {base : Nat} {e : TypeId} {size : Nat} {v : Value} {n : Nat} {xs : List Value} (h : w.ownsRow base e size v n xs) {i : Nat} {o : Obj} (hi : v.ownBlock = some i) (ho : w.heap[i]? = some o) : o.isCells = true := by
  rcases h.2 with ⟨rfl, _⟩ | ⟨g, cap, cur, rfl, _, hg, _⟩
  · simp [Value.ownBlock] at hi
  · simp [Value.ownBlock] at hi
    subst hi
    rw [hg] at ho; cases ho; rfl

/-- The invariant minds neither new blocks nor a loop's own records. -/
def Stays (B : Nat) (I : Nat → World → Prop) : Prop := ∀ k w w', I k w → Same B w w' → I k w'
/-- The invariant minds no new blocks. -/
def Easy (J : Nat → World → Prop) : Prop := ∀ k w w', J k w → Kept NoBlk w w' → J k w'

/-- How the body of the k-th round may be left. -/
def roundEnd (I : Nat → World → Prop) (Ix : Code → Nat → World → Prop) (k : Nat) (W : World) : Exit → Act → World → Prop
  | .normal, _, W' => KeepsOthers W W' ∧ I (k + 1) W'
  | .ret, _, W' => KeepsOthers W W' ∧ Ix .ret (k + 1) W'
  | .exit id, _, W' => KeepsOthers W W' ∧ Ix (.exit id) (k + 1) W'
  | .goto t, _, W' => KeepsOthers W W' ∧ Ix (.goto t) (k + 1) W'
  | .panic _, _, _ => False
  | .outgrown, _, _ => False

/-- What an iterator does, whatever holds between two rounds: it asks for the rounds 0, 1, .. one behind the other (each k that it asks for is one of Ask), and ends when all have come (Done), or when a round has said 'no more'. -/
def IterA (F : Fence) (n : Nat) (P : Program) (gf : Nat) (lb : Array Value) (encs : Nat → Array Value) (I : Nat → World → Prop) (Ask Done : Nat → Prop) : Prop :=
  ∀ (l : Nat) (J Jx : Nat → World → Prop) (W : World), Easy J → Easy Jx → (∀ k W, J k W → I k W) →
    (∀ k W1, Ask k → J k W1 → YieldAt F (n - 1) P l (encs k) W1 fun e W' => (e = .returned (.bool true) ∧ J (k + 1) W') ∨ (e = .returned (.bool false) ∧ Jx (k + 1) W')) →
    J 0 W →
    CallsIn F n P gf (#[.func (.yield l) #[] #[]] ++ lb) W fun e W' => (∃ v, e = .returned v) ∧ ((∃ k, Done k ∧ J k W') ∨ (∃ k, Jx k W'))
def Iter (F : Fence) (n : Nat) (P : Program) (gf : Nat) (lb : Array Value) (encs : Nat → Array Value) (I : Nat → World → Prop) (Done : Nat → Prop) : Prop :=
  ∀ (l : Nat) (J Jx : Nat → World → Prop) (W : World), Easy J → Easy Jx → (∀ k W, J k W → I k W) →
    (∀ k W1, J k W1 → YieldAt F (n - 1) P l (encs k) W1 fun e W' => (e = .returned (.bool true) ∧ J (k + 1) W') ∨ (e = .returned (.bool false) ∧ Jx (k + 1) W')) →
    J 0 W →
    CallsIn F n P gf (#[.func (.yield l) #[] #[]] ++ lb) W fun e W' => (∃ v, e = .returned v) ∧ ((∃ k, Done k ∧ J k W') ∨ (∃ k, Jx k W'))

variable {F : Fence} {n : Nat} {P : Program}

theorem rangeLoopA {g : Operand} {ps : Array Tmp} {assign body : Code} {Q : Exit → Act → World → Prop} {a : Act} {w : World}
    (hro : F.round = none) (h1 : 1 ≤ n) {gf : Nat} {lb : Array Value} (hg : a.eval g = .func (.func gf) #[] lb) (hFg : F.fn gf) (eg : ∀ args w, (callFunc gf args).run P w = .ok (.enter gf args) w)
    {encs : Nat → Array Value} {Ask Done : Nat → Prop} (I : Nat → World → Prop) (Ix : Code → Nat → World → Prop)
    (hseq : IterA F (n - 1) P gf lb encs I Ask Done) (hps : ∀ k, (encs k).size = ps.size)
    (hI : Stays w.heap.size I) (hIx : ∀ c, Stays w.heap.size (Ix c)) (h0 : I 0 w)
    (hround : ∀ (l k : Nat) (W : World), Ask k → I k W →
      assign.wpIn (F.inRound l) (n - 1 - 1) P (Exit.then (fun a₁ W₁ => Kept NoBlk W W₁ ∧ ∀ W₂, Same w.heap.size W₁ W₂ → I k W₂ → body.wpIn (F.inRound l) (n - 1 - 1) P (roundEnd I Ix k W₂) a₁ W₂) (fun _ _ _ => False)) { tmps := (ps.zip (encs k)).foldl (fun t (p, v) => t.setIfInBounds p v) a.tmps, defers := [] } W)
    (hdone : ∀ (D k : Nat) (W : World), w.heap.size ≤ D → Done k → I k W → W.heap[D]? = some (.deferred (some [])) → Q .normal { a with defers := { target := .collected D, args := #[] } :: a.defers } W)
    (hstop : ∀ (D : Nat) (c : Code) (k : Nat) (W : World), w.heap.size ≤ D → Ix c k W → W.heap[D]? = some (.deferred (some [])) → c.wpIn F n P Q { a with defers := { target := .collected D, args := #[] } :: a.defers } W) :
    (Code.rangeFunc g ps assign body).wpIn F n P Q a w := by
  refine wpIn_rangeFunc ?_
  intro fn hfn
  rw [hro]
  obtain ⟨D, hD⟩ : ∃ D, D = w.heap.size := ⟨_, rfl⟩
  obtain ⟨rec, hrec⟩ : ∃ rec : LoopState → Option Code → Loop, rec = fun st pe => { state := st, pending := pe, fn, tmps := a.tmps, params := ps, assign, body, defers := w.heap.size } := ⟨_, rfl⟩
  obtain ⟨W1, hW1⟩ : ∃ W1, (w.alloc (.deferred (some []))).alloc (.loop (rec .ready none)) = W1 := ⟨_, rfl⟩
  have hL1 : W1.heap[D + 1]? = some (.loop (rec .ready none)) := by
    rw [← hW1, hD]; have := World.alloc_heap_new (w.alloc (.deferred (some []))) (.loop (rec .ready none)); rwa [World.size_alloc] at this
  have hK1 : W1.heap[D]? = some (.deferred (some [])) := by
    rw [← hW1, hD]; exact (Below.heap_alloc _ _ _ (by simp)).trans (World.alloc_heap_new w _)
  have hI1 : I 0 W1 := by rw [← hW1]; exact hI _ _ _ (hI _ _ _ h0 (Same.alloc _ _ _)) (Same.alloc _ _ _)
  -- the two records' facts lie on through whatever keeps them
  have keep : ∀ {A C : World} {i : Nat} {o : Obj}, Kept NoBlk A C → A.heap[i]? = some o → C.heap[i]? = some o := fun hk hi => (hk.block _ (Array.getElem?_eq_some_iff.1 hi).1 id).trans hi
  refine ⟨D + 1, [{ target := .collected D, args := #[] }], W1, { target := .fn (.func gf) lb, args := #[.func (.yield (D + 1)) #[] #[]] }, W1, gf,
    #[.func (.yield (D + 1)) #[] #[]] ++ lb, W1, ?_, ?_, ?_, ?_, fun _ => h1, ?_⟩
  · rw [← hW1, hrec, hD]; exact run_enterLoop_outer _ _ _ _ _
  · simp only [resolve, hg]
    simp [go_sem]
  · intro f' hf'; simp [Target.leads] at hf'; subst hf'; exact hFg
  · simp [invoke, go_sem, eg]
  · refine (hseq (D + 1)
      (fun k W => I k W ∧ W.heap[D + 1]? = some (.loop (rec .ready none)) ∧ W.heap[D]? = some (.deferred (some [])))
      (fun k W => ∃ c, Ix c k W ∧ W.heap[D + 1]? = some (.loop (rec .done (some c))) ∧ W.heap[D]? = some (.deferred (some [])))
      W1
      (fun k A C hs hk => ⟨hI _ _ _ hs.1 (Same.of_kept hk _), keep hk hs.2.1, keep hk hs.2.2⟩)
      (fun k A C hs hk => by
        obtain ⟨c, h1, h2, h3⟩ := hs
        exact ⟨c, hIx _ _ _ _ h1 (Same.of_kept hk _), keep hk h2, keep hk h3⟩)
      (fun k W h => h.1) ?_ ⟨hI1, hL1, hK1⟩).mono ?_
    · -- one round
      rintro k W hask ⟨hi, hl, hk⟩
      have hy := run_yield (P := P) (args := encs k) hl (by rw [hrec]; exact hps k)
      rw [hrec] at hy
      refine ⟨fn, _, assign, body, hy, roundIn_of_wpIn hfn (wpIn_mono (hround (D + 1) k W hask hi) ?_)⟩
      rintro e0 a1 WA hA
      cases e0 with
      | normal => ?_
      | _ => exact hA.elim
      obtain ⟨hKA, hB⟩ := hA
      replace hl := keep hKA hl
      replace hk := keep hKA hk
      have hiA := hI _ _ _ hi (Same.of_kept hKA _)
      have hlt : D + 1 < WA.heap.size := (Array.getElem?_eq_some_iff.1 hl).1
      refine ⟨_, run_beginRound hl (by rw [hrec]), ?_⟩
      have hl2 : (WA.putObj (D + 1) (.loop { rec .ready none with state := .busy })).heap[D + 1]? = some (.loop { rec .ready none with state := .busy }) := World.putObj_heap_same hlt
      have hk2 : (WA.putObj (D + 1) (.loop { rec .ready none with state := .busy })).heap[D]? = some (.deferred (some [])) := (World.putObj_heap_other (by omega)).trans hk
      have hsA : Same w.heap.size WA (WA.putObj (D + 1) (.loop { rec .ready none with state := .busy })) := Same.putObj _ (by omega) hl rfl
      refine wpIn_mono (hB _ hsA (hI _ _ _ hiA hsA)) ?_
      have fin : ∀ (jump : Option Code) (W3 : World), KeepsOthers (WA.putObj (D + 1) (.loop { rec .ready none with state := .busy })) W3 →
          (Instr.endRound (D + 1) jump).run P W3 = .ok (.bool jump.isNone) (W3.putObj (D + 1) (.loop (rec (if jump.isNone then .ready else .done) jump))) ∧
          Same w.heap.size W3 (W3.putObj (D + 1) (.loop (rec (if jump.isNone then .ready else .done) jump))) ∧
          (W3.putObj (D + 1) (.loop (rec (if jump.isNone then .ready else .done) jump))).heap[D + 1]? = some (.loop (rec (if jump.isNone then .ready else .done) jump)) ∧
          (W3.putObj (D + 1) (.loop (rec (if jump.isNone then .ready else .done) jump))).heap[D]? = some (.deferred (some [])) := fun jump W3 hk3 => by
        have hl3 := hk3.same _ _ hl2 rfl
        have hr := run_endRound (P := P) jump hl3
        rw [hrec] at hr ⊢
        exact ⟨hr, Same.putObj _ (by omega) hl3 rfl, World.putObj_heap_same (Array.getElem?_eq_some_iff.1 hl3).1, (World.putObj_heap_other (by omega)).trans (hk3.same _ _ hk2 rfl)⟩
      rintro e a3 W3 hp
      cases e with
      | normal =>
        obtain ⟨hk3, hi3⟩ := hp
        obtain ⟨hr, hs3, hl4, hk4⟩ := fin none W3 hk3
        exact ⟨_, _, hr, .inl ⟨rfl, hI _ _ _ hi3 hs3, hl4, hk4⟩⟩
      | ret =>
        obtain ⟨hk3, hi3⟩ := hp
        obtain ⟨hr, hs3, hl4, hk4⟩ := fin (some .ret) W3 hk3
        exact ⟨_, _, hr, .inr ⟨rfl, .ret, hIx _ _ _ _ hi3 hs3, hl4, hk4⟩⟩
      | exit id =>
        obtain ⟨hk3, hi3⟩ := hp
        obtain ⟨hr, hs3, hl4, hk4⟩ := fin (some (.exit id)) W3 hk3
        exact ⟨_, _, hr, .inr ⟨rfl, .exit id, hIx _ _ _ _ hi3 hs3, hl4, hk4⟩⟩
      | goto t =>
        obtain ⟨hk3, hi3⟩ := hp
        obtain ⟨hr, hs3, hl4, hk4⟩ := fin (some (.goto t)) W3 hk3
        exact ⟨_, _, hr, .inr ⟨rfl, .goto t, hIx _ _ _ _ hi3 hs3, hl4, hk4⟩⟩
      | panic ch => exact hp.elim
      | outgrown => exact hp.elim
    · -- behind the iterator
      rintro e W2 ⟨⟨v, rfl⟩, (⟨k, hS, hi, hl, hk⟩ | ⟨k, c, hi, hl, hk⟩)⟩
      · exact ⟨none, _, by have := run_endLoop (P := P) hl (by rw [hrec]; simp); rw [hrec] at this; exact this, hdone D k _ (by omega) hS (hI _ _ _ hi (Same.putObj _ (by omega) hl rfl)) ((World.putObj_heap_other (by omega)).trans hk)⟩
      · exact ⟨some c, _, by have := run_endLoop (P := P) hl (by rw [hrec]; simp); rw [hrec] at this; exact this, hstop D c k _ (by omega) (hIx _ _ _ _ hi (Same.putObj _ (by omega) hl rfl)) ((World.putObj_heap_other (by omega)).trans hk)⟩

theorem rangeLoop {g : Operand} {ps : Array Tmp} {assign body : Code} {Q : Exit → Act → World → Prop} {a : Act} {w : World}
    (hro : F.round = none) (h1 : 1 ≤ n) {gf : Nat} {lb : Array Value} (hg : a.eval g = .func (.func gf) #[] lb) (hFg : F.fn gf) (eg : ∀ args w, (callFunc gf args).run P w = .ok (.enter gf args) w)
    {encs : Nat → Array Value} {Done : Nat → Prop} (I : Nat → World → Prop) (Ix : Code → Nat → World → Prop)
    (hseq : Iter F (n - 1) P gf lb encs I Done) (hps : ∀ k, (encs k).size = ps.size)
    (hI : Stays w.heap.size I) (hIx : ∀ c, Stays w.heap.size (Ix c)) (h0 : I 0 w) (a₁ : Nat → Act)
    (hassign : ∀ (l k : Nat) (W : World) (K : Act → World → Prop), K (a₁ k) W →
      assign.wpIn (F.inRound l) (n - 1 - 1) P (Exit.then K (fun _ _ _ => False)) { tmps := (ps.zip (encs k)).foldl (fun t (p, v) => t.setIfInBounds p v) a.tmps, defers := [] } W)
    (hbody : ∀ (l k : Nat) (W : World), I k W → body.wpIn (F.inRound l) (n - 1 - 1) P (roundEnd I Ix k W) (a₁ k) W)
    (hdone : ∀ (D k : Nat) (W : World), w.heap.size ≤ D → Done k → I k W → W.heap[D]? = some (.deferred (some [])) → Q .normal { a with defers := { target := .collected D, args := #[] } :: a.defers } W)
    (hstop : ∀ (D : Nat) (c : Code) (k : Nat) (W : World), w.heap.size ≤ D → Ix c k W → W.heap[D]? = some (.deferred (some [])) → c.wpIn F n P Q { a with defers := { target := .collected D, args := #[] } :: a.defers } W) :
    (Code.rangeFunc g ps assign body).wpIn F n P Q a w := by
  refine wpIn_rangeFunc ?_
  intro fn hfn
  rw [hro]
  obtain ⟨D, hD⟩ : ∃ D, D = w.heap.size := ⟨_, rfl⟩
  obtain ⟨rec, hrec⟩ : ∃ rec : LoopState → Option Code → Loop, rec = fun st pe => { state := st, pending := pe, fn, tmps := a.tmps, params := ps, assign, body, defers := w.heap.size } := ⟨_, rfl⟩
  obtain ⟨W1, hW1⟩ : ∃ W1, (w.alloc (.deferred (some []))).alloc (.loop (rec .ready none)) = W1 := ⟨_, rfl⟩
  have hL1 : W1.heap[D + 1]? = some (.loop (rec .ready none)) := by
    rw [← hW1, hD]; have := World.alloc_heap_new (w.alloc (.deferred (some []))) (.loop (rec .ready none)); rwa [World.size_alloc] at this
  have hK1 : W1.heap[D]? = some (.deferred (some [])) := by
    rw [← hW1, hD]; exact (Below.heap_alloc _ _ _ (by simp)).trans (World.alloc_heap_new w _)
  have hI1 : I 0 W1 := by rw [← hW1]; exact hI _ _ _ (hI _ _ _ h0 (Same.alloc _ _ _)) (Same.alloc _ _ _)
  -- the two records' facts lie on through whatever keeps them
  have keep : ∀ {A C : World} {i : Nat} {o : Obj}, Kept NoBlk A C → A.heap[i]? = some o → C.heap[i]? = some o := fun hk hi => (hk.block _ (Array.getElem?_eq_some_iff.1 hi).1 id).trans hi
  refine ⟨D + 1, [{ target := .collected D, args := #[] }], W1, { target := .fn (.func gf) lb, args := #[.func (.yield (D + 1)) #[] #[]] }, W1, gf,
    #[.func (.yield (D + 1)) #[] #[]] ++ lb, W1, ?_, ?_, ?_, ?_, fun _ => h1, ?_⟩
  · rw [← hW1, hrec, hD]; exact run_enterLoop_outer _ _ _ _ _
  · simp only [resolve, hg]
    simp [go_sem]
  · intro f' hf'; simp [Target.leads] at hf'; subst hf'; exact hFg
  · simp [invoke, go_sem, eg]
  · refine (hseq (D + 1)
      (fun k W => I k W ∧ W.heap[D + 1]? = some (.loop (rec .ready none)) ∧ W.heap[D]? = some (.deferred (some [])))
      (fun k W => ∃ c, Ix c k W ∧ W.heap[D + 1]? = some (.loop (rec .done (some c))) ∧ W.heap[D]? = some (.deferred (some [])))
      W1
      (fun k A C hs hk => ⟨hI _ _ _ hs.1 (Same.of_kept hk _), keep hk hs.2.1, keep hk hs.2.2⟩)
      (fun k A C hs hk => by
        obtain ⟨c, h1, h2, h3⟩ := hs
        exact ⟨c, hIx _ _ _ _ h1 (Same.of_kept hk _), keep hk h2, keep hk h3⟩)
      (fun k W h => h.1) ?_ ⟨hI1, hL1, hK1⟩).mono ?_
    · -- one round
      rintro k W ⟨hi, hl, hk⟩
      have hlt : D + 1 < W.heap.size := (Array.getElem?_eq_some_iff.1 hl).1
      have hy := run_yield (P := P) (args := encs k) hl (by rw [hrec]; exact hps k)
      rw [hrec] at hy
      refine ⟨fn, _, assign, body, hy, roundIn_of_wpIn hfn (hassign _ k W _ ⟨_, run_beginRound hl (by rw [hrec]), ?_⟩)⟩
      have hl2 : (W.putObj (D + 1) (.loop { rec .ready none with state := .busy })).heap[D + 1]? = some (.loop { rec .ready none with state := .busy }) := World.putObj_heap_same hlt
      have hk2 : (W.putObj (D + 1) (.loop { rec .ready none with state := .busy })).heap[D]? = some (.deferred (some [])) := (World.putObj_heap_other (by omega)).trans hk
      refine wpIn_mono (hbody _ k _ (hI _ _ _ hi (Same.putObj _ (by omega) hl rfl))) ?_
      have fin : ∀ (jump : Option Code) (W3 : World), KeepsOthers (W.putObj (D + 1) (.loop { rec .ready none with state := .busy })) W3 →
          (Instr.endRound (D + 1) jump).run P W3 = .ok (.bool jump.isNone) (W3.putObj (D + 1) (.loop (rec (if jump.isNone then .ready else .done) jump))) ∧
          Same w.heap.size W3 (W3.putObj (D + 1) (.loop (rec (if jump.isNone then .ready else .done) jump))) ∧
          (W3.putObj (D + 1) (.loop (rec (if jump.isNone then .ready else .done) jump))).heap[D + 1]? = some (.loop (rec (if jump.isNone then .ready else .done) jump)) ∧
          (W3.putObj (D + 1) (.loop (rec (if jump.isNone then .ready else .done) jump))).heap[D]? = some (.deferred (some [])) := fun jump W3 hk3 => by
        have hl3 := hk3.same _ _ hl2 rfl
        have hr := run_endRound (P := P) jump hl3
        rw [hrec] at hr ⊢
        exact ⟨hr, Same.putObj _ (by omega) hl3 rfl, World.putObj_heap_same (Array.getElem?_eq_some_iff.1 hl3).1, (World.putObj_heap_other (by omega)).trans (hk3.same _ _ hk2 rfl)⟩
      rintro e a3 W3 hp
      cases e with
      | normal =>
        obtain ⟨hk3, hi3⟩ := hp
        obtain ⟨hr, hs3, hl4, hk4⟩ := fin none W3 hk3
        exact ⟨_, _, hr, .inl ⟨rfl, hI _ _ _ hi3 hs3, hl4, hk4⟩⟩
      | ret =>
        obtain ⟨hk3, hi3⟩ := hp
        obtain ⟨hr, hs3, hl4, hk4⟩ := fin (some .ret) W3 hk3
        exact ⟨_, _, hr, .inr ⟨rfl, .ret, hIx _ _ _ _ hi3 hs3, hl4, hk4⟩⟩
      | exit id =>
        obtain ⟨hk3, hi3⟩ := hp
        obtain ⟨hr, hs3, hl4, hk4⟩ := fin (some (.exit id)) W3 hk3
        exact ⟨_, _, hr, .inr ⟨rfl, .exit id, hIx _ _ _ _ hi3 hs3, hl4, hk4⟩⟩
      | goto t =>
        obtain ⟨hk3, hi3⟩ := hp
        obtain ⟨hr, hs3, hl4, hk4⟩ := fin (some (.goto t)) W3 hk3
        exact ⟨_, _, hr, .inr ⟨rfl, .goto t, hIx _ _ _ _ hi3 hs3, hl4, hk4⟩⟩
      | panic ch => exact hp.elim
      | outgrown => exact hp.elim
    · -- behind the iterator
      rintro e W2 ⟨⟨v, rfl⟩, (⟨k, hS, hi, hl, hk⟩ | ⟨k, c, hi, hl, hk⟩)⟩
      · exact ⟨none, _, by have := run_endLoop (P := P) hl (by rw [hrec]; simp); rw [hrec] at this; exact this, hdone D k _ (by omega) hS (hI _ _ _ hi (Same.putObj _ (by omega) hl rfl)) ((World.putObj_heap_other (by omega)).trans hk)⟩
      · exact ⟨some c, _, by have := run_endLoop (P := P) hl (by rw [hrec]; simp); rw [hrec] at this; exact this, hstop D c k _ (by omega) (hIx _ _ _ _ hi (Same.putObj _ (by omega) hl rfl)) ((World.putObj_heap_other (by omega)).trans hk)⟩

/-- append(out, x) in a round: out is the call's own; x lies in a block of its own. -/
theorem wpListIn_append_one {w : World} {ops : Array Oper} {rest : List Oper} {o : Oper} {a : Act} {Q : Exit → Act → World → Prop} (hgd : o.guard = none) (s x : Operand) (t : TypeId)
    (ho : o.op = .call { callee := .builtin .append, args := #[s, x], argTypes := #[t, t] }) (base : Nat)
    (e : TypeId) (i : TypeInfo) (z : Value) (bytes : Nat) (ht : P.underlying t = some (.slice e)) (hi : P.info? e = some i) (hz : i.zero = some z)
    (hsize : i.size = 1) (hby : i.bytes = bytes) (hzs : z.cells.size = 1)
    (v : Value) (k : Nat) (xs : List Value) (hs : a.eval s = v) (hown : w.ownsRow base e 1 v k xs)
    (B : Nat) (T : TypeId) (u : Value) (hx : a.eval x = .slice (some ⟨B, 0, none⟩) 1 1) (hB : Bk w B T #[u]) (hu : u.oneCell' = true)
    (hn : k ≤ 1000000000) (hb : bytes ≤ 1000) (hbase : base ≤ w.heap.size)
    (h : ∀ g cap w', w'.ownsRow base e 1 (.slice (some ⟨g, 0, none⟩) (k + 1) cap) (k + 1) (xs ++ [u]) → Kept (fun i => v.ownBlock = some i) w w' → wpListIn F n P ops Q rest (a.put o.dst (.slice (some ⟨g, 0, none⟩) (k + 1) cap)) w') : wpListIn F n P ops Q (o :: rest) a w := by
  have hmul : (k + 1) * bytes ≤ 1000000001 * 1000 := Nat.mul_le_mul (by omega) hb
  refine wpListIn_append_own w hgd s x t ho base e i z 1 bytes ht hi hz hsize hby hzs (by omega) v k xs hs hown ⟨B, 0, none⟩ 1 1 [u] hx rfl (World.news_of_block hB) (fun y hy => by rw [List.mem_singleton.1 hy]; exact hu) (by simp only [maxLen]; omega) (by omega) hbase ?_
  intro v' w' h1 h2 _
  obtain ⟨g, cap, rfl, _, _⟩ := h1.form (by omega)
  exact h g cap w' h1 ((Kept.refl _ w).grown h2 (fun k hk _ => hk))

theorem rangeLoop' {g : Operand} {ps : Array Tmp} {assign body : Code} {Q : Exit → Act → World → Prop} {a : Act} {w : World}
    (hro : F.round = none) (h1 : 1 ≤ n) {gf : Nat} {lb : Array Value} (hg : a.eval g = .func (.func gf) #[] lb) (hFg : F.fn gf) (eg : ∀ args w, (callFunc gf args).run P w = .ok (.enter gf args) w)
    {encs : Nat → Array Value} {Done : Nat → Prop} (I : Nat → World → Prop) (Ix : Code → Nat → World → Prop)
    (hseq : Iter F (n - 1) P gf lb encs I Done) (hps : ∀ k, (encs k).size = ps.size)
    (hI : Stays w.heap.size I) (hIx : ∀ c, Stays w.heap.size (Ix c)) (h0 : I 0 w) (f : Nat → Array Value → Array Value)
    (hassign : ∀ (l k : Nat) (W : World) (K : Act → World → Prop), K { tmps := f k a.tmps, defers := [] } W →
      assign.wpIn (F.inRound l) (n - 1 - 1) P (Exit.then K (fun _ _ _ => False)) { tmps := (ps.zip (encs k)).foldl (fun t (p, v) => t.setIfInBounds p v) a.tmps, defers := [] } W)
    (hbody : ∀ (l k : Nat) (W : World), I k W → body.wpIn (F.inRound l) (n - 1 - 1) P (roundEnd I Ix k W) { tmps := f k a.tmps, defers := [] } W)
    (hdone : ∀ (D k : Nat) (W : World), w.heap.size ≤ D → Done k → I k W → W.heap[D]? = some (.deferred (some [])) → Q .normal { a with defers := { target := .collected D, args := #[] } :: a.defers } W)
    (hstop : ∀ (D : Nat) (c : Code) (k : Nat) (W : World), w.heap.size ≤ D → Ix c k W → W.heap[D]? = some (.deferred (some [])) → c.wpIn F n P Q { a with defers := { target := .collected D, args := #[] } :: a.defers } W) :
    (Code.rangeFunc g ps assign body).wpIn F n P Q a w :=
  rangeLoop hro h1 hg hFg eg I Ix hseq hps hI hIx h0 (fun k => { tmps := f k a.tmps, defers := [] }) hassign hbody hdone hstop

end Go.Proofs.Ytccgnnnildedoaa
