/-
  Small words for memory that all proofs of this seat use: a block that is known whole, "nothing has turned but these blocks", an arena. No program is looked at here.
  Conditions: none.
-/
import Derived.WalkKit
import Derived.WalkSpells
import Derived.WalkLawsBesides
import Derived.Laws.CopyOwn
import Derived.Lib.Hide
import Derived.Maps.AppendAt
import Derived.Deep.AppendLies
import Derived.Deep.QuietTactic
import Derived.BigQuiet
set_option linter.unusedVariables false
namespace Go.Proofs.Ytccgnnnildedoaa
open Go.RowKit

theorem ret_eq {a b : Value} (h : a = b) : Ending.returned a = .returned b := by rw [h]
theorem ret_int {k : IntKind} {a b : Int} (h : a = b) : Ending.returned (.int k a) = .returned (.int k b) := by rw [h]

theorem addr_add (g o j : Nat) : (⟨g, o, none⟩ : Addr).add j = ⟨g, o + j, none⟩ := by
  unfold Addr.add; split
  · rename_i h; subst h; rfl
  · rfl

/-- Nothing that was there has turned, but blocks of S. -/
structure Kept (S : Nat → Prop) (w w' : World) : Prop where
  os : w'.os = w.os
  tape : w'.tape = w.tape
  output : w'.output = w.output
  size : w.heap.size ≤ w'.heap.size
  block : ∀ k, k < w.heap.size → ¬ S k → w'.heap[k]? = w.heap[k]?

def NoBlk : Nat → Prop := fun _ => False
def OneBlk (g : Nat) : Nat → Prop := fun k => k = g

section
variable {S T : Nat → Prop} {a b c w w' : World}
theorem Kept.refl (S : Nat → Prop) (w : World) : Kept S w w := ⟨rfl, rfl, rfl, Nat.le_refl _, fun _ _ _ => rfl⟩
theorem Kept.trans (h : Kept S a b) (k : Kept S b c) : Kept S a c :=
  ⟨k.os.trans h.os, k.tape.trans h.tape, k.output.trans h.output, Nat.le_trans h.size k.size, fun i hi hs => (k.block i (Nat.lt_of_lt_of_le hi h.size) hs).trans (h.block i hi hs)⟩
theorem Kept.mono (h : Kept S w w') (hS : ∀ k, k < w.heap.size → S k → T k) : Kept T w w' :=
  ⟨h.os, h.tape, h.output, h.size, fun k hk ht => h.block k hk fun hs => ht (hS k hk hs)⟩
theorem Kept.drew (h : Kept S a w) : Kept S a w.drew := ⟨h.os, h.tape, h.output, h.size, h.block⟩
theorem Kept.drewN (h : Kept S a w) (n : Nat) : Kept S a (w.drewN n) := ⟨h.os, h.tape, h.output, h.size, h.block⟩
theorem Kept.alloc (h : Kept S a w) (o : Obj) : Kept S a (w.alloc o) :=
  ⟨h.os, h.tape, h.output, Nat.le_trans h.size (by simp), fun k hk hs => (Below.heap_alloc w o k (Nat.lt_of_lt_of_le hk h.size)).trans (h.block k hk hs)⟩
theorem Kept.setCell (h : Kept S a w) {p : Addr} (hp : p.block < a.heap.size → S p.block) (u : Value) : Kept S a (w.setCell p u) :=
  ⟨h.os, h.tape, h.output, by simpa [World.setCell] using h.size, fun k hk hs => (Below.heap_setCell w p u k (by rintro rfl; exact hs (hp hk))).trans (h.block k hk hs)⟩
theorem Kept.setRow (h : Kept S a w) {g : Nat} (hp : g < a.heap.size → S g) (cs : Array Value) : Kept S a (w.setRow g cs) :=
  ⟨h.os, h.tape, h.output, by simpa [World.setRow] using h.size, fun k hk hs => (setRow_other w g k cs (by rintro rfl; exact hs (hp hk))).trans (h.block k hk hs)⟩
theorem Kept.below (h : Kept NoBlk w w') : Below w.heap.size w w' := ⟨h.os, h.tape, h.output, h.size, fun k hk => h.block k hk id⟩
theorem Kept.of_below (h : Below w.heap.size w w') (S : Nat → Prop) : Kept S w w' := ⟨h.os, h.tape, h.output, h.size, fun k hk _ => h.block k hk⟩
theorem Kept.grown {row : Option Nat} (h : Kept S a w) (hg : w.grownBy w' row) (hr : ∀ k, row = some k → k < a.heap.size → S k) : Kept S a w' :=
  ⟨hg.os.trans h.os, hg.tape.trans h.tape, hg.output.trans h.output, Nat.le_trans h.size hg.size, fun k hk hs =>
    (hg.block k (Nat.lt_of_lt_of_le hk h.size) (fun e => hs (hr k e.symm hk))).trans (h.block k hk hs)⟩
/-- What turned lay beyond: as if nothing had turned. -/
theorem Kept.none (h : Kept S w w') (hS : ∀ k, S k → w.heap.size ≤ k) : Kept NoBlk w w' := h.mono fun k hk hs => absurd (hS k hs) (by omega)
theorem Kept.over (h : Kept S a b) (k : Kept T b c) (hT : ∀ i, T i → a.heap.size ≤ i) : Kept S a c :=
  ⟨k.os.trans h.os, k.tape.trans h.tape, k.output.trans h.output, Nat.le_trans h.size k.size, fun i hi hs =>
    (k.block i (Nat.lt_of_lt_of_le hi h.size) (fun ht => by have := hT i ht; omega)).trans (h.block i hi hs)⟩
theorem OneBlk.over {g n : Nat} (hg : n ≤ g) : ∀ i, OneBlk g i → n ≤ i := fun _ h => by rw [show _ = g from h]; exact hg
theorem Kept.cell (h : Kept S w w') {p : Addr} {v : Value} (hp : ¬ S p.block) (hc : w.cell? p = some v) : w'.cell? p = some v := by
  have hlt : p.block < w.heap.size := by
    rcases Nat.lt_or_ge p.block w.heap.size with hlt | hge
    · exact hlt
    · unfold World.cell? at hc; rw [Array.getElem?_eq_none hge] at hc; cases hc
  rw [← hc]; exact World.cell?_of_block (h.block _ hlt hp)
theorem Kept.frozen (h : Kept S w w') {p : Addr} (hp : ¬ S p.block) (hlt : p.block < w.heap.size) : w'.frozen? p = w.frozen? p := World.frozen?_of_block (h.block _ hlt hp)
end

/-- Block g is just these cells, none frozen. -/
def Bk (w : World) (g : Nat) (t : TypeId) (cs : Array Value) : Prop := w.heap[g]? = some (.cells cs t (0, 0))
section
variable {w w' : World} {g : Nat} {t : TypeId} {cs : Array Value} {S : Nat → Prop}
theorem Bk.lt (h : Bk w g t cs) : g < w.heap.size := by
  rcases Nat.lt_or_ge g w.heap.size with hlt | hge
  · exact hlt
  · unfold Bk at h; rw [Array.getElem?_eq_none hge] at h; cases h
theorem Bk.cell (h : Bk w g t cs) (i : Nat) : w.cell? ⟨g, i, none⟩ = cs[i]? := cell_of_row w g i cs t (0, 0) h
theorem Bk.frozen (h : Bk w g t cs) (i : Nat) : w.frozen? ⟨g, i, none⟩ = false := by unfold Bk at h; simp [World.frozen?, h]
theorem Bk.new (w : World) (t : TypeId) (cs : Array Value) : Bk (w.alloc (.cells cs t)) w.heap.size t cs := heap_alloc_new w _
theorem Bk.drew (h : Bk w g t cs) : Bk w.drew g t cs := h
theorem Bk.drewN (h : Bk w g t cs) (n : Nat) : Bk (w.drewN n) g t cs := h
theorem Bk.alloc (h : Bk w g t cs) (o : Obj) : Bk (w.alloc o) g t cs := (Below.heap_alloc w o g h.lt).trans h
theorem Bk.set_ (h : Bk w g t cs) (i : Nat) (u : Value) : Bk (w.setCell ⟨g, i, none⟩ u) g t (cs.setIfInBounds i u) := by
  unfold Bk at h ⊢
  simp [World.setCell, Array.getElem?_modify, h]
theorem Bk.far (h : Bk w g t cs) {p : Addr} (hp : g ≠ p.block) (u : Value) : Bk (w.setCell p u) g t cs := (Below.heap_setCell w p u g hp).trans h
theorem Bk.kept (h : Bk w g t cs) (hk : Kept S w w') (hg : ¬ S g) : Bk w' g t cs := (hk.block g h.lt hg).trans h
theorem Bk.row (h : Bk w g t cs) (ds : Array Value) : Bk (w.setRow g ds) g t ds := setRow_heap w g _ _ t _ h
theorem Bk.uniq {t' : TypeId} {cs' : Array Value} (h : Bk w g t cs) (h' : Bk w g t' cs') : cs = cs' ∧ t = t' := by
  unfold Bk at h h'; rw [h] at h'; injection h' with h'; injection h' with h1 h2; exact ⟨h1, h2⟩
end

/-- copy within or between rows: what lies behind it, whatever lies beyond. -/
theorem wpList_copy_kept {P : Program} {w : World} {ops : Array Oper} {rest : List Oper} {o : Oper} {a : Act} {Q : Exit → Act → World → Prop} (hgd : o.guard = none) (d s : Operand) (dT sT : TypeId)
    (ho : o.op = .call { callee := .builtin .copy, args := #[d, s], argTypes := #[dT, sT] }) (elem : TypeId) (hu : P.underlying dT = some (.slice elem)) (hsz : (P.info? elem).map (·.size) = some 1)
    (dp sp : Option Addr) (dLen dCap sLen sCap : Nat) (hd : a.eval d = .slice dp dLen dCap) (hs : a.eval s = .slice sp sLen sCap)
    (g off : Nat) (cur : List Value) (t : TypeId) (hg : Bk w g t cur.toArray) (cs : List Value) (hn : cs.length = Nat.min sLen dLen)
    (hpos : 0 < cs.length → dp = some ⟨g, off, none⟩ ∧ ∃ ad, sp = some ad ∧ ∀ j v, cs[j]? = some v → w.cell? (ad.add j) = some v)
    (hfit : off + cs.length ≤ cur.length) (h1 : ∀ v ∈ cs, v.oneCell' = true)
    (h : ∀ w', Bk w' g t (splice cur off cs).toArray → Kept (OneBlk g) w w' → wpList P ops Q rest (a.put o.dst (goInt cs.length)) w') :
    wpList P ops Q (o :: rest) a w := by
  by_cases h0 : cs.length = 0
  · obtain rfl : cs = [] := List.eq_nil_of_length_eq_zero h0
    refine wpList_copy_nothing hgd d s dT sT ho elem hu hsz dp sp dLen dCap sLen sCap hd hs (by simpa using hn.symm) ?_
    exact h w (by simpa [splice] using hg) (Kept.refl _ _)
  · obtain ⟨rfl, ad, rfl, hsrc⟩ := hpos (by omega)
    refine wpList_copy_own hgd d s dT sT ho elem hu hsz g off dLen dCap ad sLen sCap hd hs cur.toArray t hg cs hn hsrc (by simpa using hfit) h1 ?_
    refine h _ ?_ (Kept.setRow (g := g) (Kept.refl (OneBlk g) w) (fun _ => rfl) _)
    have := hg.row (splice cur off cs).toArray
    simpa [splice] using this

/-! A slice that the call itself has made, and appends to. -/
theorem own_kept {w w' : World} {base : Nat} {e : TypeId} {size : Nat} {v : Value} {n : Nat} {xs : List Value} {S : Nat → Prop} (h : w.ownsRow base e size v n xs) (hk : Kept S w w') (hS : ∀ k, S k → k < base) : w'.ownsRow base e size v n xs := by
  refine ⟨h.1, ?_⟩
  rcases h.2 with hn | ⟨g, cap, cur, rfl, hb, hg, rest⟩
  · exact .inl hn
  · exact .inr ⟨g, cap, cur, rfl, hb, (hk.block g (Array.getElem?_eq_some_iff.1 hg).1 (fun hs => by have := hS g hs; omega)).trans hg, rest⟩
theorem own_cell {w : World} {base : Nat} {e : TypeId} {g n cap : Nat} {xs : List Value} (h : w.ownsRow base e 1 (.slice (some ⟨g, 0, none⟩) n cap) n xs) {j : Nat} {u : Value} (hu : xs[j]? = some u) : w.cell? ⟨g, j, none⟩ = some u := by
  have := h.cells (g := g) rfl j u hu
  rw [addr_add, Nat.zero_add] at this
  exact this

/-- append(out, x): out is the call's own; x lies in a block of its own. -/
theorem wpList_append_one {P : Program} {w : World} {ops : Array Oper} {rest : List Oper} {o : Oper} {a : Act} {Q : Exit → Act → World → Prop} (hgd : o.guard = none) (s x : Operand) (t : TypeId)
    (ho : o.op = .call { callee := .builtin .append, args := #[s, x], argTypes := #[t, t] }) (base : Nat)
    (e : TypeId) (i : TypeInfo) (z : Value) (bytes : Nat) (ht : P.underlying t = some (.slice e)) (hi : P.info? e = some i) (hz : i.zero = some z)
    (hsize : i.size = 1) (hby : i.bytes = bytes) (hzs : z.cells.size = 1)
    (v : Value) (n : Nat) (xs : List Value) (hs : a.eval s = v) (hown : w.ownsRow base e 1 v n xs)
    (B : Nat) (T : TypeId) (u : Value) (hx : a.eval x = .slice (some ⟨B, 0, none⟩) 1 1) (hB : Bk w B T #[u]) (hu : u.oneCell' = true)
    (hn : n ≤ 1000000000) (hb : bytes ≤ 1000) (hbase : base ≤ w.heap.size)
    (h : ∀ g cap w', w'.ownsRow base e 1 (.slice (some ⟨g, 0, none⟩) (n + 1) cap) (n + 1) (xs ++ [u]) → Kept (fun k => v.ownBlock = some k) w w' → wpList P ops Q rest (a.put o.dst (.slice (some ⟨g, 0, none⟩) (n + 1) cap)) w') : wpList P ops Q (o :: rest) a w := by
  have hmul : (n + 1) * bytes ≤ 1000000001 * 1000 := Nat.mul_le_mul (by omega) hb
  refine wpList_append_lies w hgd s x t ho base e i z 1 bytes ht hi hz hsize hby hzs (by omega) v n xs hs hown ⟨B, 0, none⟩ 1 1 [u] hx rfl (World.news_of_block hB) (fun y hy => by rw [List.mem_singleton.1 hy]; exact hu) (by omega) (by simp only [maxLen]; omega) (by omega) hbase w.heap.size rfl ?_
  intro g cap w' h1 h2 _ _
  exact h g cap w' h1 ((Kept.refl _ w).grown h2 (fun k hk _ => hk))

/-! An arena: its words. -/

/-- The word at a place. -/
def wd (ws : List Int) (i : Nat) : Int := ws.getD i 0

def wordCells (ws : List Int) : List Value := ws.map (Value.int .u64)
theorem wordCells_snoc (ws : List Int) (k : Nat) (h : k < ws.length) : wordCells (ws.take k) ++ [.int .u64 (wd ws k)] = wordCells (ws.take (k + 1)) := by
  rw [List.take_succ_eq_append_getElem h]
  unfold wordCells wd
  rw [List.map_append, List.getD_eq_getElem?_getD, List.getElem?_eq_getElem h]
  rfl
theorem wordCells_at (ws : List Int) (k : Nat) (h : k < ws.length) : (wordCells ws)[k]? = some (.int .u64 (wd ws k)) := by
  simp [wordCells, wd, h]

/-- The arena behind pointer b: its words are ws, and lie in block g. -/
structure ArenaAt (w : World) (b g : Nat) (ws : List Int) : Prop where
  head : ∃ T, Bk w b T #[.slice (some ⟨g, 0, none⟩) ws.length ws.length]
  body : ∃ T, Bk w g T (wordCells ws).toArray
  ne : b ≠ g

def fillN (ws : List Int) (at_ : Nat) : Nat → Int → List Int
  | 0, _ => ws
  | k + 1, x => (fillN ws at_ k x).set (at_ + k) x

theorem length_fillN (ws : List Int) (at_ k : Nat) (x : Int) : (fillN ws at_ k x).length = ws.length := by
  induction k with
  | zero => rfl
  | succ k ih => simp [fillN, ih]

theorem fillN_wd (ws : List Int) (at_ k : Nat) (x : Int) (h : at_ + k ≤ ws.length) (i : Nat) :
    wd (fillN ws at_ k x) i = if at_ ≤ i ∧ i < at_ + k then x else wd ws i := by
  unfold wd
  induction k with
  | zero => rw [if_neg (by omega)]; rfl
  | succ k ih =>
    have ih := ih (by omega)
    have hl := length_fillN ws at_ k x
    simp only [fillN, List.getD_eq_getElem?_getD, List.getElem?_set] at ih ⊢
    by_cases e : at_ + k = i
    · subst e
      rw [if_pos rfl, if_pos (by omega), if_pos (by omega)]; rfl
    · rw [if_neg e, ih]
      by_cases hc : at_ ≤ i ∧ i < at_ + k
      · rw [if_pos hc, if_pos (by omega)]
      · rw [if_neg hc, if_neg (by omega)]

section
variable {w w' : World} {b g : Nat} {ws : List Int} {S : Nat → Prop}
theorem ArenaAt.hcell (h : ArenaAt w b g ws) : w.cell? ⟨b, 0, none⟩ = some (.slice (some ⟨g, 0, none⟩) ws.length ws.length) := by
  obtain ⟨T, h⟩ := h.head; rw [h.cell]; rfl
theorem ArenaAt.word (h : ArenaAt w b g ws) {i : Nat} (hi : i < ws.length) : w.cell? ⟨g, i, none⟩ = some (.int .u64 (wd ws i)) := by
  obtain ⟨T, h⟩ := h.body; rw [h.cell]; simp [wordCells, wd, hi]
theorem ArenaAt.free (h : ArenaAt w b g ws) (i : Nat) : w.frozen? ⟨g, i, none⟩ = false := by obtain ⟨T, h⟩ := h.body; exact h.frozen i
theorem ArenaAt.blt (h : ArenaAt w b g ws) : b < w.heap.size := by obtain ⟨T, h⟩ := h.head; exact h.lt
theorem ArenaAt.glt (h : ArenaAt w b g ws) : g < w.heap.size := by obtain ⟨T, h⟩ := h.body; exact h.lt
theorem ArenaAt.set_ (h : ArenaAt w b g ws) (i : Nat) (x : Int) : ArenaAt (w.setCell ⟨g, i, none⟩ (.int .u64 x)) b g (ws.set i x) := by
  obtain ⟨⟨T, hh⟩, ⟨U, hb⟩, hn⟩ := h
  refine ⟨⟨T, ?_⟩, ⟨U, ?_⟩, hn⟩
  · rw [List.length_set]; exact hh.far hn _
  · have := hb.set_ i (.int .u64 x)
    simpa [wordCells, List.map_set] using this
theorem ArenaAt.kept (h : ArenaAt w b g ws) (hk : Kept S w w') (hb : ¬ S b) (hg : ¬ S g) : ArenaAt w' b g ws := by
  obtain ⟨⟨T, hh⟩, ⟨U, hbo⟩, hn⟩ := h
  exact ⟨⟨T, hh.kept hk hb⟩, ⟨U, hbo.kept hk hg⟩, hn⟩
theorem ArenaAt.far (h : ArenaAt w b g ws) {p : Addr} (hb : b ≠ p.block) (hg : g ≠ p.block) (u : Value) : ArenaAt (w.setCell p u) b g ws := by
  obtain ⟨⟨T, hh⟩, ⟨U, hbo⟩, hn⟩ := h
  exact ⟨⟨T, hh.far hb u⟩, ⟨U, hbo.far hg u⟩, hn⟩
theorem ArenaAt.drew (h : ArenaAt w b g ws) : ArenaAt w.drew b g ws := h.kept (Kept.refl NoBlk w).drew id id
theorem ArenaAt.alloc (h : ArenaAt w b g ws) (o : Obj) : ArenaAt (w.alloc o) b g ws := h.kept ((Kept.refl NoBlk w).alloc o) id id
end

end Go.Proofs.Ytccgnnnildedoaa
