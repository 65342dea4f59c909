/-
  Package object over an arena where an object stands: what its words are, and how they are made others.
  Conditions: the arena has at most 65536 words.
-/
import Derived.Test.YtccgnnnildedoaaObject
import Derived.Test.YtccgnnnildedoaaWord
set_option linter.unusedVariables false
namespace Go.Proofs.Ytccgnnnildedoaa
open Go.RowKit

set_option maxRecDepth 100000 in
set_option maxHeartbeats 1000000 in
theorem oload_no {b g : Nat} {ws : List Int} {w : World} (hA : ArenaAt w b g ws) (hn : ws.length ≤ 65536) {a : Nat} {o : Obj} (ho : ObjAt ws a o) (kp B : Nat)
    (ep : ∀ args w, (callFunc kp args).run Try.prog w = .ok (.enter kp args) w)
    (hp : ∀ W, Kept NoBlk w W → Calls Try.prog kp #[.agg #[.int .i64 (o.shp.p : Nat), .int .i64 (o.shp.d : Nat), .bool o.shp.wk, .bool o.shp.fin], .pointer (some ⟨B, 0, none⟩)] W fun e w' => e = .returned (.int .i64 (-1)) ∧ Kept NoBlk W w') :
    Calls Try.prog 69 #[.pointer (some ⟨b, 0, none⟩), .int .i64 a, .func (.func kp) #[] #[.pointer (some ⟨B, 0, none⟩)]] w fun e w' => e = .returned (.tuple #[.int .u64 0, .int .i64 71]) ∧ Kept NoBlk w w' := by
  go_enter Try.func69, Try.ntmps69
  have hK := Kept.refl NoBlk w
  have h2 := Bk.new (w) 46 (#[.pointer (some ⟨b, 0, none⟩)] : Array Value)
  replace hK := hK.alloc (.cells #[.pointer (some ⟨b, 0, none⟩)] 46)
  have c_h2 := h2.cell
  have f_h2 := h2.frozen
  replace h2 := h2.alloc (.cells #[.int .u64 0] 27)
  have h3 := Bk.new (w.alloc (.cells #[.pointer (some ⟨b, 0, none⟩)] 46)) 27 (#[.int .u64 0] : Array Value)
  replace hK := hK.alloc (.cells #[.int .u64 0] 27)
  have c_h3 := h3.cell
  have f_h3 := h3.frozen
  replace c_h2 := h2.cell
  replace f_h2 := h2.frozen
  have hs1 : ∀ (W : World) (o : Go.Obj), (W.alloc o).heap.size = W.heap.size + 1 := fun W o => by simp
  rw [hs1] at h3 c_h3 f_h3
  clear hs1
  go_wp2_with fail
  generalize (w.alloc (.cells #[.pointer (some ⟨b, 0, none⟩)] 46)).alloc (.cells #[.int .u64 0] 27) = w2 at *
  refine (with_no (hA.kept hK id id) hn ho kp _ (some ⟨B, 0, none⟩) ep (fun W hW => hp W (hK.trans hW))).mono ?_
  rintro e w3 ⟨rfl, hKn⟩
  clear c_h2 f_h2
  replace h3 := h3.kept hKn id
  replace hK := hK.trans hKn
  clear hKn h2 hp hA ho
  replace c_h3 := h3.cell
  replace f_h3 := h3.frozen
  go_wp2
  refine bodyPost_ret (v := .tuple #[.int .u64 0, .int .i64 71]) (by simp [results, Try.results69, go_sem, c_h3]) rfl ⟨rfl, hK⟩

set_option maxRecDepth 100000 in
set_option maxHeartbeats 1000000 in
theorem store1 {b g : Nat} {ws : List Int} {w : World} (hA : ArenaAt w b g ws) (hn : ws.length ≤ 65536) (k : Nat) (hk : k < ws.length) (x : Int) (B2 B3 : Nat) (h2 : Bk w B2 46 #[.pointer (some ⟨b, 0, none⟩)]) (h3 : Bk w B3 27 #[.int .u64 x]) :
    Calls Try.prog 99 #[.int .i64 k, .pointer (some ⟨B2, 0, none⟩), .pointer (some ⟨B3, 0, none⟩)] w fun e w' => e = .returned (.int .i64 0) ∧ ArenaAt w' b g (ws.set k x) ∧ Kept (OneBlk g) w w' := by
  have c1 := fun W (h : w = W) => (by subst h; exact store_yes hA hn (k : Int) x (by omega) (by omega) : Calls Try.prog 68 #[.pointer (some ⟨b, 0, none⟩), .int .i64 k, .int .u64 x] W fun e w' => e = .returned (.int .i64 0) ∧ ArenaAt w' b g (ws.set (k : Int).toNat x) ∧ Kept (OneBlk g) W w')
  rw [Int.toNat_natCast] at c1
  clear hA hn hk
  go_enter Try.func99, Try.ntmps99
  have hK := Kept.refl NoBlk w
  have c_h2 := h2.cell
  have f_h2 := h2.frozen
  have c_h3 := h3.cell
  have f_h3 := h3.frozen
  go_wp2_with fail
  refine (c1 _ rfl).mono ?_
  rintro e w1 ⟨rfl, hA1, hK1⟩
  go_wp2
  go_ret
  exact ⟨rfl, hA1, hK1⟩

set_option maxRecDepth 100000 in
set_option maxHeartbeats 1000000 in
theorem ostore_yes {b g : Nat} {ws : List Int} {w : World} (hA : ArenaAt w b g ws) (hn : ws.length ≤ 65536) {a : Nat} {o : Obj} (ho : ObjAt ws a o) (kp B : Nat) (k : Nat) (x : Int) (hk : k < o.size)
    (ep : ∀ args w, (callFunc kp args).run Try.prog w = .ok (.enter kp args) w)
    (hp : ∀ W, Kept NoBlk w W → Calls Try.prog kp #[.agg #[.int .i64 (o.shp.p : Nat), .int .i64 (o.shp.d : Nat), .bool o.shp.wk, .bool o.shp.fin], .pointer (some ⟨B, 0, none⟩)] W fun e w' => e = .returned (.int .i64 k) ∧ Kept NoBlk W w') :
    Calls Try.prog 73 #[.pointer (some ⟨b, 0, none⟩), .int .i64 a, .func (.func kp) #[] #[.pointer (some ⟨B, 0, none⟩)], .int .u64 x] w fun e w' => e = .returned (.int .i64 0) ∧ ArenaAt w' b g (ws.set (a + k) x) ∧ Kept (OneBlk g) w w' := by
  have hf := ho.fit
  go_enter Try.func73, Try.ntmps73
  have hK := Kept.refl NoBlk w
  have h2 := Bk.new (w) 46 (#[.pointer (some ⟨b, 0, none⟩)] : Array Value)
  replace hK := hK.alloc (.cells #[.pointer (some ⟨b, 0, none⟩)] 46)
  have c_h2 := h2.cell
  have f_h2 := h2.frozen
  replace h2 := h2.alloc (.cells #[.int .u64 x] 27)
  have h3 := Bk.new (w.alloc (.cells #[.pointer (some ⟨b, 0, none⟩)] 46)) 27 (#[.int .u64 x] : Array Value)
  replace hK := hK.alloc (.cells #[.int .u64 x] 27)
  have c_h3 := h3.cell
  have f_h3 := h3.frozen
  replace c_h2 := h2.cell
  replace f_h2 := h2.frozen
  have hs1 : ∀ (W : World) (o : Go.Obj), (W.alloc o).heap.size = W.heap.size + 1 := fun W o => by simp
  rw [hs1] at h3 c_h3 f_h3
  clear hs1
  go_wp2_with fail
  generalize (w.alloc (.cells #[.pointer (some ⟨b, 0, none⟩)] 46)).alloc (.cells #[.int .u64 x] 27) = w2 at *
  have hK0 : Kept (OneBlk g) w w2 := hK.mono fun _ _ h => h.elim
  refine (with_yes (hA.kept hK id id) hn ho kp 99 (some ⟨B, 0, none⟩) (some ⟨w.heap.size, 0, none⟩) (some ⟨w.heap.size + 1, 0, none⟩) k hk (fun e w' => e = .returned (.int .i64 0) ∧ ArenaAt w' b g (ws.set (a + k) x) ∧ Kept (OneBlk g) w w') ep (fun _ _ => by kernel_rfl) (fun W hW => hp W (hK.trans hW))
    (fun W hW => (store1 (hA.kept (hK.trans hW) id id) hn (a + k) (by omega) x w.heap.size (w.heap.size + 1) (h2.kept hW id) (h3.kept hW id)).mono fun e w' ⟨he, hA', hK'⟩ => ?_)).mono ?_
  · subst he
    exact ⟨0, rfl, rfl, hA', (hK0.trans (hW.mono fun _ _ h => h.elim)).trans hK'⟩
  rintro e w3 ⟨rfl, hA3, hK3⟩
  clear h2 h3 c_h2 c_h3 f_h2 f_h3 hK hp hA ho
  go_wp2
  go_ret
  exact ⟨rfl, hA3, hK3⟩

set_option maxRecDepth 100000 in
set_option maxHeartbeats 1000000 in
theorem ostore_no {b g : Nat} {ws : List Int} {w : World} (hA : ArenaAt w b g ws) (hn : ws.length ≤ 65536) {a : Nat} {o : Obj} (ho : ObjAt ws a o) (kp B : Nat) (x : Int)
    (ep : ∀ args w, (callFunc kp args).run Try.prog w = .ok (.enter kp args) w)
    (hp : ∀ W, Kept NoBlk w W → Calls Try.prog kp #[.agg #[.int .i64 (o.shp.p : Nat), .int .i64 (o.shp.d : Nat), .bool o.shp.wk, .bool o.shp.fin], .pointer (some ⟨B, 0, none⟩)] W fun e w' => e = .returned (.int .i64 (-1)) ∧ Kept NoBlk W w') :
    Calls Try.prog 73 #[.pointer (some ⟨b, 0, none⟩), .int .i64 a, .func (.func kp) #[] #[.pointer (some ⟨B, 0, none⟩)], .int .u64 x] w fun e w' => e = .returned (.int .i64 71) ∧ Kept NoBlk w w' := by
  go_enter Try.func73, Try.ntmps73
  have hK := Kept.refl NoBlk w
  have h2 := Bk.new (w) 46 (#[.pointer (some ⟨b, 0, none⟩)] : Array Value)
  replace hK := hK.alloc (.cells #[.pointer (some ⟨b, 0, none⟩)] 46)
  have c_h2 := h2.cell
  have f_h2 := h2.frozen
  replace h2 := h2.alloc (.cells #[.int .u64 x] 27)
  have h3 := Bk.new (w.alloc (.cells #[.pointer (some ⟨b, 0, none⟩)] 46)) 27 (#[.int .u64 x] : Array Value)
  replace hK := hK.alloc (.cells #[.int .u64 x] 27)
  have c_h3 := h3.cell
  have f_h3 := h3.frozen
  replace c_h2 := h2.cell
  replace f_h2 := h2.frozen
  go_wp2_with fail
  generalize (w.alloc (.cells #[.pointer (some ⟨b, 0, none⟩)] 46)).alloc (.cells #[.int .u64 x] 27) = w2 at *
  refine (with_no (hA.kept hK id id) hn ho kp _ (some ⟨B, 0, none⟩) ep (fun W hW => hp W (hK.trans hW))).mono ?_
  rintro e w3 ⟨rfl, hKn⟩
  clear h2 h3 c_h2 c_h3 f_h2 f_h3
  replace hK := hK.trans hKn
  clear hKn hp hA ho
  go_wp2
  go_ret
  exact ⟨rfl, hK⟩

end Go.Proofs.Ytccgnnnildedoaa
