/-
  Masks of parts one behind the other have no bit in common, and are the mask of both together (the law WordMasks answers true at every input).
  Conditions: none.
-/
import Derived.Test.YtenphgmohhdjeaaWMore
import Derived.Test.YtenphgmohhdjeaaRow
namespace Go.Proofs.Ytenphgmohhdjeaa
open Go.ChangeShapes Go.WideShapes Go.ChangeAt Go.RowKit

set_option maxRecDepth 100000 in
theorem WordMasks_lifted (os : Os) (started : os.Started) (H : Type) (enc : TypeId × Value → H) :
    ReturnsInHanded {} Try.checked os 21 .any (Rows.wordMasksSpec.pre6 enc Try.prog Try.f21 Rows.wordMasksRow.domain false) (Rows.wordMasksSpec.post enc Try.prog Try.f21 false true false false) := by
  refine returnsInHanded_of_change (C := Try.checked) own started (by kernel_rfl) Try.func21
    (ChangeSpec.witness6 (enc := enc) (C := Try.checked) false ⟨#[], #[.int .i64 0, .int .i64 0, .int .i64 0], []⟩ 8 (by kernel_rfl) (by kernel_rfl) (by kernel_rfl) (by kernel_rfl)) ?_
  intro W base args ds gs before hval0 hW hcnd _
  have hval : ∀ (j : Nat) t v, Try.f21.params[j]? = some t → args[j]? = some v → Value.okWide Try.prog W .any base t v := hval0
  have hW' := hW
  obtain ⟨p, q, hA0, hV, rfl, hfz, hnd⟩ := hW
  have hA : DataW.TrodAll enc Try.prog W 0 (fun _ => true) true Try.f21.params.toList args.toList ds p := hA0
  rw [Try.params21] at hA hval
  obtain ⟨v0, vs0, d0, ds0, p0, q0, hargs, rfl, rfl, h0, r0⟩ := trodAll_cons hA
  obtain ⟨v1, vs1, d1, ds1, p1, q1, rfl, rfl, rfl, h1, r1⟩ := trodAll_cons r0
  obtain ⟨v2, vs2, d2, ds2, p2, q2, rfl, rfl, rfl, h2, r2⟩ := trodAll_cons r1
  obtain ⟨rfl, rfl, rfl⟩ := trodAll_nil r2
  obtain rfl : args = #[v0, v1, v2] := by cases args; simp_all
  obtain ⟨rfl, rfl⟩ := trodVars_none hV
  suffices hwalk : Calls Try.prog 21 #[v0, v1, v2] W fun e w' => e = .returned (.bool true) ∧ Kept NoBlk W w' by
    refine hwalk.mono fun e W' ⟨he, hg⟩ => ?_
    subst he
    exact ⟨_, rfl, law_post (tb := 4) laidOut (by rw [Try.params21]; decide +kernel) rfl Try.underlying4 rfl rfl hW' hg.below⟩
  have hlt : ∀ x ∈ p0 ++ (p1 ++ (p2 ++ [])), x.block < W.heap.size := fun x hx => hW'.lt x (by simpa using hx)
  obtain ⟨a0, rfl, rfl, rfl, w0⟩ := open_int Try.underlying3 (hval 0 3 v0 rfl rfl) h0
  obtain ⟨l0, g0⟩ := bd_i64 w0
  obtain ⟨a1, rfl, rfl, rfl, w1⟩ := open_int Try.underlying3 (hval 1 3 v1 rfl rfl) h1
  obtain ⟨l1, g1⟩ := bd_i64 w1
  obtain ⟨a2, rfl, rfl, rfl, w2⟩ := open_int Try.underlying3 (hval 2 3 v2 rfl rfl) h2
  obtain ⟨l2, g2⟩ := bd_i64 w2
  have hs := pk_bd a0 63 (by omega)
  obtain ⟨s, Hs⟩ : ∃ s : Nat, (s : Int) = pk a0 63 := ⟨(pk a0 63).toNat, by omega⟩
  rw [← Hs] at hs
  have ha := pk_bd a1 (63 - s) (by omega)
  obtain ⟨a, Ha⟩ : ∃ a : Nat, (a : Int) = pk a1 (63 - s) := ⟨(pk a1 (63 - s)).toNat, by omega⟩
  rw [← Ha] at ha
  have hb := pk_bd a2 (64 - s - (1 + a)) (by omega)
  obtain ⟨b, Hb⟩ : ∃ b : Nat, (b : Int) = pk a2 (64 - s - (1 + a)) := ⟨(pk a2 (64 - s - (1 + a))).toNat, by omega⟩
  rw [← Hb] at hb
  exact masks_walk a0 a1 a2 s a b W Hs (by omega) Ha (by omega) Hb (by omega) l0 g0 l1 g1 l2 g2

theorem WordMasks_over : Rows.wordMasksRow.holds Try.pinned (OpenSpec.ofChange Rows.wordMasksSpec) :=
  OpenClaim.holds_of_wide 21 Try.f21 rfl rfl rfl rfl rfl rfl rfl ⟨rfl, rfl, rfl, rfl, rfl⟩ rfl rfl rfl rfl rfl (by as_aux_lemma => kernel_rfl) Try.func21 (joined_of laidOut mayYes liftsNo makeCut (by as_aux_lemma => kernel_rfl))
    (of_decide_eq_true (by as_aux_lemma => kernel_rfl)) (by unfold Func.isWrapper; first | (rw [if_pos (by decide +kernel)]; kernel_rfl) | (rw [if_neg (by decide +kernel)]; exact ⟨rfl, rfl⟩))
    (fun os started H enc _ => WordMasks_lifted os started H enc)

theorem WordMasks_proved : Rows.WordMasksSaid := WordMasks_over
#print axioms WordMasks_proved
end Go.Proofs.Ytenphgmohhdjeaa
