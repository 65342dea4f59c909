/-
  What is copied on, from where it was copied to, is still as it was (the law MoverOn answers true at every input).
  Conditions: none.
-/
import Derived.Test.YtccgnnnildedoaaLaw08b
import Derived.Test.YtccgnnnildedoaaRow
namespace Go.Proofs.Ytccgnnnildedoaa
open Go.ChangeShapes Go.WideShapes Go.ChangeAt Go.RowKit

set_option maxRecDepth 100000 in
theorem MoverOn_lifted (os : Os) (started : os.Started) (H : Type) (enc : TypeId × Value → H) :
    ReturnsInHanded {} Try.checked os 13 .any (Rows.moverOnSpec.pre6 enc Try.prog Try.f13 Rows.moverOnRow.domain false) (Rows.moverOnSpec.post enc Try.prog Try.f13 false true false false) := by
  refine returnsInHanded_of_change (C := Try.checked) own started (by kernel_rfl) Try.func13
    (ChangeSpec.witness6 (enc := enc) (C := Try.checked) false ⟨#[], #[.slice none 0 0], []⟩ 8 (by kernel_rfl) (by kernel_rfl) (by kernel_rfl) (by kernel_rfl)) ?_
  intro W base args ds gs before hval0 hW hcnd _
  have hval : ∀ (j : Nat) t v, Try.f13.params[j]? = some t → args[j]? = some v → Value.okWide Try.prog W .any base t v := hval0
  have hW' := hW
  obtain ⟨p, q, hA0, hV, rfl, hfz, hnd⟩ := hW
  have hA : DataW.TrodAll enc Try.prog W 0 (fun _ => true) true Try.f13.params.toList args.toList ds p := hA0
  rw [Try.params13] at hA hval
  obtain ⟨v0, vs0, d0, ds0, p0, q0, hargs, rfl, rfl, h0, r0⟩ := trodAll_cons hA
  obtain ⟨rfl, rfl, rfl⟩ := trodAll_nil r0
  obtain rfl : args = #[v0] := by cases args; simp_all
  obtain ⟨rfl, rfl⟩ := trodVars_none hV
  suffices hwalk : Calls Try.prog 13 #[v0] W fun e w' => e = .returned (.bool true) ∧ Kept NoBlk W w' by
    refine hwalk.mono fun e W' ⟨he, hg⟩ => ?_
    subst he
    exact ⟨_, rfl, law_post (tb := 4) laidOut (by rw [Try.params13]; decide +kernel) rfl Try.underlying4 rfl rfl hW' hg.below⟩
  have hlt : ∀ x ∈ p0 ++ [], x.block < W.heap.size := fun x hx => hW'.lt x (by simpa using hx)
  obtain ⟨A0, n0, c0, rfl⟩ := okWide_slice Try.underlying73 (hval 0 73 v0 rfl rfl)
  obtain ⟨f0, hf0⟩ := h0
  have R0 : ReadsT Try.prog W W.heap.size 4 73 [.slice A0 n0 c0] := reads_of_trod 4 hf0
  obtain ⟨k1, k2, k3⟩ := raw08_of R0
  exact on_walk8 A0 n0 c0 W (by unfold maxLen at k2; omega) k3

theorem MoverOn_over : Rows.moverOnRow.holds Try.pinned (OpenSpec.ofChange Rows.moverOnSpec) :=
  OpenClaim.holds_of_wide 13 Try.f13 rfl rfl rfl rfl rfl rfl rfl ⟨rfl, rfl, rfl, rfl, rfl⟩ rfl rfl rfl rfl rfl (by as_aux_lemma => kernel_rfl) Try.func13 (joined_of laidOut mayYes liftsNo makeCut (by as_aux_lemma => kernel_rfl))
    (of_decide_eq_true (by as_aux_lemma => kernel_rfl)) (by unfold Func.isWrapper; first | (rw [if_pos (by decide +kernel)]; kernel_rfl) | (rw [if_neg (by decide +kernel)]; exact ⟨rfl, rfl⟩))
    (fun os started H enc _ => MoverOn_lifted os started H enc)

theorem MoverOn_proved : Rows.MoverOnSaid := MoverOn_over
#print axioms MoverOn_proved
end Go.Proofs.Ytccgnnnildedoaa
