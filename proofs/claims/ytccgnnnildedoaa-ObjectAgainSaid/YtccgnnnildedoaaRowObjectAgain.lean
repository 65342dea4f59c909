/-
  An object that is laid where one was is as new (the law ObjectAgain answers true at every input).
  Conditions: none.
-/
import Derived.Test.YtccgnnnildedoaaLaw07c
import Derived.Test.YtccgnnnildedoaaArr
import Derived.Test.YtccgnnnildedoaaRow
namespace Go.Proofs.Ytccgnnnildedoaa
open Go.ChangeShapes Go.WideShapes Go.ChangeAt Go.RowKit

set_option maxRecDepth 100000 in
theorem ObjectAgain_lifted (os : Os) (started : os.Started) (H : Type) (enc : TypeId × Value → H) :
    ReturnsInHanded {} Try.checked os 11 .any (Rows.objectAgainSpec.pre6 enc Try.prog Try.f11 Rows.objectAgainRow.domain false) (Rows.objectAgainSpec.post enc Try.prog Try.f11 false true false false) := by
  refine returnsInHanded_of_change (C := Try.checked) own started (by kernel_rfl) Try.func11
    (ChangeSpec.witness6 (enc := enc) (C := Try.checked) false ⟨#[], #[.agg #[.int .i64 0, .int .i64 0, .int .i64 0], .agg #[.int .i64 0, .int .i64 0, .int .i64 0], .slice none 0 0], []⟩ 8 (by kernel_rfl) (by kernel_rfl) (by kernel_rfl) (by kernel_rfl)) ?_
  intro W base args ds gs before hval0 hW hcnd _
  have hval : ∀ (j : Nat) t v, Try.f11.params[j]? = some t → args[j]? = some v → Value.okWide Try.prog W .any base t v := hval0
  have hW' := hW
  obtain ⟨p, q, hA0, hV, rfl, hfz, hnd⟩ := hW
  have hA : DataW.TrodAll enc Try.prog W 0 (fun _ => true) true Try.f11.params.toList args.toList ds p := hA0
  rw [Try.params11] at hA hval
  obtain ⟨v0, vs0, d0, ds0, p0, q0, hargs, rfl, rfl, h0, r0⟩ := trodAll_cons hA
  obtain ⟨v1, vs1, d1, ds1, p1, q1, rfl, rfl, rfl, h1, r1⟩ := trodAll_cons r0
  obtain ⟨v2, vs2, d2, ds2, p2, q2, rfl, rfl, rfl, h2, r2⟩ := trodAll_cons r1
  obtain ⟨rfl, rfl, rfl⟩ := trodAll_nil r2
  obtain rfl : args = #[v0, v1, v2] := by cases args; simp_all
  obtain ⟨rfl, rfl⟩ := trodVars_none hV
  suffices hwalk : Calls Try.prog 11 #[v0, v1, v2] W fun e w' => e = .returned (.bool true) ∧ Kept NoBlk W w' by
    refine hwalk.mono fun e W' ⟨he, hg⟩ => ?_
    subst he
    exact ⟨_, rfl, law_post (tb := 4) laidOut (by rw [Try.params11]; decide +kernel) rfl Try.underlying4 rfl rfl hW' hg.below⟩
  have hlt : ∀ x ∈ p0 ++ (p1 ++ (p2 ++ [])), x.block < W.heap.size := fun x hx => hW'.lt x (by simpa using hx)
  obtain ⟨x0_0, x0_1, x0_2, rfl, ⟨l0_0, g0_0⟩, ⟨l0_1, g0_1⟩, ⟨l0_2, g0_2⟩⟩ := open_arr3 Try.underlying22 Try.underlying3 (by kernel_rfl) (by kernel_rfl) (hval 0 22 v0 rfl rfl) h0
  obtain ⟨x1_0, x1_1, x1_2, rfl, ⟨l1_0, g1_0⟩, ⟨l1_1, g1_1⟩, ⟨l1_2, g1_2⟩⟩ := open_arr3 Try.underlying22 Try.underlying3 (by kernel_rfl) (by kernel_rfl) (hval 1 22 v1 rfl rfl) h1
  obtain ⟨A2, n2, c2, rfl⟩ := okWide_slice Try.underlying63 (hval 2 63 v2 rfl rfl)
  obtain ⟨f2, hf2⟩ := h2
  have R2 : ReadsT Try.prog W W.heap.size 4 63 [.slice A2 n2 c2] := reads_of_trod 4 hf2
  obtain ⟨k1, k2, k3⟩ := op07_of R2
  exact again_walk7 x0_0 x0_1 x0_2 x1_0 x1_1 x1_2 A2 n2 c2 W l0_0 g0_0 l0_1 g0_1 l0_2 g0_2 l1_0 g1_0 l1_1 g1_1 l1_2 g1_2 (by unfold maxLen at k2; omega) k3

theorem ObjectAgain_over : Rows.objectAgainRow.holds Try.pinned (OpenSpec.ofChange Rows.objectAgainSpec) :=
  OpenClaim.holds_of_wide 11 Try.f11 rfl rfl rfl rfl rfl rfl rfl ⟨rfl, rfl, rfl, rfl, rfl⟩ rfl rfl rfl rfl rfl (by as_aux_lemma => kernel_rfl) Try.func11 (joined_of laidOut mayYes liftsNo makeCut (by as_aux_lemma => kernel_rfl))
    (of_decide_eq_true (by as_aux_lemma => kernel_rfl)) (by unfold Func.isWrapper; first | (rw [if_pos (by decide +kernel)]; kernel_rfl) | (rw [if_neg (by decide +kernel)]; exact ⟨rfl, rfl⟩))
    (fun os started H enc _ => ObjectAgain_lifted os started H enc)

theorem ObjectAgain_proved : Rows.ObjectAgainSaid := ObjectAgain_over
#print axioms ObjectAgain_proved
end Go.Proofs.Ytccgnnnildedoaa
