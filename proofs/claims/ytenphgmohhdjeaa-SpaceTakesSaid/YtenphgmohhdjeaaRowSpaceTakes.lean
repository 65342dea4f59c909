/-
  What is taken lies in the space, behind all that was taken ahead, and touches none of it (the law SpaceTakes answers true at every input).
  Conditions: none.
-/
import Derived.Test.YtenphgmohhdjeaaLawTakes
import Derived.Test.YtenphgmohhdjeaaArr
import Derived.Test.YtenphgmohhdjeaaRow
namespace Go.Proofs.Ytenphgmohhdjeaa
open Go.ChangeShapes Go.WideShapes Go.ChangeAt Go.RowKit

set_option maxRecDepth 100000 in
theorem SpaceTakes_lifted (os : Os) (started : os.Started) (H : Type) (enc : TypeId × Value → H) :
    ReturnsInHanded {} Try.checked os 14 .any (Rows.spaceTakesSpec.pre6 enc Try.prog Try.f14 Rows.spaceTakesRow.domain false) (Rows.spaceTakesSpec.post enc Try.prog Try.f14 false true false false) := by
  refine returnsInHanded_of_change (C := Try.checked) own started (by kernel_rfl) Try.func14
    (ChangeSpec.witness6 (enc := enc) (C := Try.checked) false ⟨#[], #[.agg #[.int .i64 0, .int .i64 0, .int .i64 0], .slice none 0 0], []⟩ 8 (by kernel_rfl) (by kernel_rfl) (by kernel_rfl) (by kernel_rfl)) ?_
  intro W base args ds gs before hval0 hW hcnd _
  have hval : ∀ (j : Nat) t v, Try.f14.params[j]? = some t → args[j]? = some v → Value.okWide Try.prog W .any base t v := hval0
  have hW' := hW
  obtain ⟨p, q, hA0, hV, rfl, hfz, hnd⟩ := hW
  have hA : DataW.TrodAll enc Try.prog W 0 (fun _ => true) true Try.f14.params.toList args.toList ds p := hA0
  rw [Try.params14] at hA hval
  obtain ⟨v0, vs0, d0, ds0, p0, q0, hargs, rfl, rfl, h0, r0⟩ := trodAll_cons hA
  obtain ⟨v1, vs1, d1, ds1, p1, q1, rfl, rfl, rfl, h1, r1⟩ := trodAll_cons r0
  obtain ⟨rfl, rfl, rfl⟩ := trodAll_nil r1
  obtain rfl : args = #[v0, v1] := by cases args; simp_all
  obtain ⟨rfl, rfl⟩ := trodVars_none hV
  suffices hwalk : Calls Try.prog 14 #[v0, v1] W fun e w' => e = .returned (.bool true) ∧ Kept NoBlk W w' by
    refine hwalk.mono fun e W' ⟨he, hg⟩ => ?_
    subst he
    exact ⟨_, rfl, law_post (tb := 4) laidOut (by rw [Try.params14]; decide +kernel) rfl Try.underlying4 rfl rfl hW' hg.below⟩
  have hlt : ∀ x ∈ p0 ++ (p1 ++ []), x.block < W.heap.size := fun x hx => hW'.lt x (by simpa using hx)
  obtain ⟨x0_0, x0_1, x0_2, rfl, ⟨l0_0, g0_0⟩, ⟨l0_1, g0_1⟩, ⟨l0_2, g0_2⟩⟩ := open_arr3 Try.underlying51 Try.underlying3 (by kernel_rfl) (by kernel_rfl) (hval 0 51 v0 rfl rfl) h0
  obtain ⟨A1, n1, c1, rfl⟩ := okWide_slice Try.underlying58 (hval 1 58 v1 rfl rfl)
  obtain ⟨f1, hf1⟩ := h1
  have R1 : ReadsT Try.prog W W.heap.size 4 58 [.slice A1 n1 c1] := reads_of_trod 4 hf1
  have hb := pk_bd x0_0 1000 (by omega)
  have hs := pk_bd x0_1 300 (by omega)
  have ht := pk_bd x0_2 (pk x0_1 300 + 1) (by omega)
  obtain ⟨k1, k2, k3⟩ := ints_of R1
  exact takes_walk x0_0 x0_1 x0_2 _ _ _ A1 n1 c1 W rfl rfl rfl hb.1 hb.2 hs.1 hs.2 ht.1 ht.2 l0_0 g0_0 l0_1 g0_1 l0_2 g0_2 (by unfold maxLen at k2; omega) k3

theorem SpaceTakes_over : Rows.spaceTakesRow.holds Try.pinned (OpenSpec.ofChange Rows.spaceTakesSpec) :=
  OpenClaim.holds_of_wide 14 Try.f14 rfl rfl rfl rfl rfl rfl rfl ⟨rfl, rfl, rfl, rfl, rfl⟩ rfl rfl rfl rfl rfl (by as_aux_lemma => kernel_rfl) Try.func14 (joined_of laidOut mayYes liftsNo makeCut (by as_aux_lemma => kernel_rfl))
    (of_decide_eq_true (by as_aux_lemma => kernel_rfl)) (by unfold Func.isWrapper; first | (rw [if_pos (by decide +kernel)]; kernel_rfl) | (rw [if_neg (by decide +kernel)]; exact ⟨rfl, rfl⟩))
    (fun os started H enc _ => SpaceTakes_lifted os started H enc)

theorem SpaceTakes_proved : Rows.SpaceTakesSaid := SpaceTakes_over
#print axioms SpaceTakes_proved
end Go.Proofs.Ytenphgmohhdjeaa
