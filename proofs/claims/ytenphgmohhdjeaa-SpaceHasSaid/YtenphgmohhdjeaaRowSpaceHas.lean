/-
  Just the words that are taken are had (the law SpaceHas answers true at every input).
  Conditions: none.
-/
import Derived.Test.YtenphgmohhdjeaaLawSpace
import Derived.Test.YtenphgmohhdjeaaArr
import Derived.Test.YtenphgmohhdjeaaRow
namespace Go.Proofs.Ytenphgmohhdjeaa
open Go.ChangeShapes Go.WideShapes Go.ChangeAt Go.RowKit

set_option maxRecDepth 100000 in
theorem SpaceHas_lifted (os : Os) (started : os.Started) (H : Type) (enc : TypeId × Value → H) :
    ReturnsInHanded {} Try.checked os 13 .any (Rows.spaceHasSpec.pre6 enc Try.prog Try.f13 Rows.spaceHasRow.domain false) (Rows.spaceHasSpec.post enc Try.prog Try.f13 false true false false) := by
  refine returnsInHanded_of_change (C := Try.checked) own started (by kernel_rfl) Try.func13
    (ChangeSpec.witness6 (enc := enc) (C := Try.checked) false ⟨#[], #[.agg #[.int .i64 0, .int .i64 0, .int .i64 0], .int .i64 0], []⟩ 8 (by kernel_rfl) (by kernel_rfl) (by kernel_rfl) (by kernel_rfl)) ?_
  intro W base args ds gs before hval0 hW hcnd _
  have hval : ∀ (j : Nat) t v, Try.f13.params[j]? = some t → args[j]? = some v → Value.okWide Try.prog W .any base t v := hval0
  have hW' := hW
  obtain ⟨p, q, hA0, hV, rfl, hfz, hnd⟩ := hW
  have hA : DataW.TrodAll enc Try.prog W 0 (fun _ => true) true Try.f13.params.toList args.toList ds p := hA0
  rw [Try.params13] at hA hval
  obtain ⟨v0, vs0, d0, ds0, p0, q0, hargs, rfl, rfl, h0, r0⟩ := trodAll_cons hA
  obtain ⟨v1, vs1, d1, ds1, p1, q1, rfl, rfl, rfl, h1, r1⟩ := trodAll_cons r0
  obtain ⟨rfl, rfl, rfl⟩ := trodAll_nil r1
  obtain rfl : args = #[v0, v1] := by cases args; simp_all
  obtain ⟨rfl, rfl⟩ := trodVars_none hV
  suffices hwalk : Calls Try.prog 13 #[v0, v1] W fun e w' => e = .returned (.bool true) ∧ Kept NoBlk W w' by
    refine hwalk.mono fun e W' ⟨he, hg⟩ => ?_
    subst he
    exact ⟨_, rfl, law_post (tb := 4) laidOut (by rw [Try.params13]; decide +kernel) rfl Try.underlying4 rfl rfl hW' hg.below⟩
  have hlt : ∀ x ∈ p0 ++ (p1 ++ []), x.block < W.heap.size := fun x hx => hW'.lt x (by simpa using hx)
  obtain ⟨x0_0, x0_1, x0_2, rfl, ⟨l0_0, g0_0⟩, ⟨l0_1, g0_1⟩, ⟨l0_2, g0_2⟩⟩ := open_arr3 Try.underlying51 Try.underlying3 (by kernel_rfl) (by kernel_rfl) (hval 0 51 v0 rfl rfl) h0
  obtain ⟨a1, rfl, rfl, rfl, w1⟩ := open_int Try.underlying3 (hval 1 3 v1 rfl rfl) h1
  obtain ⟨l1, g1⟩ := bd_i64 w1
  have hb := pk_bd x0_0 1000 (by omega)
  have hs := pk_bd x0_1 300 (by omega)
  have ht := pk_bd x0_2 (pk x0_1 300 + 1) (by omega)
  have hp := pk_bd a1 1400 (by omega)
  exact has_walk x0_0 x0_1 x0_2 a1 _ _ _ _ W rfl rfl rfl rfl hb.1 hb.2 hs.1 hs.2 ht.1 ht.2 hp.1 hp.2 l0_0 g0_0 l0_1 g0_1 l0_2 g0_2 l1 g1

theorem SpaceHas_over : Rows.spaceHasRow.holds Try.pinned (OpenSpec.ofChange Rows.spaceHasSpec) :=
  OpenClaim.holds_of_wide 13 Try.f13 rfl rfl rfl rfl rfl rfl rfl ⟨rfl, rfl, rfl, rfl, rfl⟩ rfl rfl rfl rfl rfl (by as_aux_lemma => kernel_rfl) Try.func13 (joined_of laidOut mayYes liftsNo makeCut (by as_aux_lemma => kernel_rfl))
    (of_decide_eq_true (by as_aux_lemma => kernel_rfl)) (by unfold Func.isWrapper; first | (rw [if_pos (by decide +kernel)]; kernel_rfl) | (rw [if_neg (by decide +kernel)]; exact ⟨rfl, rfl⟩))
    (fun os started H enc _ => SpaceHas_lifted os started H enc)

theorem SpaceHas_proved : Rows.SpaceHasSaid := SpaceHas_over
#print axioms SpaceHas_proved
end Go.Proofs.Ytenphgmohhdjeaa
