/-
  What was Set in a part, Get tells, and a part that has no bit in common is as it was (the law WordSets answers true at every input).
  Conditions: none.
-/
import Derived.Test.YtenphgmohhdjeaaLaw01
import Derived.Test.YtenphgmohhdjeaaAwake01
import Derived.Test.YtenphgmohhdjeaaArr
import Derived.Test.YtenphgmohhdjeaaRow
namespace Go.Proofs.Ytenphgmohhdjeaa
open Go.ChangeShapes Go.WideShapes Go.ChangeAt Go.RowKit

set_option maxRecDepth 100000 in
theorem WordSets_lifted (os : Os) (started : os.Started) (H : Type) (enc : TypeId × Value → H) :
    ReturnsInHanded {} Try.checked os 17 .any (Rows.wordSetsSpec.pre6 enc Try.prog Try.f17 Rows.wordSetsRow.domain false) (Rows.wordSetsSpec.post enc Try.prog Try.f17 false true false false) := by
  refine returnsInHanded_of_change (C := Try.checked) own started (by kernel_rfl) Try.func17
    (ChangeSpec.witness6 (enc := enc) (C := Try.checked) false ⟨#[], #[.int .u64 0, .int .u64 0, .agg #[.int .i64 0, .int .i64 0], .agg #[.int .i64 0, .int .i64 0]], []⟩ 8 (by kernel_rfl) (by kernel_rfl) (by kernel_rfl) (by kernel_rfl)) ?_
  intro W base args ds gs before hval0 hW hcnd _
  have hval : ∀ (j : Nat) t v, Try.f17.params[j]? = some t → args[j]? = some v → Value.okWide Try.prog W .any base t v := hval0
  have hW' := hW
  obtain ⟨p, q, hA0, hV, rfl, hfz, hnd⟩ := hW
  have hA : DataW.TrodAll enc Try.prog W 0 (fun _ => true) true Try.f17.params.toList args.toList ds p := hA0
  rw [Try.params17] at hA hval
  obtain ⟨v0, vs0, d0, ds0, p0, q0, hargs, rfl, rfl, h0, r0⟩ := trodAll_cons hA
  obtain ⟨v1, vs1, d1, ds1, p1, q1, rfl, rfl, rfl, h1, r1⟩ := trodAll_cons r0
  obtain ⟨v2, vs2, d2, ds2, p2, q2, rfl, rfl, rfl, h2, r2⟩ := trodAll_cons r1
  obtain ⟨v3, vs3, d3, ds3, p3, q3, rfl, rfl, rfl, h3, r3⟩ := trodAll_cons r2
  obtain ⟨rfl, rfl, rfl⟩ := trodAll_nil r3
  obtain rfl : args = #[v0, v1, v2, v3] := by cases args; simp_all
  obtain ⟨rfl, rfl⟩ := trodVars_none hV
  suffices hwalk : Calls Try.prog 17 #[v0, v1, v2, v3] W fun e w' => e = .returned (.bool true) ∧ Kept NoBlk W w' by
    refine hwalk.mono fun e W' ⟨he, hg⟩ => ?_
    subst he
    exact ⟨_, rfl, law_post (tb := 4) laidOut (by rw [Try.params17]; decide +kernel) rfl Try.underlying4 rfl rfl hW' hg.below⟩
  have hlt : ∀ x ∈ p0 ++ (p1 ++ (p2 ++ (p3 ++ []))), x.block < W.heap.size := fun x hx => hW'.lt x (by simpa using hx)
  obtain ⟨a0, rfl, rfl, rfl, w0⟩ := open_int Try.underlying32 (hval 0 32 v0 rfl rfl) h0
  obtain ⟨l0, g0⟩ := bd_u64 w0
  obtain ⟨a1, rfl, rfl, rfl, w1⟩ := open_int Try.underlying32 (hval 1 32 v1 rfl rfl) h1
  obtain ⟨l1, g1⟩ := bd_u64 w1
  obtain ⟨x2_0, x2_1, rfl, ⟨l2_0, g2_0⟩, ⟨l2_1, g2_1⟩⟩ := open_arr2 Try.underlying68 Try.underlying3 (by kernel_rfl) (by kernel_rfl) (hval 2 68 v2 rfl rfl) h2
  obtain ⟨x3_0, x3_1, rfl, ⟨l3_0, g3_0⟩, ⟨l3_1, g3_1⟩⟩ := open_arr2 Try.underlying68 Try.underlying3 (by kernel_rfl) (by kernel_rfl) (hval 3 68 v3 rfl rfl) h3
  obtain ⟨X0, rfl⟩ := Int.eq_ofNat_of_zero_le l0
  obtain ⟨X1, rfl⟩ := Int.eq_ofNat_of_zero_le l1
  exact sets_walk X0 X1 x2_0 x2_1 x3_0 x3_1 W (by omega) (by omega) l2_0 g2_0 l2_1 g2_1 l3_0 g3_0 l3_1 g3_1 awake01

theorem WordSets_over : Rows.wordSetsRow.holds Try.pinned (OpenSpec.ofChange Rows.wordSetsSpec) :=
  OpenClaim.holds_of_wide 17 Try.f17 rfl rfl rfl rfl rfl rfl rfl ⟨rfl, rfl, rfl, rfl, rfl⟩ rfl rfl rfl rfl rfl (by as_aux_lemma => kernel_rfl) Try.func17 (joined_of laidOut mayYes liftsNo makeCut (by as_aux_lemma => kernel_rfl))
    (of_decide_eq_true (by as_aux_lemma => kernel_rfl)) (by unfold Func.isWrapper; first | (rw [if_pos (by decide +kernel)]; kernel_rfl) | (rw [if_neg (by decide +kernel)]; exact ⟨rfl, rfl⟩))
    (fun os started H enc _ => WordSets_lifted os started H enc)

theorem WordSets_proved : Rows.WordSetsSaid := WordSets_over
#print axioms WordSets_proved
end Go.Proofs.Ytenphgmohhdjeaa
