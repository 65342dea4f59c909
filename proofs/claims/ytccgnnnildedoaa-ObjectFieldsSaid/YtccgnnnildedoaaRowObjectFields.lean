/-
  Just the fields that its shape has are told, and set; errors change nothing (the law ObjectFields answers true at every input).
  Conditions: none.
-/
import Derived.Test.YtccgnnnildedoaaLaw07b
import Derived.Test.YtccgnnnildedoaaArr
import Derived.Test.YtccgnnnildedoaaRow
namespace Go.Proofs.Ytccgnnnildedoaa
open Go.ChangeShapes Go.WideShapes Go.ChangeAt Go.RowKit

set_option maxRecDepth 100000 in
theorem ObjectFields_lifted (os : Os) (started : os.Started) (H : Type) (enc : TypeId × Value → H) :
    ReturnsInHanded {} Try.checked os 9 .any (Rows.objectFieldsSpec.pre6 enc Try.prog Try.f9 Rows.objectFieldsRow.domain false) (Rows.objectFieldsSpec.post enc Try.prog Try.f9 false true false false) := by
  refine returnsInHanded_of_change (C := Try.checked) own started (by kernel_rfl) Try.func9
    (ChangeSpec.witness6 (enc := enc) (C := Try.checked) false ⟨#[], #[.agg #[.int .i64 0, .int .i64 0, .int .i64 0], .int .i64 0, .int .i64 0], []⟩ 8 (by kernel_rfl) (by kernel_rfl) (by kernel_rfl) (by kernel_rfl)) ?_
  intro W base args ds gs before hval0 hW hcnd _
  have hval : ∀ (j : Nat) t v, Try.f9.params[j]? = some t → args[j]? = some v → Value.okWide Try.prog W .any base t v := hval0
  have hW' := hW
  obtain ⟨p, q, hA0, hV, rfl, hfz, hnd⟩ := hW
  have hA : DataW.TrodAll enc Try.prog W 0 (fun _ => true) true Try.f9.params.toList args.toList ds p := hA0
  rw [Try.params9] at hA hval
  obtain ⟨v0, vs0, d0, ds0, p0, q0, hargs, rfl, rfl, h0, r0⟩ := trodAll_cons hA
  obtain ⟨v1, vs1, d1, ds1, p1, q1, rfl, rfl, rfl, h1, r1⟩ := trodAll_cons r0
  obtain ⟨v2, vs2, d2, ds2, p2, q2, rfl, rfl, rfl, h2, r2⟩ := trodAll_cons r1
  obtain ⟨rfl, rfl, rfl⟩ := trodAll_nil r2
  obtain rfl : args = #[v0, v1, v2] := by cases args; simp_all
  obtain ⟨rfl, rfl⟩ := trodVars_none hV
  suffices hwalk : Calls Try.prog 9 #[v0, v1, v2] W fun e w' => e = .returned (.bool true) ∧ Kept NoBlk W w' by
    refine hwalk.mono fun e W' ⟨he, hg⟩ => ?_
    subst he
    exact ⟨_, rfl, law_post (tb := 4) laidOut (by rw [Try.params9]; decide +kernel) rfl Try.underlying4 rfl rfl hW' hg.below⟩
  have hlt : ∀ x ∈ p0 ++ (p1 ++ (p2 ++ [])), x.block < W.heap.size := fun x hx => hW'.lt x (by simpa using hx)
  obtain ⟨x0_0, x0_1, x0_2, rfl, ⟨l0_0, g0_0⟩, ⟨l0_1, g0_1⟩, ⟨l0_2, g0_2⟩⟩ := open_arr3 Try.underlying22 Try.underlying3 (by kernel_rfl) (by kernel_rfl) (hval 0 22 v0 rfl rfl) h0
  obtain ⟨a1, rfl, rfl, rfl, w1⟩ := open_int Try.underlying3 (hval 1 3 v1 rfl rfl) h1
  obtain ⟨l1, g1⟩ := bd_i64 w1
  obtain ⟨a2, rfl, rfl, rfl, w2⟩ := open_int Try.underlying3 (hval 2 3 v2 rfl rfl) h2
  obtain ⟨l2, g2⟩ := bd_i64 w2
  have hm := pk_bd a2 99 (by omega)
  obtain ⟨m, hm2⟩ := Int.eq_ofNat_of_zero_le hm.1
  have hm3 : m < 99 := by omega
  by_cases h : a2.tmod 2 = 0
  · exact fields_walk7 x0_0 x0_1 x0_2 a1 a2 (pk a1 10 - 1) m W (Lib.hid hm2.symm) hm3 (.inl ⟨h, rfl⟩) l0_0 g0_0 l0_1 g0_1 l0_2 g0_2 l1 g1 l2 g2
  · exact fields_walk7 x0_0 x0_1 x0_2 a1 a2 a1 m W (Lib.hid hm2.symm) hm3 (.inr ⟨h, rfl⟩) l0_0 g0_0 l0_1 g0_1 l0_2 g0_2 l1 g1 l2 g2

theorem ObjectFields_over : Rows.objectFieldsRow.holds Try.pinned (OpenSpec.ofChange Rows.objectFieldsSpec) :=
  OpenClaim.holds_of_wide 9 Try.f9 rfl rfl rfl rfl rfl rfl rfl ⟨rfl, rfl, rfl, rfl, rfl⟩ rfl rfl rfl rfl rfl (by as_aux_lemma => kernel_rfl) Try.func9 (joined_of laidOut mayYes liftsNo makeCut (by as_aux_lemma => kernel_rfl))
    (of_decide_eq_true (by as_aux_lemma => kernel_rfl)) (by unfold Func.isWrapper; first | (rw [if_pos (by decide +kernel)]; kernel_rfl) | (rw [if_neg (by decide +kernel)]; exact ⟨rfl, rfl⟩))
    (fun os started H enc _ => ObjectFields_lifted os started H enc)

theorem ObjectFields_proved : Rows.ObjectFieldsSaid := ObjectFields_over
#print axioms ObjectFields_proved
end Go.Proofs.Ytccgnnnildedoaa
