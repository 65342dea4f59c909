/-
  Unpack undoes Pack (the law WordBack answers true at every input).
  Conditions: none.
-/
import Derived.Test.YtenphgmohhdjeaaWBack
import Derived.Test.YtenphgmohhdjeaaRow
namespace Go.Proofs.Ytenphgmohhdjeaa
open Go.ChangeShapes Go.WideShapes Go.ChangeAt Go.RowKit

set_option maxRecDepth 100000 in
theorem WordBack_lifted (os : Os) (started : os.Started) (H : Type) (enc : TypeId × Value → H) :
    ReturnsInHanded {} Try.checked os 18 .any (Rows.wordBackSpec.pre6 enc Try.prog Try.f18 Rows.wordBackRow.domain false) (Rows.wordBackSpec.post enc Try.prog Try.f18 false true false false) := by
  refine returnsInHanded_of_change (C := Try.checked) own started (by kernel_rfl) Try.func18
    (ChangeSpec.witness6 (enc := enc) (C := Try.checked) false ⟨#[], #[.slice none 0 0, .slice none 0 0], []⟩ 8 (by kernel_rfl) (by kernel_rfl) (by kernel_rfl) (by kernel_rfl)) ?_
  intro W base args ds gs before hval0 hW hcnd _
  have hval : ∀ (j : Nat) t v, Try.f18.params[j]? = some t → args[j]? = some v → Value.okWide Try.prog W .any base t v := hval0
  have hW' := hW
  obtain ⟨p, q, hA0, hV, rfl, hfz, hnd⟩ := hW
  have hA : DataW.TrodAll enc Try.prog W 0 (fun _ => true) true Try.f18.params.toList args.toList ds p := hA0
  rw [Try.params18] at hA hval
  obtain ⟨v0, vs0, d0, ds0, p0, q0, hargs, rfl, rfl, h0, r0⟩ := trodAll_cons hA
  obtain ⟨v1, vs1, d1, ds1, p1, q1, rfl, rfl, rfl, h1, r1⟩ := trodAll_cons r0
  obtain ⟨rfl, rfl, rfl⟩ := trodAll_nil r1
  obtain rfl : args = #[v0, v1] := by cases args; simp_all
  obtain ⟨rfl, rfl⟩ := trodVars_none hV
  suffices hwalk : Calls Try.prog 18 #[v0, v1] W fun e w' => e = .returned (.bool true) ∧ Kept NoBlk W w' by
    refine hwalk.mono fun e W' ⟨he, hg⟩ => ?_
    subst he
    exact ⟨_, rfl, law_post (tb := 4) laidOut (by rw [Try.params18]; decide +kernel) rfl Try.underlying4 rfl rfl hW' hg.below⟩
  have hlt : ∀ x ∈ p0 ++ (p1 ++ []), x.block < W.heap.size := fun x hx => hW'.lt x (by simpa using hx)
  obtain ⟨A0, n0, c0, rfl⟩ := okWide_slice Try.underlying58 (hval 0 58 v0 rfl rfl)
  obtain ⟨f0, hf0⟩ := h0
  have R0 : ReadsT Try.prog W W.heap.size 4 58 [.slice A0 n0 c0] := reads_of_trod 4 hf0
  obtain ⟨A1, n1, c1, rfl⟩ := okWide_slice Try.underlying42 (hval 1 42 v1 rfl rfl)
  obtain ⟨f1, hf1⟩ := h1
  have R1 : ReadsT Try.prog W W.heap.size 4 42 [.slice A1 n1 c1] := reads_of_trod 4 hf1
  obtain ⟨k1, k2, k3⟩ := ints_of R0
  obtain ⟨k4, k5, k6⟩ := u64s_of R1
  exact back_walk A0 A1 n0 c0 n1 c1 W (by unfold maxLen at k2; omega) k3 (by unfold maxLen at k5; omega) k6

theorem WordBack_over : Rows.wordBackRow.holds Try.pinned (OpenSpec.ofChange Rows.wordBackSpec) :=
  OpenClaim.holds_of_wide 18 Try.f18 rfl rfl rfl rfl rfl rfl rfl ⟨rfl, rfl, rfl, rfl, rfl⟩ rfl rfl rfl rfl rfl (by as_aux_lemma => kernel_rfl) Try.func18 (joined_of laidOut mayYes liftsNo makeCut (by as_aux_lemma => kernel_rfl))
    (of_decide_eq_true (by as_aux_lemma => kernel_rfl)) (by unfold Func.isWrapper; first | (rw [if_pos (by decide +kernel)]; kernel_rfl) | (rw [if_neg (by decide +kernel)]; exact ⟨rfl, rfl⟩))
    (fun os started H enc _ => WordBack_lifted os started H enc)

theorem WordBack_proved : Rows.WordBackSaid := WordBack_over
#print axioms WordBack_proved
end Go.Proofs.Ytenphgmohhdjeaa
