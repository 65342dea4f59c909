/-
  Pack undoes Unpack; what has more bits than widths is not unpacked (the law WordForth answers true at every input).
  Conditions: none.
-/
import Derived.Test.YtenphgmohhdjeaaWForth
import Derived.Test.YtenphgmohhdjeaaRow
namespace Go.Proofs.Ytenphgmohhdjeaa
open Go.ChangeShapes Go.WideShapes Go.ChangeAt Go.RowKit

set_option maxRecDepth 100000 in
theorem WordForth_lifted (os : Os) (started : os.Started) (H : Type) (enc : TypeId × Value → H) :
    ReturnsInHanded {} Try.checked os 19 .any (Rows.wordForthSpec.pre6 enc Try.prog Try.f19 Rows.wordForthRow.domain false) (Rows.wordForthSpec.post enc Try.prog Try.f19 false true false false) := by
  refine returnsInHanded_of_change (C := Try.checked) own started (by kernel_rfl) Try.func19
    (ChangeSpec.witness6 (enc := enc) (C := Try.checked) false ⟨#[], #[.slice none 0 0, .int .u64 0], []⟩ 8 (by kernel_rfl) (by kernel_rfl) (by kernel_rfl) (by kernel_rfl)) ?_
  intro W base args ds gs before hval0 hW hcnd _
  have hval : ∀ (j : Nat) t v, Try.f19.params[j]? = some t → args[j]? = some v → Value.okWide Try.prog W .any base t v := hval0
  have hW' := hW
  obtain ⟨p, q, hA0, hV, rfl, hfz, hnd⟩ := hW
  have hA : DataW.TrodAll enc Try.prog W 0 (fun _ => true) true Try.f19.params.toList args.toList ds p := hA0
  rw [Try.params19] at hA hval
  obtain ⟨v0, vs0, d0, ds0, p0, q0, hargs, rfl, rfl, h0, r0⟩ := trodAll_cons hA
  obtain ⟨v1, vs1, d1, ds1, p1, q1, rfl, rfl, rfl, h1, r1⟩ := trodAll_cons r0
  obtain ⟨rfl, rfl, rfl⟩ := trodAll_nil r1
  obtain rfl : args = #[v0, v1] := by cases args; simp_all
  obtain ⟨rfl, rfl⟩ := trodVars_none hV
  suffices hwalk : Calls Try.prog 19 #[v0, v1] W fun e w' => e = .returned (.bool true) ∧ Kept NoBlk W w' by
    refine hwalk.mono fun e W' ⟨he, hg⟩ => ?_
    subst he
    exact ⟨_, rfl, law_post (tb := 4) laidOut (by rw [Try.params19]; decide +kernel) rfl Try.underlying4 rfl rfl hW' hg.below⟩
  have hlt : ∀ x ∈ p0 ++ (p1 ++ []), x.block < W.heap.size := fun x hx => hW'.lt x (by simpa using hx)
  obtain ⟨A0, n0, c0, rfl⟩ := okWide_slice Try.underlying58 (hval 0 58 v0 rfl rfl)
  obtain ⟨f0, hf0⟩ := h0
  have R0 : ReadsT Try.prog W W.heap.size 4 58 [.slice A0 n0 c0] := reads_of_trod 4 hf0
  obtain ⟨a1, rfl, rfl, rfl, w1⟩ := open_int Try.underlying32 (hval 1 32 v1 rfl rfl) h1
  obtain ⟨l1, g1⟩ := bd_u64 w1
  obtain ⟨X1, rfl⟩ := Int.eq_ofNat_of_zero_le l1
  obtain ⟨k1, k2, k3⟩ := ints_of R0
  exact forth_walk A0 n0 c0 X1 W (by unfold maxLen at k2; omega) k3 (by omega)

theorem WordForth_over : Rows.wordForthRow.holds Try.pinned (OpenSpec.ofChange Rows.wordForthSpec) :=
  OpenClaim.holds_of_wide 19 Try.f19 rfl rfl rfl rfl rfl rfl rfl ⟨rfl, rfl, rfl, rfl, rfl⟩ rfl rfl rfl rfl rfl (by as_aux_lemma => kernel_rfl) Try.func19 (joined_of laidOut mayYes liftsNo makeCut (by as_aux_lemma => kernel_rfl))
    (of_decide_eq_true (by as_aux_lemma => kernel_rfl)) (by unfold Func.isWrapper; first | (rw [if_pos (by decide +kernel)]; kernel_rfl) | (rw [if_neg (by decide +kernel)]; exact ⟨rfl, rfl⟩))
    (fun os started H enc _ => WordForth_lifted os started H enc)

theorem WordForth_proved : Rows.WordForthSaid := WordForth_over
#print axioms WordForth_proved
end Go.Proofs.Ytenphgmohhdjeaa
