/-
  A stretch of an arena that is filled is of that word, the others are as they were (the law ArenaFills answers true at every input).
  Conditions: none.
-/
import Derived.Test.YtenphgmohhdjeaaLawFills
import Derived.Test.YtenphgmohhdjeaaRow
namespace Go.Proofs.Ytenphgmohhdjeaa
open Go.ChangeShapes Go.WideShapes Go.ChangeAt Go.RowKit

set_option maxRecDepth 100000 in
theorem ArenaFills_lifted (os : Os) (started : os.Started) (H : Type) (enc : TypeId × Value → H) :
    ReturnsInHanded {} Try.checked os 7 .any (Rows.arenaFillsSpec.pre6 enc Try.prog Try.f7 Rows.arenaFillsRow.domain false) (Rows.arenaFillsSpec.post enc Try.prog Try.f7 false true false false) := by
  refine returnsInHanded_of_change (C := Try.checked) own started (by kernel_rfl) Try.func7
    (ChangeSpec.witness6 (enc := enc) (C := Try.checked) false ⟨#[], #[.int .i64 0, .slice none 0 0, .int .i64 0, .int .i64 0, .int .u64 0], []⟩ 8 (by kernel_rfl) (by kernel_rfl) (by kernel_rfl) (by kernel_rfl)) ?_
  intro W base args ds gs before hval0 hW hcnd _
  have hval : ∀ (j : Nat) t v, Try.f7.params[j]? = some t → args[j]? = some v → Value.okWide Try.prog W .any base t v := hval0
  have hW' := hW
  obtain ⟨p, q, hA0, hV, rfl, hfz, hnd⟩ := hW
  have hA : DataW.TrodAll enc Try.prog W 0 (fun _ => true) true Try.f7.params.toList args.toList ds p := hA0
  rw [Try.params7] at hA hval
  obtain ⟨v0, vs0, d0, ds0, p0, q0, hargs, rfl, rfl, h0, r0⟩ := trodAll_cons hA
  obtain ⟨v1, vs1, d1, ds1, p1, q1, rfl, rfl, rfl, h1, r1⟩ := trodAll_cons r0
  obtain ⟨v2, vs2, d2, ds2, p2, q2, rfl, rfl, rfl, h2, r2⟩ := trodAll_cons r1
  obtain ⟨v3, vs3, d3, ds3, p3, q3, rfl, rfl, rfl, h3, r3⟩ := trodAll_cons r2
  obtain ⟨v4, vs4, d4, ds4, p4, q4, rfl, rfl, rfl, h4, r4⟩ := trodAll_cons r3
  obtain ⟨rfl, rfl, rfl⟩ := trodAll_nil r4
  obtain rfl : args = #[v0, v1, v2, v3, v4] := by cases args; simp_all
  obtain ⟨rfl, rfl⟩ := trodVars_none hV
  suffices hwalk : Calls Try.prog 7 #[v0, v1, v2, v3, v4] W fun e w' => e = .returned (.bool true) ∧ Kept NoBlk W w' by
    refine hwalk.mono fun e W' ⟨he, hg⟩ => ?_
    subst he
    exact ⟨_, rfl, law_post (tb := 4) laidOut (by rw [Try.params7]; decide +kernel) rfl Try.underlying4 rfl rfl hW' hg.below⟩
  have hlt : ∀ x ∈ p0 ++ (p1 ++ (p2 ++ (p3 ++ (p4 ++ [])))), x.block < W.heap.size := fun x hx => hW'.lt x (by simpa using hx)
  obtain ⟨a0, rfl, rfl, rfl, w0⟩ := open_int Try.underlying3 (hval 0 3 v0 rfl rfl) h0
  obtain ⟨l0, g0⟩ := bd_i64 w0
  obtain ⟨A1, n1, c1, rfl⟩ := okWide_slice Try.underlying22 (hval 1 22 v1 rfl rfl)
  obtain ⟨f1, hf1⟩ := h1
  have R1 : ReadsT Try.prog W W.heap.size 4 22 [.slice A1 n1 c1] := reads_of_trod 4 hf1
  obtain ⟨a2, rfl, rfl, rfl, w2⟩ := open_int Try.underlying3 (hval 2 3 v2 rfl rfl) h2
  obtain ⟨l2, g2⟩ := bd_i64 w2
  obtain ⟨a3, rfl, rfl, rfl, w3⟩ := open_int Try.underlying3 (hval 3 3 v3 rfl rfl) h3
  obtain ⟨l3, g3⟩ := bd_i64 w3
  obtain ⟨a4, rfl, rfl, rfl, w4⟩ := open_int Try.underlying32 (hval 4 32 v4 rfl rfl) h4
  obtain ⟨l4, g4⟩ := bd_u64 w4
  have hr := pk_bd a0 40 (by omega)
  have hs := pk_bd a2 (1 + pk a0 40 + 1) (by omega)
  have hu := pk_bd a3 (1 + pk a0 40 - pk a2 (1 + pk a0 40 + 1) + 1) (by omega)
  obtain ⟨k1, k2, k3⟩ := op02_of R1
  exact fills_walk a0 _ a2 _ a3 _ a4 A1 n1 c1 W rfl hr.1 hr.2 rfl hs.1 hs.2 rfl hu.1 hu.2 l0 g0 l2 g2 l3 g3 (by unfold maxLen at k2; omega) k3

theorem ArenaFills_over : Rows.arenaFillsRow.holds Try.pinned (OpenSpec.ofChange Rows.arenaFillsSpec) :=
  OpenClaim.holds_of_wide 7 Try.f7 rfl rfl rfl rfl rfl rfl rfl ⟨rfl, rfl, rfl, rfl, rfl⟩ rfl rfl rfl rfl rfl (by as_aux_lemma => kernel_rfl) Try.func7 (joined_of laidOut mayYes liftsNo makeCut (by as_aux_lemma => kernel_rfl))
    (of_decide_eq_true (by as_aux_lemma => kernel_rfl)) (by unfold Func.isWrapper; first | (rw [if_pos (by decide +kernel)]; kernel_rfl) | (rw [if_neg (by decide +kernel)]; exact ⟨rfl, rfl⟩))
    (fun os started H enc _ => ArenaFills_lifted os started H enc)

theorem ArenaFills_proved : Rows.ArenaFillsSaid := ArenaFills_over
#print axioms ArenaFills_proved
end Go.Proofs.Ytenphgmohhdjeaa
