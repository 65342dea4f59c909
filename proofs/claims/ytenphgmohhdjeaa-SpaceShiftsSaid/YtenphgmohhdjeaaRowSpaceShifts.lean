/-
  A space that begins elsewhere is taken just so, each place by as much farther (the law SpaceShifts answers true at every input).
  Conditions: none.
-/
import Derived.Test.YtenphgmohhdjeaaLawShifts
import Derived.Test.YtenphgmohhdjeaaArr
import Derived.Test.YtenphgmohhdjeaaRow
namespace Go.Proofs.Ytenphgmohhdjeaa
open Go.ChangeShapes Go.WideShapes Go.ChangeAt Go.RowKit

set_option maxRecDepth 100000 in
theorem SpaceShifts_lifted (os : Os) (started : os.Started) (H : Type) (enc : TypeId × Value → H) :
    ReturnsInHanded {} Try.checked os 16 .any (Rows.spaceShiftsSpec.pre6 enc Try.prog Try.f16 Rows.spaceShiftsRow.domain false) (Rows.spaceShiftsSpec.post enc Try.prog Try.f16 false true false false) := by
  refine returnsInHanded_of_change (C := Try.checked) own started (by kernel_rfl) Try.func16
    (ChangeSpec.witness6 (enc := enc) (C := Try.checked) false ⟨#[], #[.agg #[.int .i64 0, .int .i64 0, .int .i64 0], .int .i64 0, .slice none 0 0], []⟩ 8 (by kernel_rfl) (by kernel_rfl) (by kernel_rfl) (by kernel_rfl)) ?_
  intro W base args ds gs before hval0 hW hcnd _
  have hval : ∀ (j : Nat) t v, Try.f16.params[j]? = some t → args[j]? = some v → Value.okWide Try.prog W .any base t v := hval0
  have hW' := hW
  obtain ⟨p, q, hA0, hV, rfl, hfz, hnd⟩ := hW
  have hA : DataW.TrodAll enc Try.prog W 0 (fun _ => true) true Try.f16.params.toList args.toList ds p := hA0
  rw [Try.params16] at hA hval
  obtain ⟨v0, vs0, d0, ds0, p0, q0, hargs, rfl, rfl, h0, r0⟩ := trodAll_cons hA
  obtain ⟨v1, vs1, d1, ds1, p1, q1, rfl, rfl, rfl, h1, r1⟩ := trodAll_cons r0
  obtain ⟨v2, vs2, d2, ds2, p2, q2, rfl, rfl, rfl, h2, r2⟩ := trodAll_cons r1
  obtain ⟨rfl, rfl, rfl⟩ := trodAll_nil r2
  obtain rfl : args = #[v0, v1, v2] := by cases args; simp_all
  obtain ⟨rfl, rfl⟩ := trodVars_none hV
  suffices hwalk : Calls Try.prog 16 #[v0, v1, v2] W fun e w' => e = .returned (.bool true) ∧ Kept NoBlk W w' by
    refine hwalk.mono fun e W' ⟨he, hg⟩ => ?_
    subst he
    exact ⟨_, rfl, law_post (tb := 4) laidOut (by rw [Try.params16]; decide +kernel) rfl Try.underlying4 rfl rfl hW' hg.below⟩
  have hlt : ∀ x ∈ p0 ++ (p1 ++ (p2 ++ [])), x.block < W.heap.size := fun x hx => hW'.lt x (by simpa using hx)
  obtain ⟨x0_0, x0_1, x0_2, rfl, ⟨l0_0, g0_0⟩, ⟨l0_1, g0_1⟩, ⟨l0_2, g0_2⟩⟩ := open_arr3 Try.underlying51 Try.underlying3 (by kernel_rfl) (by kernel_rfl) (hval 0 51 v0 rfl rfl) h0
  obtain ⟨a1, rfl, rfl, rfl, w1⟩ := open_int Try.underlying3 (hval 1 3 v1 rfl rfl) h1
  obtain ⟨l1, g1⟩ := bd_i64 w1
  obtain ⟨A2, n2, c2, rfl⟩ := okWide_slice Try.underlying58 (hval 2 58 v2 rfl rfl)
  obtain ⟨f2, hf2⟩ := h2
  have R2 : ReadsT Try.prog W W.heap.size 4 58 [.slice A2 n2 c2] := reads_of_trod 4 hf2
  have hb := pk_bd x0_0 1000 (by omega)
  have hs := pk_bd x0_1 300 (by omega)
  have ht := pk_bd x0_2 (pk x0_1 300 + 1) (by omega)
  have hd := pk_bd a1 1000 (by omega)
  obtain ⟨k1, k2, k3⟩ := ints_of R2
  exact shifts_walk x0_0 x0_1 x0_2 a1 _ _ _ _ A2 n2 c2 W rfl rfl rfl rfl hb.1 hb.2 hs.1 hs.2 ht.1 ht.2 hd.1 hd.2 l0_0 g0_0 l0_1 g0_1 l0_2 g0_2 l1 g1 (by unfold maxLen at k2; omega) k3

theorem SpaceShifts_over : Rows.spaceShiftsRow.holds Try.pinned (OpenSpec.ofChange Rows.spaceShiftsSpec) :=
  OpenClaim.holds_of_wide 16 Try.f16 rfl rfl rfl rfl rfl rfl rfl ⟨rfl, rfl, rfl, rfl, rfl⟩ rfl rfl rfl rfl rfl (by as_aux_lemma => kernel_rfl) Try.func16 (joined_of laidOut mayYes liftsNo makeCut (by as_aux_lemma => kernel_rfl))
    (of_decide_eq_true (by as_aux_lemma => kernel_rfl)) (by unfold Func.isWrapper; first | (rw [if_pos (by decide +kernel)]; kernel_rfl) | (rw [if_neg (by decide +kernel)]; exact ⟨rfl, rfl⟩))
    (fun os started H enc _ => SpaceShifts_lifted os started H enc)

theorem SpaceShifts_proved : Rows.SpaceShiftsSaid := SpaceShifts_over
#print axioms SpaceShifts_proved
end Go.Proofs.Ytenphgmohhdjeaa
