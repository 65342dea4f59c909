/-
  The last step of every statement of this seat: a law whose call returns true and leaves all old memory as it was meets its row.
  Conditions: as each statement says.
-/
import Derived.Test.YtccgnnnildedoaaRows
import Derived.Test.YtccgnnnildedoaaBase
import Derived.ProofKit
import Derived.OpenShut
import Derived.Carry
set_option linter.unusedVariables false
namespace Go.Proofs.Ytccgnnnildedoaa
open Go.ChangeShapes Go.WideShapes Go.ChangeAt Go.RowKit

theorem own : ownKnob Try.prog.godebug = none := by kernel_rfl
theorem laidOut : laidOutB Try.prog = true := by kernel_rfl

section
variable {H : Type} {enc : TypeId × Value → H} {P : Program}

theorem trodAll_below {W W' : World} (hl : laidOutB P = true) (hb : Below W.heap.size W W') : ∀ {ts : List TypeId} {vs : List Value} {ds : List (DataW H)} {ps : List MemPlace},
    (∀ t ∈ ts, P.readableRec t = true ∧ t < P.types.size) → (∀ x ∈ ps, x.block < W.heap.size) → DataW.TrodAll enc P W 0 (fun _ => true) true ts vs ds ps →
    DataW.TrodAll enc P W' 0 (fun b => decide (b < W.heap.size)) true ts vs ds ps
  | [], [], [], _, _, _, h => h
  | t :: ts, v :: vs, d :: ds, ps, hts, hlt, h => by
    obtain ⟨p, q, h1, h2, rfl⟩ := h
    have ht := hts t (by simp)
    exact ⟨p, q, Below.trod hl ht.1 ht.2 h1 hb (fun x hx => hlt x (by simp [hx])), trodAll_below hl hb (fun t' ht' => hts t' (by simp [ht'])) (fun x hx => hlt x (by simp [hx])) h2, rfl⟩
  | [], [], _ :: _, _, _, _, h => h.elim
  | [], _ :: _, _, _, _, _, h => h.elim
  | _ :: _, [], _, _, _, _, h => h.elim
  | _ :: _, _ :: _, [], _, _, _, h => h.elim

theorem law_post {f : Func} {s : ChangeSpec} {apart : Bool} {W W' : World} {args : Array Value} {ds gs : List (DataW H)} {before : List MemPlace} {tb : TypeId}
    (hl : laidOutB P = true) (hts : ∀ t ∈ f.params.toList, P.readableRec t = true ∧ t < P.types.size)
    (hrt : f.resultTypes = #[tb]) (hub : P.underlying tb = some .bool) (hvars : s.vars = [])
    (hspec : s.fn H (ds ++ gs) = { results := [.lit (.bool true)], args := ds })
    (hW : DataW.Whole enc P f.params.toList s.vars apart W args.toList ds gs before) (hb : Below W.heap.size W W') :
    s.post enc P f apart true false false W args (.bool true) W' := by
  have hlt : ∀ p ∈ before, p.block < W.heap.size := fun p hp => hW.lt p hp
  obtain ⟨p, q, hA, hV, hpq, hfz, hnd⟩ := hW
  rw [hvars] at hV
  obtain ⟨rfl, rfl⟩ := trodVars_none hV
  subst hpq
  refine ⟨ds, [], p ++ [], [], p, [], ⟨p, [], hA, by rw [hvars]; rfl, rfl, hfz, hnd⟩, ?_, ?_, ?_, World.keptBut_mono (fun x hx => ⟨hx, .inr (.inl (by simpa using hx))⟩) (hb.frame (· ∈ p ++ [])), fun h => by cases h⟩
  · rw [hspec, hrt]; exact trodAll_mk1 (shut_bool hub true)
  · rw [hspec]; exact trodAll_below hl hb hts (fun x hx => hlt x (by simpa using hx)) hA
  · rw [hspec, hvars]; rfl
end


/-! The closed facts of a row, cut in two: what speaks of the whole program is proved once, by way of the first words of its head. -/
set_option maxRecDepth 100000
def notBlank (c : Char) : Bool := c != Char.ofNat 32
def wordsL : Nat → List Char → List (List Char)
  | 0, l => wordsSigns l
  | n + 1, l => l.takeWhile notBlank :: (match l.dropWhile notBlank with | [] => [] | _ :: r => wordsL n r)
theorem wordsSigns_step (l : List Char) : wordsSigns l = l.takeWhile notBlank :: (match l.dropWhile notBlank with | [] => [] | _ :: r => wordsSigns r) := by
  induction l with
  | nil => rfl
  | cons c r ih =>
    by_cases hc : c = Char.ofNat 32
    · subst hc; rfl
    · have hb : notBlank c = true := by simp [notBlank, hc]
      rw [List.takeWhile_cons_of_pos hb, List.dropWhile_cons_of_pos hb]
      rw [wordsSigns.eq_3 _ _ (fun h => hc h), ih]
theorem wordsL_eq (n : Nat) (l : List Char) : wordsSigns l = wordsL n l := by
  induction n generalizing l with
  | zero => rfl
  | succ n ih =>
    rw [wordsSigns_step]
    show _ :: _ = _ :: _
    congr 1
    split
    · rfl
    · exact ih _
theorem ofList_of {s : String} (l : List Char) (h : s = String.ofList l) : s.toList = l := by rw [h, String.toList_ofList]

theorem head_cons {α : Type} {l : List α} {c : α} (h : l.head? = some c) : ∃ r, l = c :: r := by
  cases l with
  | nil => cases h
  | cons a r => exact ⟨r, by simp at h; rw [h]⟩
theorem make_of {P : Program} (h : (behindMainWord (wordsSigns P.initOrder.toList)).head? = some "cut".toList) : P.make = some .cut := by
  obtain ⟨r, h⟩ := head_cons h
  unfold Program.make
  rw [h]
  have e1 : ("cut".toList == "gc".toList || "cut".toList == "spec".toList) = false := by decide
  simp only [e1]
  rfl
theorem strip_none (c : List Char) (r : List (List Char)) : ∀ os : List String, (os.all fun o => !(c == o.toList)) = true → stripLifts os (c :: r) = ([], c :: r)
  | [], _ => rfl
  | o :: os, h => by
    simp only [List.all_cons, Bool.and_eq_true, Bool.not_eq_true'] at h
    unfold stripLifts
    rw [h.1]
    exact strip_none c r os h.2
theorem strip_of {P : Program} (h : (behindMainWord (wordsSigns P.initOrder.toList)).head? = some "cut".toList) : ∃ r, behindMainWord (wordsSigns P.initOrder.toList) = "cut".toList :: r ∧ stripLifts liftWords (behindMainWord (wordsSigns P.initOrder.toList)) = ([], "cut".toList :: r) := by
  obtain ⟨r, h⟩ := head_cons h
  refine ⟨r, h, ?_⟩
  rw [h]
  exact strip_none _ _ _ (by decide +kernel)
theorem lifts_of {P : Program} (h : (behindMainWord (wordsSigns P.initOrder.toList)).head? = some "cut".toList) : P.liftsFinal = false := by
  obtain ⟨r, h1, h2⟩ := strip_of h
  unfold Program.liftsFinal Program.headLifts
  rw [h2, h1]
  have e1 : (("cut".toList :: r).head? == some "carried".toList) = false := by
    show (some "cut".toList == some "carried".toList) = false
    decide
  simp only [e1]
  simp
theorem may_of {P : Program} (h : (behindMainWord (wordsSigns P.initOrder.toList)).head? = some "cut".toList) (h3 : P.laysLater = false) (h4 : P.bearsReflect = false) (h5 : P.doorFits [] = true) : P.mayEnter = true := by
  obtain ⟨r, h1, h2⟩ := strip_of h
  unfold Program.mayEnter
  rw [h1] at h2 ⊢
  simp only [h2, h3, h4, h5]
  simp
theorem headWord : (behindMainWord (wordsSigns Try.prog.initOrder.toList)).head? = some "cut".toList := by
  rw [ofList_of _ (show Try.prog.initOrder = String.ofList _ from rfl), wordsL_eq 3]
  show _ = _
  kernel_rfl

theorem makeCut : Try.prog.make = some .cut := make_of headWord
theorem liftsNo : Try.prog.liftsFinal = false := lifts_of headWord
theorem mayYes : Try.prog.mayEnter = true := may_of headWord (by kernel_rfl) (by kernel_rfl) (by kernel_rfl)

def restFacts (P : Program) (f : FuncId) (fn : Func) (s : ChangeSpec) (c : OpenClaim) : Bool :=
  c.wf (OpenSpec.ofChange s) && mapsRowed P &&
  fn.params.all (P.readableRec ·) && namedTie P c.named s.vars &&
  (c.stops == []) && (P.stops == []) && (c.knobs == []) && (P.stopKnobs == []) &&
  (c.inPlace == P.inPlace f) && (c.unfollowed == P.unfollowed f) && (c.recurses == P.recurses f) && (c.named == P.varsNamed f) &&
  (c.maps == (fn.params.toList ++ s.plain.varTypes P).any (P.mapsRec ·)) && (c.ifaces == (fn.params.toList ++ s.plain.varTypes P).any (P.ifacesRec ·)) && (c.mapsOut == P.mapsAmong fn.resultTypes.toList) &&
  (c.loops == (fn.params.toList ++ s.plain.varTypes P).any (P.loopsFrom ·)) && (c.wideKeys == (fn.params.toList ++ s.plain.varTypes P ++ fn.resultTypes.toList).any (P.wideKeysFrom ·)) &&
  s.vars.all (P.varReadable ·) && fn.resultTypes.all (fun t => P.readableRec t && decide (t < P.types.size)) && (c.ifacesOut == fn.resultTypes.toList.any (P.ifacesRec ·)) && (c.loopsOut == fn.resultTypes.toList.any (P.loopsFrom ·)) && (c.plainKeys == P.plainKeys) && c.shortTexts.isNone && P.stopsHeard && (c.lifted == false) && (some Make.cut == some c.make) && (c.kinds == (if c.domain.isEmpty then [] else fn.params.toList.map fun t => match P.underlying t with | some (.int k) => some k | _ => none)) && (c.pinned == c.pinnedBy) &&
  (c.veiled == (fn.params.toList ++ s.plain.varTypes P ++ fn.resultTypes.toList).any (P.veiledRec ·)) && c.veiledFits P fn.params.toList (fn.params.toList ++ s.plain.varTypes P ++ fn.resultTypes.toList)

theorem joined_of {P : Program} {f : FuncId} {fn : Func} {s : ChangeSpec} {c : OpenClaim} (h1 : laidOutB P = true) (h2 : P.mayEnter = true) (h3 : P.liftsFinal = false) (h4 : P.make = some .cut)
    (h : restFacts P f fn s c = true) : joinedFacts P f fn s c = true := by
  unfold restFacts at h
  unfold joinedFacts
  simp only [Bool.and_eq_true] at h ⊢
  rw [h1, h2, h3, h4]
  have hk := h.1.1.1.2
  simp only [h, true_and, and_true]
  exact hk

/-- The bounds of a number that fits its kind. -/
theorem bd_i64 {x : Int} (h : (Lit.int .i64 x).wf = true) : -9223372036854775808 ≤ x ∧ x ≤ 9223372036854775807 := by
  simp only [Lit.wf, Bool.and_eq_true, decide_eq_true_eq] at h
  exact h
theorem bd_u64 {x : Int} (h : (Lit.int .u64 x).wf = true) : 0 ≤ x ∧ x ≤ 18446744073709551615 := by
  simp only [Lit.wf, Bool.and_eq_true, decide_eq_true_eq] at h
  exact h

end Go.Proofs.Ytccgnnnildedoaa
