/-
  Words and their parts, as numbers: masks, what a part has, what is put there, packing and unpacking. No program is looked at here.
  Conditions: none.
-/
import Derived.Test.YtccgnnnildedoaaBase
set_option linter.unusedVariables false
namespace Go.Proofs.Ytccgnnnildedoaa

/-- The bits of a part. -/
def mskN (s w : Nat) : Nat := (2 ^ w - 1) * 2 ^ s
/-- What a word has in a part. -/
def getN (x s w : Nat) : Nat := x / 2 ^ s % 2 ^ w
/-- A word with a number put into a part. -/
def setN (x s w v : Nat) : Nat := (x &&& (2 ^ 64 - 1 - mskN s w)) ||| v * 2 ^ s

theorem mskN_bit (s w i : Nat) : (mskN s w).testBit i = decide (s ≤ i ∧ i < s + w) := by
  unfold mskN
  rw [Nat.mul_comm, Nat.testBit_two_pow_mul, Nat.testBit_two_pow_sub_one]
  by_cases h : s ≤ i
  · have e : decide (i - s < w) = decide (i < s + w) := by congr 1; exact propext (by omega)
    simp [h, e]
  · simp [h]
theorem getN_bit (x s w i : Nat) : (getN x s w).testBit i = (decide (i < w) && x.testBit (s + i)) := by
  unfold getN
  rw [Nat.testBit_mod_two_pow, Nat.testBit_div_two_pow, Nat.add_comm]
theorem getN_lt (x s w : Nat) : getN x s w < 2 ^ w := Nat.mod_lt _ (Nat.two_pow_pos w)
theorem bit_ge {x n i : Nat} (h : x < 2 ^ n) (hi : n ≤ i) : x.testBit i = false :=
  Nat.testBit_lt_two_pow (Nat.lt_of_lt_of_le h (Nat.pow_le_pow_right (by omega) hi))
theorem not_bit (m i : Nat) (hm : m < 2 ^ 64) : (2 ^ 64 - 1 - m).testBit i = (decide (i < 64) && !m.testBit i) := by
  rw [show 2 ^ 64 - 1 - m = 2 ^ 64 - (m + 1) by omega, Nat.testBit_two_pow_sub_succ hm]
theorem mskN_lt {s w : Nat} (h : s + w ≤ 64) : mskN s w < 2 ^ 64 := by
  refine Nat.lt_pow_two_of_testBit _ (fun i hi => ?_)
  rw [mskN_bit]; exact decide_eq_false (by omega)
theorem setN_bit {x s w v : Nat} (h : s + w ≤ 64) (hx : x < 2 ^ 64) (hv : v < 2 ^ w) (i : Nat) :
    (setN x s w v).testBit i = if s ≤ i ∧ i < s + w then v.testBit (i - s) else x.testBit i := by
  unfold setN
  rw [Nat.testBit_or, Nat.testBit_and, not_bit _ _ (mskN_lt h), mskN_bit, Nat.mul_comm, Nat.testBit_two_pow_mul]
  by_cases hi : i < 64
  · by_cases c1 : s ≤ i
    · by_cases c2 : i < s + w
      · simp [c1, c2, hi]
      · have := bit_ge hv (show w ≤ i - s by omega)
        simp [c1, c2, hi, this]
    · simp [c1, hi]
  · have hb := bit_ge hx (show 64 ≤ i by omega)
    by_cases c1 : s ≤ i
    · have := bit_ge hv (show w ≤ i - s by omega)
      simp [hi, hb, this]
    · simp [c1, hb]
theorem setN_lt {x s w v : Nat} (h : s + w ≤ 64) (hx : x < 2 ^ 64) (hv : v < 2 ^ w) : setN x s w v < 2 ^ 64 := by
  refine Nat.lt_pow_two_of_testBit _ (fun i hi => ?_)
  rw [setN_bit h hx hv, if_neg (by omega)]; exact bit_ge hx hi
theorem get_set {x s w v : Nat} (h : s + w ≤ 64) (hx : x < 2 ^ 64) (hv : v < 2 ^ w) : getN (setN x s w v) s w = v := by
  apply Nat.eq_of_testBit_eq
  intro i
  rw [getN_bit, setN_bit h hx hv]
  by_cases hi : i < w
  · rw [if_pos (by omega), Nat.add_sub_cancel_left]; simp [hi]
  · have := bit_ge hv (show w ≤ i by omega)
    simp [hi, this]
theorem get_set_far {x s w v t u : Nat} (h : s + w ≤ 64) (hx : x < 2 ^ 64) (hv : v < 2 ^ w) (hd : s + w ≤ t ∨ t + u ≤ s) : getN (setN x s w v) t u = getN x t u := by
  apply Nat.eq_of_testBit_eq
  intro i
  rw [getN_bit, getN_bit, setN_bit h hx hv]
  by_cases hi : i < u
  · rw [if_neg (by omega)]
  · simp [hi]
theorem set_back {x s w v : Nat} (h : s + w ≤ 64) (hx : x < 2 ^ 64) (hv : v < 2 ^ w) : setN (setN x s w v) s w (getN x s w) = x := by
  apply Nat.eq_of_testBit_eq
  intro i
  rw [setN_bit h (setN_lt h hx hv) (getN_lt _ _ _), setN_bit h hx hv, getN_bit]
  by_cases c : s ≤ i ∧ i < s + w
  · rw [if_pos c, show s + (i - s) = i by omega]; simp; omega
  · rw [if_neg c, if_neg c]
theorem msk_and (s w t u : Nat) (hw : 0 < w) (hu : 0 < u) : mskN s w &&& mskN t u = 0 ↔ (s + w ≤ t ∨ t + u ≤ s) := by
  constructor
  · intro h
    have h2 := congrArg (fun n => n.testBit (max s t)) h
    simp only [Nat.testBit_and, mskN_bit, Nat.zero_testBit] at h2
    rcases Nat.le_total s t with hst | hst
    · rw [Nat.max_eq_right hst] at h2
      simp at h2; omega
    · rw [Nat.max_eq_left hst] at h2
      simp at h2; omega
  · intro h
    apply Nat.eq_of_testBit_eq
    intro i
    rw [Nat.testBit_and, mskN_bit, mskN_bit, Nat.zero_testBit]
    simp; omega
theorem msk_or (s w u : Nat) : mskN s w ||| mskN (s + w) u = mskN s (w + u) := by
  apply Nat.eq_of_testBit_eq
  intro i
  rw [Nat.testBit_or, mskN_bit, mskN_bit, mskN_bit]
  by_cases c1 : s ≤ i <;> by_cases c2 : i < s + w <;> by_cases c3 : i < s + (w + u) <;> simp [c1, c2, c3] <;> omega
theorem msk_pos (s w : Nat) (hw : 0 < w) : 0 < mskN s w := by
  have : 2 ^ 1 ≤ 2 ^ w := Nat.pow_le_pow_right (by omega) hw
  exact Nat.mul_pos (by omega) (Nat.two_pow_pos s)
theorem msk_div (s w : Nat) : mskN s w / 2 ^ s = 2 ^ w - 1 := Nat.mul_div_cancel _ (Nat.two_pow_pos s)
theorem msk_low (s w : Nat) (v : Nat) : v &&& (mskN s w / 2 ^ s) = v % 2 ^ w := by rw [msk_div, Nat.and_two_pow_sub_one_eq_mod]

/-- Putting beyond all bits that a word has. -/
theorem set_beyond {x s w v : Nat} (h : s + w ≤ 64) (hx : x < 2 ^ s) (hv : v < 2 ^ w) : setN x s w v = x + v * 2 ^ s := by
  have hx64 : x < 2 ^ 64 := Nat.lt_of_lt_of_le hx (Nat.pow_le_pow_right (by omega) (by omega))
  have e : x + v * 2 ^ s = 2 ^ s * v ||| x := by rw [Nat.add_comm, Nat.mul_comm]; exact (Nat.two_pow_add_eq_or_of_lt hx v)
  rw [e]
  apply Nat.eq_of_testBit_eq
  intro i
  rw [setN_bit h hx64 hv, Nat.testBit_or, Nat.testBit_two_pow_mul]
  by_cases c1 : s ≤ i
  · by_cases c2 : i < s + w
    · rw [if_pos ⟨c1, c2⟩]; simp [c1, bit_ge hx c1]
    · rw [if_neg (by omega)]; simp [bit_ge hx c1, bit_ge hv (show w ≤ i - s by omega)]
  · rw [if_neg (by omega)]; simp [c1]

/-! Packing. -/
/-- Where the part behind the first k widths begins. -/
def atN (ws : List Nat) (k : Nat) : Nat := (ws.take k).sum
def packN : List Nat → List Nat → Nat
  | w :: ws, l :: ls => l + 2 ^ w * packN ws ls
  | _, _ => 0
def unpackN : List Nat → Nat → List Nat
  | [], _ => []
  | w :: ws, x => x % 2 ^ w :: unpackN ws (x / 2 ^ w)
/-- Each number goes into its width. -/
def FitsN : List Nat → List Nat → Prop
  | w :: ws, l :: ls => l < 2 ^ w ∧ FitsN ws ls
  | [], [] => True
  | _, _ => False

theorem length_unpackN : ∀ (ws : List Nat) (x : Nat), (unpackN ws x).length = ws.length
  | [], _ => rfl
  | w :: ws, x => by simp [unpackN, length_unpackN ws]
theorem FitsN.length : ∀ {ws ls : List Nat}, FitsN ws ls → ws.length = ls.length
  | [], [], _ => rfl
  | _ :: _, _ :: _, h => by simp [FitsN.length h.2]
theorem fits_unpack : ∀ (ws : List Nat) (x : Nat), FitsN ws (unpackN ws x)
  | [], _ => trivial
  | w :: ws, x => ⟨Nat.mod_lt _ (Nat.two_pow_pos w), fits_unpack ws _⟩
theorem unpack_pack : ∀ {ws ls : List Nat}, FitsN ws ls → unpackN ws (packN ws ls) = ls
  | [], [], _ => rfl
  | w :: ws, l :: ls, h => by
    have hp := Nat.two_pow_pos w
    simp only [packN, unpackN]
    rw [Nat.add_mul_mod_self_left, Nat.mod_eq_of_lt h.1, Nat.add_mul_div_left _ _ hp, Nat.div_eq_of_lt h.1, Nat.zero_add, unpack_pack h.2]
theorem pack_unpack : ∀ (ws : List Nat) (x : Nat), packN ws (unpackN ws x) = x % 2 ^ ws.sum
  | [], x => by simp [packN, unpackN, Nat.mod_one]
  | w :: ws, x => by
    simp only [packN, unpackN, pack_unpack ws, List.sum_cons, Nat.pow_add]
    rw [Nat.mod_mul]
theorem pack_lt : ∀ {ws ls : List Nat}, FitsN ws ls → packN ws ls < 2 ^ ws.sum
  | [], [], _ => by simp [packN]
  | w :: ws, l :: ls, h => by
    have h1 := pack_lt h.2
    have hp := Nat.two_pow_pos w
    simp only [packN, List.sum_cons, Nat.pow_add]
    have h2 : 2 ^ w * (packN ws ls + 1) ≤ 2 ^ w * 2 ^ ws.sum := Nat.mul_le_mul_left _ h1
    have := h.1
    rw [Nat.mul_add] at h2
    omega
theorem pack_snoc : ∀ {ws ls : List Nat} (w l : Nat), ws.length = ls.length → packN (ws ++ [w]) (ls ++ [l]) = packN ws ls + l * 2 ^ ws.sum
  | [], [], w, l, _ => by simp [packN]
  | v :: ws, m :: ls, w, l, h => by
    simp only [List.cons_append, packN, pack_snoc w l (by simpa using h), List.sum_cons, Nat.pow_add, Nat.mul_add]
    rw [Nat.mul_left_comm l]; omega
theorem fits_take : ∀ {ws ls : List Nat} (k : Nat), FitsN ws ls → FitsN (ws.take k) (ls.take k)
  | [], [], k, h => by simp [FitsN]
  | v :: ws, m :: ls, 0, h => by simp [FitsN]
  | v :: ws, m :: ls, k + 1, h => ⟨h.1, fits_take k h.2⟩
theorem fits_get : ∀ {ws ls : List Nat} (k : Nat), FitsN ws ls → k < ws.length → ls.getD k 0 < 2 ^ (ws.getD k 0)
  | [], [], k, h, hk => absurd hk (by simp)
  | v :: ws, m :: ls, 0, h, _ => h.1
  | v :: ws, m :: ls, k + 1, h, hk => by simpa using fits_get k h.2 (by simpa using hk)
theorem fits_of : ∀ {ws ls : List Nat}, ws.length = ls.length → (∀ k, k < ws.length → ls.getD k 0 < 2 ^ (ws.getD k 0)) → FitsN ws ls
  | [], [], _, _ => trivial
  | w :: ws, l :: ls, hl, h => ⟨by simpa using h 0 (by simp), fits_of (by simpa using hl) fun k hk => by simpa using h (k + 1) (by simpa using hk)⟩
theorem unpack_at : ∀ (ws : List Nat) (x k : Nat), k < ws.length → (unpackN ws x).getD k 0 = getN x (atN ws k) (ws.getD k 0)
  | [], _, k, h => absurd h (by simp)
  | w :: ws, x, 0, _ => by simp [unpackN, getN, atN]
  | w :: ws, x, k + 1, h => by
    have ih := unpack_at ws (x / 2 ^ w) k (by simpa using h)
    simp only [unpackN, List.getD_cons_succ, ih]
    unfold getN atN
    rw [List.take_succ_cons, List.sum_cons, Nat.pow_add, Nat.div_div_eq_div_mul]
theorem atN_succ (ws : List Nat) (k : Nat) (h : k < ws.length) : atN ws (k + 1) = atN ws k + ws.getD k 0 := by
  unfold atN
  rw [List.take_succ_eq_append_getElem h, List.sum_append]
  simp [h]
theorem atN_le (ws : List Nat) (k : Nat) : atN ws k ≤ ws.sum := by
  unfold atN
  have := congrArg List.sum (List.take_append_drop k ws)
  rw [List.sum_append] at this
  omega
theorem atN_all (ws : List Nat) (k : Nat) (h : ws.length ≤ k) : atN ws k = ws.sum := by unfold atN; rw [List.take_of_length_le h]
/-- What has been packed after k rounds. -/
def packTo (ws ls : List Nat) (k : Nat) : Nat := packN (ws.take k) (ls.take k)
theorem packTo_lt {ws ls : List Nat} (h : FitsN ws ls) (k : Nat) : packTo ws ls k < 2 ^ atN ws k := pack_lt (fits_take k h)
theorem packTo_succ {ws ls : List Nat} (h : FitsN ws ls) (k : Nat) (hk : k < ws.length) : packTo ws ls (k + 1) = packTo ws ls k + ls.getD k 0 * 2 ^ atN ws k := by
  have hl := h.length
  unfold packTo
  rw [List.take_succ_eq_append_getElem hk, List.take_succ_eq_append_getElem (by omega), pack_snoc _ _ (by simp; omega)]
  simp [atN, show k < ls.length by omega]
theorem packTo_all {ws ls : List Nat} (h : FitsN ws ls) (k : Nat) (hk : ws.length ≤ k) : packTo ws ls k = packN ws ls := by
  have hl := h.length
  unfold packTo
  rw [List.take_of_length_le hk, List.take_of_length_le (by omega)]

/-- Widths that may be: all above 0, together a word's at most. -/
structure WidthsOk (ws : List Nat) : Prop where
  pos : ∀ k, k < ws.length → 1 ≤ ws.getD k 0
  sum : ws.sum ≤ 64
theorem WidthsOk.at {ws : List Nat} (h : WidthsOk ws) {k : Nat} (hk : k < ws.length) : atN ws k + ws.getD k 0 ≤ 64 := by
  rw [← atN_succ ws k hk]
  exact Nat.le_trans (atN_le ws _) h.sum
theorem len_le_sum : ∀ (ws : List Nat), (∀ k, k < ws.length → 1 ≤ ws.getD k 0) → ws.length ≤ ws.sum
  | [], _ => by simp
  | w :: ws, h => by
    have h0 : 1 ≤ w := by simpa using h 0 (by simp)
    have ih := len_le_sum ws fun k hk => by simpa using h (k + 1) (by simpa using hk)
    simp only [List.length_cons, List.sum_cons]; omega
theorem WidthsOk.len {ws : List Nat} (h : WidthsOk ws) : ws.length ≤ 64 := Nat.le_trans (len_le_sum ws h.pos) h.sum

/-! Zig and Zag. -/
def zigI (n : Int) : Int := if n < 0 then -2 * n - 1 else 2 * n
def zagI (w : Int) : Int := if w % 2 = 0 then w / 2 else -(w / 2) - 1
theorem zag_zig (n : Int) : zagI (zigI n) = n := by unfold zagI zigI; split <;> split <;> omega
theorem zig_zag (w : Int) (h : 0 ≤ w) : zigI (zagI w) = w := by unfold zagI zigI; split <;> split <;> omega
theorem zig_bd (n : Int) (h1 : -9223372036854775808 ≤ n) (h2 : n ≤ 9223372036854775807) : 0 ≤ zigI n ∧ zigI n < 18446744073709551616 := by unfold zigI; split <;> omega
theorem zag_bd (w : Int) (h1 : 0 ≤ w) (h2 : w < 18446744073709551616) : -9223372036854775808 ≤ zagI w ∧ zagI w ≤ 9223372036854775807 := by unfold zagI; split <;> omega

end Go.Proofs.Ytccgnnnildedoaa
