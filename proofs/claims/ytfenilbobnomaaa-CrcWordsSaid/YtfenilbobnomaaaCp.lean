/- Plain laws of the checksum. Own work. -/
namespace Go.Proofs.Ytfenilbobnomaaa
set_option linter.unusedVariables false
set_option linter.unusedSimpArgs false
def polyB : BitVec 64 := 14514072000185962306#64
def stepB (r : BitVec 64) : BitVec 64 := if (r &&& 1#64 == 1#64) = true then r >>> 1 ^^^ 14514072000185962306#64 else r >>> 1
def stepN : Nat → BitVec 64 → BitVec 64
  | 0, r => r
  | n + 1, r => stepB (stepN n r)
def tabB (i : BitVec 8) : BitVec 64 := stepN 8 (i.setWidth 64)
/-- A byte more, bit by bit. -/
def byteR (r : BitVec 64) (b : BitVec 8) : BitVec 64 := stepN 8 (r ^^^ b.setWidth 64)
/-- A byte more, by the table. -/
def byteP (r : BitVec 64) (b : BitVec 8) : BitVec 64 := r >>> 8 ^^^ tabB (r.setWidth 8 ^^^ b)
def runB (r : BitVec 64) (bs : List (BitVec 8)) : BitVec 64 := bs.foldl byteR r
def extB (s : BitVec 64) (bs : List (BitVec 8)) : BitVec 64 := ~~~ runB (~~~ s) bs

theorem bit_eq (r : BitVec 64) : (r &&& 1#64 == 1#64) = r.getLsbD 0 := by
  rw [Bool.eq_iff_iff, beq_iff_eq]
  constructor
  · intro h
    have h1 := congrArg (fun x => BitVec.getLsbD x 0) h
    simpa [BitVec.getLsbD_and] using h1
  · intro h
    apply BitVec.eq_of_getLsbD_eq
    intro i hi
    rw [BitVec.getLsbD_and, BitVec.getLsbD_one]
    by_cases h0 : i = 0
    · subst h0; simp [h]
    · simp [h0]
theorem stepB_bit (r : BitVec 64) : stepB r = r >>> 1 ^^^ (if r.getLsbD 0 = true then 14514072000185962306#64 else 0#64) := by
  unfold stepB
  rw [bit_eq]
  cases r.getLsbD 0 <;> simp
theorem stepB_xor (x y : BitVec 64) : stepB (x ^^^ y) = stepB x ^^^ stepB y := by
  rw [stepB_bit, stepB_bit, stepB_bit]
  have h : (x ^^^ y) >>> 1 = x >>> 1 ^^^ y >>> 1 := by
    apply BitVec.eq_of_getLsbD_eq; intro i hi; simp [BitVec.getLsbD_xor, BitVec.getLsbD_ushiftRight]
  rw [h, BitVec.getLsbD_xor]
  generalize x >>> 1 = a
  generalize y >>> 1 = b
  cases x.getLsbD 0 <;> cases y.getLsbD 0 <;> simp only [Bool.xor_false, Bool.xor_true, Bool.not_true, Bool.not_false, if_true, if_false, Bool.false_eq_true]
  · simp
  · simp [BitVec.xor_assoc]
  · rw [BitVec.xor_zero, BitVec.xor_assoc, BitVec.xor_assoc, BitVec.xor_comm b]
  · apply BitVec.eq_of_getLsbD_eq; intro i hi
    simp only [BitVec.getLsbD_xor, BitVec.getLsbD_zero, Bool.xor_false]
    generalize a.getLsbD i = p
    generalize b.getLsbD i = q
    generalize (14514072000185962306#64).getLsbD i = t
    cases p <;> cases q <;> cases t <;> rfl
theorem stepN_xor (n : Nat) (x y : BitVec 64) : stepN n (x ^^^ y) = stepN n x ^^^ stepN n y := by
  induction n with
  | zero => rfl
  | succ n ih => simp only [stepN, ih, stepB_xor]
theorem stepB_shl (x : BitVec 64) (h : x.getLsbD 0 = false) : stepB x = x >>> 1 := by rw [stepB_bit, h]; simp
theorem stepN_shl (n : Nat) (hn : n ≤ 8) (x : BitVec 64) (h : ∀ i, i < 8 → x.getLsbD i = false) : stepN n x = x >>> n := by
  induction n with
  | zero => simp [stepN]
  | succ n ih =>
    rw [stepN, ih (by omega), stepB_shl]
    · apply BitVec.eq_of_getLsbD_eq; intro i hi; simp only [BitVec.getLsbD_ushiftRight]; congr 1; omega
    · rw [BitVec.getLsbD_ushiftRight]; exact h _ (by omega)
theorem byte_eq (r : BitVec 64) (b : BitVec 8) : byteP r b = byteR r b := by
  unfold byteP byteR tabB
  have h : r ^^^ b.setWidth 64 = (r >>> 8) <<< 8 ^^^ (r.setWidth 8 ^^^ b).setWidth 64 := by
    apply BitVec.eq_of_getLsbD_eq
    intro i hi
    simp only [BitVec.getLsbD_xor, BitVec.getLsbD_shiftLeft, BitVec.getLsbD_ushiftRight, BitVec.getLsbD_setWidth]
    by_cases h8 : i < 8
    · simp [h8, hi]
    · have : 8 + (i - 8) = i := by omega
      have hb : b.getLsbD i = false := BitVec.getLsbD_of_ge _ _ (by omega)
      simp [h8, hi, this, hb]
  have h0 : ∀ i, i < 8 → (r >>> 8 <<< 8).getLsbD i = false := by
    intro i hi
    simp [BitVec.getLsbD_shiftLeft, hi]
  rw [h, stepN_xor, stepN_shl 8 (by omega) (r >>> 8 <<< 8) h0]
  congr 1
  apply BitVec.eq_of_getLsbD_eq
  intro i hi
  simp only [BitVec.getLsbD_shiftLeft, BitVec.getLsbD_ushiftRight]
  by_cases h2 : 8 + i < 64
  · simp [h2]
  · have : r.getLsbD (8 + i) = false := BitVec.getLsbD_of_ge _ _ (by omega)
    simp [this]
theorem runB_take (r : BitVec 64) (bs : List (BitVec 8)) (k : Nat) (h : k < bs.length) : runB r (bs.take (k + 1)) = byteR (runB r (bs.take k)) bs[k] := by
  unfold runB
  rw [List.take_succ_eq_append_getElem h, List.foldl_append]
  rfl
theorem runB_append (r : BitVec 64) (xs ys : List (BitVec 8)) : runB r (xs ++ ys) = runB (runB r xs) ys := by
  unfold runB; rw [List.foldl_append]
theorem extB_append (s : BitVec 64) (xs ys : List (BitVec 8)) : extB (extB s xs) ys = extB s (xs ++ ys) := by
  unfold extB; rw [BitVec.not_not, runB_append]
theorem extB_nil : extB 0#64 [] = 0#64 := by decide
def xor3 : List (BitVec 8) → List (BitVec 8) → List (BitVec 8) → List (BitVec 8)
  | x :: a, y :: b, z :: c => (x ^^^ y ^^^ z) :: xor3 a b c
  | _, _, _ => []
theorem xor3_length : ∀ (a b c : List (BitVec 8)), a.length = b.length → a.length = c.length → (xor3 a b c).length = a.length
  | [], [], [], _, _ => rfl
  | x :: a, y :: b, z :: c, h1, h2 => by
    simp only [List.length_cons] at h1 h2
    rw [xor3, List.length_cons, List.length_cons, xor3_length a b c (by omega) (by omega)]
theorem xor3_get : ∀ (a b c : List (BitVec 8)) (j : Nat) (x y z : BitVec 8), a[j]? = some x → b[j]? = some y → c[j]? = some z → (xor3 a b c)[j]? = some (x ^^^ y ^^^ z)
  | p :: a, q :: b, r :: c, 0, x, y, z, h1, h2, h3 => by
    simp at h1 h2 h3; subst h1 h2 h3; rfl
  | p :: a, q :: b, r :: c, j + 1, x, y, z, h1, h2, h3 => by
    rw [xor3, List.getElem?_cons_succ]
    exact xor3_get a b c j x y z (by simpa using h1) (by simpa using h2) (by simpa using h3)
theorem byteR_xor3 (r s t : BitVec 64) (x y z : BitVec 8) : byteR (r ^^^ s ^^^ t) (x ^^^ y ^^^ z) = byteR r x ^^^ byteR s y ^^^ byteR t z := by
  unfold byteR
  rw [← stepN_xor, ← stepN_xor]
  congr 1
  apply BitVec.eq_of_getLsbD_eq
  intro i hi
  simp only [BitVec.getLsbD_xor, BitVec.getLsbD_setWidth, hi, decide_true, Bool.true_and]
  generalize r.getLsbD i = r'; generalize s.getLsbD i = s'; generalize t.getLsbD i = t'
  generalize x.getLsbD i = x'; generalize y.getLsbD i = y'; generalize z.getLsbD i = z'
  cases r' <;> cases s' <;> cases t' <;> cases x' <;> cases y' <;> cases z' <;> rfl
theorem runB_xor3 : ∀ (a b c : List (BitVec 8)) (r s t : BitVec 64), a.length = b.length → a.length = c.length → runB (r ^^^ s ^^^ t) (xor3 a b c) = runB r a ^^^ runB s b ^^^ runB t c
  | [], [], [], _, _, _, _, _ => rfl
  | x :: a, y :: b, z :: c, r, s, t, h1, h2 => by
    simp only [List.length_cons] at h1 h2
    have ih := runB_xor3 a b c (byteR r x) (byteR s y) (byteR t z) (by omega) (by omega)
    unfold runB at *
    rw [xor3, List.foldl_cons, List.foldl_cons, List.foldl_cons, List.foldl_cons, byteR_xor3, ih]
theorem extB_xor3 (a b c : List (BitVec 8)) (h1 : a.length = b.length) (h2 : a.length = c.length) : extB 0#64 (xor3 a b c) = extB 0#64 a ^^^ extB 0#64 b ^^^ extB 0#64 c := by
  unfold extB
  have h : (~~~(0#64 : BitVec 64)) = ~~~0#64 ^^^ ~~~0#64 ^^^ ~~~0#64 := by decide
  have e := runB_xor3 a b c (~~~0#64) (~~~0#64) (~~~0#64) h1 h2
  rw [← h] at e
  rw [e]
  generalize runB (~~~0#64) a = p
  generalize runB (~~~0#64) b = q
  generalize runB (~~~0#64) c = r
  apply BitVec.eq_of_getLsbD_eq
  intro i hi
  simp only [BitVec.getLsbD_not, BitVec.getLsbD_xor, hi, decide_true, Bool.true_and]
  cases p.getLsbD i <;> cases q.getLsbD i <;> cases r.getLsbD i <;> rfl
/-- The first bytes of a word, the least significant one first. -/
def wbN : Nat → BitVec 64 → List (BitVec 8)
  | 0, _ => []
  | k + 1, x => wbN k x ++ [(x >>> (8 * k)).setWidth 8]
theorem wbN_length (k : Nat) (x : BitVec 64) : (wbN k x).length = k := by
  induction k with
  | zero => rfl
  | succ k ih => rw [wbN, List.length_append, ih]; rfl
theorem wbN_get (n j : Nat) (x : BitVec 64) (h : j < n) : (wbN n x)[j]? = some ((x >>> (8 * j)).setWidth 8) := by
  induction n with
  | zero => omega
  | succ n ih =>
    rw [wbN]
    by_cases hj : j < n
    · rw [List.getElem?_append_left (by rw [wbN_length]; exact hj)]; exact ih hj
    · have : j = n := by omega
      subst this
      rw [List.getElem?_append_right (by rw [wbN_length]; omega), wbN_length, Nat.sub_self]; rfl
/-- The bytes of words. -/
def wordBytes (l : List (BitVec 64)) : List (BitVec 8) := l.flatMap (wbN 8)
theorem wordBytes_length (l : List (BitVec 64)) : (wordBytes l).length = 8 * l.length := by
  unfold wordBytes
  induction l with
  | nil => rfl
  | cons x l ih => rw [List.flatMap_cons, List.length_append, ih, wbN_length, List.length_cons]; omega
theorem wordBytes_take (l : List (BitVec 64)) (k : Nat) (h : k < l.length) : wordBytes (l.take (k + 1)) = wordBytes (l.take k) ++ wbN 8 l[k] := by
  unfold wordBytes
  rw [List.take_succ_eq_append_getElem h, List.flatMap_append, List.flatMap_singleton]
end Go.Proofs.Ytfenilbobnomaaa
