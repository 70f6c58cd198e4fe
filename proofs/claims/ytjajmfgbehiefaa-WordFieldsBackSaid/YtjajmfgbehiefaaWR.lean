/- Plain laws of fields. Own work. -/
import Derived.Test.YtjajmfgbehiefaaWP
namespace Go.Proofs.Ytjajmfgbehiefaa
open Go.RowKit
set_option linter.unusedVariables false
theorem msk_toNat (n : Nat) (h : n ≤ 64) : (mskB (n : Int)).toNat = 2 ^ n - 1 := by
  unfold mskB
  have hp := Nat.two_pow_pos n
  by_cases h64 : n = 64
  · subst h64; decide
  · have hlt : 2 ^ n < 2 ^ 64 := Nat.pow_lt_pow_right (by omega) (by omega)
    have e1 : (1#64 <<< ((n : Int).toNat)).toNat = 2 ^ n := by
      rw [BitVec.toNat_shiftLeft, Nat.shiftLeft_eq, Int.toNat_natCast]
      show 1 * 2 ^ n % 2 ^ 64 = _
      rw [Nat.one_mul, Nat.mod_eq_of_lt hlt]
    rw [BitVec.toNat_sub, e1]
    show (2 ^ 64 - 1 + 2 ^ n) % 2 ^ 64 = _
    omega
theorem msk_bit (n i : Nat) (h : n ≤ 64) : (mskB (n : Int)).getLsbD i = decide (i < n) := by
  rw [← BitVec.testBit_toNat, msk_toNat n h, Nat.testBit_two_pow_sub_one]
theorem msk_hi (n : Nat) (h : n ≤ 64) (v : BitVec 64) (hv : ¬ mskB (n : Int) < v) (i : Nat) (hi : n ≤ i) : v.getLsbD i = false := by
  rw [bvlt, msk_toNat n h] at hv
  have hp := Nat.two_pow_pos n
  rw [← BitVec.testBit_toNat]
  refine Nat.testBit_lt_two_pow (Nat.lt_of_lt_of_le (show v.toNat < 2 ^ n by omega) (Nat.pow_le_pow_right (by omega) hi))
theorem field_got (w v : BitVec 64) (a n : Nat) (hn : n ≤ 64) (ha : a + n ≤ 64) (hv : ¬ mskB (n : Int) < v) :
    (w &&& ~~~(mskB (n : Int) <<< a) ||| v <<< a) >>> a &&& mskB (n : Int) = v := by
  apply BitVec.eq_of_getLsbD_eq
  intro i hi
  have hh := msk_hi n hn v hv i
  simp only [BitVec.getLsbD_and, BitVec.getLsbD_or, BitVec.getLsbD_ushiftRight, BitVec.getLsbD_not, BitVec.getLsbD_shiftLeft, msk_bit _ _ hn]
  by_cases h : i < n
  · have h1 : a + i < 64 := by omega
    simp [h, h1, show ¬ a + i < a by omega]
  · simp [h, hh (by omega)]
theorem field_back (w v : BitVec 64) (a n : Nat) (hn : n ≤ 64) (ha : a + n ≤ 64) (hv : ¬ mskB (n : Int) < v) :
    (w &&& ~~~(mskB (n : Int) <<< a) ||| v <<< a) &&& ~~~(mskB (n : Int) <<< a) ||| (w >>> a &&& mskB (n : Int)) <<< a = w := by
  apply BitVec.eq_of_getLsbD_eq
  intro i hi
  have hh := msk_hi n hn v hv (i - a)
  simp only [BitVec.getLsbD_and, BitVec.getLsbD_or, BitVec.getLsbD_ushiftRight, BitVec.getLsbD_not, BitVec.getLsbD_shiftLeft, msk_bit _ _ hn]
  by_cases h0 : i < a
  · simp [h0, hi]
  · by_cases h : i - a < n
    · have e : a + (i - a) = i := by omega
      simp [h0, hi, h, e]
    · simp [h0, hi, h, hh (by omega)]
theorem field_other (w v : BitVec 64) (a n o : Nat) (hn : n ≤ 64) (ha : a + n ≤ 64) (hv : ¬ mskB (n : Int) < v) (ho : o < a ∨ a + n ≤ o) (ho2 : o < 64) :
    (w &&& ~~~(mskB (n : Int) <<< a) ||| v <<< a) >>> o &&& mskB 1 = w >>> o &&& mskB 1 := by
  apply BitVec.eq_of_getLsbD_eq
  intro i hi
  have hm : (mskB 1).getLsbD i = decide (i < 1) := msk_bit 1 i (by omega)
  have hh := msk_hi n hn v hv (o - a)
  simp only [BitVec.getLsbD_and, BitVec.getLsbD_or, BitVec.getLsbD_ushiftRight, BitVec.getLsbD_not, BitVec.getLsbD_shiftLeft, msk_bit _ _ hn, hm]
  by_cases h : i = 0
  · subst h
    by_cases h0 : o < a
    · simp [h0, ho2]
    · have h1 : ¬ o - a < n := by omega
      simp [h0, h1, ho2, hh (by omega)]
  · simp [show ¬ i < 1 by omega]
theorem field_le (w : BitVec 64) (a n : Nat) (hn : n ≤ 64) : ¬ mskB (n : Int) < w >>> a &&& mskB (n : Int) := by
  rw [bvlt, BitVec.toNat_and]
  have := @Nat.and_le_right (w >>> a).toNat (mskB (n : Int)).toNat
  omega
end Go.Proofs.Ytjajmfgbehiefaa
