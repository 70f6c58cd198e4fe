/- Plain laws of packed words. Own work. -/
import Derived.Test.YtjajmfgbehiefaaW4
namespace Go.Proofs.Ytjajmfgbehiefaa
open Go.RowKit
set_option linter.unusedVariables false

theorem pack_toNat (k a b : Nat) (hk : k < 64) (hb : b < 2 ^ k) (h : a * 2 ^ k + b < 18446744073709551616) :
    (BitVec.ofNat 64 a <<< k ||| BitVec.ofNat 64 b).toNat = a * 2 ^ k + b := by
  have h1 : a ≤ a * 2 ^ k := Nat.le_mul_of_pos_right _ (Nat.two_pow_pos k)
  rw [BitVec.toNat_or, BitVec.toNat_shiftLeft, BitVec.toNat_ofNat, BitVec.toNat_ofNat, Nat.mod_eq_of_lt (show a < 2 ^ 64 by omega), Nat.mod_eq_of_lt (show b < 2 ^ 64 by omega),
    Nat.shiftLeft_eq, Nat.mod_eq_of_lt (show a * 2 ^ k < 2 ^ 64 by omega), ← Nat.shiftLeft_eq, ← Nat.shiftLeft_add_eq_or_of_lt hb]
theorem ofInt_nat (n : Nat) : BitVec.ofInt 64 (n : Int) = BitVec.ofNat 64 n := BitVec.ofInt_natCast 64 n
theorem shr_toNat (x : BitVec 64) (k : Nat) : (x >>> k).toNat = x.toNat / 2 ^ k := by rw [BitVec.toNat_ushiftRight, Nat.shiftRight_eq_div_pow]
theorem and_toNat (x : BitVec 64) (k : Nat) (hk : k ≤ 64) (y : BitVec 64) (hy : y.toNat = 2 ^ k - 1) : (x &&& y).toNat = x.toNat % 2 ^ k := by
  rw [BitVec.toNat_and, hy, Nat.and_two_pow_sub_one_eq_mod]
theorem bveq {x y : BitVec 64} : x = y ↔ x.toNat = y.toNat := ⟨fun h => by rw [h], BitVec.eq_of_toNat_eq⟩
theorem isIn_nat (n : Nat) : isIn (n : Int) = (decide (1 ≤ n) && decide (n ≤ 59) && (n % 2 == 1)) := by
  unfold isIn
  have h1 : decide ((1 : Int) ≤ n) = decide (1 ≤ n) := by rw [decide_eq_decide]; omega
  have h2 : decide ((n : Int) ≤ 59) = decide (n ≤ 59) := by rw [decide_eq_decide]; omega
  have h3 : ((n : Int) % 2 == 1) = (n % 2 == 1) := by rw [Bool.eq_iff_iff]; simp; omega
  rw [h1, h2, h3]

theorem splitMark_eq (m : BitVec 64) : splitMarkP m = splitMarkR m := by
  have hq : (m >>> 2).toNat = m.toNat / 4 := shr_toNat m 2
  have ha : (m &&& 3#64).toNat = m.toNat % 4 := and_toNat m 2 (by omega) 3#64 rfl
  have hm := m.isLt
  have hand : (m &&& 3#64 != 2#64) = true ↔ m.toNat % 4 ≠ 2 := by
    rw [bne_iff_ne, ne_eq, bveq, ha]; rfl
  unfold splitMarkP splitMarkR
  by_cases h1 : m.toNat / 4 < 1073741824
  · have e : seqOf m = ((m.toNat / 4 : Nat) : Int) := by
      unfold seqOf; rw [if_pos (by rw [bvlt, hq]; exact h1), bv63 _ (by omega), hq]
    have hn3 : ¬ 1073741824#64 ≤ m >>> 2 := by rw [bvle, hq]; show ¬ 1073741824 ≤ _; omega
    rw [e]
    by_cases h2 : m.toNat / 4 < 1
    · have e2 : markS ((m.toNat / 4 : Nat) : Int) = (0#64, 2) := by unfold markS; rw [if_pos (by omega)]
      have hp2 : m >>> 2 < 1#64 := by rw [bvlt, hq]; exact h2
      rw [e2]; simp [hp2]
    · have e2 : markS ((m.toNat / 4 : Nat) : Int) = (BitVec.ofNat 64 (m.toNat / 4) <<< 2 ||| 2#64, 0) := by
        unfold markS; rw [if_neg (by omega), ofInt_nat]
      have e3 := pack_toNat 2 (m.toNat / 4) 2 (by omega) (by omega) (by omega)
      have hp2 : ¬ m >>> 2 < 1#64 := by rw [bvlt, hq]; exact h2
      have hne : ((BitVec.ofNat 64 (m.toNat / 4) <<< 2 ||| 2#64) != m) = (m &&& 3#64 != 2#64) := by
        rw [Bool.eq_iff_iff, hand, bne_iff_ne, ne_eq, bveq]
        have e4 : (BitVec.ofNat 64 (m.toNat / 4) <<< 2 ||| 2#64).toNat = m.toNat / 4 * 4 + 2 := e3
        rw [e4]; omega
      rw [e2]
      simp only [hne, if_neg hp2, if_neg hn3]
      rw [bv63 _ (by omega), hq]
      rfl
  · have e : seqOf m = 0 := by unfold seqOf; rw [if_neg (by rw [bvlt, hq]; exact h1)]
    have hn3 : 1073741824#64 ≤ m >>> 2 := by rw [bvle, hq]; show 1073741824 ≤ _; omega
    rw [e, if_pos hn3]
    have : ((markS 0).2 != 0) = true := by decide
    rw [if_pos this]
    simp
theorem splitTag_eq (t : BitVec 64) : splitTagP t = splitTagR t := by
  have hq : (t >>> 8).toNat = t.toNat / 256 := shr_toNat t 8
  have hr : (t &&& 255#64).toNat = t.toNat % 256 := and_toNat t 8 (by omega) 255#64 rfl
  have hi : (t >>> 8 &&& 16777215#64).toNat = t.toNat / 256 % 16777216 := by rw [and_toNat _ 24 (by omega) 16777215#64 rfl, hq]
  have hm8 : mskB 8 = 255#64 := by decide
  have ht := t.isLt
  have e1 : I64 (t >>> 8 &&& 16777215#64) = ((t.toNat / 256 % 16777216 : Nat) : Int) := by rw [bv63 _ (by omega), hi]
  have e2 : I64 (t &&& 255#64) = ((t.toNat % 256 : Nat) : Int) := by rw [bv63 _ (by omega), hr]
  have e3 : I64 (t >>> 8) = ((t.toNat / 256 : Nat) : Int) := by rw [bv63 _ (by omega), hq]
  unfold splitTagP splitTagR incT clT
  by_cases h : t.toNat / 256 ≤ 59
  · have hle : t >>> 8 ≤ 59#64 := by rw [bvle, hq]; exact h
    rw [if_pos hle, if_pos hle, hm8, e1, e2, e3, Nat.mod_eq_of_lt (show t.toNat / 256 < 16777216 by omega)]
  · have hle : ¬ t >>> 8 ≤ 59#64 := by rw [bvle, hq]; exact h
    rw [if_neg hle, if_neg hle, if_pos (show ((tagS 0 0).2 != 0) = true by decide), e1, e2]
    by_cases h2 : ((tagS ((t.toNat / 256 % 16777216 : Nat) : Int) (((t.toNat % 256 : Nat) : Int) - 1)).2 != 0) = true
    · rw [if_pos h2]
    · rw [if_neg h2]
      have h3 : isIn ((t.toNat / 256 % 16777216 : Nat) : Int) = true := by
        rcases Bool.eq_false_or_eq_true (isIn ((t.toNat / 256 % 16777216 : Nat) : Int)) with k | k
        · exact k
        · exfalso; apply h2; unfold tagS; rw [k]; rfl
      have h4 : isCl (((t.toNat % 256 : Nat) : Int) - 1) = true := by
        rcases Bool.eq_false_or_eq_true (isCl (((t.toNat % 256 : Nat) : Int) - 1)) with k | k
        · exact k
        · exfalso; apply h2; unfold tagS; rw [h3, k]; rfl
      have k3 := isIn_yes h3
      have k4 := isCl_yes h4
      have e5 : tagS ((t.toNat / 256 % 16777216 : Nat) : Int) (((t.toNat % 256 : Nat) : Int) - 1) = (BitVec.ofNat 64 (t.toNat / 256 % 16777216) <<< 8 ||| BitVec.ofNat 64 (t.toNat % 256), 0) := by
        unfold tagS; rw [if_pos h3, if_pos h4, ofInt_nat, show (((t.toNat % 256 : Nat) : Int) - 1 + 1) = ((t.toNat % 256 : Nat) : Int) by omega, ofInt_nat]
      have e6 := pack_toNat 8 (t.toNat / 256 % 16777216) (t.toNat % 256) (by omega) (by omega) (by omega)
      rw [e5]
      rw [if_pos]
      rw [bne_iff_ne, ne_eq, bveq, e6]
      omega
theorem splitLease_eq (t : BitVec 64) : splitLeaseP t = splitLeaseR t := by
  have hq : (t >>> 32).toNat = t.toNat / 4294967296 := shr_toNat t 32
  have hr : (t &&& 4294967295#64).toNat = t.toNat % 4294967296 := and_toNat t 32 (by omega) 4294967295#64 rfl
  have hm : mskB 32 = 4294967295#64 := by decide
  have ht := t.isLt
  have e2 : I64 (t &&& 4294967295#64) = ((t.toNat % 4294967296 : Nat) : Int) := by rw [bv63 _ (by omega), hr]
  have e3 : I64 (t >>> 32) = ((t.toNat / 4294967296 : Nat) : Int) := by rw [bv63 _ (by omega), hq]
  unfold splitLeaseP splitLeaseR incL unL
  by_cases h : t.toNat / 4294967296 ≤ 59
  · have hle : t >>> 32 ≤ 59#64 := by rw [bvle, hq]; exact h
    rw [if_pos hle, if_pos hle, hm, e2, e3]
    rcases Bool.eq_false_or_eq_true (isIn ((t.toNat / 4294967296 : Nat) : Int)) with k | k
    · have e5 : leaseS ((t.toNat / 4294967296 : Nat) : Int) ((t.toNat % 4294967296 : Nat) : Int) = (t, 0) := by
        unfold leaseS; rw [if_pos k, if_neg (by omega), ofInt_nat, ofInt_nat]
        congr 1
        rw [bveq, pack_toNat 32 _ _ (by omega) (by omega) (by omega)]
        omega
      rw [e5, k]; simp
    · have e5 : leaseS ((t.toNat / 4294967296 : Nat) : Int) ((t.toNat % 4294967296 : Nat) : Int) = (0#64, 2) := by
        unfold leaseS; rw [k]; rfl
      rw [e5, k]; simp
  · have hle : ¬ t >>> 32 ≤ 59#64 := by rw [bvle, hq]; exact h
    rw [if_neg hle, if_neg hle, if_pos (show ((leaseS 0 0).2 != 0) = true by decide), e3]
    have k : isIn ((t.toNat / 4294967296 : Nat) : Int) = false := by rw [isIn_nat]; simp [h]
    rw [k]; simp
theorem splitBallot_eq (t : BitVec 64) : splitBallotP t = splitBallotR t := by
  have ht := t.isLt
  have hq : (t / 8#64).toNat = t.toNat / 8 := BitVec.toNat_udiv
  have hr : (t % 8#64).toNat = t.toNat % 8 := BitVec.toNat_umod
  have e2 : I64 (t % 8#64) = ((t.toNat % 8 : Nat) : Int) := by rw [bv63 _ (by omega), hr]
  have e3 : I64 (t / 8#64) = ((t.toNat / 8 : Nat) : Int) := by rw [bv63 _ (by omega), hq]
  unfold splitBallotP splitBallotR roB clB
  by_cases h : t.toNat < 4096
  · have hle : t < 4096#64 := by rw [bvlt]; exact h
    have hn : ¬ 4095#64 < t := by rw [bvlt]; show ¬ 4095 < _; omega
    rw [if_pos hle, if_pos hle, if_neg hn, e2, e3]
    by_cases h2 : ((ballotS ((t.toNat / 8 : Nat) : Int) (((t.toNat % 8 : Nat) : Int) - 1)).2 != 0) = true
    · rw [if_pos h2, if_pos h2]
    · rw [if_neg h2, if_neg h2]
      have k1 : ¬ (((t.toNat / 8 : Nat) : Int) < 1 ∨ 500 < ((t.toNat / 8 : Nat) : Int)) := by
        intro k; apply h2; unfold ballotS; rw [if_pos k]; decide
      have k2 : isCl (((t.toNat % 8 : Nat) : Int) - 1) = true := by
        rcases Bool.eq_false_or_eq_true (isCl (((t.toNat % 8 : Nat) : Int) - 1)) with k | k
        · exact k
        · exfalso; apply h2; unfold ballotS; rw [if_neg k1, k]; rfl
      have e5 : ballotS ((t.toNat / 8 : Nat) : Int) (((t.toNat % 8 : Nat) : Int) - 1) = (t, 0) := by
        unfold ballotS; rw [if_neg k1, if_pos k2]
        congr 1
        rw [show ((t.toNat / 8 : Nat) : Int) * 8 + (((t.toNat % 8 : Nat) : Int) - 1) + 1 = (t.toNat : Int) by omega, ofInt_nat, BitVec.ofNat_toNat, BitVec.setWidth_eq]
      rw [e5]; simp
  · have hle : ¬ t < 4096#64 := by rw [bvlt]; exact h
    have hn : 4095#64 < t := by rw [bvlt]; show 4095 < _; omega
    rw [if_neg hle, if_neg hle, if_pos hn, if_pos (show ((ballotS 0 0).2 != 0) = true by decide)]
end Go.Proofs.Ytjajmfgbehiefaa
