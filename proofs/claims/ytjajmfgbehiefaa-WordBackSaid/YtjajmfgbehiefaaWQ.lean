/- Plain laws of packed words, continued: what was packed in range. Own work. -/
import Derived.Test.YtjajmfgbehiefaaWP
namespace Go.Proofs.Ytjajmfgbehiefaa
open Go.RowKit
set_option linter.unusedVariables false
theorem ofInt_in (n : Int) (h0 : 0 ≤ n) (h1 : n < 18446744073709551616) : ((BitVec.ofInt 64 n).toNat : Int) = n := by
  rw [ofInt_toNat']; omega
theorem isCl_of (c : Int) (h0 : 0 ≤ c) (h1 : c < 6) : isCl c = true := by unfold isCl; simp; omega
theorem isIn_of (i : Int) (h0 : 1 ≤ i) (h1 : i ≤ 59) (h2 : i % 2 = 1) : isIn i = true := by unfold isIn; simp; omega
theorem ballot_ok (r c : Int) (h0 : 1 ≤ r) (h1 : r ≤ 500) (h2 : 0 ≤ c) (h3 : c < 6) : ∃ x : BitVec 64, ballotS r c = (x, 0) ∧ (x.toNat : Int) = r * 8 + c + 1 := by
  refine ⟨BitVec.ofInt 64 (r * 8 + c + 1), ?_, ofInt_in _ (by omega) (by omega)⟩
  unfold ballotS
  rw [if_neg (by omega), if_pos (isCl_of c h2 h3)]
theorem bv_nat (x : BitVec 64) : BitVec.ofNat 64 x.toNat = x := by rw [BitVec.ofNat_toNat, BitVec.setWidth_eq]
theorem key_all : ∀ (m : Fin 16) (o : Bool), (if o = true then BitVec.ofNat 64 m.val * 2#64 + 1#64 else BitVec.ofNat 64 m.val * 2#64) / 2#64 = BitVec.ofNat 64 m.val ∧
    ((if o = true then BitVec.ofNat 64 m.val * 2#64 + 1#64 else BitVec.ofNat 64 m.val * 2#64) % 2#64 == 1#64) = o := by decide
theorem key_ok (n : Int) (o : Bool) (h0 : 0 ≤ n) (h1 : n < 16) : ∃ k : BitVec 64, keyS n o = (k, 0) ∧ k / 2#64 = BitVec.ofInt 64 n ∧ (k % 2#64 == 1#64) = o := by
  obtain ⟨m, rfl⟩ := Int.eq_ofNat_of_zero_le h0
  have e : keyS (m : Int) o = (if o = true then BitVec.ofInt 64 m * 2#64 + 1#64 else BitVec.ofInt 64 m * 2#64, 0) := by
    unfold keyS; rw [if_neg (by omega)]; cases o <;> rfl
  have := key_all ⟨m, by omega⟩ o
  rw [ofInt_nat] at *
  exact ⟨_, e, this⟩
theorem mark_ok (s : Int) (h0 : 1 ≤ s) (h1 : s < 1073741824) : ∃ m : BitVec 64, markS s = (m, 0) ∧ splitMarkP m = (s, true) ∧ (m.toNat : Int) = s * 4 + 2 := by
  obtain ⟨n, rfl⟩ := Int.eq_ofNat_of_zero_le (show 0 ≤ s by omega)
  have e : markS (n : Int) = (BitVec.ofNat 64 n <<< 2 ||| 2#64, 0) := by unfold markS; rw [if_neg (by omega), ofInt_nat]
  have t : (BitVec.ofNat 64 n <<< 2 ||| 2#64).toNat = n * 4 + 2 := pack_toNat 2 n 2 (by omega) (by omega) (by omega)
  generalize BitVec.ofNat 64 n <<< 2 ||| 2#64 = m at *
  refine ⟨m, e, ?_, by omega⟩
  have hq : (m >>> 2).toNat = n := by rw [shr_toNat, t]; omega
  have es : seqOf m = (n : Int) := by
    unfold seqOf; rw [if_pos (by rw [bvlt, hq]; show n < 1073741824; omega), bv63 _ (by omega), hq]
  unfold splitMarkP
  rw [es, e]; simp
theorem tag_ok (i c : Int) (h0 : isIn i = true) (h2 : 0 ≤ c) (h3 : c < 6) : ∃ t : BitVec 64, tagS i c = (t, 0) ∧ splitTagP t = (i, c, true) := by
  have hi := isIn_yes h0
  obtain ⟨n, rfl⟩ := Int.eq_ofNat_of_zero_le (show 0 ≤ i by omega)
  obtain ⟨k, rfl⟩ := Int.eq_ofNat_of_zero_le h2
  have e : tagS (n : Int) (k : Int) = (BitVec.ofNat 64 n <<< 8 ||| BitVec.ofNat 64 (k + 1), 0) := by
    unfold tagS; rw [if_pos h0, if_pos (isCl_of _ h2 h3), ofInt_nat, show ((k : Int) + 1) = ((k + 1 : Nat) : Int) by omega, ofInt_nat]
  have t : (BitVec.ofNat 64 n <<< 8 ||| BitVec.ofNat 64 (k + 1)).toNat = n * 256 + (k + 1) := pack_toNat 8 n (k + 1) (by omega) (by omega) (by omega)
  generalize BitVec.ofNat 64 n <<< 8 ||| BitVec.ofNat 64 (k + 1) = x at *
  refine ⟨x, e, ?_⟩
  have hq : (x >>> 8).toNat = n := by rw [shr_toNat, t]; omega
  have hle : x >>> 8 ≤ 59#64 := by rw [bvle, hq]; show n ≤ 59; omega
  have hr : (x &&& mskB 8).toNat = k + 1 := by rw [show mskB 8 = 255#64 by decide, and_toNat x 8 (by omega) 255#64 rfl, t]; omega
  have e1 : incT x = (n : Int) := by unfold incT; rw [if_pos hle, bv63 _ (by omega), hq]
  have e2 : clT x = (k : Int) := by unfold clT; rw [if_pos hle, bv63 _ (by omega), hr]; omega
  unfold splitTagP
  rw [e1, e2, e]; simp
theorem lease_ok (i u : Int) (h0 : isIn i = true) (h2 : 0 ≤ u) (h3 : u < 4294967296) : ∃ t : BitVec 64, leaseS i u = (t, 0) ∧ splitLeaseP t = (i, u, true) := by
  have hi := isIn_yes h0
  obtain ⟨n, rfl⟩ := Int.eq_ofNat_of_zero_le (show 0 ≤ i by omega)
  obtain ⟨k, rfl⟩ := Int.eq_ofNat_of_zero_le h2
  have e : leaseS (n : Int) (k : Int) = (BitVec.ofNat 64 n <<< 32 ||| BitVec.ofNat 64 k, 0) := by
    unfold leaseS; rw [if_pos h0, if_neg (by omega), ofInt_nat, ofInt_nat]
  have t : (BitVec.ofNat 64 n <<< 32 ||| BitVec.ofNat 64 k).toNat = n * 4294967296 + k := pack_toNat 32 n k (by omega) (by omega) (by omega)
  generalize BitVec.ofNat 64 n <<< 32 ||| BitVec.ofNat 64 k = x at *
  refine ⟨x, e, ?_⟩
  have hq : (x >>> 32).toNat = n := by rw [shr_toNat, t]; omega
  have hle : x >>> 32 ≤ 59#64 := by rw [bvle, hq]; show n ≤ 59; omega
  have hr : (x &&& mskB 32).toNat = k := by rw [show mskB 32 = 4294967295#64 by decide, and_toNat x 32 (by omega) 4294967295#64 rfl, t]; omega
  have e1 : incL x = (n : Int) := by unfold incL; rw [if_pos hle, bv63 _ (by omega), hq]
  have e2 : unL x = (k : Int) := by unfold unL; rw [if_pos hle, bv63 _ (by omega), hr]
  unfold splitLeaseP
  rw [e1, e2, e]; simp
theorem ballot_back (r c : Int) (h0 : 1 ≤ r) (h1 : r ≤ 500) (h2 : 0 ≤ c) (h3 : c < 6) : ∃ x : BitVec 64, ballotS r c = (x, 0) ∧ splitBallotP x = (r, c, true) ∧ x < 4096#64 := by
  obtain ⟨x, e, t⟩ := ballot_ok r c h0 h1 h2 h3
  have hlt : x < 4096#64 := by rw [bvlt]; show x.toNat < 4096; omega
  refine ⟨x, e, ?_, hlt⟩
  have hq : (x / 8#64).toNat = x.toNat / 8 := BitVec.toNat_udiv
  have hr : (x % 8#64).toNat = x.toNat % 8 := BitVec.toNat_umod
  have e1 : roB x = r := by unfold roB; rw [if_pos hlt, bv63 _ (by omega), hq]; omega
  have e2 : clB x = c := by unfold clB; rw [if_pos hlt, bv63 _ (by omega), hr]; omega
  unfold splitBallotP
  rw [e1, e2, e]; simp
end Go.Proofs.Ytjajmfgbehiefaa
