/- Plain laws of headers: a header's life. Own work. -/
import Derived.Test.YtjajmfgbehiefaaWP
namespace Go.Proofs.Ytjajmfgbehiefaa
open Go.RowKit
set_option linter.unusedVariables false
/-- The unlocked header of a version. -/
def hd (u : Nat) : BitVec 64 := BitVec.ofNat 64 (u * 256)
theorem hd_toNat (u : Nat) (h : u < 72057594037927936) : (hd u).toNat = u * 256 := by
  unfold hd; rw [BitVec.toNat_ofNat]; exact Nat.mod_eq_of_lt (by omega)
theorem hd_shr (u : Nat) (h : u < 72057594037927936) : (hd u >>> 8).toNat = u := by rw [shr_toNat, hd_toNat u h]; omega
theorem hd_and (u : Nat) (h : u < 72057594037927936) : (hd u &&& 255#64 == 0#64) = true := by
  rw [beq_iff_eq, bveq, and_toNat _ 8 (by omega) 255#64 rfl, hd_toNat u h]
  show u * 256 % 256 = 0; omega
theorem life_start (x : BitVec 64) : ∃ V : BitVec 64, x % 281474976710556#64 + 1#64 = V ∧ 1 ≤ V.toNat ∧ V.toNat ≤ 281474976710556 := by
  refine ⟨_, rfl, ?_⟩
  rw [BitVec.toNat_add, BitVec.toNat_umod]
  have h : x.toNat % 281474976710556 < 281474976710556 := Nat.mod_lt _ (by omega)
  show 1 ≤ (x.toNat % 281474976710556 + 1) % 2 ^ 64 ∧ (x.toNat % 281474976710556 + 1) % 2 ^ 64 ≤ 281474976710556
  omega
theorem head_start (V : BitVec 64) (lo : 1 ≤ V.toNat) (hi : V.toNat ≤ 281474976710556) : hdrS V 0 = (hd V.toNat, 0) := by
  unfold hdrS
  rw [if_neg (by rw [bvlt, bvlt]; show ¬ (V.toNat < 1 ∨ 281474976710655 < V.toNat); omega), if_neg (by omega)]
  congr 1
  rw [bveq, hd_toNat _ (by omega)]
  have := pack_toNat 8 V.toNat 0 (by omega) (by omega) (by omega)
  rw [BitVec.ofNat_toNat, BitVec.setWidth_eq] at this
  rw [show BitVec.ofInt 64 0 = BitVec.ofNat 64 0 from rfl, this]
  omega
theorem head_life (u : Nat) (c o : Int) (h1 : 1 ≤ u) (h2 : u ≤ 281474976710600) (c0 : 0 ≤ c) (c1 : c < 6) (o0 : 0 ≤ o) (o1 : o < 6) :
    ∃ l : BitVec 64, lockS (hd u) c = (l, 0) ∧ lockS l o = (0#64, 3) ∧ l >>> 8 = BitVec.ofNat 64 u ∧ I64 (l &&& 255#64) = c + 1 ∧ (l &&& 255#64 == 0#64) = false ∧
      nextS l = (hd (u + 1), 0) ∧ nextS (hd u) = (hd (u + 1), 0) ∧ ¬ hd (u + 1) ≤ l := by
  obtain ⟨k, rfl⟩ := Int.eq_ofNat_of_zero_le c0
  have e : lockS (hd u) (k : Int) = (BitVec.ofNat 64 u <<< 8 ||| BitVec.ofNat 64 (k + 1), 0) := by
    unfold lockS
    rw [if_neg (by omega), if_pos (hd_and u (by omega)), show ((k : Int) + 1) = ((k + 1 : Nat) : Int) by omega, ofInt_nat]
    congr 2
    rw [bveq, hd_toNat u (by omega), BitVec.toNat_shiftLeft, Nat.shiftLeft_eq, BitVec.toNat_ofNat]
    omega
  have t := pack_toNat 8 u (k + 1) (by omega) (by omega) (by omega)
  generalize BitVec.ofNat 64 u <<< 8 ||| BitVec.ofNat 64 (k + 1) = l at *
  have t' : l.toNat = u * 256 + (k + 1) := t
  have ha : (l &&& 255#64).toNat = k + 1 := by rw [and_toNat _ 8 (by omega) 255#64 rfl, t']; omega
  have hs : (l >>> 8).toNat = u := by rw [shr_toNat, t']; omega
  have hb : (l &&& 255#64 == 0#64) = false := by rw [beq_eq_false_iff_ne, ne_eq, bveq, ha]; show ¬ k + 1 = 0; omega
  have nx : ∀ y : BitVec 64, (y >>> 8).toNat = u → nextS y = (hd (u + 1), 0) := by
    intro y hy
    unfold nextS
    rw [if_neg (by rw [bvlt, bvlt, hy]; show ¬ (u < 1 ∨ 281474976710654 < u); omega)]
    congr 1
    rw [bveq, hd_toNat _ (by omega), BitVec.toNat_add, BitVec.toNat_shiftLeft, Nat.shiftLeft_eq, hy]
    show (u * 256 % 2 ^ 64 + 256) % 2 ^ 64 = _
    omega
  refine ⟨l, e, ?_, ?_, ?_, hb, nx l hs, nx _ (hd_shr u (by omega)), ?_⟩
  · unfold lockS; rw [if_neg (by omega), hb]; rfl
  · rw [bveq, hs, BitVec.toNat_ofNat]; omega
  · rw [bv63 _ (by omega), ha]; omega
  · rw [bvle, hd_toNat _ (by omega), t']; omega
end Go.Proofs.Ytjajmfgbehiefaa
