/- Unsigned numbers of the walk as bit vectors: rules for the walk's simp set. Own work. -/
import Derived.Test.YthppeaelfcmafaaChecked
import Derived.WalkKit
import Derived.WalkSpells
import Derived.WalkLawsBesides
import Derived.Lib.Hide
namespace Go.Proofs.Ythppeaelfcmafaa
open Go.RowKit

/-- The number of a bit vector, as an unsigned integer holds it. -/
def UV {n : Nat} (x : BitVec n) : Int := (x.toNat : Int)

theorem UV_nonneg {n : Nat} (x : BitVec n) : 0 ≤ UV x := Int.natCast_nonneg _
theorem UV_lt {n : Nat} (x : BitVec n) : UV x < 2 ^ n := by
  unfold UV; have := x.isLt; exact_mod_cast this
@[go_sem] theorem UV_inj {n : Nat} (a b : BitVec n) : (UV a = UV b) = (a = b) := by
  unfold UV
  apply propext
  constructor
  · intro h; apply BitVec.eq_of_toNat_eq; exact_mod_cast h
  · intro h; rw [h]
@[go_sem] theorem UV_beq {n : Nat} (a b : BitVec n) : (UV a == UV b) = (a == b) := by
  rw [Bool.eq_iff_iff]; simp [UV_inj]
@[go_sem] theorem UV_bne {n : Nat} (a b : BitVec n) : (UV a != UV b) = (a != b) := by
  rw [bne, bne, UV_beq]
@[go_sem] theorem UV_ltd {n : Nat} (a b : BitVec n) : (UV a < UV b) = (a < b) := by
  unfold UV; simp [BitVec.lt_def]
@[go_sem] theorem UV_led {n : Nat} (a b : BitVec n) : (UV a ≤ UV b) = (a ≤ b) := by
  unfold UV; simp [BitVec.le_def]

/-! ### Literals -/
theorem UV_ofNat {w n : Nat} (h : n < 2 ^ w) : UV (BitVec.ofNat w n) = (n : Int) := by
  unfold UV; rw [BitVec.toNat_ofNat, Nat.mod_eq_of_lt h]
@[go_sem] theorem lit_u64 (n : Nat) (h : n < 18446744073709551616) : Value.int .u64 (no_index (OfNat.ofNat n)) = Value.int .u64 (UV (BitVec.ofNat 64 n)) := by
  rw [UV_ofNat h]; rfl
@[go_sem] theorem lit_u32 (n : Nat) (h : n < 4294967296) : Value.int .u32 (no_index (OfNat.ofNat n)) = Value.int .u32 (UV (BitVec.ofNat 32 n)) := by
  rw [UV_ofNat h]; rfl
@[go_sem] theorem lit_u8 (n : Nat) (h : n < 256) : Value.int .u8 (no_index (OfNat.ofNat n)) = Value.int .u8 (UV (BitVec.ofNat 8 n)) := by
  rw [UV_ofNat h]; rfl

/-! ### Bits -/
theorem bv64 (a : BitVec 64) : a.toNat < 18446744073709551616 := a.isLt
theorem bv32 (a : BitVec 32) : a.toNat < 4294967296 := a.isLt
theorem bv8 (a : BitVec 8) : a.toNat < 256 := a.isLt
theorem ofInt_UV {w : Nat} (a : BitVec w) : BitVec.ofInt w (UV a) = a := by
  unfold UV; rw [BitVec.ofInt_natCast]; simp
@[go_sem high] theorem and_u64 (a b : BitVec 64) : Op.intBits .and .u64 (UV a) (UV b) = pure (.int .u64 (UV (a &&& b))) := by
  rw [intBits_and]; congr 2; unfold UV; rw [u64_and_nat _ _ (bv64 a) (bv64 b), BitVec.toNat_and]
@[go_sem high] theorem or_u64 (a b : BitVec 64) : Op.intBits .or .u64 (UV a) (UV b) = pure (.int .u64 (UV (a ||| b))) := by
  rw [intBits_or]; congr 2; unfold UV; rw [u64_or_nat _ _ (bv64 a) (bv64 b), BitVec.toNat_or]
@[go_sem high] theorem xor_u64 (a b : BitVec 64) : Op.intBits .xor .u64 (UV a) (UV b) = pure (.int .u64 (UV (a ^^^ b))) := by
  rw [intBits_xor]; congr 2; unfold UV; rw [u64_xor_nat _ _ (bv64 a) (bv64 b), BitVec.toNat_xor]
theorem wrap_u64_mod (n : Int) : IntKind.u64.wrap n = n % 18446744073709551616 := by simp [IntKind.wrap, IntKind.bits, IntKind.signed]
theorem wrap_u32_mod (n : Int) : IntKind.u32.wrap n = n % 4294967296 := by simp [IntKind.wrap, IntKind.bits, IntKind.signed]
theorem wrap_u8_mod (n : Int) : IntKind.u8.wrap n = n % 256 := by simp [IntKind.wrap, IntKind.bits, IntKind.signed]
theorem wrap_UV64 (a : BitVec 64) : IntKind.u64.wrap (a.toNat : Int) = (a.toNat : Int) := by
  rw [wrap_u64_mod]; have := bv64 a; omega
theorem wrap_UV32 (a : BitVec 32) : IntKind.u32.wrap (a.toNat : Int) = (a.toNat : Int) := by
  rw [wrap_u32_mod]; have := bv32 a; omega
theorem wrap_UV8 (a : BitVec 8) : IntKind.u8.wrap (a.toNat : Int) = (a.toNat : Int) := by
  rw [wrap_u8_mod]; have := bv8 a; omega
@[go_sem high] theorem andNot_u64 (a b : BitVec 64) : Op.intBits .andNot .u64 (UV a) (UV b) = pure (.int .u64 (UV (a &&& ~~~b))) := by
  rw [intBits_andNot]; congr 2
  show IntKind.u64.wrap ((BitVec.ofInt 64 (UV a) &&& ~~~ BitVec.ofInt 64 (UV b)).toNat : Int) = _
  rw [ofInt_UV, ofInt_UV, wrap_UV64]; rfl
@[go_sem high] theorem not_u64 (b : BitVec 64) : Op.intBits .xor .u64 IntKind.u64.max (UV b) = pure (.int .u64 (UV (~~~b))) := by
  rw [intBits_xor]; congr 2
  show IntKind.u64.wrap ((BitVec.ofInt 64 18446744073709551615 ^^^ BitVec.ofInt 64 (UV b)).toNat : Int) = _
  rw [ofInt_UV, wrap_UV64]
  have h : (BitVec.ofInt 64 18446744073709551615 ^^^ b) = ~~~ b := by
    have : BitVec.ofInt 64 18446744073709551615 = BitVec.allOnes 64 := by decide
    rw [this, BitVec.allOnes_xor]
  rw [h]; rfl
@[go_sem high] theorem unary_not_u64 (b : BitVec 64) : Op.unary .xor (.int .u64 (UV b)) = pure (.int .u64 (UV (~~~b))) := not_u64 b
@[go_sem high] theorem and_u8 (a b : BitVec 8) : Op.intBits .and .u8 (UV a) (UV b) = pure (.int .u8 (UV (a &&& b))) := by
  rw [intBits_and]; congr 2; unfold UV; rw [u8_and_nat _ _ (bv8 a) (bv8 b), BitVec.toNat_and]
@[go_sem high] theorem or_u8 (a b : BitVec 8) : Op.intBits .or .u8 (UV a) (UV b) = pure (.int .u8 (UV (a ||| b))) := by
  rw [intBits_or]; congr 2; unfold UV; rw [u8_or_nat _ _ (bv8 a) (bv8 b), BitVec.toNat_or]
@[go_sem high] theorem xor_u8 (a b : BitVec 8) : Op.intBits .xor .u8 (UV a) (UV b) = pure (.int .u8 (UV (a ^^^ b))) := by
  rw [intBits_xor]; congr 2; unfold UV; rw [u8_xor_nat _ _ (bv8 a) (bv8 b), BitVec.toNat_xor]
@[go_sem high] theorem and_u32 (a b : BitVec 32) : Op.intBits .and .u32 (UV a) (UV b) = pure (.int .u32 (UV (a &&& b))) := by
  rw [intBits_and]; congr 2; unfold UV; rw [u32_and_nat _ _ (bv32 a) (bv32 b), BitVec.toNat_and]
@[go_sem high] theorem or_u32 (a b : BitVec 32) : Op.intBits .or .u32 (UV a) (UV b) = pure (.int .u32 (UV (a ||| b))) := by
  rw [intBits_or]; congr 2; unfold UV; rw [u32_or_nat _ _ (bv32 a) (bv32 b), BitVec.toNat_or]
@[go_sem high] theorem xor_u32 (a b : BitVec 32) : Op.intBits .xor .u32 (UV a) (UV b) = pure (.int .u32 (UV (a ^^^ b))) := by
  rw [intBits_xor]; congr 2; unfold UV; rw [u32_xor_nat _ _ (bv32 a) (bv32 b), BitVec.toNat_xor]

/-! ### Sums -/
theorem UV_mod {w : Nat} (a : BitVec w) (n : Int) (h : n % (2 ^ w : Nat) = UV a) : n % (2 ^ w : Nat) = UV a := h
@[go_sem high] theorem add_u64 (t : TypeId) (a b : BitVec 64) : binOp .add t (.int .u64 (UV a)) (.int .u64 (UV b)) = pure (.int .u64 (UV (a + b))) := by
  rw [binOp_add]
  show (pure (.int .u64 (IntKind.u64.wrap (UV a + UV b))) : Sem Value) = _
  refine congrArg (fun n => (pure (Value.int _ n) : Sem Value)) ?_; rw [wrap_u64_mod]; unfold UV; rw [BitVec.toNat_add]; omega
@[go_sem high] theorem sub_u64 (t : TypeId) (a b : BitVec 64) : binOp .sub t (.int .u64 (UV a)) (.int .u64 (UV b)) = pure (.int .u64 (UV (a - b))) := by
  rw [binOp_sub]
  show (pure (.int .u64 (IntKind.u64.wrap (UV a - UV b))) : Sem Value) = _
  congr 2; rw [wrap_u64_mod]; unfold UV; rw [BitVec.toNat_sub]; have := bv64 a; have := bv64 b; omega
@[go_sem high] theorem mul_u64 (t : TypeId) (a b : BitVec 64) : binOp .mul t (.int .u64 (UV a)) (.int .u64 (UV b)) = pure (.int .u64 (UV (a * b))) := by
  rw [binOp_mul]
  show (pure (.int .u64 (IntKind.u64.wrap (UV a * UV b))) : Sem Value) = _
  refine congrArg (fun n => (pure (Value.int _ n) : Sem Value)) ?_; rw [wrap_u64_mod]; unfold UV; rw [BitVec.toNat_mul, Int.natCast_emod, Int.natCast_mul]; rfl
@[go_sem high] theorem add_u32 (t : TypeId) (a b : BitVec 32) : binOp .add t (.int .u32 (UV a)) (.int .u32 (UV b)) = pure (.int .u32 (UV (a + b))) := by
  rw [binOp_add]
  show (pure (.int .u32 (IntKind.u32.wrap (UV a + UV b))) : Sem Value) = _
  refine congrArg (fun n => (pure (Value.int _ n) : Sem Value)) ?_; rw [wrap_u32_mod]; unfold UV; rw [BitVec.toNat_add]; omega
@[go_sem high] theorem sub_u32 (t : TypeId) (a b : BitVec 32) : binOp .sub t (.int .u32 (UV a)) (.int .u32 (UV b)) = pure (.int .u32 (UV (a - b))) := by
  rw [binOp_sub]
  show (pure (.int .u32 (IntKind.u32.wrap (UV a - UV b))) : Sem Value) = _
  congr 2; rw [wrap_u32_mod]; unfold UV; rw [BitVec.toNat_sub]; have := bv32 a; have := bv32 b; omega
@[go_sem high] theorem mul_u32 (t : TypeId) (a b : BitVec 32) : binOp .mul t (.int .u32 (UV a)) (.int .u32 (UV b)) = pure (.int .u32 (UV (a * b))) := by
  rw [binOp_mul]
  show (pure (.int .u32 (IntKind.u32.wrap (UV a * UV b))) : Sem Value) = _
  refine congrArg (fun n => (pure (Value.int _ n) : Sem Value)) ?_; rw [wrap_u32_mod]; unfold UV; rw [BitVec.toNat_mul, Int.natCast_emod, Int.natCast_mul]; rfl
theorem UV_tdiv {w : Nat} (a b : BitVec w) : (UV a).tdiv (UV b) = UV (a / b) := by
  unfold UV; rw [BitVec.toNat_udiv, Int.tdiv_eq_ediv_of_nonneg (Int.natCast_nonneg _)]; rfl
theorem UV_tmod {w : Nat} (a b : BitVec w) : (UV a).tmod (UV b) = UV (a % b) := by
  unfold UV; rw [BitVec.toNat_umod, Int.tmod_eq_emod_of_nonneg (Int.natCast_nonneg _)]; rfl
theorem UV_zero {w : Nat} (b : BitVec w) (h : b ≠ 0#w) : UV b ≠ 0 := by
  intro h2; apply h; apply BitVec.eq_of_toNat_eq; unfold UV at h2; simp; omega
@[go_sem high] theorem quo_u64 (t : TypeId) (a b : BitVec 64) (h : b ≠ 0#64) : binOp .quo t (.int .u64 (UV a)) (.int .u64 (UV b)) = pure (.int .u64 (UV (a / b))) := by
  rw [binOp_quo]; unfold Op.intDiv; rw [if_neg (UV_zero b h)]; simp only [UV_tdiv]; congr 2; exact wrap_UV64 _
@[go_sem high] theorem rem_u64 (t : TypeId) (a b : BitVec 64) (h : b ≠ 0#64) : binOp .rem t (.int .u64 (UV a)) (.int .u64 (UV b)) = pure (.int .u64 (UV (a % b))) := by
  rw [binOp_rem]; unfold Op.intDiv; rw [if_neg (UV_zero b h)]; simp only [UV_tmod]
@[go_sem high] theorem quo_u32 (t : TypeId) (a b : BitVec 32) (h : b ≠ 0#32) : binOp .quo t (.int .u32 (UV a)) (.int .u32 (UV b)) = pure (.int .u32 (UV (a / b))) := by
  rw [binOp_quo]; unfold Op.intDiv; rw [if_neg (UV_zero b h)]; simp only [UV_tdiv]; congr 2; exact wrap_UV32 _
@[go_sem high] theorem rem_u32 (t : TypeId) (a b : BitVec 32) (h : b ≠ 0#32) : binOp .rem t (.int .u32 (UV a)) (.int .u32 (UV b)) = pure (.int .u32 (UV (a % b))) := by
  rw [binOp_rem]; unfold Op.intDiv; rw [if_neg (UV_zero b h)]; simp only [UV_tmod]

/-! ### Shifts: by an unsigned count -/
theorem UV_neg {w : Nat} (b : BitVec w) : ¬ UV b < 0 := by have := UV_nonneg b; omega
theorem shr_UV {w : Nat} (a : BitVec w) (n : Nat) : (UV a).fdiv (2 ^ min n w) = UV (a >>> n) := by
  unfold UV
  rw [BitVec.toNat_ushiftRight, Nat.shiftRight_eq_div_pow]
  have h0 : (0 : Int) ≤ 2 ^ min n w := Int.pow_nonneg (by omega)
  rw [Int.fdiv_eq_ediv_of_nonneg _ h0]
  by_cases h : n ≤ w
  · rw [Nat.min_eq_left h]; norm_cast
  · rw [Nat.min_eq_right (by omega)]
    have h1 := a.isLt
    have h2 : a.toNat < 2 ^ n := Nat.lt_of_lt_of_le h1 (Nat.pow_le_pow_right (by omega) (by omega))
    rw [Nat.div_eq_of_lt h2]
    have h3 : ((a.toNat : Int)) / ((2 ^ w : Nat) : Int) = 0 := Int.ediv_eq_zero_of_lt (by omega) (by exact_mod_cast h1)
    exact_mod_cast h3
theorem shl_UV {w : Nat} (a : BitVec w) (n : Nat) : (UV a * 2 ^ min n w) % (2 ^ w : Nat) = UV (a <<< n) := by
  unfold UV
  rw [BitVec.toNat_shiftLeft, Nat.shiftLeft_eq]
  by_cases h : n ≤ w
  · rw [Nat.min_eq_left h]; norm_cast
  · rw [Nat.min_eq_right (by omega)]
    have h1 : a.toNat * 2 ^ n % 2 ^ w = 0 := by
      have : n = (n - w) + w := by omega
      rw [this, Nat.pow_add, ← Nat.mul_assoc, Nat.mul_mod_left]
    rw [h1]
    have h2 : a.toNat * 2 ^ w % 2 ^ w = 0 := Nat.mul_mod_left _ _
    exact_mod_cast h2
theorem ofInt_toNat' (n : Int) : ((BitVec.ofInt 64 n).toNat : Int) = n % 18446744073709551616 := by
  rw [BitVec.toNat_ofInt]
  have h : 0 ≤ n % ((2 ^ 64 : Nat) : Int) := Int.emod_nonneg _ (by decide)
  omega
/-- A shift's count. -/
def shf {w : Nat} (b : BitVec w) : Nat := b.toNat
@[go_sem] theorem shf_lit (n : Nat) (h : n < 18446744073709551616) : shf (BitVec.ofNat 64 (no_index (OfNat.ofNat n))) = OfNat.ofNat n := by
  unfold shf; rw [BitVec.toNat_ofNat]; exact Nat.mod_eq_of_lt h
@[go_sem] theorem shf_nat (n : Nat) (h : n ≤ 64) : shf (BitVec.ofNat 64 n) = n := by
  unfold shf; rw [BitVec.toNat_ofNat]; exact Nat.mod_eq_of_lt (by omega)
@[go_sem] theorem shf_int (n : Int) (h0 : 0 ≤ n) (h : n ≤ 64) : shf (BitVec.ofInt 64 n) = n.toNat := by
  unfold shf
  have h1 := ofInt_toNat' n
  omega
theorem toNat_UV {w : Nat} (b : BitVec w) : (UV b).toNat = b.toNat := rfl
@[go_sem high] theorem shr_u64 {w : Nat} (a : BitVec 64) (b : BitVec w) (k : IntKind) : Op.shift .shr .u64 (UV a) k (UV b) = pure (.int .u64 (UV (a >>> shf b))) := by
  unfold Op.shift; rw [if_neg (UV_neg b)]; simp only [toNat_UV]; congr 2; exact shr_UV a b.toNat
@[go_sem high] theorem shr_u32 {w : Nat} (a : BitVec 32) (b : BitVec w) (k : IntKind) : Op.shift .shr .u32 (UV a) k (UV b) = pure (.int .u32 (UV (a >>> shf b))) := by
  unfold Op.shift; rw [if_neg (UV_neg b)]; simp only [toNat_UV]; congr 2; exact shr_UV a b.toNat
@[go_sem high] theorem shr_u8 {w : Nat} (a : BitVec 8) (b : BitVec w) (k : IntKind) : Op.shift .shr .u8 (UV a) k (UV b) = pure (.int .u8 (UV (a >>> shf b))) := by
  unfold Op.shift; rw [if_neg (UV_neg b)]; simp only [toNat_UV]; congr 2; exact shr_UV a b.toNat
@[go_sem high] theorem shl_u64 {w : Nat} (a : BitVec 64) (b : BitVec w) (k : IntKind) : Op.shift .shl .u64 (UV a) k (UV b) = pure (.int .u64 (UV (a <<< shf b))) := by
  unfold Op.shift; rw [if_neg (UV_neg b)]; simp only [toNat_UV]; congr 2; rw [wrap_u64_mod]; exact shl_UV a b.toNat
@[go_sem high] theorem shl_u32 {w : Nat} (a : BitVec 32) (b : BitVec w) (k : IntKind) : Op.shift .shl .u32 (UV a) k (UV b) = pure (.int .u32 (UV (a <<< shf b))) := by
  unfold Op.shift; rw [if_neg (UV_neg b)]; simp only [toNat_UV]; congr 2; rw [wrap_u32_mod]; exact shl_UV a b.toNat

/-! ### Conversions -/
@[go_sem] theorem to_u64_64 (a : BitVec 64) : IntKind.u64.wrap (UV a) = UV a := wrap_UV64 a
@[go_sem] theorem to_u32_32 (a : BitVec 32) : IntKind.u32.wrap (UV a) = UV a := wrap_UV32 a
@[go_sem] theorem to_u8_8 (a : BitVec 8) : IntKind.u8.wrap (UV a) = UV a := wrap_UV8 a
@[go_sem] theorem to_u64_8 (a : BitVec 8) : IntKind.u64.wrap (UV a) = UV (a.setWidth 64) := by
  rw [wrap_u64_mod]; unfold UV; rw [BitVec.toNat_setWidth]; have := bv8 a; omega
@[go_sem] theorem to_u64_32 (a : BitVec 32) : IntKind.u64.wrap (UV a) = UV (a.setWidth 64) := by
  rw [wrap_u64_mod]; unfold UV; rw [BitVec.toNat_setWidth]; have := bv32 a; omega
@[go_sem] theorem to_u8_64 (a : BitVec 64) : IntKind.u8.wrap (UV a) = UV (a.setWidth 8) := by
  rw [wrap_u8_mod]; unfold UV; rw [BitVec.toNat_setWidth]; omega
@[go_sem] theorem to_u32_64 (a : BitVec 64) : IntKind.u32.wrap (UV a) = UV (a.setWidth 32) := by
  rw [wrap_u32_mod]; unfold UV; rw [BitVec.toNat_setWidth]; omega
theorem ofInt_toNat (w : Nat) (n : Int) : ((BitVec.ofInt w n).toNat : Int) = n % (2 ^ w : Nat) := by
  rw [BitVec.toNat_ofInt]
  have h : 0 ≤ n % ((2 ^ w : Nat) : Int) := Int.emod_nonneg _ (by have := Nat.two_pow_pos w; omega)
  omega
@[go_sem low] theorem to_u64_int (n : Int) : IntKind.u64.wrap n = UV (BitVec.ofInt 64 n) := by
  rw [wrap_u64_mod]; unfold UV; rw [ofInt_toNat]; rfl
@[go_sem low] theorem to_u32_int (n : Int) : IntKind.u32.wrap n = UV (BitVec.ofInt 32 n) := by
  rw [wrap_u32_mod]; unfold UV; rw [ofInt_toNat]; rfl
@[go_sem low] theorem to_u8_int (n : Int) : IntKind.u8.wrap n = UV (BitVec.ofInt 8 n) := by
  rw [wrap_u8_mod]; unfold UV; rw [ofInt_toNat]; rfl
/-- The number of a word, as an int. -/
def I64 (a : BitVec 64) : Int := a.toInt
@[go_sem] theorem to_i64_64 (a : BitVec 64) : IntKind.i64.wrap (UV a) = I64 a := by
  unfold I64
  rw [IntKind.wrap_i64]; unfold UV; rw [BitVec.toInt_eq_toNat_cond]; have := bv64 a; split <;> omega
@[go_sem] theorem to_i64_32 (a : BitVec 32) : IntKind.i64.wrap (UV a) = UV a := by
  rw [IntKind.wrap_i64]; unfold UV; have := bv32 a; omega
@[go_sem] theorem to_i64_8 (a : BitVec 8) : IntKind.i64.wrap (UV a) = UV a := by
  rw [IntKind.wrap_i64]; unfold UV; have := bv8 a; omega
end Go.Proofs.Ythppeaelfcmafaa
