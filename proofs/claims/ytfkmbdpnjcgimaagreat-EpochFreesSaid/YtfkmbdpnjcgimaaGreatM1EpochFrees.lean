/- Texts of this claim, laid together (part 1): walks of functions, what they compute, and plain laws of it. Own work. -/
import Derived.Test.YtfkmbdpnjcgimaaGreatChecked
import Derived.WalkKit
import Derived.WalkSpells
import Derived.WalkLawsBesides
import Derived.Lib.Hide
import Derived.Below
import Derived.Deep.LoopGhost
import Derived.Deep.Quiet
import Derived.StillTail
import Derived.Maps.AppendAt
import Derived.IntWalk
/- Unsigned numbers of the walk as bit vectors: rules for the walk's simp set. Own work. -/
namespace Go.Proofs.YtfkmbdpnjcgimaaGreat
open Go.RowKit

/-- The number of a bit vector, as an unsigned integer holds it. -/
def UV {n : Nat} (x : BitVec n) : Int := (x.toNat : Int)

theorem UV_nonneg {n : Nat} (x : BitVec n) : 0 ≤ UV x := Int.natCast_nonneg _
theorem UV_lt {n : Nat} (x : BitVec n) : UV x < 2 ^ n := by
  unfold UV; have := x.isLt; exact_mod_cast this
@[go_sem] theorem UV_inj {n : Nat} (a b : BitVec n) : (UV a = UV b) = (a = b) := by
  unfold UV
  apply propext
  constructor
  · intro h; apply BitVec.eq_of_toNat_eq; exact_mod_cast h
  · intro h; rw [h]
@[go_sem] theorem UV_beq {n : Nat} (a b : BitVec n) : (UV a == UV b) = (a == b) := by
  rw [Bool.eq_iff_iff]; simp [UV_inj]
@[go_sem] theorem UV_bne {n : Nat} (a b : BitVec n) : (UV a != UV b) = (a != b) := by
  rw [bne, bne, UV_beq]
@[go_sem] theorem UV_ltd {n : Nat} (a b : BitVec n) : (UV a < UV b) = (a < b) := by
  unfold UV; simp [BitVec.lt_def]
@[go_sem] theorem UV_led {n : Nat} (a b : BitVec n) : (UV a ≤ UV b) = (a ≤ b) := by
  unfold UV; simp [BitVec.le_def]

/-! ### Literals -/
theorem UV_ofNat {w n : Nat} (h : n < 2 ^ w) : UV (BitVec.ofNat w n) = (n : Int) := by
  unfold UV; rw [BitVec.toNat_ofNat, Nat.mod_eq_of_lt h]
@[go_sem] theorem lit_u64 (n : Nat) (h : n < 18446744073709551616) : Value.int .u64 (no_index (OfNat.ofNat n)) = Value.int .u64 (UV (BitVec.ofNat 64 n)) := by
  rw [UV_ofNat h]; rfl
@[go_sem] theorem lit_u32 (n : Nat) (h : n < 4294967296) : Value.int .u32 (no_index (OfNat.ofNat n)) = Value.int .u32 (UV (BitVec.ofNat 32 n)) := by
  rw [UV_ofNat h]; rfl
@[go_sem] theorem lit_u8 (n : Nat) (h : n < 256) : Value.int .u8 (no_index (OfNat.ofNat n)) = Value.int .u8 (UV (BitVec.ofNat 8 n)) := by
  rw [UV_ofNat h]; rfl

/-! ### Bits -/
theorem bv64 (a : BitVec 64) : a.toNat < 18446744073709551616 := a.isLt
theorem bv32 (a : BitVec 32) : a.toNat < 4294967296 := a.isLt
theorem bv8 (a : BitVec 8) : a.toNat < 256 := a.isLt
theorem ofInt_UV {w : Nat} (a : BitVec w) : BitVec.ofInt w (UV a) = a := by
  unfold UV; rw [BitVec.ofInt_natCast]; simp
@[go_sem high] theorem and_u64 (a b : BitVec 64) : Op.intBits .and .u64 (UV a) (UV b) = pure (.int .u64 (UV (a &&& b))) := by
  rw [intBits_and]; congr 2; unfold UV; rw [u64_and_nat _ _ (bv64 a) (bv64 b), BitVec.toNat_and]
@[go_sem high] theorem or_u64 (a b : BitVec 64) : Op.intBits .or .u64 (UV a) (UV b) = pure (.int .u64 (UV (a ||| b))) := by
  rw [intBits_or]; congr 2; unfold UV; rw [u64_or_nat _ _ (bv64 a) (bv64 b), BitVec.toNat_or]
@[go_sem high] theorem xor_u64 (a b : BitVec 64) : Op.intBits .xor .u64 (UV a) (UV b) = pure (.int .u64 (UV (a ^^^ b))) := by
  rw [intBits_xor]; congr 2; unfold UV; rw [u64_xor_nat _ _ (bv64 a) (bv64 b), BitVec.toNat_xor]
theorem wrap_u64_mod (n : Int) : IntKind.u64.wrap n = n % 18446744073709551616 := by simp [IntKind.wrap, IntKind.bits, IntKind.signed]
theorem wrap_u32_mod (n : Int) : IntKind.u32.wrap n = n % 4294967296 := by simp [IntKind.wrap, IntKind.bits, IntKind.signed]
theorem wrap_u8_mod (n : Int) : IntKind.u8.wrap n = n % 256 := by simp [IntKind.wrap, IntKind.bits, IntKind.signed]
theorem wrap_UV64 (a : BitVec 64) : IntKind.u64.wrap (a.toNat : Int) = (a.toNat : Int) := by
  rw [wrap_u64_mod]; have := bv64 a; omega
theorem wrap_UV32 (a : BitVec 32) : IntKind.u32.wrap (a.toNat : Int) = (a.toNat : Int) := by
  rw [wrap_u32_mod]; have := bv32 a; omega
theorem wrap_UV8 (a : BitVec 8) : IntKind.u8.wrap (a.toNat : Int) = (a.toNat : Int) := by
  rw [wrap_u8_mod]; have := bv8 a; omega
@[go_sem high] theorem andNot_u64 (a b : BitVec 64) : Op.intBits .andNot .u64 (UV a) (UV b) = pure (.int .u64 (UV (a &&& ~~~b))) := by
  rw [intBits_andNot]; congr 2
  show IntKind.u64.wrap ((BitVec.ofInt 64 (UV a) &&& ~~~ BitVec.ofInt 64 (UV b)).toNat : Int) = _
  rw [ofInt_UV, ofInt_UV, wrap_UV64]; rfl
@[go_sem high] theorem not_u64 (b : BitVec 64) : Op.intBits .xor .u64 IntKind.u64.max (UV b) = pure (.int .u64 (UV (~~~b))) := by
  rw [intBits_xor]; congr 2
  show IntKind.u64.wrap ((BitVec.ofInt 64 18446744073709551615 ^^^ BitVec.ofInt 64 (UV b)).toNat : Int) = _
  rw [ofInt_UV, wrap_UV64]
  have h : (BitVec.ofInt 64 18446744073709551615 ^^^ b) = ~~~ b := by
    have : BitVec.ofInt 64 18446744073709551615 = BitVec.allOnes 64 := by decide
    rw [this, BitVec.allOnes_xor]
  rw [h]; rfl
@[go_sem high] theorem unary_not_u64 (b : BitVec 64) : Op.unary .xor (.int .u64 (UV b)) = pure (.int .u64 (UV (~~~b))) := not_u64 b
@[go_sem high] theorem and_u8 (a b : BitVec 8) : Op.intBits .and .u8 (UV a) (UV b) = pure (.int .u8 (UV (a &&& b))) := by
  rw [intBits_and]; congr 2; unfold UV; rw [u8_and_nat _ _ (bv8 a) (bv8 b), BitVec.toNat_and]
@[go_sem high] theorem or_u8 (a b : BitVec 8) : Op.intBits .or .u8 (UV a) (UV b) = pure (.int .u8 (UV (a ||| b))) := by
  rw [intBits_or]; congr 2; unfold UV; rw [u8_or_nat _ _ (bv8 a) (bv8 b), BitVec.toNat_or]
@[go_sem high] theorem xor_u8 (a b : BitVec 8) : Op.intBits .xor .u8 (UV a) (UV b) = pure (.int .u8 (UV (a ^^^ b))) := by
  rw [intBits_xor]; congr 2; unfold UV; rw [u8_xor_nat _ _ (bv8 a) (bv8 b), BitVec.toNat_xor]
@[go_sem high] theorem and_u32 (a b : BitVec 32) : Op.intBits .and .u32 (UV a) (UV b) = pure (.int .u32 (UV (a &&& b))) := by
  rw [intBits_and]; congr 2; unfold UV; rw [u32_and_nat _ _ (bv32 a) (bv32 b), BitVec.toNat_and]
@[go_sem high] theorem or_u32 (a b : BitVec 32) : Op.intBits .or .u32 (UV a) (UV b) = pure (.int .u32 (UV (a ||| b))) := by
  rw [intBits_or]; congr 2; unfold UV; rw [u32_or_nat _ _ (bv32 a) (bv32 b), BitVec.toNat_or]
@[go_sem high] theorem xor_u32 (a b : BitVec 32) : Op.intBits .xor .u32 (UV a) (UV b) = pure (.int .u32 (UV (a ^^^ b))) := by
  rw [intBits_xor]; congr 2; unfold UV; rw [u32_xor_nat _ _ (bv32 a) (bv32 b), BitVec.toNat_xor]

/-! ### Sums -/
@[go_sem high] theorem add_u64 (t : TypeId) (a b : BitVec 64) : binOp .add t (.int .u64 (UV a)) (.int .u64 (UV b)) = pure (.int .u64 (UV (a + b))) := by
  rw [binOp_add]
  show (pure (.int .u64 (IntKind.u64.wrap (UV a + UV b))) : Sem Value) = _
  refine congrArg (fun n => (pure (Value.int _ n) : Sem Value)) ?_; rw [wrap_u64_mod]; unfold UV; rw [BitVec.toNat_add]; omega
@[go_sem high] theorem sub_u64 (t : TypeId) (a b : BitVec 64) : binOp .sub t (.int .u64 (UV a)) (.int .u64 (UV b)) = pure (.int .u64 (UV (a - b))) := by
  rw [binOp_sub]
  show (pure (.int .u64 (IntKind.u64.wrap (UV a - UV b))) : Sem Value) = _
  congr 2; rw [wrap_u64_mod]; unfold UV; rw [BitVec.toNat_sub]; have := bv64 a; have := bv64 b; omega
@[go_sem high] theorem mul_u64 (t : TypeId) (a b : BitVec 64) : binOp .mul t (.int .u64 (UV a)) (.int .u64 (UV b)) = pure (.int .u64 (UV (a * b))) := by
  rw [binOp_mul]
  show (pure (.int .u64 (IntKind.u64.wrap (UV a * UV b))) : Sem Value) = _
  refine congrArg (fun n => (pure (Value.int _ n) : Sem Value)) ?_; rw [wrap_u64_mod]; unfold UV; rw [BitVec.toNat_mul, Int.natCast_emod, Int.natCast_mul]; rfl
@[go_sem high] theorem add_u32 (t : TypeId) (a b : BitVec 32) : binOp .add t (.int .u32 (UV a)) (.int .u32 (UV b)) = pure (.int .u32 (UV (a + b))) := by
  rw [binOp_add]
  show (pure (.int .u32 (IntKind.u32.wrap (UV a + UV b))) : Sem Value) = _
  refine congrArg (fun n => (pure (Value.int _ n) : Sem Value)) ?_; rw [wrap_u32_mod]; unfold UV; rw [BitVec.toNat_add]; omega
@[go_sem high] theorem sub_u32 (t : TypeId) (a b : BitVec 32) : binOp .sub t (.int .u32 (UV a)) (.int .u32 (UV b)) = pure (.int .u32 (UV (a - b))) := by
  rw [binOp_sub]
  show (pure (.int .u32 (IntKind.u32.wrap (UV a - UV b))) : Sem Value) = _
  congr 2; rw [wrap_u32_mod]; unfold UV; rw [BitVec.toNat_sub]; have := bv32 a; have := bv32 b; omega
@[go_sem high] theorem mul_u32 (t : TypeId) (a b : BitVec 32) : binOp .mul t (.int .u32 (UV a)) (.int .u32 (UV b)) = pure (.int .u32 (UV (a * b))) := by
  rw [binOp_mul]
  show (pure (.int .u32 (IntKind.u32.wrap (UV a * UV b))) : Sem Value) = _
  refine congrArg (fun n => (pure (Value.int _ n) : Sem Value)) ?_; rw [wrap_u32_mod]; unfold UV; rw [BitVec.toNat_mul, Int.natCast_emod, Int.natCast_mul]; rfl
theorem UV_tdiv {w : Nat} (a b : BitVec w) : (UV a).tdiv (UV b) = UV (a / b) := by
  unfold UV; rw [BitVec.toNat_udiv, Int.tdiv_eq_ediv_of_nonneg (Int.natCast_nonneg _)]; rfl
theorem UV_tmod {w : Nat} (a b : BitVec w) : (UV a).tmod (UV b) = UV (a % b) := by
  unfold UV; rw [BitVec.toNat_umod, Int.tmod_eq_emod_of_nonneg (Int.natCast_nonneg _)]; rfl
theorem UV_zero {w : Nat} (b : BitVec w) (h : b ≠ 0#w) : UV b ≠ 0 := by
  intro h2; apply h; apply BitVec.eq_of_toNat_eq; unfold UV at h2; simp; omega
@[go_sem high] theorem quo_u64 (t : TypeId) (a b : BitVec 64) (h : b ≠ 0#64) : binOp .quo t (.int .u64 (UV a)) (.int .u64 (UV b)) = pure (.int .u64 (UV (a / b))) := by
  rw [binOp_quo]; unfold Op.intDiv; rw [if_neg (UV_zero b h)]; simp only [UV_tdiv]; congr 2; exact wrap_UV64 _
@[go_sem high] theorem rem_u64 (t : TypeId) (a b : BitVec 64) (h : b ≠ 0#64) : binOp .rem t (.int .u64 (UV a)) (.int .u64 (UV b)) = pure (.int .u64 (UV (a % b))) := by
  rw [binOp_rem]; unfold Op.intDiv; rw [if_neg (UV_zero b h)]; simp only [UV_tmod]
@[go_sem high] theorem quo_u32 (t : TypeId) (a b : BitVec 32) (h : b ≠ 0#32) : binOp .quo t (.int .u32 (UV a)) (.int .u32 (UV b)) = pure (.int .u32 (UV (a / b))) := by
  rw [binOp_quo]; unfold Op.intDiv; rw [if_neg (UV_zero b h)]; simp only [UV_tdiv]; congr 2; exact wrap_UV32 _
@[go_sem high] theorem rem_u32 (t : TypeId) (a b : BitVec 32) (h : b ≠ 0#32) : binOp .rem t (.int .u32 (UV a)) (.int .u32 (UV b)) = pure (.int .u32 (UV (a % b))) := by
  rw [binOp_rem]; unfold Op.intDiv; rw [if_neg (UV_zero b h)]; simp only [UV_tmod]

/-! ### Shifts: by an unsigned count -/
theorem UV_neg {w : Nat} (b : BitVec w) : ¬ UV b < 0 := by have := UV_nonneg b; omega
theorem shr_UV {w : Nat} (a : BitVec w) (n : Nat) : (UV a).fdiv (2 ^ min n w) = UV (a >>> n) := by
  unfold UV
  rw [BitVec.toNat_ushiftRight, Nat.shiftRight_eq_div_pow]
  have h0 : (0 : Int) ≤ 2 ^ min n w := Int.pow_nonneg (by omega)
  rw [Int.fdiv_eq_ediv_of_nonneg _ h0]
  by_cases h : n ≤ w
  · rw [Nat.min_eq_left h]; norm_cast
  · rw [Nat.min_eq_right (by omega)]
    have h1 := a.isLt
    have h2 : a.toNat < 2 ^ n := Nat.lt_of_lt_of_le h1 (Nat.pow_le_pow_right (by omega) (by omega))
    rw [Nat.div_eq_of_lt h2]
    have h3 : ((a.toNat : Int)) / ((2 ^ w : Nat) : Int) = 0 := Int.ediv_eq_zero_of_lt (by omega) (by exact_mod_cast h1)
    exact_mod_cast h3
theorem shl_UV {w : Nat} (a : BitVec w) (n : Nat) : (UV a * 2 ^ min n w) % (2 ^ w : Nat) = UV (a <<< n) := by
  unfold UV
  rw [BitVec.toNat_shiftLeft, Nat.shiftLeft_eq]
  by_cases h : n ≤ w
  · rw [Nat.min_eq_left h]; norm_cast
  · rw [Nat.min_eq_right (by omega)]
    have h1 : a.toNat * 2 ^ n % 2 ^ w = 0 := by
      have : n = (n - w) + w := by omega
      rw [this, Nat.pow_add, ← Nat.mul_assoc, Nat.mul_mod_left]
    rw [h1]
    have h2 : a.toNat * 2 ^ w % 2 ^ w = 0 := Nat.mul_mod_left _ _
    exact_mod_cast h2
theorem ofInt_toNat' (n : Int) : ((BitVec.ofInt 64 n).toNat : Int) = n % 18446744073709551616 := by
  rw [BitVec.toNat_ofInt]
  have h : 0 ≤ n % ((2 ^ 64 : Nat) : Int) := Int.emod_nonneg _ (by decide)
  omega
/-- A shift's count. -/
def shf {w : Nat} (b : BitVec w) : Nat := b.toNat
@[go_sem] theorem shf_lit (n : Nat) (h : n < 18446744073709551616) : shf (BitVec.ofNat 64 (no_index (OfNat.ofNat n))) = OfNat.ofNat n := by
  unfold shf; rw [BitVec.toNat_ofNat]; exact Nat.mod_eq_of_lt h
@[go_sem] theorem shf_nat (n : Nat) (h : n ≤ 64) : shf (BitVec.ofNat 64 n) = n := by
  unfold shf; rw [BitVec.toNat_ofNat]; exact Nat.mod_eq_of_lt (by omega)
@[go_sem] theorem shf_int (n : Int) (h0 : 0 ≤ n) (h : n ≤ 64) : shf (BitVec.ofInt 64 n) = n.toNat := by
  unfold shf
  have h1 := ofInt_toNat' n
  omega
theorem toNat_UV {w : Nat} (b : BitVec w) : (UV b).toNat = b.toNat := rfl
@[go_sem high] theorem shr_u64 {w : Nat} (a : BitVec 64) (b : BitVec w) (k : IntKind) : Op.shift .shr .u64 (UV a) k (UV b) = pure (.int .u64 (UV (a >>> shf b))) := by
  unfold Op.shift; rw [if_neg (UV_neg b)]; simp only [toNat_UV]; congr 2; exact shr_UV a b.toNat
@[go_sem high] theorem shr_u32 {w : Nat} (a : BitVec 32) (b : BitVec w) (k : IntKind) : Op.shift .shr .u32 (UV a) k (UV b) = pure (.int .u32 (UV (a >>> shf b))) := by
  unfold Op.shift; rw [if_neg (UV_neg b)]; simp only [toNat_UV]; congr 2; exact shr_UV a b.toNat
@[go_sem high] theorem shr_u8 {w : Nat} (a : BitVec 8) (b : BitVec w) (k : IntKind) : Op.shift .shr .u8 (UV a) k (UV b) = pure (.int .u8 (UV (a >>> shf b))) := by
  unfold Op.shift; rw [if_neg (UV_neg b)]; simp only [toNat_UV]; congr 2; exact shr_UV a b.toNat
@[go_sem high] theorem shl_u64 {w : Nat} (a : BitVec 64) (b : BitVec w) (k : IntKind) : Op.shift .shl .u64 (UV a) k (UV b) = pure (.int .u64 (UV (a <<< shf b))) := by
  unfold Op.shift; rw [if_neg (UV_neg b)]; simp only [toNat_UV]; congr 2; rw [wrap_u64_mod]; exact shl_UV a b.toNat
@[go_sem high] theorem shl_u32 {w : Nat} (a : BitVec 32) (b : BitVec w) (k : IntKind) : Op.shift .shl .u32 (UV a) k (UV b) = pure (.int .u32 (UV (a <<< shf b))) := by
  unfold Op.shift; rw [if_neg (UV_neg b)]; simp only [toNat_UV]; congr 2; rw [wrap_u32_mod]; exact shl_UV a b.toNat

/-! ### Conversions -/
@[go_sem] theorem to_u64_64 (a : BitVec 64) : IntKind.u64.wrap (UV a) = UV a := wrap_UV64 a
@[go_sem] theorem to_u32_32 (a : BitVec 32) : IntKind.u32.wrap (UV a) = UV a := wrap_UV32 a
@[go_sem] theorem to_u8_8 (a : BitVec 8) : IntKind.u8.wrap (UV a) = UV a := wrap_UV8 a
@[go_sem] theorem to_u64_8 (a : BitVec 8) : IntKind.u64.wrap (UV a) = UV (a.setWidth 64) := by
  rw [wrap_u64_mod]; unfold UV; rw [BitVec.toNat_setWidth]; have := bv8 a; omega
@[go_sem] theorem to_u64_32 (a : BitVec 32) : IntKind.u64.wrap (UV a) = UV (a.setWidth 64) := by
  rw [wrap_u64_mod]; unfold UV; rw [BitVec.toNat_setWidth]; have := bv32 a; omega
@[go_sem] theorem to_u8_64 (a : BitVec 64) : IntKind.u8.wrap (UV a) = UV (a.setWidth 8) := by
  rw [wrap_u8_mod]; unfold UV; rw [BitVec.toNat_setWidth]; omega
@[go_sem] theorem to_u32_64 (a : BitVec 64) : IntKind.u32.wrap (UV a) = UV (a.setWidth 32) := by
  rw [wrap_u32_mod]; unfold UV; rw [BitVec.toNat_setWidth]; omega
theorem ofInt_toNat (w : Nat) (n : Int) : ((BitVec.ofInt w n).toNat : Int) = n % (2 ^ w : Nat) := by
  rw [BitVec.toNat_ofInt]
  have h : 0 ≤ n % ((2 ^ w : Nat) : Int) := Int.emod_nonneg _ (by have := Nat.two_pow_pos w; omega)
  omega
@[go_sem low] theorem to_u64_int (n : Int) : IntKind.u64.wrap n = UV (BitVec.ofInt 64 n) := by
  rw [wrap_u64_mod]; unfold UV; rw [ofInt_toNat]; rfl
@[go_sem low] theorem to_u32_int (n : Int) : IntKind.u32.wrap n = UV (BitVec.ofInt 32 n) := by
  rw [wrap_u32_mod]; unfold UV; rw [ofInt_toNat]; rfl
@[go_sem low] theorem to_u8_int (n : Int) : IntKind.u8.wrap n = UV (BitVec.ofInt 8 n) := by
  rw [wrap_u8_mod]; unfold UV; rw [ofInt_toNat]; rfl
/-- The number of a word, as an int. -/
def I64 (a : BitVec 64) : Int := a.toInt
@[go_sem] theorem to_i64_64 (a : BitVec 64) : IntKind.i64.wrap (UV a) = I64 a := by
  unfold I64
  rw [IntKind.wrap_i64]; unfold UV; rw [BitVec.toInt_eq_toNat_cond]; have := bv64 a; split <;> omega
@[go_sem] theorem to_i64_32 (a : BitVec 32) : IntKind.i64.wrap (UV a) = UV a := by
  rw [IntKind.wrap_i64]; unfold UV; have := bv32 a; omega
@[go_sem] theorem to_i64_8 (a : BitVec 8) : IntKind.i64.wrap (UV a) = UV a := by
  rw [IntKind.wrap_i64]; unfold UV; have := bv8 a; omega
end Go.Proofs.YtfkmbdpnjcgimaaGreat

/- Assertions: what the temporaries and the memory hold, as predicates of values; contracts; what a call keeps. Own work. -/
namespace Go.Proofs.YtfkmbdpnjcgimaaGreat
open Go.RowKit
set_option linter.unusedVariables false
set_option linter.unusedSimpArgs false

/-- Cells of which it is known that they stay as they are: block, place. -/
abbrev Fz := Nat → Nat → Option Value
def Fle (φ φ' : Fz) : Prop := ∀ b i v, φ b i = some v → φ' b i = some v
theorem Fle.rfl' {φ : Fz} : Fle φ φ := fun _ _ _ h => h
theorem Fle.tr {φ φ' φ'' : Fz} (h : Fle φ φ') (h' : Fle φ' φ'') : Fle φ φ'' := fun b i v e => h' b i v (h b i v e)

/-- A predicate of values that stays true when more cells are known to stay. -/
structure VP where
  ok : Fz → Value → Prop
  mono : ∀ {φ φ' : Fz} {v : Value}, Fle φ φ' → ok φ v → ok φ' v
def Alls (φ : Fz) : List VP → List Value → Prop
  | [], [] => True
  | A :: As, v :: vs => A.ok φ v ∧ Alls φ As vs
  | _, _ => False
theorem Alls.mono {φ φ' : Fz} (h : Fle φ φ') : ∀ {As : List VP} {vs : List Value}, Alls φ As vs → Alls φ' As vs
  | [], [], _ => trivial
  | A :: As, v :: vs, ⟨h1, h2⟩ => ⟨A.mono h h1, Alls.mono h h2⟩
theorem Alls.len {φ : Fz} : ∀ {As : List VP} {vs : List Value}, Alls φ As vs → As.length = vs.length
  | [], [], _ => rfl
  | A :: As, v :: vs, ⟨_, h2⟩ => by simp [Alls.len h2]
theorem Alls.get {φ : Fz} : ∀ {As : List VP} {vs : List Value} {j : Nat} {A : VP}, Alls φ As vs → As[j]? = some A → ∃ v, vs[j]? = some v ∧ A.ok φ v
  | [], [], _, _, _, h => by simp at h
  | A :: As, v :: vs, 0, B, ⟨h1, _⟩, h => by simp at h; subst h; exact ⟨v, rfl, h1⟩
  | A :: As, v :: vs, j + 1, B, ⟨_, h2⟩, h => by
    obtain ⟨u, h3, h4⟩ := Alls.get h2 (by simpa using h)
    exact ⟨u, by simpa using h3, h4⟩
theorem Alls.set {φ : Fz} : ∀ {As : List VP} {vs : List Value} (j : Nat) {A : VP} {v : Value}, Alls φ As vs → A.ok φ v → Alls φ (As.set j A) (vs.set j v)
  | [], [], _, _, _, _, _ => trivial
  | A :: As, v :: vs, 0, B, u, ⟨_, h2⟩, h => ⟨h, h2⟩
  | A :: As, v :: vs, j + 1, B, u, ⟨h1, h2⟩, h => ⟨h1, Alls.set j h2 h⟩
theorem Alls.append {φ : Fz} : ∀ {As : List VP} {vs : List Value} {Bs : List VP} {us : List Value}, Alls φ As vs → Alls φ Bs us → Alls φ (As ++ Bs) (vs ++ us)
  | [], [], _, _, _, h => h
  | A :: As, v :: vs, _, _, ⟨h1, h2⟩, h => ⟨h1, Alls.append h2 h⟩
theorem Alls.take {φ : Fz} : ∀ {As : List VP} {vs : List Value} (n : Nat), Alls φ As vs → Alls φ (As.take n) (vs.take n)
  | [], [], n, _ => by simp [Alls]
  | A :: As, v :: vs, 0, _ => trivial
  | A :: As, v :: vs, n + 1, ⟨h1, h2⟩ => ⟨h1, Alls.take n h2⟩
theorem Alls.drop {φ : Fz} : ∀ {As : List VP} {vs : List Value} (n : Nat), Alls φ As vs → Alls φ (As.drop n) (vs.drop n)
  | [], [], n, _ => by simp [Alls]
  | A :: As, v :: vs, 0, h => h
  | A :: As, v :: vs, n + 1, ⟨_, h2⟩ => Alls.drop n h2
/-- One predicate says no less than another. -/
def Sub (A B : VP) : Prop := ∀ φ v, A.ok φ v → B.ok φ v
theorem Sub.rfl' {A : VP} : Sub A A := fun _ _ h => h
theorem Sub.tr {A B C : VP} (h : Sub A B) (h' : Sub B C) : Sub A C := fun φ v e => h' φ v (h φ v e)
def Subs : List VP → List VP → Prop
  | [], [] => True
  | A :: As, B :: Bs => Sub A B ∧ Subs As Bs
  | _, _ => False
theorem Subs.rfl' : ∀ {As : List VP}, Subs As As
  | [] => trivial
  | _ :: _ => ⟨Sub.rfl', Subs.rfl'⟩
theorem Subs.alls {φ : Fz} : ∀ {As Bs : List VP} {vs : List Value}, Subs As Bs → Alls φ As vs → Alls φ Bs vs
  | [], [], [], _, _ => trivial
  | A :: As, B :: Bs, v :: vs, ⟨h1, h2⟩, ⟨h3, h4⟩ => ⟨h1 _ _ h3, Subs.alls h2 h4⟩

/-- Values that lie in one cell each. -/
def ones (vs : List Value) : Prop := ∀ u, u ∈ vs → u.oneCell' = true
theorem ones_nil : ones [] := fun u h => by cases h
theorem ones_cons {v : Value} {vs : List Value} (h : v.oneCell' = true) (k : ones vs) : ones (v :: vs) := fun u hu => by
  rcases List.mem_cons.1 hu with rfl | hu
  · exact h
  · exact k u hu
theorem ones.sub {vs us : List Value} (h : ones vs) (k : ∀ u, u ∈ us → u ∈ vs) : ones us := fun u hu => h u (k u hu)
/-! ### The predicates -/
def Is (u : Value) : VP := ⟨fun _ v => v = u, fun _ h => h⟩
def IsAgg (As : List VP) : VP := ⟨fun φ v => ∃ vs : List Value, v = .agg vs.toArray ∧ Alls φ As vs ∧ ones vs, fun h ⟨vs, e, k, k1⟩ => ⟨vs, e, k.mono h, k1⟩⟩
def IsTup (As : List VP) : VP := ⟨fun φ v => ∃ vs : List Value, v = .tuple vs.toArray ∧ Alls φ As vs, fun h ⟨vs, e, k⟩ => ⟨vs, e, k.mono h⟩⟩
/-- Anything at all. -/
def Top : VP := ⟨fun _ _ => True, fun _ h => h⟩
def VPite (b : Bool) (A B : VP) : VP := ⟨fun φ v => if b then A.ok φ v else B.ok φ v, fun h k => by
  cases b
  · exact B.mono h k
  · exact A.mono h k⟩
/-- From block b, place o, on the cells that stay meet As. -/
def RefAt (φ : Fz) (b o : Nat) (As : List VP) : Prop := ∀ j A, As[j]? = some A → ∃ u, φ b (o + j) = some u ∧ A.ok φ u ∧ u.oneCell' = true
theorem RefAt.mono {φ φ' : Fz} {b o : Nat} {As : List VP} (h : Fle φ φ') (k : RefAt φ b o As) : RefAt φ' b o As := fun j A e =>
  let ⟨u, h1, h2, h3⟩ := k j A e
  ⟨u, h _ _ _ h1, A.mono h h2, h3⟩
/-- The address of cells that stay. -/
def IsRef (As : List VP) : VP := ⟨fun φ v => ∃ b o, v = .pointer (some ⟨b, o, none⟩) ∧ RefAt φ b o As, fun h ⟨b, o, e, k⟩ => ⟨b, o, e, k.mono h⟩⟩
/-- How the values of a Go type are told: so many cells each. -/
structure Ty (α : Type) where
  size : Nat
  cells : α → List VP
  len : ∀ x, (cells x).length = size
/-- A slice whose elements stay. -/
def SlAt {α : Type} (T : Ty α) (φ : Fz) (a : Option Addr) (n c : Nat) (xs : List α) : Prop :=
  n = xs.length ∧ n ≤ c ∧ c ≤ maxLen ∧ (n = 0 ∨ ∃ b o, a = some ⟨b, o, none⟩ ∧ ∀ k x, xs[k]? = some x → RefAt φ b (o + k * T.size) (T.cells x))
def IsSl {α : Type} (T : Ty α) (xs : List α) : VP := ⟨fun φ v => ∃ a n c, v = .slice a n c ∧ SlAt T φ a n c xs, fun h ⟨a, n, c, e, h1, h2, h3, h4⟩ => by
  refine ⟨a, n, c, e, h1, h2, h3, ?_⟩
  rcases h4 with h4 | ⟨b, o, h5, h6⟩
  · exact .inl h4
  · exact .inr ⟨b, o, h5, fun k x hx => (h6 k x hx).mono h⟩⟩

/-! ### Memory of one's own -/
/-- A thing in memory that is one's own: at most one block. -/
structure Item where
  at_ : Option Nat
  ok : Fz → Option Obj → Prop
  mono : ∀ {φ φ' : Fz} {o : Option Obj}, Fle φ φ' → ok φ o → ok φ' o
def Item.here (it : Item) (φ : Fz) (w : World) : Prop := it.ok φ (it.at_.bind fun b => w.heap[b]?) ∧ ∀ b, it.at_ = some b → b < w.heap.size ∧ ∀ i, φ b i = none
def Apart (x y : Item) : Prop := ∀ b, x.at_ = some b → y.at_ ≠ some b
def names (L : List Item) : List Nat := L.filterMap Item.at_
theorem mem_names {L : List Item} {b : Nat} : b ∈ names L ↔ ∃ it, it ∈ L ∧ it.at_ = some b := by simp [names, List.mem_filterMap]
/-- A block of cells. -/
def blk (b : Nat) (t : TypeId) (As : List VP) : Item := ⟨some b, fun φ o => ∃ vs : List Value, o = some (.cells vs.toArray t (0, 0)) ∧ Alls φ As vs ∧ ones vs, fun h ⟨vs, e, k, k1⟩ => ⟨vs, e, k.mono h, k1⟩⟩

/-- Of what was there when the call began nothing has turned, but for the blocks X. -/
structure Kpt (X : List Nat) (w w' : World) : Prop where
  os : w'.os = w.os
  tape : w'.tape = w.tape
  output : w'.output = w.output
  size : w.heap.size ≤ w'.heap.size
  block : ∀ k, k < w.heap.size → k ∉ X → w'.heap[k]? = w.heap[k]?
theorem Kpt.refl (X : List Nat) (w : World) : Kpt X w w := ⟨rfl, rfl, rfl, Nat.le_refl _, fun _ _ _ => rfl⟩
theorem Kpt.below {w w' : World} (h : Kpt [] w w') : Below w.heap.size w w' := ⟨h.os, h.tape, h.output, h.size, fun k hk => h.block k hk (by simp)⟩
theorem Kpt.tr {X Y : List Nat} {a b c : World} (h : Kpt X a b) (k : Kpt Y b c) (hy : ∀ y, y ∈ Y → y < a.heap.size → y ∈ X) : Kpt X a c :=
  ⟨k.os.trans h.os, k.tape.trans h.tape, k.output.trans h.output, Nat.le_trans h.size k.size, fun i hi hx => (k.block i (Nat.lt_of_lt_of_le hi h.size) (fun hm => hx (hy i hm hi))).trans (h.block i hi hx)⟩

structure Mem (φ : Fz) (L : List Item) (w : World) : Prop where
  base : ∀ b i v, φ b i = some v → w.cell? ⟨b, i, none⟩ = some v
  items : ∀ it, it ∈ L → it.here φ w
  sep : L.Pairwise Apart
/-- How a call began. -/
structure Ctx where
  w : World
  φ : Fz
  X : List Nat
  ds : List Deferred
structure HP (c : Ctx) (φ : Fz) (L : List Item) (w : World) : Prop where
  mem : Mem φ L w
  kept : Kpt c.X c.w w
  mine : ∀ b, b ∈ names L → c.w.heap.size ≤ b ∨ b ∈ c.X
  old : ∀ b i, b < c.w.heap.size → φ b i = c.φ b i
theorem cell_lt {w : World} {b i : Nat} {v : Value} (h : w.cell? ⟨b, i, none⟩ = some v) : b < w.heap.size := by
  rcases Nat.lt_or_ge b w.heap.size with hl | hl
  · exact hl
  · simp only [World.cell?] at h
    rw [Array.getElem?_eq_none hl] at h; cases h
/-- A contract: the arguments meet As, the own memory L; it returns a value that meets R, the own memory is L'. -/
def Fn (P : Program) (f : FuncId) (As : List VP) (L : List Item) {ι : Type} (R : ι → VP) (L' : ι → List Item) : Prop :=
  ∀ φ w vs, Alls φ As vs → Mem φ L w → Calls P f vs.toArray w fun e w' => ∃ i v φ', e = .returned v ∧ (R i).ok φ' v ∧ HP ⟨w, φ, names L, []⟩ φ' (L' i) w'
/-- The same where no memory of one's own goes in or comes out. -/
def FnP (P : Program) (f : FuncId) (As : List VP) (R : VP) : Prop := Fn P f As [] (fun _ : Unit => R) (fun _ => [])
theorem names_append (L M : List Item) : names (L ++ M) = names L ++ names M := by simp [names]
theorem Mem.left {φ : Fz} {L M : List Item} {w : World} (h : Mem φ (L ++ M) w) : Mem φ L w :=
  ⟨h.base, fun it hi => h.items it (List.mem_append_left _ hi), (List.pairwise_append.1 h.sep).1⟩
theorem HP.fle {c : Ctx} {φ : Fz} {L : List Item} {w : World} (h : HP c φ L w) (hb : ∀ b i v, c.φ b i = some v → c.w.cell? ⟨b, i, none⟩ = some v) : Fle c.φ φ := fun b i v e => by
  rw [h.old b i (cell_lt (hb b i v e))]; exact e
/-- Behind a call. -/
theorem HP.call {c : Ctx} {φ φ' : Fz} {L L' M : List Item} {w w' : World} (h : HP c φ (L ++ M) w) (h' : HP ⟨w, φ, names L, []⟩ φ' L' w') : HP c φ' (L' ++ M) w' := by
  have hle : Fle φ φ' := h'.fle h.mem.base
  have hM : ∀ it, it ∈ M → ∀ b, it.at_ = some b → b < w.heap.size ∧ b ∉ names L := fun it hi b hb => by
    refine ⟨((h.mem.items it (List.mem_append_right _ hi)).2 b hb).1, fun hm => ?_⟩
    obtain ⟨x, hx, hxb⟩ := mem_names.1 hm
    exact (List.pairwise_append.1 h.mem.sep).2.2 x hx it hi b hxb hb
  have hMine : ∀ b, b ∈ names L → c.w.heap.size ≤ b ∨ b ∈ c.X := fun b hb => h.mine b (by rw [names_append]; exact List.mem_append_left _ hb)
  refine ⟨⟨h'.mem.base, ?_, ?_⟩, ?_, ?_, ?_⟩
  · intro it hi
    rcases List.mem_append.1 hi with hi | hi
    · exact h'.mem.items it hi
    · obtain ⟨h1, h2⟩ := h.mem.items it (List.mem_append_right _ hi)
      cases hat : it.at_ with
      | none =>
        refine ⟨?_, fun b hb => by rw [hat] at hb; cases hb⟩
        rw [hat] at h1 ⊢
        exact it.mono hle h1
      | some b =>
        obtain ⟨hb1, hb2⟩ := hM it hi b hat
        refine ⟨?_, fun b' hb' => ?_⟩
        · rw [hat] at h1 ⊢
          simp only [Option.bind_some] at h1 ⊢
          rw [h'.kept.block b hb1 hb2]
          exact it.mono hle h1
        · obtain rfl : b = b' := Option.some.inj (hat.symm.trans hb')
          refine ⟨Nat.lt_of_lt_of_le hb1 h'.kept.size, fun i => ?_⟩
          rw [h'.old b i hb1]
          exact (h2 b hat).2 i
  · refine List.pairwise_append.2 ⟨h'.mem.sep, (List.pairwise_append.1 h.mem.sep).2.1, fun x hx y hy b hxb hyb => ?_⟩
    obtain ⟨hb1, hb2⟩ := hM y hy b hyb
    rcases h'.mine b (mem_names.2 ⟨x, hx, hxb⟩) with h3 | h3
    · exact absurd hb1 (Nat.not_lt.2 h3)
    · exact hb2 h3
  · exact h.kept.tr h'.kept fun y hy hl => (hMine y hy).resolve_left (by omega)
  · intro b hb
    rw [names_append] at hb
    rcases List.mem_append.1 hb with hb | hb
    · rcases h'.mine b hb with h3 | h3
      · exact .inl (Nat.le_trans h.kept.size h3)
      · exact hMine b h3
    · exact h.mine b (by rw [names_append]; exact List.mem_append_right _ hb)
  · intro b i hb
    rw [h'.old b i (Nat.lt_of_lt_of_le hb h.kept.size)]
    exact h.old b i hb
/-- One own thing turns, in its own block or into a new one. -/
inductive Repl : List Item → Item → Item → List Item → Prop
  | head (it it' : Item) (L : List Item) : Repl (it :: L) it it' (it' :: L)
  | tail (x : Item) {it it' : Item} {L L' : List Item} (h : Repl L it it' L') : Repl (x :: L) it it' (x :: L')
theorem Repl.mem {L L' : List Item} {it it' : Item} (h : Repl L it it' L') : it ∈ L := by
  induction h with
  | head => simp
  | tail x _ ih => exact List.mem_cons_of_mem _ ih
theorem Repl.mem' {L L' : List Item} {it it' x : Item} (h : Repl L it it' L') (hx : x ∈ L') : x = it' ∨ (x ∈ L ∧ (L.Pairwise Apart → Apart x it ∧ Apart it x)) := by
  induction h with
  | head a b L =>
    rcases List.mem_cons.1 hx with hx | hx
    · exact .inl hx
    · refine .inr ⟨List.mem_cons_of_mem _ hx, fun hp => ?_⟩
      have h1 := (List.pairwise_cons.1 hp).1 x hx
      exact ⟨fun q h2 h3 => h1 q h3 h2, h1⟩
  | @tail y a b L L' hr ih =>
    rcases List.mem_cons.1 hx with hx | hx
    · subst hx
      refine .inr ⟨List.mem_cons_self .., fun hp => ?_⟩
      have h1 := (List.pairwise_cons.1 hp).1 _ hr.mem
      exact ⟨h1, fun q h2 h3 => h1 q h3 h2⟩
    · rcases ih hx with h2 | ⟨h2, h3⟩
      · exact .inl h2
      · exact .inr ⟨List.mem_cons_of_mem _ h2, fun hp => h3 (List.pairwise_cons.1 hp).2⟩
theorem Repl.sep {L L' : List Item} {it it' : Item} (h : Repl L it it' L') (hs : L.Pairwise Apart) (hn : ∀ x, x ∈ L → Apart x it → Apart it x → Apart x it' ∧ Apart it' x) : L'.Pairwise Apart := by
  induction h with
  | head a b L =>
    rw [List.pairwise_cons] at hs ⊢
    refine ⟨fun x hx => (hn x (List.mem_cons_of_mem _ hx) (fun q h2 h3 => hs.1 x hx q h3 h2) (hs.1 x hx)).2, hs.2⟩
  | @tail y a b L L' hr ih =>
    rw [List.pairwise_cons] at hs ⊢
    refine ⟨fun x hx => ?_, ih hs.2 fun x hx => hn x (List.mem_cons_of_mem _ hx)⟩
    rcases hr.mem' hx with rfl | ⟨hx', _⟩
    · have h1 := hs.1 _ hr.mem
      exact (hn y (List.mem_cons_self ..) h1 (fun q h2 h3 => h1 q h3 h2)).1
    · exact hs.1 x hx'
theorem HP.upd {c : Ctx} {φ : Fz} {L L' : List Item} {w w' : World} {it it' : Item} (h : HP c φ L w) (hr : Repl L it it' L') (hk : Kpt (names [it]) w w') (hh : it'.here φ w')
    (hm : ∀ b, it'.at_ = some b → w.heap.size ≤ b ∨ it.at_ = some b) : HP c φ L' w' := by
  have hit := h.mem.items it hr.mem
  have hlt : ∀ x, x ∈ L → ∀ b, x.at_ = some b → b < w.heap.size := fun x hx b hb => ((h.mem.items x hx).2 b hb).1
  have hnm : ∀ b, b ∈ names [it] → it.at_ = some b := fun b hb => by
    obtain ⟨x, hx, hxb⟩ := mem_names.1 hb
    rw [List.mem_singleton] at hx
    exact hx ▸ hxb
  refine ⟨⟨?_, ?_, ?_⟩, ?_, ?_, h.old⟩
  · intro b i v e
    have h1 := h.mem.base b i v e
    have h2 : w'.heap[b]? = w.heap[b]? := hk.block b (cell_lt h1) fun hb => by
      have := (hit.2 b (hnm b hb)).2 i
      rw [e] at this; cases this
    unfold World.cell? at h1 ⊢
    dsimp only at h1 ⊢
    rw [h2]; exact h1
  · intro x hx
    rcases hr.mem' hx with rfl | ⟨hx', hap⟩
    · exact hh
    · obtain ⟨h1, h2⟩ := h.mem.items x hx'
      have hap1 := (hap h.mem.sep).1
      refine ⟨?_, fun b hb => ⟨Nat.lt_of_lt_of_le (h2 b hb).1 hk.size, (h2 b hb).2⟩⟩
      cases hat : x.at_ with
      | none => rw [hat] at h1; exact h1
      | some b =>
        rw [hat] at h1
        simp only [Option.bind_some] at h1 ⊢
        rw [hk.block b (h2 b hat).1 (fun hb => hap1 b hat (hnm b hb))]
        exact h1
  · refine hr.sep h.mem.sep fun x hx h1 h2 => ⟨fun b hb hb' => ?_, fun b hb' hb => ?_⟩
    all_goals
      rcases hm b hb' with h3 | h3
      · exact absurd (hlt x hx b hb) (Nat.not_lt.2 h3)
      · exact h1 b hb h3
  · refine h.kept.tr hk fun y hy hl => ?_
    exact (h.mine y (mem_names.2 ⟨it, hr.mem, hnm y hy⟩)).resolve_left (by omega)
  · intro b hb
    obtain ⟨x, hx, hxb⟩ := mem_names.1 hb
    rcases hr.mem' hx with rfl | ⟨hx', _⟩
    · rcases hm b hxb with h3 | h3
      · exact .inl (Nat.le_trans h.kept.size h3)
      · exact h.mine b (mem_names.2 ⟨it, hr.mem, h3⟩)
    · exact h.mine b (mem_names.2 ⟨x, hx', hxb⟩)
/-- A new thing in a new block (or in none); what stays may grow by cells of new blocks. -/
theorem HP.new {c : Ctx} {φ φ' : Fz} {L L' : List Item} {w w' : World} (h : HP c φ L w) (h' : HP ⟨w, φ, [], []⟩ φ' L' w') : HP c φ' (L' ++ L) w' :=
  HP.call (L := []) (by simpa using h) (by simpa [names] using h')
theorem HP.start {φ : Fz} {L : List Item} {w : World} (h : Mem φ L w) : HP ⟨w, φ, names L, []⟩ φ L w := ⟨h, Kpt.refl _ _, fun _ hb => .inr hb, fun _ _ _ => rfl⟩
/-- What is one's own may be forgotten. -/
theorem HP.less {c : Ctx} {φ : Fz} {L L' : List Item} {w : World} (h : HP c φ L w) (hs : L'.Sublist L) : HP c φ L' w :=
  ⟨⟨h.mem.base, fun it hi => h.mem.items it (hs.subset hi), h.mem.sep.sublist hs⟩, h.kept, fun b hb => by
    obtain ⟨x, hx, hxb⟩ := mem_names.1 hb
    exact h.mine b (mem_names.2 ⟨x, hs.subset hx, hxb⟩), h.old⟩
/-- A draw turns nothing. -/
theorem HP.drew {c : Ctx} {φ : Fz} {L : List Item} {w : World} (h : HP c φ L w) : HP c φ L { w with drawn := w.drawn + 1 } :=
  ⟨⟨h.mem.base, h.mem.items, h.mem.sep⟩, ⟨h.kept.os, h.kept.tape, h.kept.output, h.kept.size, h.kept.block⟩, h.mine, h.old⟩
end Go.Proofs.YtfkmbdpnjcgimaaGreat

/- The walk over assertions: environments, code, regions in any order. Own work; the orders' proof goes the kit's way (Derived/Deep/Quiet). -/
namespace Go.Proofs.YtfkmbdpnjcgimaaGreat
open Go.RowKit
set_option linter.unusedVariables false
set_option linter.unusedSimpArgs false

theorem beq_ff {d t : Nat} (h : d ≠ t) : Nat.beq d t = false := by
  cases hb : Nat.beq d t with
  | false => rfl
  | true => exact absurd (Nat.eq_of_beq_eq_true hb) h
abbrev Env := List (Nat × VP)
def look : Env → Nat → Option VP
  | [], _ => none
  | (k, A) :: E, t => bif Nat.beq k t then some A else look E t
/-- What is known of an operand. -/
def evA (A : Nat → Option VP) : Operand → Option VP
  | .tmp t => A t
  | .const v => some (Is v)
  | .global g => some (Is (.pointer (some ⟨g, 0, none⟩)))
  | .func f => some (Is (.func (.func f) #[] #[]))
def ev (E : Env) : Operand → Option VP
  | .tmp t => look E t
  | .const v => some (Is v)
  | .global g => some (Is (.pointer (some ⟨g, 0, none⟩)))
  | .func f => some (Is (.func (.func f) #[] #[]))
def putE (E : Env) : Option Tmp → VP → Env
  | some d, A => (d, A) :: E
  | none, _ => E
def putA (A : Nat → Option VP) (d : Option Tmp) (B : VP) : Nat → Option VP := fun t => if d = some t then some B else A t
theorem look_putE (E : Env) (d : Option Tmp) (B : VP) : look (putE E d B) = putA (look E) d B := by
  funext t
  cases d with
  | none => simp [putE, putA]
  | some d =>
    simp only [putE, look, putA, Option.some.injEq]
    by_cases h : d = t
    · simp [h]
    · have : Nat.beq d t = false := beq_ff h
      simp [this, h]

/-- What is known whatever turns: items without a block. -/
def Facts (φ : Fz) (L : List Item) : Prop := ∀ it, it ∈ L → it.at_ = none → it.ok φ none
theorem Mem.facts {φ : Fz} {L : List Item} {w : World} (h : Mem φ L w) : Facts φ L := fun it hi ha => by
  have := (h.items it hi).1
  rw [ha] at this
  exact this
/-- A value of which something is known. -/
def fact (v : Value) (B : VP) : Item := ⟨none, fun φ _ => B.ok φ v, fun h k => B.mono h k⟩
/-- One predicate says no less than another, by the facts at hand. -/
def SubL (L : List Item) (A B : VP) : Prop := ∀ φ v, Facts φ L → A.ok φ v → B.ok φ v
theorem SubL.rfl' {L : List Item} {A : VP} : SubL L A A := fun _ _ _ h => h
theorem SubL.tr {L : List Item} {A B C : VP} (h : SubL L A B) (h' : SubL L B C) : SubL L A C := fun φ v f e => h' φ v f (h φ v f e)
theorem SubL.fact {L : List Item} {v : Value} {B : VP} (h : fact v B ∈ L) : SubL L (Is v) B := fun φ u f e => by
  have e' : u = v := e
  subst e'
  exact f _ h rfl
def SubLs (L : List Item) : List VP → List VP → Prop
  | [], [] => True
  | A :: As, B :: Bs => SubL L A B ∧ SubLs L As Bs
  | _, _ => False
theorem SubLs.rfl' {L : List Item} : ∀ {As : List VP}, SubLs L As As
  | [] => trivial
  | _ :: _ => ⟨SubL.rfl', SubLs.rfl'⟩
theorem SubLs.alls {L : List Item} {φ : Fz} (f : Facts φ L) : ∀ {As Bs : List VP} {vs : List Value}, SubLs L As Bs → Alls φ As vs → Alls φ Bs vs
  | [], [], [], _, _ => trivial
  | A :: As, B :: Bs, v :: vs, ⟨h1, h2⟩, ⟨h3, h4⟩ => ⟨h1 _ _ f h3, SubLs.alls f h2 h4⟩
theorem SubL.agg {L : List Item} {As Bs : List VP} (h : SubLs L As Bs) : SubL L (IsAgg As) (IsAgg Bs) := fun φ v f ⟨vs, e, k, k1⟩ => ⟨vs, e, h.alls f k, k1⟩
theorem SubL.tup {L : List Item} {As Bs : List VP} (h : SubLs L As Bs) : SubL L (IsTup As) (IsTup Bs) := fun φ v f ⟨vs, e, k⟩ => ⟨vs, e, h.alls f k⟩
theorem alls_is {φ : Fz} : ∀ (vs : List Value), Alls φ (vs.map Is) vs
  | [] => trivial
  | _ :: vs => ⟨rfl, alls_is vs⟩
theorem ones_all {vs : List Value} (h : (vs.all Value.oneCell') = true) : ones vs := fun u hu => List.all_eq_true.1 h u hu
theorem SubL.lit {L : List Item} {vs : List Value} {Bs : List VP} (h1 : (vs.all Value.oneCell') = true) (h : SubLs L (vs.map Is) Bs) : SubL L (Is (.agg vs.toArray)) (IsAgg Bs) := fun φ v f e => ⟨vs, e, h.alls f (alls_is vs), ones_all h1⟩
theorem SubL.nil {L : List Item} {α : Type} {T : Ty α} : SubL L (Is (.slice none 0 0)) (IsSl T []) := fun φ v f e => ⟨none, 0, 0, e, rfl, Nat.le_refl _, Nat.zero_le _, .inl rfl⟩
theorem SubL.top {L : List Item} {A : VP} : SubL L A Top := fun _ _ _ _ => trivial
theorem SubL.iteT {L : List Item} {p : Bool} {A B C : VP} (hp : p = true) (h : SubL L A C) : SubL L (VPite p A B) C := fun φ v f e => by
  subst hp
  exact h φ v f e
/-- What is known of an operand says so much. -/
def Ev (A : Nat → Option VP) (L : List Item) (x : Operand) (B : VP) : Prop := ∃ D, evA A x = some D ∧ SubL L D B
theorem Ev.rfl' {A : Nat → Option VP} {L : List Item} {x : Operand} {B : VP} (h : evA A x = some B) : Ev A L x B := ⟨B, h, SubL.rfl'⟩
theorem Ev.sub {A : Nat → Option VP} {L : List Item} {x : Operand} {D B : VP} (h : evA A x = some D) (hs : SubL L D B) : Ev A L x B := ⟨D, h, hs⟩
/-- What the frame and the memory hold. -/
structure St (c : Ctx) (N : Nat) (A : Nat → Option VP) (L : List Item) (φ : Fz) (a : Act) (w : World) : Prop where
  defers : a.defers = c.ds
  size : a.tmps.size = N
  env : ∀ t B, A t = some B → B.ok φ (a.tmps.getD t undef)
  mem : HP c φ L w
theorem ev_of {A : Nat → Option VP} {L : List Item} {φ : Fz} {a : Act} {x : Operand} (f : Facts φ L) (h : ∀ t, x = .tmp t → ∀ B, A t = some B → B.ok φ (a.tmps.getD t undef)) {B : VP} (hx : Ev A L x B) : B.ok φ (a.eval x) := by
  obtain ⟨D, hx, hs⟩ := hx
  refine hs _ _ f ?_
  cases x with
  | tmp t => exact h t rfl D hx
  | const v => injection hx with hx; subst hx; exact rfl
  | global g => injection hx with hx; subst hx; exact rfl
  | func f => injection hx with hx; subst hx; exact rfl
theorem St.ev {c : Ctx} {N : Nat} {A : Nat → Option VP} {L : List Item} {φ : Fz} {a : Act} {w : World} (h : St c N A L φ a w) {x : Operand} {B : VP} (hx : Ev A L x B) : B.ok φ (a.eval x) := ev_of h.mem.mem.facts (fun t _ D hD => h.env t D hD) hx
theorem Act.put_size (a : Act) (d : Option Tmp) (v : Value) : (a.put d v).tmps.size = a.tmps.size := by cases d <;> simp [Act.put]
theorem Act.put_defs (a : Act) (d : Option Tmp) (v : Value) : (a.put d v).defers = a.defers := by cases d <;> rfl
theorem St.put {c : Ctx} {N : Nat} {A : Nat → Option VP} {L L' : List Item} {φ φ' : Fz} {a : Act} {w w' : World} (h : St c N A L φ a w) {d : Option Tmp} {B : VP} {v : Value} (hd : ∀ t, d = some t → t < N)
    (hle : Fle φ φ') (hB : B.ok φ' v) (hm : HP c φ' L' w') : St c N (putA A d B) L' φ' (a.put d v) w' := by
  refine ⟨by rw [Act.put_defs]; exact h.defers, by rw [Act.put_size]; exact h.size, fun t D hD => ?_, hm⟩
  unfold putA at hD
  split at hD
  · rename_i hdt
    injection hD with hD
    subst hD
    have hlt : t < a.tmps.size := by rw [h.size]; exact hd t hdt
    subst hdt
    have : (a.put (some t) v).tmps.getD t undef = v := by simp [Act.put, hlt]
    rw [this]; exact hB
  · rename_i hdt
    have : (a.put d v).tmps.getD t undef = a.tmps.getD t undef := by
      cases d with
      | none => rfl
      | some d =>
        have hne : d ≠ t := fun e => hdt (by rw [e])
        simp [Act.put, Array.getElem?_setIfInBounds_ne hne]
    rw [this]
    exact D.mono hle (h.env t D hD)

/-- What one operation does to the memory that is one's own. -/
def OpS (P : Program) (c : Ctx) (o : Oper) (A : Nat → Option VP) (L : List Item) {ι : Type} (F : ι → VP) (L' : ι → List Item) : Prop :=
  ∀ φ a w K Q, HP c φ L w → (∀ x, x ∈ o.op.operands → ∀ B, Ev A L x B → B.ok φ (a.eval x)) →
    (∀ i φ' v w', Fle φ φ' → (F i).ok φ' v → HP c φ' (L' i) w' → K (a.put o.dst v) w') → o.wp P a w K Q
/-- An operation that turns nothing that was there. -/
def OpP (P : Program) (c : Ctx) (o : Oper) (A : Nat → Option VP) (L : List Item) (F : VP) : Prop :=
  ∀ φ a w K Q, HP c φ L w → (∀ x, x ∈ o.op.operands → ∀ B, Ev A L x B → B.ok φ (a.eval x)) →
    (∀ φ' v w', HP ⟨w, φ, [], []⟩ φ' [] w' → F.ok φ' v → K (a.put o.dst v) w') → o.wp P a w K Q
theorem OpP.toS {P : Program} {c : Ctx} {o : Oper} {A : Nat → Option VP} {L : List Item} {F : VP} (h : OpP P c o A L F) : OpS P c o A L (fun _ : Unit => F) (fun _ => L) :=
  fun φ a w K Q hm he hk => h φ a w K Q hm he fun φ' v w' hp hf => hk () φ' v w' (hp.fle hm.mem.base) hf (by simpa using hm.new hp)

def JL (P : Program) (ops : Array Oper) (Q : Exit → Act → World → Prop) (c : Ctx) (N : Nat) (rest : List Oper) (E : Env) (L : List Item) : Prop :=
  ∀ φ a w, St c N (look E) L φ a w → wpList P ops Q rest a w
def JC (P : Program) (c : Ctx) (N : Nat) (code : Code) (E : Env) (L : List Item) (Q : Exit → Act → World → Prop) : Prop :=
  ∀ φ a w, St c N (look E) L φ a w → code.wp P Q a w
def JQ (c : Ctx) (N : Nat) (E : Env) (L : List Item) (Q : Exit → Act → World → Prop) (e : Exit) : Prop :=
  ∀ φ a w, St c N (look E) L φ a w → Q e a w
section
variable {P : Program} {ops : Array Oper} {Q : Exit → Act → World → Prop} {c : Ctx} {N : Nat} {rest : List Oper} {E : Env} {L : List Item} {o : Oper}
def dstB (N : Nat) : Option Tmp → Bool
  | some d => Nat.blt d N
  | none => true
theorem dstB_spec {N : Nat} {d : Option Tmp} (h : dstB N d = true) : ∀ t, d = some t → t < N := by
  rintro t rfl
  simpa [dstB] using h
theorem JL_op {ι : Type} {F : ι → VP} {L' : ι → List Item} (hg : o.guard = none) (hd : dstB N o.dst = true) (hs : OpS P c o (look E) L F L') (h : ∀ i, JL P ops Q c N rest (putE E o.dst (F i)) (L' i)) : JL P ops Q c N (o :: rest) E L := by
  intro φ a w st
  refine wpList_plain hg fun K hK => hs φ a w K Q st.mem (fun x _ B hx => st.ev hx) fun i φ' v w' hle hv hm => hK _ _ (h i φ' _ _ ?_)
  rw [look_putE]
  exact st.put (dstB_spec hd) hle hv hm
theorem JL_op1 {F : VP} (hg : o.guard = none) (hd : dstB N o.dst = true) (hs : OpP P c o (look E) L F) (h : JL P ops Q c N rest (putE E o.dst F) L) : JL P ops Q c N (o :: rest) E L :=
  JL_op hg hd hs.toS fun _ => h
theorem JL_nil (h : JQ c N E L Q .normal) : JL P ops Q c N [] E L := fun φ a w st => h φ a w st
/-- Guards. -/
theorem wanted_of {a : Act} {j : Nat} {want b : Bool} {g : Tmp} (hg : o.guard = some (j, want)) (hj : (ops[j]?).bind (·.dst) = some g) (hv : a.tmps.getD g undef = .bool b) : Region.wanted o (yielded ops a.tmps) = (b == want) := by
  have hv' : a.tmps[g]? = some (.bool b) := by
    rw [← hv]
    cases h : a.tmps[g]? with
    | none =>
      exfalso
      rw [Array.getD_eq_getD_getElem?, h] at hv
      simp [undef] at hv
    | some u => rw [Array.getD_eq_getD_getElem?, h]; rfl
  unfold Region.wanted
  rw [hg]
  simp only [yielded, hj, hv', Option.bind_some]
  cases b <;> cases want <;> rfl
theorem JL_no {j : Nat} {want b : Bool} {g : Tmp} (hg : o.guard = some (j, want)) (hj : (ops[j]?).bind (·.dst) = some g) (hl : look E g = some (Is (.bool b))) (hd : dstB N o.dst = true) (hb : (b == want) = false) (h : JL P ops Q c N rest (putE E o.dst (Is undef)) L) : JL P ops Q c N (o :: rest) E L := by
  intro φ a w st
  have hw := wanted_of (a := a) hg hj (st.env g _ hl)
  unfold wpList
  rw [hw, hb]
  simp only [Bool.false_eq_true, if_false]
  refine h φ _ _ ?_
  rw [look_putE]
  exact st.put (dstB_spec hd) Fle.rfl' rfl st.mem
theorem JL_yes {j : Nat} {want b : Bool} {g : Tmp} {ι : Type} {F : ι → VP} {L' : ι → List Item} (hg : o.guard = some (j, want)) (hj : (ops[j]?).bind (·.dst) = some g) (hl : look E g = some (Is (.bool b))) (hd : dstB N o.dst = true) (hb : (b == want) = true)
    (hs : OpS P c o (look E) L F L') (h : ∀ i, JL P ops Q c N rest (putE E o.dst (F i)) (L' i)) : JL P ops Q c N (o :: rest) E L := by
  intro φ a w st
  have hw := wanted_of (a := a) hg hj (st.env g _ hl)
  unfold wpList
  rw [hw, hb]
  simp only [if_true]
  refine .inl (hs φ a w _ _ st.mem (fun x _ B hx => st.ev hx) fun i φ' v w' hle hv hm => h i φ' _ _ ?_)
  rw [look_putE]
  exact st.put (dstB_spec hd) hle hv hm
theorem yielded_undef {a : Act} {j : Nat} {want : Bool} {g : Tmp} (hg : o.guard = some (j, want)) (hj : (ops[j]?).bind (·.dst) = some g) (hv : a.tmps.getD g undef = undef) : Region.wanted o (yielded ops a.tmps) = false := by
  unfold Region.wanted
  rw [hg]
  simp only [yielded, hj, Option.bind_some]
  rw [Array.getD_eq_getD_getElem?] at hv
  cases h : a.tmps[g]? with
  | none => rfl
  | some u =>
    rw [h] at hv
    simp only [Option.getD_some] at hv
    subst hv
    rfl
/-- A guard whose Bool is not decided; the operation only adds knowledge. -/
theorem JL_if {j : Nat} {want p b : Bool} {g : Tmp} {F : VP} (hg : o.guard = some (j, want)) (hj : (ops[j]?).bind (·.dst) = some g) (hl : look E g = some (VPite p (Is (.bool b)) (Is undef))) (hd : dstB N o.dst = true)
    (hs : p = true → (b == want) = true → OpP P c o (look E) L F) (h : JL P ops Q c N rest (putE E o.dst (VPite (p && (b == want)) F (Is undef))) L) : JL P ops Q c N (o :: rest) E L := by
  intro φ a w st
  have h0 : (VPite p (Is (.bool b)) (Is undef)).ok φ (a.tmps.getD g undef) := st.env g _ hl
  have no : (p && (b == want)) = false → Region.wanted o (yielded ops a.tmps) = false → wpList P ops Q (o :: rest) a w := fun hpb hw => by
    unfold wpList
    rw [hw]
    simp only [Bool.false_eq_true, if_false]
    refine h φ _ _ ?_
    rw [look_putE]
    exact st.put (dstB_spec hd) Fle.rfl' (by rw [hpb]; exact (rfl : undef = undef)) st.mem
  cases hp : p with
  | false =>
    rw [hp] at h0
    exact no (by rw [hp]; rfl) (yielded_undef hg hj h0)
  | true =>
    rw [hp] at h0
    have hw := wanted_of (a := a) hg hj h0
    cases hbw : (b == want) with
    | false => exact no (by rw [hbw, Bool.and_false]) (by rw [hw, hbw])
    | true =>
      unfold wpList
      rw [hw, hbw]
      simp only [if_true]
      refine .inl ((hs hp hbw).toS φ a w _ _ st.mem (fun x _ B hx => st.ev hx) fun i φ' v w' hle hv hm => h φ' _ _ ?_)
      rw [look_putE]
      exact st.put (dstB_spec hd) hle (by rw [hp, hbw]; exact hv) hm
theorem JL_if0 {j : Nat} {want b : Bool} {g : Tmp} {F : VP} (hg : o.guard = some (j, want)) (hj : (ops[j]?).bind (·.dst) = some g) (hl : look E g = some (Is (.bool b))) (hd : dstB N o.dst = true)
    (hs : (b == want) = true → OpP P c o (look E) L F) (h : JL P ops Q c N rest (putE E o.dst (VPite (b == want) F (Is undef))) L) : JL P ops Q c N (o :: rest) E L := by
  intro φ a w st
  cases hbw : (b == want) with
  | false =>
    rw [hbw] at h
    refine JL_no hg hj hl hd hbw (fun φ a w st => h φ a w ?_) φ a w st
    refine ⟨st.defers, st.size, fun t B hB => ?_, st.mem⟩
    rw [look_putE] at hB
    have st' := st.env
    rw [look_putE] at st'
    unfold putA at hB st'
    by_cases hdt : o.dst = some t
    · rw [if_pos hdt] at hB
      injection hB with hB
      subst hB
      have := st' t (Is undef) (by rw [if_pos hdt])
      exact this
    · rw [if_neg hdt] at hB
      exact st' t B (by rw [if_neg hdt]; exact hB)
  | true =>
    rw [hbw] at h
    refine JL_yes (F := fun _ : Unit => F) (L' := fun _ => L) hg hj hl hd hbw (hs hbw).toS (fun _ φ a w st => h φ a w ?_) φ a w st
    refine ⟨st.defers, st.size, fun t B hB => ?_, st.mem⟩
    rw [look_putE] at hB
    have st' := st.env
    rw [look_putE] at st'
    unfold putA at hB st'
    by_cases hdt : o.dst = some t
    · rw [if_pos hdt] at hB
      injection hB with hB
      subst hB
      have := st' t F (by rw [if_pos hdt])
      exact this
    · rw [if_neg hdt] at hB
      exact st' t B (by rw [if_neg hdt]; exact hB)

/-! ### Code -/
theorem JC_region {id : Nat} {l : List Oper} (h : JL P l.toArray Q c N l E L) : JC P c N (Code.region id l.toArray false) E L Q := fun φ a w st => wp_region_lit (h φ a w st)
theorem JC_seq {x y : Code} (h : JC P c N x E L (Exit.then (y.wp P Q) Q)) : JC P c N (Code.seq x y) E L Q := fun φ a w st => wp_seq (h φ a w st)
theorem JC_skip (h : JQ c N E L Q .normal) : JC P c N Code.skip E L Q := fun φ a w st => wp_skip (h φ a w st)
theorem JC_block {id : Nat} {x : Code} (h : JC P c N x E L (Exit.inBlock id Q)) : JC P c N (Code.block id x) E L Q := fun φ a w st => wp_block (h φ a w st)
theorem JC_exit {id : Nat} (h : JQ c N E L Q (.exit id)) : JC P c N (Code.exit id) E L Q := fun φ a w st => wp_exit (h φ a w st)
theorem JC_ret (h : JQ c N E L Q .ret) : JC P c N Code.ret E L Q := fun φ a w st => wp_ret (h φ a w st)
theorem JC_cond {x : Operand} {y z : Code} {b : Bool} (hx : Ev (look E) L x (Is (.bool b))) (ht : b = true → JC P c N y E L Q) (hf : b = false → JC P c N z E L Q) : JC P c N (Code.cond x y z) E L Q := fun φ a w st =>
  wp_cond_split (st.ev hx) (fun h => ht h φ a w st) (fun h => hf h φ a w st)
theorem JQ_then {y : Code} {Q' : Exit → Act → World → Prop} (h : JC P c N y E L Q) : JQ c N E L (Exit.then (y.wp P Q) Q') .normal := h
theorem JQ_then_exit {id : Nat} {K : Act → World → Prop} (h : JQ c N E L Q (.exit id)) : JQ c N E L (Exit.then K Q) (.exit id) := h
theorem JQ_then_ret {K : Act → World → Prop} (h : JQ c N E L Q .ret) : JQ c N E L (Exit.then K Q) .ret := h
theorem JQ_block {id : Nat} (h : JQ c N E L Q .normal) : JQ c N E L (Exit.inBlock id Q) .normal := h
theorem JQ_block_ret {id : Nat} (h : JQ c N E L Q .ret) : JQ c N E L (Exit.inBlock id Q) .ret := h
theorem JQ_block_hit {id id' : Nat} (hid : Nat.beq id' id = true) (h : JQ c N E L Q .normal) : JQ c N E L (Exit.inBlock id Q) (.exit id') := fun φ a w st => by
  have e : id' = id := Nat.eq_of_beq_eq_true hid
  simp only [Exit.inBlock, e, if_true]
  exact h φ a w st
theorem JQ_block_miss {id id' : Nat} (hid : Nat.beq id' id = false) (h : JQ c N E L Q (.exit id')) : JQ c N E L (Exit.inBlock id Q) (.exit id') := fun φ a w st => by
  have e : id' ≠ id := Nat.ne_of_beq_eq_false hid
  simp only [Exit.inBlock, e, if_false]
  exact h φ a w st
/-- Less is known. -/
def ESub (L : List Item) (E : Env) : Env → Prop
  | [] => True
  | (t, B) :: E' => (∃ A, look E t = some A ∧ SubL L A B) ∧ ESub L E E'
theorem ESub.look {L : List Item} {E : Env} : ∀ {E' : Env} {t : Nat} {B : VP}, ESub L E E' → Go.Proofs.YtfkmbdpnjcgimaaGreat.look E' t = some B → ∃ A, Go.Proofs.YtfkmbdpnjcgimaaGreat.look E t = some A ∧ SubL L A B
  | [], _, _, _, h => by cases h
  | (k, D) :: E', t, B, ⟨h1, h2⟩, h => by
    simp only [Go.Proofs.YtfkmbdpnjcgimaaGreat.look] at h
    by_cases hk : Nat.beq k t = true
    · rw [hk] at h
      simp only [cond_true, Option.some.injEq] at h
      subst h
      rw [← Nat.eq_of_beq_eq_true hk]; exact h1
    · have hk' : Nat.beq k t = false := Bool.eq_false_iff.mpr hk
      rw [hk'] at h
      exact ESub.look h2 (by simpa using h)
theorem St.less {E E' : Env} {L L' : List Item} {φ : Fz} {a : Act} {w : World} (h : St c N (look E) L φ a w) (hE : ESub L E E') (hL : L'.Sublist L) : St c N (look E') L' φ a w :=
  ⟨h.defers, h.size, fun t B hB => let ⟨A, h1, h2⟩ := hE.look hB; h2 _ _ h.mem.mem.facts (h.env t A h1), h.mem.less hL⟩
/-- What holds where ways meet. -/
def Meet (c : Ctx) (N : Nat) {ι : Type} (I : ι → Prop) (Ef : ι → Env) (Lf : ι → List Item) (a : Act) (w : World) : Prop := ∃ i φ, I i ∧ St c N (look (Ef i)) (Lf i) φ a w
/-- A loop. -/
def Round (c : Ctx) (N : Nat) {ι : Type} (I : ι → Prop) (Ef : ι → Env) (Lf : ι → List Item) (μ : ι → Nat) (n : Nat) (a : Act) (w : World) : Prop := ∃ i φ, I i ∧ μ i < n ∧ St c N (look (Ef i)) (Lf i) φ a w
/-- How long a slice can be. -/
theorem JC_len {x : Code} {α : Type} {T : Ty α} {xs : List α} {t : Tmp} (hl : look E t = some (IsSl T xs)) (h : xs.length ≤ 9223372036854775807 → JC P c N x E L Q) : JC P c N x E L Q := fun φ a w st => by
  obtain ⟨ad, n, cp, h1, h2, h3, h4, _⟩ := st.env t _ hl
  exact h (by unfold maxLen at h4; omega) φ a w st
/-! ### A call's beginning and end -/
def argE : Nat → List VP → Env
  | _, [] => []
  | k, A :: As => (k, A) :: argE (k + 1) As
theorem argE_look {φ : Fz} {a : Array Value} : ∀ (As : List VP) (vs : List Value) (k : Nat), Alls φ As vs → (∀ j, j < vs.length → a.getD (k + j) undef = vs.getD j undef) → ∀ t B, look (argE k As) t = some B → B.ok φ (a.getD t undef)
  | [], [], _, _, _, _, _, h => by cases h
  | A :: As, v :: vs, k, ⟨h1, h2⟩, ha, t, B, h => by
    simp only [argE, look] at h
    by_cases hk : Nat.beq k t = true
    · rw [hk] at h
      simp only [cond_true, Option.some.injEq] at h
      subst h
      rw [← Nat.eq_of_beq_eq_true hk]
      have := ha 0 (by simp)
      simp only [Nat.add_zero, List.getD_cons_zero] at this
      rw [this]; exact h1
    · have hk' : Nat.beq k t = false := Bool.eq_false_iff.mpr hk
      rw [hk'] at h
      refine argE_look As vs (k + 1) h2 (fun j hj => ?_) t B (by simpa using h)
      have := ha (j + 1) (by simp; omega)
      rw [show k + 1 + j = k + (j + 1) by omega, this]
      simp
def Post (c : Ctx) {ι : Type} (R : ι → VP) (L' : ι → List Item) (e : Ending) (w' : World) : Prop := ∃ i v φ', e = .returned v ∧ (R i).ok φ' v ∧ HP c φ' (L' i) w'
theorem Fn.enter {f : FuncId} {fn : Func} {x : Code} {As : List VP} {ι : Type} {R : ι → VP} {L' : ι → List Item} (hf : P.funcs[f]? = some fn) (hb : fn.body = some x) (hn : Nat.ble As.length fn.ntmps = true)
    (h : ∀ c : Ctx, (c.X = names L ∧ c.ds = []) → JC P c fn.ntmps x (argE 0 As) L (bodyPost P fn (Post c R L'))) : Fn P f As L R L' := by
  intro φ w vs hA hm
  have hlen := hA.len
  have hn' : As.length ≤ fn.ntmps := Nat.le_of_ble_eq_true hn
  refine calls_of_wp hf hb (h ⟨w, φ, names L, []⟩ ⟨rfl, rfl⟩ φ _ w ⟨rfl, ?_, ?_, HP.start hm⟩)
  · simp only [Array.size_append, List.size_toArray, Array.size_replicate]; omega
  · refine argE_look As vs 0 hA fun j hj => ?_
    simp only [Nat.zero_add]
    rw [Array.getD_eq_getD_getElem?, Array.getElem?_append_left (by simpa using hj), List.getD_eq_getElem?_getD]
    simp
theorem JQ_ret1 {fn : Func} {ι : Type} {R : ι → VP} {L' : ι → List Item} {t : Tmp} {A : VP} (hr : fn.results = #[.tmp t]) (hl : look E t = some A) (i : ι) (hs : SubL L A (R i)) (hL : (L' i).Sublist L) (hD0 : c.ds = [] := by first | assumption | exact And.right (by assumption)) : JQ c N E L (bodyPost P fn (Post c R L')) .ret := fun φ a w st =>
  bodyPost_ret (results_tmp hr _ P w) (st.defers.trans hD0) ⟨i, _, φ, rfl, hs _ _ st.mem.mem.facts (st.env t A hl), st.mem.less hL⟩
end
end Go.Proofs.YtfkmbdpnjcgimaaGreat

/- A region whose order is drawn, walked once: each operation of a stretch only adds knowledge and looks at its own operands alone; between stretches stand operations that all others wait for or are waited for by. Own work, over the kit's Derived/Orders. -/
namespace Go.Proofs.YtfkmbdpnjcgimaaGreat
open Go.RowKit
set_option linter.unusedVariables false
set_option linter.unusedSimpArgs false
section
variable {P : Program} {ops : Array Oper} {c : Ctx} {N : Nat} {L : List Item}
def gtmp (ops : Array Oper) (o : Oper) : Option Tmp := o.guard.bind fun g => (ops[g.1]?).bind (·.dst)
theorem mem_looks {o : Oper} {t : Tmp} (h : Operand.tmp t ∈ o.op.operands) : t ∈ o.looksAt ops := by
  unfold Oper.looksAt
  refine List.mem_append_left _ (List.mem_filterMap.2 ⟨.tmp t, by simpa using h, rfl⟩)
theorem gtmp_looks {o : Oper} {t : Tmp} (h : gtmp ops o = some t) : t ∈ o.looksAt ops := by
  unfold Oper.looksAt
  refine List.mem_append_right _ ?_
  unfold gtmp at h
  cases hg : o.guard with
  | none => rw [hg] at h; cases h
  | some g => rw [hg] at h; simp only [Option.bind_some] at h; simp [h]
/-- What an operation leaves in its temporary: a value of which something is known, or a value with memory of one's own. -/
inductive Out where
  | v (F : VP)
  | own {ι : Type} (val : ι → Value) (I : ι → Item)
def Out.toV : Out → Option VP
  | .v F => some F
  | .own _ _ => none
def Out.post (M : List Item) (φ : Fz) (w : World) (φ' : Fz) (v : Value) (w' : World) : Out → Prop
  | .v F => HP ⟨w, φ, names M, []⟩ φ' [] w' ∧ F.ok φ' v
  | .own val I => ∃ i, v = val i ∧ HP ⟨w, φ, names M, []⟩ φ' [I i] w'
def Out.idle (φ : Fz) : Out → Prop
  | .v F => F.ok φ undef
  | .own _ _ => False
def putO (A : Nat → Option Out) (d : Option Tmp) (B : Out) : Nat → Option Out := fun t => if d = some t then some B else A t
def killO (A : Nat → Option Out) (d : Option Tmp) : Nat → Option Out := fun t => if d = some t then none else A t
theorem putO_ne {A : Nat → Option Out} {d : Option Tmp} {B : Out} {t : Nat} (h : d ≠ some t) : putO A d B t = A t := by unfold putO; rw [if_neg h]
theorem putO_eq {A : Nat → Option Out} {t : Nat} {B : Out} : putO A (some t) B t = some B := by unfold putO; rw [if_pos rfl]
theorem killO_ne {A : Nat → Option Out} {d : Option Tmp} {t : Nat} (h : d ≠ some t) : killO A d t = A t := by unfold killO; rw [if_neg h]
theorem killO_eq {A : Nat → Option Out} {t : Nat} : killO A (some t) t = none := by unfold killO; rw [if_pos rfl]
/-- What may write into memory: a store, or an append. -/
def wrB (o : Oper) : Bool := o.dst.isNone || (match o.op with
  | .call { callee := .builtin .append, .. } => true
  | _ => false)
/-- The memory that an operation takes from a temporary that it looks at. -/
def Takes (A : Nat → Option Out) (o : Oper) (ops : Array Oper) (a : Act) (M : List Item) : Option Tmp → Prop
  | none => M = []
  | some s => (s ∈ o.looksAt ops ∨ wrB o = true) ∧ ∃ (ι : Type) (val : ι → Value) (I : ι → Item) (i : ι), A s = some (.own val I) ∧ a.tmps.getD s undef = val i ∧ M = [I i]
/-- Where what an operation leaves is told: in its temporary; one without it leaves it where it took. -/
def tgt (o : Oper) (kl : Option Tmp) : Option Tmp := match o.dst with
  | some t => some t
  | none => kl
def res (o : Oper) (kl : Option Tmp) (a : Act) (v : Value) : Value := match o.dst with
  | some _ => v
  | none => match kl with
    | some s => a.tmps.getD s undef
    | none => v
theorem tgt_none (o : Oper) : tgt o none = o.dst := by unfold tgt; split <;> simp_all
theorem tgt_some {o : Oper} {d : Tmp} (h : o.dst = some d) (kl : Option Tmp) : tgt o kl = some d := by unfold tgt; rw [h]
theorem tgt_kl {o : Oper} (h : o.dst = none) (kl : Option Tmp) : tgt o kl = kl := by unfold tgt; rw [h]
theorem res_none (o : Oper) (a : Act) (v : Value) : res o none a v = v := by unfold res; split <;> rfl
theorem res_some {o : Oper} {d : Tmp} (h : o.dst = some d) (kl : Option Tmp) (a : Act) (v : Value) : res o kl a v = v := by unfold res; rw [h]
theorem res_kl {o : Oper} (h : o.dst = none) (s : Tmp) (a : Act) (v : Value) : res o (some s) a v = a.tmps.getD s undef := by unfold res; rw [h]
theorem put_same (a : Act) (s : Tmp) : a.put (some s) (a.tmps.getD s undef) = a := by
  have h : a.tmps.setIfInBounds s (a.tmps.getD s undef) = a.tmps := by
    apply Array.ext
    · simp
    · intro i h1 h2
      rw [Array.getElem_setIfInBounds]
      split
      · rename_i e; subst e; simp [h2]
      · rfl
  unfold Act.put
  simp only [h]
theorem put_res (o : Oper) (kl : Option Tmp) (a : Act) (v : Value) : a.put (tgt o kl) (res o kl a v) = a.put o.dst v := by
  cases hd : o.dst with
  | some d => rw [tgt_some hd, res_some hd]
  | none =>
    cases kl with
    | none => rw [tgt_none, res_none, hd]
    | some s => rw [tgt_kl hd, res_kl hd, put_same]; rfl
/-- What one operation, guard and all, leaves in its temporary, told from its own operands. -/
def LocOp (P : Program) (ops : Array Oper) (c : Ctx) (L : List Item) (o : Oper) (A : Nat → Option Out) (F : Out) (kl : Option Tmp) : Prop :=
  ∀ φ a w K Q M, HP c φ (M ++ L) w → Takes A o ops a M kl → (∀ t, t ∈ o.looksAt ops → ∀ B, (A t).bind Out.toV = some B → B.ok φ (a.tmps.getD t undef)) →
    (∀ φ' v w', F.post M φ w φ' (res o kl a v) w' → K (a.put o.dst v) w') →
    if Region.wanted o (yielded ops a.tmps) then o.wp P a w K Q else (kl = none ∧ F.idle φ)
theorem LocOp.congr {o : Oper} {A A' : Nat → Option Out} {F : Out} {kl : Option Tmp} (h : LocOp P ops c L o A F kl) (he : ∀ t, t ∈ o.looksAt ops ∨ kl = some t → A' t = A t) : LocOp P ops c L o A' F kl := by
  intro φ a w K Q M hm ht hl hk
  refine h φ a w K Q M hm ?_ (fun t ht B hB => hl t ht B (by rw [he t (.inl ht)]; exact hB)) hk
  cases kl with
  | none => exact ht
  | some s =>
    obtain ⟨h1, ι, val, I, i, h2, h3⟩ := ht
    exact ⟨h1, ι, val, I, i, by rw [← he s (.inr rfl)]; exact h2, h3⟩
/-- The frame and the memory within a stretch. -/
structure SS (c : Ctx) (N : Nat) (A : Nat → Option Out) (L : List Item) (φ : Fz) (a : Act) (w : World) : Prop where
  defers : a.defers = c.ds
  size : a.tmps.size = N
  env : ∀ t B, A t = some (.v B) → B.ok φ (a.tmps.getD t undef)
  mem : HP c φ L w
  own : ∃ β : Tmp → Item, (∀ (t : Tmp) (ι : Type) (val : ι → Value) (I : ι → Item), A t = some (.own val I) → (∃ i, a.tmps.getD t undef = val i ∧ β t = I i) ∧ (β t).here φ w ∧ ∀ b, (β t).at_ = some b → (c.w.heap.size ≤ b ∨ b ∈ c.X) ∧ b ∉ names L) ∧
    ∀ (t t' : Tmp) (ι ι' : Type) (val : ι → Value) (I : ι → Item) (val' : ι' → Value) (I' : ι' → Item), t ≠ t' → A t = some (.own val I) → A t' = some (.own val' I') → Apart (β t) (β t')
theorem SS.congr {A B : Nat → Option Out} {φ : Fz} {a : Act} {w : World} (h : SS c N A L φ a w) (e : ∀ t, A t = B t) : SS c N B L φ a w := by
  have : A = B := funext e
  subst this; exact h
theorem put_get_same {a : Act} {t : Tmp} {v : Value} (h : t < a.tmps.size ∨ v = a.tmps.getD t undef) : (a.put (some t) v).tmps.getD t undef = v := by
  rcases h with h | h
  · simp [Act.put, h]
  · subst h; rw [put_same]
theorem put_get_ne {a : Act} {d : Option Tmp} {t : Nat} {v : Value} (h : d ≠ some t) : (a.put d v).tmps.getD t undef = a.tmps.getD t undef := by
  cases d with
  | none => rfl
  | some d =>
    have hne : d ≠ t := fun e => h (by rw [e])
    simp [Act.put, Array.getElem?_setIfInBounds_ne hne]
def pickI (d : Option Tmp) (x : Item) (β : Tmp → Item) : Tmp → Item := fun t => if d = some t then x else β t
theorem pickI_eq {t : Tmp} {x : Item} {β : Tmp → Item} : pickI (some t) x β t = x := by unfold pickI; rw [if_pos rfl]
theorem pickI_ne {d : Option Tmp} {t : Tmp} {x : Item} {β : Tmp → Item} (h : d ≠ some t) : pickI d x β t = β t := by unfold pickI; rw [if_neg h]
/-- What an operation takes is at hand. -/
theorem SS.takes {A : Nat → Option Out} {φ : Fz} {a : Act} {w : World} (h : SS c N A L φ a w) {o : Oper} {kl : Option Tmp} (hk : ∀ s, kl = some s → (s ∈ o.looksAt ops ∨ wrB o = true) ∧ ∃ (ι : Type) (val : ι → Value) (I : ι → Item), A s = some (.own val I)) :
    ∃ M, HP c φ (M ++ L) w ∧ Takes A o ops a M kl ∧ ∀ (d : Option Tmp) (F : Out) (φ' : Fz) (v : Value) (w' : World), (∀ t, d = some t → t < N ∨ v = a.tmps.getD t undef) → F.post M φ w φ' v w' → SS c N (putO (killO A kl) d F) L φ' (a.put d v) w' := by
  obtain ⟨β, hβ, hap⟩ := h.own
  have key : ∀ M : List Item, HP c φ (M ++ L) w → (∀ b, b ∈ names M → (c.w.heap.size ≤ b ∨ b ∈ c.X) ∧ b ∉ names L) → (∀ (t : Tmp) (ι : Type) (val : ι → Value) (I : ι → Item), killO A kl t = some (.own val I) → A t = some (.own val I) ∧ ∀ b, (β t).at_ = some b → b ∉ names M) → (∀ t B, killO A kl t = some (.v B) → A t = some (.v B)) →
      ∀ (d : Option Tmp) (F : Out) (φ' : Fz) (v : Value) (w' : World), (∀ t, d = some t → t < N ∨ v = a.tmps.getD t undef) → F.post M φ w φ' v w' → SS c N (putO (killO A kl) d F) L φ' (a.put d v) w' := by
    intro M hM hMb hkl hklv d F φ' v w' hd hp
    have hk : Kpt (names M) w w' := by cases F with
      | v F => exact hp.1.kept
      | own val I => obtain ⟨i, _, h2⟩ := hp; exact h2.kept
    have hold : ∀ b i, b < w.heap.size → φ' b i = φ b i := by cases F with
      | v F => exact hp.1.old
      | own val I => obtain ⟨i, _, h2⟩ := hp; exact h2.old
    have hm : HP c φ' L w' := by cases F with
      | v F => simpa using hM.call hp.1
      | own val I =>
        obtain ⟨i, _, h2⟩ := hp
        exact (hM.call h2).less (by simp)
    have hle : Fle φ φ' := fun b i u e => by rw [hold b i (cell_lt (h.mem.mem.base b i u e))]; exact e
    refine ⟨by rw [Act.put_defs]; exact h.defers, by rw [Act.put_size]; exact h.size, fun t B ht => ?_, hm, ?_⟩
    · by_cases hdt : d = some t
      · subst hdt
        rw [putO_eq] at ht
        injection ht with ht
        subst ht
        rw [put_get_same (by rw [h.size]; exact hd t rfl)]; exact hp.2
      · rw [putO_ne hdt] at ht
        rw [put_get_ne hdt]
        exact B.mono hle (h.env t B (hklv t B ht))
    · have hold2 : ∀ (t : Tmp) (ι : Type) (val : ι → Value) (I : ι → Item), killO A kl t = some (.own val I) → (β t).here φ' w' ∧ ∀ b, (β t).at_ = some b → b < w.heap.size ∧ b ∉ names M := fun t ι val I ht => by
        obtain ⟨h1, h2⟩ := hkl t ι val I ht
        obtain ⟨_, h3, h4⟩ := hβ t ι val I h1
        refine ⟨⟨?_, fun b hb => ⟨Nat.lt_of_lt_of_le (h3.2 b hb).1 hk.size, fun i => by rw [hold b i (h3.2 b hb).1]; exact (h3.2 b hb).2 i⟩⟩, fun b hb => ⟨(h3.2 b hb).1, h2 b hb⟩⟩
        have h5 := h3.1
        cases hat : (β t).at_ with
        | none => rw [hat] at h5; exact (β t).mono hle h5
        | some b =>
          rw [hat] at h5
          simp only [Option.bind_some] at h5 ⊢
          rw [hk.block b (h3.2 b hat).1 (h2 b hat)]
          exact (β t).mono hle h5
      cases F with
      | v F =>
        refine ⟨β, fun t ι val I ht => ?_, fun t t' ι ι' val I val' I' hne ht ht' => ?_⟩
        · by_cases hdt : d = some t
          · subst hdt; rw [putO_eq] at ht; injection ht with ht; cases ht
          · rw [putO_ne hdt] at ht
            obtain ⟨h1, h2⟩ := hkl t ι val I ht
            obtain ⟨h3, _, h4⟩ := hβ t ι val I h1
            rw [put_get_ne hdt]
            exact ⟨h3, (hold2 t ι val I ht).1, h4⟩
        · by_cases hdt : d = some t
          · subst hdt; rw [putO_eq] at ht; injection ht with ht; cases ht
          · by_cases hdt' : d = some t'
            · subst hdt'; rw [putO_eq] at ht'; injection ht' with ht'; cases ht'
            · rw [putO_ne hdt] at ht; rw [putO_ne hdt'] at ht'
              exact hap t t' ι ι' val I val' I' hne (hkl t ι val I ht).1 (hkl t' ι' val' I' ht').1
      | own val0 I0 =>
        obtain ⟨i0, hv, hp2⟩ := hp
        have hnew : ∀ b, (I0 i0).at_ = some b → w.heap.size ≤ b ∨ b ∈ names M := fun b hb => hp2.mine b (mem_names.2 ⟨_, List.mem_singleton.2 rfl, hb⟩)
        refine ⟨pickI d (I0 i0) β, fun t ι val I ht => ?_, fun t t' ι ι' val I val' I' hne ht ht' => ?_⟩
        · by_cases hdt : d = some t
          · subst hdt
            rw [putO_eq] at ht
            injection ht with ht
            cases ht
            refine ⟨⟨i0, by rw [put_get_same (by rw [h.size]; exact hd t rfl)]; exact hv, by rw [pickI_eq]⟩, by rw [pickI_eq]; exact hp2.mem.items _ (List.mem_singleton.2 rfl), fun b hb => ?_⟩
            rw [pickI_eq] at hb
            rcases hnew b hb with h1 | h1
            · refine ⟨.inl (Nat.le_trans h.mem.kept.size h1), fun hbl => ?_⟩
              obtain ⟨it, hi, hib⟩ := mem_names.1 hbl
              exact absurd ((h.mem.mem.items it hi).2 b hib).1 (Nat.not_lt.2 h1)
            · exact hMb b h1
          · rw [putO_ne hdt] at ht
            obtain ⟨h1, h2⟩ := hkl t ι val I ht
            obtain ⟨h3, _, h4⟩ := hβ t ι val I h1
            rw [pickI_ne hdt, put_get_ne hdt]
            exact ⟨h3, (hold2 t ι val I ht).1, h4⟩
        · have cross : ∀ (u : Tmp) (κ : Type) (valu : κ → Value) (Iu : κ → Item), killO A kl u = some (.own valu Iu) → ∀ b, (I0 i0).at_ = some b → (β u).at_ ≠ some b := fun u κ valu Iu hu b hb hbu => by
            obtain ⟨h1, h2⟩ := (hold2 u κ valu Iu hu).2 b hbu
            rcases hnew b hb with h3 | h3
            · omega
            · exact h2 h3
          by_cases hdt : d = some t
          · have hdt' : d ≠ some t' := fun h' => hne (by rw [hdt] at h'; injection h')
            rw [putO_ne hdt'] at ht'
            subst hdt
            rw [pickI_eq, pickI_ne hdt']
            exact cross t' ι' val' I' ht'
          · by_cases hdt' : d = some t'
            · rw [putO_ne hdt] at ht
              subst hdt'
              rw [pickI_ne hdt, pickI_eq]
              exact fun b hb hb' => cross t ι val I ht b hb' hb
            · rw [putO_ne hdt] at ht; rw [putO_ne hdt'] at ht'
              rw [pickI_ne hdt, pickI_ne hdt']
              exact hap t t' ι ι' val I val' I' hne (hkl t ι val I ht).1 (hkl t' ι' val' I' ht').1
  cases kl with
  | none =>
    have hn : killO A none = A := by funext t; simp [killO]
    refine ⟨[], by simpa using h.mem, rfl, key [] (by simpa using h.mem) (by simp [names]) (fun t ι val I ht => ?_) (fun t B ht => ?_)⟩
    · rw [hn] at ht; exact ⟨ht, by simp [names]⟩
    · rw [hn] at ht; exact ht
  | some s =>
    obtain ⟨hs1, ι, val, I, hs2⟩ := hk s rfl
    obtain ⟨⟨i, h1, h2⟩, h3, h4⟩ := hβ s ι val I hs2
    have hM : HP c φ ([I i] ++ L) w := by
      rw [h2] at h3 h4
      refine ⟨⟨h.mem.mem.base, fun it hi => ?_, ?_⟩, h.mem.kept, fun b hb => ?_, h.mem.old⟩
      · rcases List.mem_append.1 hi with hi | hi
        · rw [List.mem_singleton] at hi; subst hi; exact h3
        · exact h.mem.mem.items it hi
      · refine List.pairwise_append.2 ⟨List.pairwise_singleton _ _, h.mem.mem.sep, fun x hx y hy b hxb hyb => ?_⟩
        rw [List.mem_singleton] at hx; subst hx
        exact (h4 b hxb).2 (mem_names.2 ⟨y, hy, hyb⟩)
      · rw [names_append] at hb
        rcases List.mem_append.1 hb with hb | hb
        · obtain ⟨x, hx, hxb⟩ := mem_names.1 hb
          rw [List.mem_singleton] at hx; subst hx
          exact (h4 b hxb).1
        · exact h.mem.mine b hb
    refine ⟨[I i], hM, ⟨hs1, ι, val, I, i, hs2, h1, rfl⟩, key _ hM (fun b hb => ?_) (fun t ι' val' I' ht => ?_) (fun t B ht => ?_)⟩
    · obtain ⟨x, hx, hxb⟩ := mem_names.1 hb
      rw [List.mem_singleton] at hx; subst hx
      rw [← h2] at hxb
      exact h4 b hxb
    · by_cases hst : (some s : Option Tmp) = some t
      · injection hst with hst; subst hst; rw [killO_eq] at ht; cases ht
      · rw [killO_ne hst] at ht
        refine ⟨ht, fun b hb hbm => ?_⟩
        obtain ⟨x, hx, hxb⟩ := mem_names.1 hbm
        rw [List.mem_singleton] at hx; subst hx
        rw [← h2] at hxb
        exact hap s t ι ι' val I val' I' (fun e => hst (by rw [e])) hs2 ht b hxb hb
    · by_cases hst : (some s : Option Tmp) = some t
      · injection hst with hst; subst hst; rw [killO_eq] at ht; cases ht
      · rw [killO_ne hst] at ht; exact ht

/-! ### Who waits for whom -/
theorem blt_ff {i k : Nat} (h : k ≤ i) : Nat.blt i k = false := by
  cases hb : Nat.blt i k with
  | false => rfl
  | true => exact absurd (Nat.le_of_ble_eq_true hb) (by omega)
def dirMask (nd : Nat → Nat) (es : List Edge) : Nat := es.foldr (fun e s => bif Region.binds .any e then (1 <<< e.on) ||| (nd e.on ||| s) else s) 0
theorem dirMask_spec {nd : Nat → Nat} {j : Nat} : ∀ {es : List Edge}, (dirMask nd es).testBit j = true → ∃ e, e ∈ es ∧ Region.binds .any e = true ∧ (e.on = j ∨ (nd e.on).testBit j = true)
  | [], h => by simp [dirMask] at h
  | e :: es, h => by
    have hcase : dirMask nd (e :: es) = bif Region.binds .any e then (1 <<< e.on) ||| (nd e.on ||| dirMask nd es) else dirMask nd es := rfl
    rw [hcase] at h
    cases hb : Region.binds .any e with
    | false =>
      rw [hb] at h
      obtain ⟨e', h1, h2⟩ := dirMask_spec (es := es) h
      exact ⟨e', List.mem_cons_of_mem _ h1, h2⟩
    | true =>
      rw [hb] at h
      simp only [cond_true, Nat.testBit_or, Bool.or_eq_true] at h
      rcases h with h | h | h
      · refine ⟨e, List.mem_cons_self .., hb, .inl ?_⟩
        rw [Nat.one_shiftLeft, Nat.testBit_two_pow] at h
        simpa using h
      · exact ⟨e, List.mem_cons_self .., hb, .inr h⟩
      · obtain ⟨e', h1, h2⟩ := dirMask_spec (es := es) h
        exact ⟨e', List.mem_cons_of_mem _ h1, h2⟩
def ndOf (nd : List Nat) (i : Nat) : Nat := nd.getD i 0
def needs : List Oper → List Nat → List Nat
  | [], acc => acc
  | o :: rest, acc => needs rest (acc ++ [dirMask (ndOf acc) o.after.toList])
def opsAll (p : Nat → Oper → Bool) : List Oper → Nat → Bool
  | [], _ => true
  | o :: rest, k => p k o && opsAll p rest (k + 1)
theorem opsAll_spec {p : Nat → Oper → Bool} : ∀ {l : List Oper} {k : Nat}, opsAll p l k = true → ∀ i o, l[i]? = some o → p (k + i) o = true
  | [], _, _, i, o, h => by simp at h
  | x :: l, k, h, i, o, hi => by
    simp only [opsAll, Bool.and_eq_true] at h
    cases i with
    | zero => simp at hi; subst hi; exact h.1
    | succ i =>
      have := opsAll_spec h.2 i o (by simpa using hi)
      rw [show k + (i + 1) = k + 1 + i by omega]; exact this
/-- The masks are sound, the edges go back. -/
def goodB (ops : Array Oper) (nd : List Nat) : Bool :=
  opsAll (fun i o => Nat.beq (ndOf nd i &&& dirMask (ndOf nd) o.after.toList) (ndOf nd i) && o.after.toList.all (fun e => !Region.binds .any e || Nat.blt e.on i)) ops.toList 0
/-- Whatever looks at, or writes, a temporary that another one writes stands in an order with it. -/
def namesOf (ops : Array Oper) (o : Oper) : List Tmp := o.looksAt ops ++ o.dst.toList
def ordB (ops : Array Oper) (nd : List Nat) : Bool :=
  opsAll (fun i o => match o.dst with
    | none => true
    | some d => opsAll (fun j x => Nat.beq i j || !((namesOf ops x).any fun t => Nat.beq t d) || (bif Nat.blt i j then (ndOf nd j).testBit i else (ndOf nd i).testBit j)) ops.toList 0) ops.toList 0
/-- All from k on wait for i. -/
def afterB (nd : List Nat) (size k i : Nat) : Bool := (List.range size).all fun j => Nat.blt j k || (ndOf nd j).testBit i
def stretchB (nd : List Nat) (size k n : Nat) : Bool := (List.range n).all fun i => afterB nd size (k + n) (k + i)

structure Good (ops : Array Oper) (nd : List Nat) : Prop where
  mask : ∀ (i : Nat) (o : Oper) (j : Nat), ops[i]? = some o → (ndOf nd i).testBit j = true → ∃ e, e ∈ o.after ∧ Region.binds .any e = true ∧ (e.on = j ∨ (ndOf nd e.on).testBit j = true)
  back : ∀ (i : Nat) (o : Oper) (e : Edge), ops[i]? = some o → e ∈ o.after → Region.binds .any e = true → e.on < i
  ord : ∀ (i : Nat) (o : Oper) (d : Tmp) (j : Nat) (x : Oper), ops[i]? = some o → o.dst = some d → ops[j]? = some x → d ∈ namesOf ops x → i ≠ j → (i < j → (ndOf nd j).testBit i = true) ∧ (j < i → (ndOf nd i).testBit j = true)
theorem good_of {nd : List Nat} (h1 : goodB ops nd = true) (h2 : ordB ops nd = true) : Good ops nd := by
  refine ⟨fun i o j hi hj => ?_, fun i o e hi he hb => ?_, fun i o d j x hi hd hj hx hne => ?_⟩
  · have := opsAll_spec h1 i o (by simpa using hi)
    simp only [Nat.zero_add, Bool.and_eq_true] at this
    have h3 := Nat.eq_of_beq_eq_true this.1
    rw [← h3, Nat.testBit_and, Bool.and_eq_true] at hj
    obtain ⟨e, h4, h5⟩ := dirMask_spec hj.2
    exact ⟨e, by simpa using h4, h5⟩
  · have := opsAll_spec h1 i o (by simpa using hi)
    simp only [Nat.zero_add, Bool.and_eq_true, List.all_eq_true, Bool.or_eq_true] at this
    have h3 := this.2 e (by simpa using he)
    rw [hb] at h3
    simpa using h3
  · have := opsAll_spec h2 i o (by simpa using hi)
    simp only [hd, Nat.zero_add] at this
    have h3 := opsAll_spec this j x (by simpa using hj)
    simp only [Nat.zero_add, Bool.or_eq_true] at h3
    have hij : Nat.beq i j = false := beq_ff hne
    have hany : ((namesOf ops x).any fun t => Nat.beq t d) = true := List.any_eq_true.2 ⟨d, hx, by simp⟩
    rw [hij, hany] at h3
    simp only [Bool.false_eq_true, Bool.not_true, false_or] at h3
    constructor
    · intro hlt
      have : Nat.blt i j = true := by simpa using hlt
      rw [this] at h3; exact h3
    · intro hlt
      have : Nat.blt i j = false := blt_ff (by omega)
      rw [this] at h3; exact h3
/-- How far the region has come: the listed are closed under need. -/
structure Cl (ops : Array Oper) (nd : List Nat) (listed : Array Bool) : Prop where
  size : listed.size = ops.size
  cl : ∀ i, listed.getD i false = true → ∀ j, (ndOf nd i).testBit j = true → listed.getD j false = true
theorem ready_need {nd : List Nat} (hg : Good ops nd) {listed : Array Bool} (hc : Cl ops nd listed) {i : Nat} (hr : i ∈ Region.ready .any ops listed) {j : Nat} (hj : (ndOf nd i).testBit j = true) : listed.getD j false = true := by
  obtain ⟨_, o, ho, hall⟩ := mem_ready.1 hr
  obtain ⟨e, he, hb, h3⟩ := hg.mask i o j ho hj
  have h4 := hall e he hb
  rcases h3 with rfl | h3
  · exact h4
  · exact hc.cl _ h4 j h3
theorem Cl.set {nd : List Nat} (hg : Good ops nd) {listed : Array Bool} (hc : Cl ops nd listed) {i : Nat} (hr : i ∈ Region.ready .any ops listed) : Cl ops nd (listed.setIfInBounds i true) := by
  refine ⟨by simp [hc.size], fun k hk j hj => ?_⟩
  by_cases hik : i = k
  · subst hik
    exact getD_set_true (ready_need hg hc hr hj)
  · rw [getD_set_ne false hik] at hk
    exact getD_set_true (hc.cl k hk j hj)
def unl (n : Nat) (listed : Array Bool) : Nat := (List.range n).countP fun i => !listed.getD i true
theorem unl_set {listed : Array Bool} {i : Nat} (hi : i < listed.size) (hf : listed.getD i true = false) : ∀ {n : Nat}, i < n → unl n (listed.setIfInBounds i true) + 1 = unl n listed
  | 0, h => by omega
  | n + 1, h => by
    unfold unl
    rw [List.range_succ, List.countP_append, List.countP_append]
    by_cases hin : i = n
    · subst hin
      have h1 : (List.range i).countP (fun k => !(listed.setIfInBounds i true).getD k true) = (List.range i).countP (fun k => !listed.getD k true) := by
        refine List.countP_congr fun k hk => ?_
        have : i ≠ k := by have := List.mem_range.1 hk; omega
        rw [getD_set_ne true this]
      rw [h1]
      have h2 : (listed.setIfInBounds i true).getD i true = true := by simp [hi]
      rw [List.countP_cons, List.countP_cons, h2, hf]
      simp
    · have := unl_set hi hf (n := n) (by omega)
      unfold unl at this
      have h1 : (List.countP (fun i => !listed.getD i true) [n]) = List.countP (fun k => !(listed.setIfInBounds i true).getD k true) [n] := by
        rw [List.countP_cons, List.countP_cons, getD_set_ne true hin]; rfl
      omega
theorem unl_zero {listed : Array Bool} {n : Nat} (h : unl n listed = 0) : ∀ i, i < n → listed.getD i true = true := by
  intro i hi
  unfold unl at h
  rw [List.countP_eq_zero] at h
  have := h i (List.mem_range.2 hi)
  simpa using this
/-- The first k are listed. -/
structure Pre (ops : Array Oper) (nd : List Nat) (k : Nat) (listed : Array Bool) : Prop where
  cl : Cl ops nd listed
  pre : ∀ i, i < ops.size → (listed.getD i true = true ↔ i < k)

/-! ### A stretch -/
structure Ent where
  i : Nat
  o : Oper
  F : Out
  kl : Option Tmp
def Ent.tch (x : Ent) (t : Tmp) : Prop := x.o.dst = some t ∨ x.kl = some t
def Ent.app (x : Ent) (A : Nat → Option Out) : Nat → Option Out := putO (killO A x.kl) (tgt x.o x.kl) x.F
theorem Ent.app_ne {x : Ent} {A : Nat → Option Out} {t : Tmp} (h : ¬ x.tch t) : x.app A t = A t := by
  unfold Ent.app
  have h2 : tgt x.o x.kl ≠ some t := fun e => by
    cases hd : x.o.dst with
    | some d => rw [tgt_some hd] at e; exact h (.inl (by rw [hd, e]))
    | none => rw [tgt_kl hd] at e; exact h (.inr e)
  rw [putO_ne h2, killO_ne (fun e => h (.inr e))]
theorem Ent.app_same {x : Ent} {A B : Nat → Option Out} {t : Tmp} (h : x.tch t ∨ A t = B t) : x.app A t = x.app B t := by
  unfold Ent.app
  by_cases h1 : tgt x.o x.kl = some t
  · rw [h1, putO_eq, putO_eq]
  · rw [putO_ne h1, putO_ne h1]
    by_cases h2 : x.kl = some t
    · rw [h2, killO_eq, killO_eq]
    · rw [killO_ne h2, killO_ne h2]
      rcases h with (h | h) | h
      · exact absurd (tgt_some h x.kl) h1
      · exact absurd h h2
      · exact h
/-- What is known where some of a stretch has come up. -/
def acc (listed : Nat → Bool) : List Ent → (Nat → Option Out) → Nat → Option Out
  | [], A => A
  | x :: l, A => acc listed l (bif listed x.i then x.app A else A)
theorem acc_congr {p q : Nat → Bool} {t : Nat} {l : List Ent} : ∀ {A B : Nat → Option Out}, A t = B t → (∀ x, x ∈ l → x.tch t → p x.i = q x.i) → acc p l A t = acc q l B t := by
  induction l with
  | nil => intro A B h _; exact h
  | cons y l ih =>
    intro A B h hl
    have hl' : ∀ x, x ∈ l → x.tch t → p x.i = q x.i := fun x hx => hl x (List.mem_cons_of_mem _ hx)
    show acc p l (bif p y.i then y.app A else A) t = acc q l (bif q y.i then y.app B else B) t
    refine ih ?_ hl'
    by_cases hd : y.tch t
    · have hp : p y.i = q y.i := hl y (List.mem_cons_self ..) hd
      rw [hp]
      cases q y.i
      · exact h
      · exact Ent.app_same (.inl hd)
    · have e1 : (bif p y.i then y.app A else A) t = A t := by cases p y.i <;> simp [Ent.app_ne hd]
      have e2 : (bif q y.i then y.app B else B) t = B t := by cases q y.i <;> simp [Ent.app_ne hd]
      rw [e1, e2]; exact h
theorem acc_append (p : Nat → Bool) : ∀ (l l' : List Ent) (A : Nat → Option Out), acc p (l ++ l') A = acc p l' (acc p l A)
  | [], _, _ => rfl
  | x :: l, l', A => by simp only [List.cons_append, acc, acc_append p l l']
theorem acc_skip {p : Nat → Bool} {t : Nat} {l : List Ent} {A : Nat → Option Out} (h : ∀ x, x ∈ l → x.tch t → p x.i = false) : acc p l A t = A t := by
  have := acc_congr (p := p) (q := fun _ => false) (l := l) (A := A) (B := A) (t := t) rfl h
  rw [this]
  clear this h
  induction l generalizing A with
  | nil => rfl
  | cons x l ih => exact ih
/-- What is taken is taken by one alone. -/
def KillOk (ops : Array Oper) (nd : List Nat) (k : Nat) (o : Oper) (A : Nat → Option Out) (kl : Option Tmp) : Prop :=
  ∀ s, kl = some s → ((s ∈ o.looksAt ops ∨ wrB o = true) ∧ ∃ (ι : Type) (val : ι → Value) (I : ι → Item), A s = some (.own val I)) ∧
    ∀ j x, ops[j]? = some x → s ∈ namesOf ops x ∨ (s ∉ o.looksAt ops ∧ wrB o = true ∧ wrB x = true) → j ≠ k → (k < j → (ndOf nd j).testBit k = true) ∧ (j < k → (ndOf nd k).testBit j = true)
/-- The lexical walk of a stretch. -/
def LocW (P : Program) (ops : Array Oper) (c : Ctx) (L : List Item) (nd : List Nat) (K : (Nat → Option Out) → Prop) : List Oper → Nat → (Nat → Option Out) → Prop
  | [], _, A => K A
  | o :: rest, k, A => ∃ F kl, KillOk ops nd k o A kl ∧ LocOp P ops c L o A F kl ∧ LocW P ops c L nd K rest (k + 1) (putO (killO A kl) (tgt o kl) F)
theorem LocW.out {nd : List Nat} {K : (Nat → Option Out) → Prop} : ∀ {l : List Oper} {A : Nat → Option Out} {k : Nat}, LocW P ops c L nd K l k A →
    ∃ m : List Ent, m.length = l.length ∧ (∀ i x, m[i]? = some x → x.i = k + i ∧ l[i]? = some x.o) ∧
      (∀ m1 x m2, m = m1 ++ x :: m2 → LocOp P ops c L x.o (acc (fun _ => true) m1 A) x.F x.kl ∧ KillOk ops nd x.i x.o (acc (fun _ => true) m1 A) x.kl) ∧ K (acc (fun _ => true) m A)
  | [], A, k, h => ⟨[], rfl, fun i x hx => by simp at hx, fun m1 x m2 hm => by simp at hm, h⟩
  | o :: l, A, k, ⟨F, kl, h0, h1, h2⟩ => by
    obtain ⟨m, e1, e2, e3, e4⟩ := LocW.out h2
    refine ⟨⟨k, o, F, kl⟩ :: m, by simp [e1], fun i x hx => ?_, fun m1 x m2 hm => ?_, e4⟩
    · cases i with
      | zero => simp at hx; subst hx; exact ⟨rfl, rfl⟩
      | succ i =>
        obtain ⟨h3, h4⟩ := e2 i x (by simpa using hx)
        exact ⟨by omega, by simpa using h4⟩
    · cases m1 with
      | nil =>
        simp only [List.nil_append, List.cons.injEq] at hm
        obtain ⟨rfl, rfl⟩ := hm
        exact ⟨h1, h0⟩
      | cons y m1 =>
        simp only [List.cons_append, List.cons.injEq] at hm
        obtain ⟨rfl, hm⟩ := hm
        exact e3 m1 x m2 hm
theorem getD_tf {listed : Array Bool} {i : Nat} (h : listed.getD i true = false) : listed.getD i false = false := getD_both h
theorem ready_least {nd : List Nat} (hg : Good ops nd) {listed : Array Bool} (hs : listed.size = ops.size) {i : Nat} (hi : i < ops.size) (hu : listed.getD i true = false) (hl : ∀ j, j < i → listed.getD j true = true) : i ∈ Region.ready .any ops listed := by
  refine mem_ready.2 ⟨hu, ops[i], by simp [hi], fun e he hb => ?_⟩
  have h1 := hg.back i ops[i] e (by simp [hi]) he hb
  have h2 := hl _ h1
  have h3 : e.on < listed.size := by omega
  simp [h3] at h2 ⊢; exact h2
theorem exists_least_unl {listed : Array Bool} : ∀ (n : Nat), (∃ i, i < n ∧ listed.getD i true = false) → ∃ i, i < n ∧ listed.getD i true = false ∧ ∀ j, j < i → listed.getD j true = true
  | 0, ⟨i, h, _⟩ => by omega
  | n + 1, h => by
    by_cases h' : ∃ i, i < n ∧ listed.getD i true = false
    · obtain ⟨i, h1, h2, h3⟩ := exists_least_unl n h'
      exact ⟨i, by omega, h2, h3⟩
    · obtain ⟨i, h1, h2⟩ := h
      have hin : i = n := by
        rcases Nat.lt_or_ge i n with h3 | h3
        · exact absurd ⟨i, h3, h2⟩ h'
        · omega
      subst hin
      refine ⟨i, h1, h2, fun j hj => ?_⟩
      cases hv : listed.getD j true with
      | true => rfl
      | false => exact absurd ⟨j, hj, hv⟩ h'
theorem stretch {Q : Exit → Act → World → Prop} {nd : List Nat} (hg : Good ops nd) (hN : opsAll (fun _ o => dstB N o.dst) ops.toList 0 = true) {k n : Nat} (hS : stretchB nd ops.size k n = true) (hkn : k + n ≤ ops.size)
    {m : List Ent} {A0 : Nat → Option Out} (hm : m.length = n) (hmi : ∀ i x, m[i]? = some x → x.i = k + i ∧ ops[k + i]? = some x.o)
    (hop : ∀ m1 x m2, m = m1 ++ x :: m2 → LocOp P ops c L x.o (acc (fun _ => true) m1 A0) x.F x.kl ∧ KillOk ops nd x.i x.o (acc (fun _ => true) m1 A0) x.kl)
    (next : ∀ φ a w listed, Pre ops nd (k + n) listed → SS c N (acc (fun _ => true) m A0) L φ a w → wpAny P .any ops Q (unl ops.size listed) listed a w) :
    ∀ (u : Nat) (φ : Fz) (a : Act) (w : World) (listed : Array Bool), unl ops.size listed = u → Cl ops nd listed → (∀ i, i < k → listed.getD i true = true) → (∀ i, k + n ≤ i → i < ops.size → listed.getD i true = false) →
      SS c N (acc (fun i => listed.getD i false) m A0) L φ a w → wpAny P .any ops Q u listed a w := by
  intro u
  induction u with
  | zero =>
    intro φ a w listed hu hc hlo hhi st
    have hall := unl_zero hu
    have hk : k + n = ops.size := by
      rcases Nat.lt_or_ge (k + n) ops.size with h | h
      · have h1 := hall _ h; have h2 := hhi (k + n) (Nat.le_refl _) h; rw [h1] at h2; cases h2
      · omega
    rw [← hu]
    refine next φ a w listed ⟨hc, fun i hi => ⟨fun _ => by omega, fun _ => hall i hi⟩⟩ (st.congr fun t => acc_congr rfl fun x hx _ => ?_)
    obtain ⟨i, hi⟩ := List.mem_iff_getElem?.1 hx
    obtain ⟨e1, e2⟩ := hmi i x hi
    have hlt : k + i < ops.size := (Array.getElem?_eq_some_iff.1 e2).1
    have h1 := hall _ hlt
    have h2 : k + i < listed.size := by rw [hc.size]; exact hlt
    rw [e1]
    simp [h2] at h1 ⊢; exact h1
  | succ u ih =>
    intro φ a w listed hu hc hlo hhi st
    by_cases hdone : ∃ i, i < k + n ∧ listed.getD i true = false
    · obtain ⟨i0, hi0, hu0, hl0⟩ := exists_least_unl _ hdone
      have hr0 := ready_least hg hc.size (by omega) hu0 hl0
      refine ⟨fun h => (by rw [h] at hr0; cases hr0), fun i hi => ?_⟩
      obtain ⟨hiu, oi, hoi, hiall⟩ := mem_ready.1 hi
      have hilt : i < ops.size := (Array.getElem?_eq_some_iff.1 hoi).1
      have hik : k ≤ i := by
        rcases Nat.lt_or_ge i k with h | h
        · have := hlo i h; rw [hiu] at this; cases this
        · exact h
      have hin : i < k + n := by
        rcases Nat.lt_or_ge i (k + n) with h | h
        · exact h
        · exfalso
          have hi0k : k ≤ i0 := by
            rcases Nat.lt_or_ge i0 k with h' | h'
            · have := hlo i0 h'; rw [hu0] at this; cases this
            · exact h'
          have h1 := List.all_eq_true.1 hS (i0 - k) (List.mem_range.2 (by omega))
          have h2 := List.all_eq_true.1 h1 i (List.mem_range.2 hilt)
          have h3 : Nat.blt i (k + n) = false := blt_ff (by omega)
          rw [h3, Bool.false_or, show k + (i0 - k) = i0 by omega] at h2
          have h4 := ready_need hg hc hi h2
          rw [getD_tf hu0] at h4; cases h4
      have hp : (i - k) < m.length := by omega
      obtain ⟨x, hx⟩ : ∃ x, m[i - k]? = some x := ⟨m[i - k], by simp [hp]⟩
      obtain ⟨ex1, ex2⟩ := hmi (i - k) x hx
      rw [show k + (i - k) = i by omega] at ex1 ex2
      have hox : x.o = oi := Option.some.inj (ex2.symm.trans hoi)
      obtain ⟨m1, m2, hsplit, hm1⟩ : ∃ m1 m2, m = m1 ++ x :: m2 ∧ m1.length = i - k := by
        refine ⟨m.take (i - k), m.drop (i - k + 1), ?_, by simp; omega⟩
        have h1 : m.drop (i - k) = x :: m.drop (i - k + 1) := by
          rw [List.drop_eq_getElem_cons hp]
          congr 1
          rw [List.getElem?_eq_getElem hp] at hx
          exact Option.some.inj hx
        rw [← h1, List.take_append_drop]
      have idx1 : ∀ y, y ∈ m1 → y.i < i ∧ ops[y.i]? = some y.o := fun y hy => by
        obtain ⟨q, hq⟩ := List.mem_iff_getElem?.1 hy
        have hql : q < m1.length := (List.getElem?_eq_some_iff.1 hq).1
        have hq' : m[q]? = some y := by rw [hsplit, List.getElem?_append_left hql]; exact hq
        obtain ⟨e1, e2⟩ := hmi q y hq'
        exact ⟨by omega, by rw [e1]; exact e2⟩
      have idx2 : ∀ y, y ∈ m2 → i < y.i ∧ ops[y.i]? = some y.o := fun y hy => by
        obtain ⟨q, hq⟩ := List.mem_iff_getElem?.1 hy
        have hq' : m[m1.length + 1 + q]? = some y := by
          rw [hsplit, List.getElem?_append_right (by omega), show m1.length + 1 + q - m1.length = q + 1 by omega]
          simpa using hq
        obtain ⟨e1, e2⟩ := hmi _ y hq'
        exact ⟨by omega, by rw [e1]; exact e2⟩
      have hiL : i < listed.size := by rw [hc.size]; exact hilt
      have hkm : ∀ y, y ∈ m → ∀ s, y.kl = some s → (s ∈ y.o.looksAt ops ∨ wrB y.o = true) ∧ ∀ j x, ops[j]? = some x → s ∈ namesOf ops x ∨ (s ∉ y.o.looksAt ops ∧ wrB y.o = true ∧ wrB x = true) → j ≠ y.i → (y.i < j → (ndOf nd j).testBit y.i = true) ∧ (j < y.i → (ndOf nd y.i).testBit j = true) := fun y hy s hs => by
        obtain ⟨p1, p2, hp12⟩ := List.append_of_mem hy
        have := (hop p1 y p2 hp12).2 s hs
        exact ⟨this.1.1, this.2⟩
      have hxm : x ∈ m := by rw [hsplit]; exact List.mem_append_right _ (List.mem_cons_self ..)
      have ordd : ∀ y, y ∈ m → y.i ≠ i → ops[y.i]? = some y.o → (∃ t, y.tch t ∧ (t ∈ namesOf ops oi ∨ x.kl = some t)) → (i < y.i → (ndOf nd y.i).testBit i = true) ∧ (y.i < i → (ndOf nd i).testBit y.i = true) := fun y hym hne h2 ⟨t, ht, htn⟩ => by
        rcases htn with htn | htn
        · rcases ht with ht | ht
          · have := hg.ord y.i y.o t i oi h2 ht hoi htn (fun e => hne e)
            exact ⟨this.2, this.1⟩
          · have := (hkm y hym t ht).2 i oi hoi (.inl htn) (fun e => hne e.symm)
            exact ⟨this.2, this.1⟩
        · have hx1 := hkm x hxm t htn
          rw [hox, ex1] at hx1
          rcases ht with ht | ht
          · have := hx1.2 y.i y.o h2 (.inl (List.mem_append_right _ (by rw [ht]; simp))) hne
            exact this
          · by_cases htl : t ∈ namesOf ops y.o
            · exact hx1.2 y.i y.o h2 (.inl htl) hne
            · have hyd : wrB y.o = true := (hkm y hym t ht).1.resolve_left fun e => htl (List.mem_append_left _ e)
              by_cases htx : t ∈ namesOf ops oi
              · have := (hkm y hym t ht).2 i oi hoi (.inl htx) (fun e => hne e.symm)
                exact ⟨this.2, this.1⟩
              · have hxl : t ∉ oi.looksAt ops := fun e => htx (List.mem_append_left _ e)
                have hxd : wrB oi = true := hx1.1.resolve_left hxl
                exact hx1.2 y.i y.o h2 (.inr ⟨hxl, hxd, hyd⟩) hne
      have later : ∀ y, y ∈ m2 → (∃ t, y.tch t ∧ (t ∈ namesOf ops oi ∨ x.kl = some t)) → listed.getD y.i false = false := fun y hy ht => by
        obtain ⟨h1, h2⟩ := idx2 y hy
        have hym : y ∈ m := by rw [hsplit]; exact List.mem_append_right _ (List.mem_cons_of_mem _ hy)
        cases hv : listed.getD y.i false with
        | false => rfl
        | true =>
          have h3 := (ordd y hym (by omega) h2 ht).1 h1
          have h4 := hc.cl _ hv i h3
          rw [getD_tf hiu] at h4; cases h4
      have earlier : ∀ y, y ∈ m1 → (∃ t, y.tch t ∧ (t ∈ namesOf ops oi ∨ x.kl = some t)) → listed.getD y.i false = true := fun y hy ht => by
        obtain ⟨h1, h2⟩ := idx1 y hy
        have hym : y ∈ m := by rw [hsplit]; exact List.mem_append_left _ hy
        have h3 := (ordd y hym (by omega) h2 ht).2 h1
        exact ready_need hg hc hi h3
      have hsame : ∀ t, t ∈ oi.looksAt ops ∨ x.kl = some t → acc (fun i => listed.getD i false) m A0 t = acc (fun _ => true) m1 A0 t := fun t ht => by
        have htn : t ∈ namesOf ops oi ∨ x.kl = some t := ht.imp (List.mem_append_left _) id
        rw [hsplit, acc_append]
        have h1 : acc (fun i => listed.getD i false) (x :: m2) (acc (fun i => listed.getD i false) m1 A0) t = acc (fun i => listed.getD i false) m1 A0 t := by
          refine acc_skip fun y hy hyt => ?_
          rcases List.mem_cons.1 hy with rfl | hy
          · show listed.getD y.i false = false
            rw [ex1]; exact getD_tf hiu
          · exact later y hy ⟨t, hyt, htn⟩
        rw [h1]
        exact acc_congr rfl fun y hy hyt => earlier y hy ⟨t, hyt, htn⟩
      have hloc : LocOp P ops c L oi (acc (fun i => listed.getD i false) m A0) x.F x.kl := by
        have h0 := (hop m1 x m2 hsplit).1
        rw [hox] at h0
        exact h0.congr hsame
      have hkok : ∀ s, x.kl = some s → (s ∈ oi.looksAt ops ∨ wrB oi = true) ∧ ∃ (ι : Type) (val : ι → Value) (I : ι → Item), acc (fun i => listed.getD i false) m A0 s = some (.own val I) := fun s hs => by
        obtain ⟨⟨h1, ι, val, I, h2⟩, _⟩ := (hop m1 x m2 hsplit).2 s hs
        rw [hox] at h1
        exact ⟨h1, ι, val, I, by rw [hsame s (.inr hs)]; exact h2⟩
      have hget : ∀ j, j ≠ i → (listed.setIfInBounds i true).getD j false = listed.getD j false := fun j hj => getD_set_ne false (Ne.symm hj)
      have hacc : ∀ t, putO (killO (acc (fun i => listed.getD i false) m A0) x.kl) (tgt oi x.kl) x.F t = acc (fun j => (listed.setIfInBounds i true).getD j false) m A0 t := fun t => by
        have hiT : (listed.setIfInBounds i true).getD i false = true := by simp [hiL]
        have happ : putO (killO (acc (fun i => listed.getD i false) m A0) x.kl) (tgt oi x.kl) x.F = x.app (acc (fun i => listed.getD i false) m A0) := by unfold Ent.app; rw [hox]
        rw [happ]
        by_cases hd : x.tch t
        · rw [hsplit, acc_append, acc_append]
          simp only [acc]
          rw [ex1, hiT]
          simp only [cond_true]
          have hnm : t ∈ namesOf ops oi ∨ x.kl = some t := by
            rcases hd with hd | hd
            · rw [hox] at hd; exact .inl (by unfold namesOf; rw [hd]; simp)
            · exact .inr hd
          have h2 : acc (fun j => (listed.setIfInBounds i true).getD j false) m2 (x.app (acc (fun j => (listed.setIfInBounds i true).getD j false) m1 A0)) t = x.app (acc (fun j => (listed.setIfInBounds i true).getD j false) m1 A0) t := by
            refine acc_skip fun y hy hyt => ?_
            obtain ⟨h1, _⟩ := idx2 y hy
            rw [hget y.i (by omega)]
            exact later y hy ⟨t, hyt, hnm⟩
          rw [h2]
          exact Ent.app_same (.inl hd)
        · rw [Ent.app_ne hd]
          refine acc_congr rfl fun y hy hyt => (hget y.i fun hyi => ?_).symm
          have hyx : y = x := by
            obtain ⟨q, hq⟩ := List.mem_iff_getElem?.1 hy
            obtain ⟨e1, e2⟩ := hmi q y hq
            have hqi : q = i - k := by omega
            rw [hqi, hx] at hq
            exact (Option.some.inj hq).symm
          rw [hyx] at hyt
          exact hd hyt
      have hunl : unl ops.size (listed.setIfInBounds i true) = u := by
        have := unl_set hiL hiu hilt; omega
      obtain ⟨M, hM1, hM2, hM3⟩ := SS.takes (ops := ops) (o := oi) (kl := x.kl) st hkok
      have hnext : ∀ φ' v w', x.F.post M φ w φ' (res oi x.kl a v) w' → wpAny P .any ops Q u (listed.setIfInBounds i true) (a.put oi.dst v) w' := fun φ' v w' hpost => by
        have h9 := (hM3 (tgt oi x.kl) x.F φ' (res oi x.kl a v) w' (fun t ht => ?_) hpost).congr hacc
        · rw [put_res] at h9
          refine ih φ' _ w' _ hunl (hc.set hg hi) (fun j hj => ?_) (fun j hj hj' => ?_) h9
          · rw [getD_set_ne true (by omega)]; exact hlo j hj
          · rw [getD_set_ne true (by omega)]; exact hhi j hj hj'
        · cases hd : oi.dst with
          | some d =>
            rw [tgt_some hd] at ht
            injection ht with ht
            subst ht
            have := opsAll_spec hN i oi (by simpa using hoi)
            exact .inl (dstB_spec this _ hd)
          | none =>
            rw [tgt_kl hd] at ht
            rw [ht, res_kl hd]
            exact .inr rfl
      have hfin := hloc φ a w _ Q M hM1 hM2 (fun t ht B hB => by
        cases hA : acc (fun i => listed.getD i false) m A0 t with
        | none => rw [hA] at hB; cases hB
        | some D =>
          rw [hA] at hB
          cases D with
          | v D => obtain rfl : D = B := by simpa [Out.toV] using hB
                   exact st.env t D hA
          | own val I => cases hB) hnext
      unfold wpOp
      simp only [hoi]
      split
      · rename_i hw
        rw [hw] at hfin
        exact .inl (by simpa using hfin)
      · rename_i hw
        have hw' : Region.wanted oi (yielded ops a.tmps) = false := by simpa using hw
        rw [hw'] at hfin
        have hidle : x.kl = none ∧ x.F.idle φ := by simpa using hfin
        have hM0 : M = [] := by rw [hidle.1] at hM2; exact hM2
        subst hM0
        refine hnext φ undef w ?_
        rw [hidle.1, res_none]
        cases hF : x.F with
        | v F => rw [hF] at hidle; exact ⟨HP.start (L := []) ⟨st.mem.mem.base, by simp, List.Pairwise.nil⟩, hidle.2⟩
        | own val I => rw [hF] at hidle; exact hidle.2.elim
    · have hall : ∀ i, i < k + n → listed.getD i true = true := fun i hi => by
        cases hv : listed.getD i true with
        | true => rfl
        | false => exact absurd ⟨i, hi, hv⟩ hdone
      rw [← hu]
      refine next φ a w listed ⟨hc, fun i hi => ⟨fun h => ?_, fun h => hall i h⟩⟩ (st.congr fun t => acc_congr rfl fun x hx _ => ?_)
      · rcases Nat.lt_or_ge i (k + n) with h' | h'
        · exact h'
        · have := hhi i h' hi; rw [h] at this; cases this
      · obtain ⟨i, hi⟩ := List.mem_iff_getElem?.1 hx
        obtain ⟨e1, e2⟩ := hmi i x hi
        have hlt : k + i < ops.size := (Array.getElem?_eq_some_iff.1 e2).1
        have hil : i < m.length := (List.getElem?_eq_some_iff.1 hi).1
        have h1 := hall (k + i) (by omega)
        have h2 : k + i < listed.size := by rw [hc.size]; exact hlt
        rw [e1]
        simp [h2] at h1 ⊢; exact h1

/-! ### The walk of a drawn region -/
abbrev EnvO := List (Nat × Out)
def lookO : EnvO → Nat → Option Out
  | [], _ => none
  | (k, A) :: E, t => bif Nat.beq k t then some A else lookO E t
def putEO (E : EnvO) : Option Tmp → Out → EnvO
  | some d, A => (d, A) :: E
  | none, _ => E
theorem lookO_put (E : EnvO) (d : Option Tmp) (B : Out) : lookO (putEO E d B) = putO (lookO E) d B := by
  funext t
  cases d with
  | none => simp [putEO, putO]
  | some d =>
    simp only [putEO, lookO, putO, Option.some.injEq]
    by_cases h : d = t
    · simp [h]
    · have : Nat.beq d t = false := beq_ff h
      simp [this, h]
def liftE : Env → EnvO
  | [] => []
  | (k, A) :: E => (k, .v A) :: liftE E
theorem lookO_lift : ∀ (E : Env) (t : Nat), lookO (liftE E) t = (look E t).map Out.v
  | [], _ => rfl
  | (k, A) :: E, t => by
    simp only [liftE, lookO, look]
    cases Nat.beq k t
    · simpa using lookO_lift E t
    · rfl
/-- The values alone. -/
def vals (E : EnvO) : Nat → Option VP := fun t => (lookO E t).bind Out.toV
/-- What is one's own is named. -/
def opn : EnvO → (Env → List Item → Prop) → Prop
  | [], K => K [] []
  | (t, .v F) :: l, K => opn l fun E M => K ((t, F) :: E) M
  | (t, .own val I) :: l, K => ∀ i, opn l fun E M => K ((t, Is (val i)) :: E) (I i :: M)
def bareB : EnvO → List Nat → Bool
  | [], _ => true
  | (t, .v _) :: l, seen => bareB l (t :: seen)
  | (t, .own _ _) :: l, seen => (seen.all fun u => !Nat.beq u t) && bareB l (t :: seen)
def Out.isOwn : Out → Prop
  | .v _ => False
  | .own _ _ => True
theorem bare_spec : ∀ {EO : EnvO} {seen : List Nat}, bareB EO seen = true → (∀ t o, (t, o) ∈ EO → o.isOwn → t ∉ seen ∧ lookO EO t = some o) ∧ EO.Pairwise (fun x y => y.2.isOwn → x.1 ≠ y.1)
  | [], _, _ => ⟨fun _ _ h _ => absurd h (by simp), List.Pairwise.nil⟩
  | (k, F) :: l, seen, h => by
    have h' : bareB l (k :: seen) = true ∧ (F.isOwn → k ∉ seen) := by
      cases F with
      | v F => exact ⟨h, fun h => h.elim⟩
      | own val I =>
        simp only [bareB, Bool.and_eq_true] at h
        refine ⟨h.2, fun _ hm => ?_⟩
        have := List.all_eq_true.1 h.1 k hm
        simp at this
    obtain ⟨h1, h2⟩ := bare_spec (EO := l) (seen := k :: seen) h'.1
    refine ⟨fun t o ht ho => ?_, List.pairwise_cons.2 ⟨fun y hy he => ?_, h2⟩⟩
    · rcases List.mem_cons.1 ht with ht | ht
      · injection ht with e1 e2
        subst e1 e2
        refine ⟨h'.2 ho, ?_⟩
        have : Nat.beq t t = true := by simp
        simp only [lookO, this, cond_true]
      · obtain ⟨h3, h4⟩ := h1 t o ht ho
        have hne : k ≠ t := fun e => h3 (by rw [e]; exact List.mem_cons_self ..)
        refine ⟨fun h5 => h3 (List.mem_cons_of_mem _ h5), ?_⟩
        simp only [lookO, beq_ff hne, cond_false]; exact h4
    · have := (h1 y.1 y.2 hy he).1
      exact fun e => this (by rw [← e]; exact List.mem_cons_self ..)
def ownOf (β : Tmp → Item) (x : Nat × Out) : Option Item := match x.2 with | .v _ => none | .own _ _ => some (β x.1)
def openM (β : Tmp → Item) (EO : EnvO) : List Item := EO.filterMap (ownOf β)
def outV (tm : Value) : Out → VP
  | .v F => F
  | .own _ _ => Is tm
theorem opn_ex (β : Tmp → Item) (tm : Tmp → Value) : ∀ {EO : EnvO} {K : Env → List Item → Prop}, opn EO K → (∀ (t : Tmp) (ι : Type) (val : ι → Value) (I : ι → Item), (t, Out.own val I) ∈ EO → ∃ i, tm t = val i ∧ β t = I i) →
    ∃ E, K E (openM β EO) ∧ ∀ t, look E t = (lookO EO t).map (outV (tm t))
  | [], K, h, _ => ⟨[], h, fun _ => rfl⟩
  | (k, .v F) :: l, K, h, hb => by
    obtain ⟨E, e1, e2⟩ := opn_ex β tm (EO := l) h (fun t ι val I ht => hb t ι val I (List.mem_cons_of_mem _ ht))
    refine ⟨(k, F) :: E, e1, fun t => ?_⟩
    simp only [look, lookO]
    cases hk : Nat.beq k t
    · exact e2 t
    · rfl
  | (k, .own val I) :: l, K, h, hb => by
    obtain ⟨i, h1, h2⟩ := hb k _ val I (List.mem_cons_self ..)
    obtain ⟨E, e1, e2⟩ := opn_ex β tm (EO := l) (h i) (fun t ι val I ht => hb t ι val I (List.mem_cons_of_mem _ ht))
    refine ⟨(k, Is (val i)) :: E, ?_, fun t => ?_⟩
    · have : openM β ((k, .own val I) :: l) = I i :: openM β l := by
        unfold openM
        rw [List.filterMap_cons]
        show _ = I i :: _
        simp only [ownOf, h2]
      rw [this]; exact e1
    · simp only [look, lookO]
      cases hk : Nat.beq k t
      · exact e2 t
      · simp only [cond_true, Option.map_some, outV]
        rw [← Nat.eq_of_beq_eq_true hk, h1]
theorem SS.open_ {EO : EnvO} {φ : Fz} {a : Act} {w : World} (h : SS c N (lookO EO) L φ a w) (hb : bareB EO [] = true) {K : Env → List Item → Prop} (hk : opn EO K) : ∃ E M, K E M ∧ St c N (look E) (M ++ L) φ a w := by
  obtain ⟨b1, b2⟩ := bare_spec hb
  obtain ⟨β, hβ, hap⟩ := h.own
  obtain ⟨E, e1, e2⟩ := opn_ex β (fun t => a.tmps.getD t undef) hk (fun t ι val I ht => (hβ t ι val I (b1 t _ ht trivial).2).1)
  have hit : ∀ it, it ∈ openM β EO → ∃ (t : Tmp) (ι : Type) (val : ι → Value) (I : ι → Item), lookO EO t = some (.own val I) ∧ it = β t := fun it hi => by
    obtain ⟨⟨t, o⟩, hx, hxo⟩ := List.mem_filterMap.1 hi
    cases o with
    | v F => cases hxo
    | own val I =>
      refine ⟨t, _, val, I, (b1 t _ hx trivial).2, ?_⟩
      injection hxo with hxo
      exact hxo.symm
  refine ⟨E, openM β EO, e1, h.defers, h.size, fun t B ht => ?_, ⟨⟨h.mem.mem.base, fun it hi => ?_, List.pairwise_append.2 ⟨?_, h.mem.mem.sep, fun x hx y hy b hxb hyb => ?_⟩⟩, h.mem.kept, fun b hb => ?_, h.mem.old⟩⟩
  · rw [e2] at ht
    cases ho : lookO EO t with
    | none => rw [ho] at ht; cases ht
    | some o =>
      rw [ho] at ht
      simp only [Option.map_some, Option.some.injEq] at ht
      cases o with
      | v F => dsimp only [outV] at ht; subst ht; exact h.env t F ho
      | own val I => dsimp only [outV] at ht; subst ht; exact rfl
  · rcases List.mem_append.1 hi with hi | hi
    · obtain ⟨t, ι, val, I, h1, rfl⟩ := hit it hi
      exact (hβ t ι val I h1).2.1
    · exact h.mem.mem.items it hi
  · unfold openM
    rw [List.pairwise_filterMap]
    refine List.Pairwise.imp_of_mem ?_ b2
    intro x y hx hy hxy it1 h1 it2 h2
    obtain ⟨t, o⟩ := x
    obtain ⟨t', o'⟩ := y
    cases o with
    | v F => cases h1
    | own val I =>
      cases o' with
      | v F => cases h2
      | own val' I' =>
        injection h1 with h1; injection h2 with h2
        subst h1 h2
        exact hap t t' _ _ val I val' I' (hxy trivial) (b1 t _ hx trivial).2 (b1 t' _ hy trivial).2
  · obtain ⟨t, ι, val, I, h1, rfl⟩ := hit x hx
    exact ((hβ t ι val I h1).2.2 b hxb).2 (mem_names.2 ⟨y, hy, hyb⟩)
  · rw [names_append] at hb
    rcases List.mem_append.1 hb with hb | hb
    · obtain ⟨x, hx, hxb⟩ := mem_names.1 hb
      obtain ⟨t, ι, val, I, h1, rfl⟩ := hit x hx
      exact ((hβ t ι val I h1).2.2 b hxb).1
    · exact h.mem.mine b hb
/-- From place k on. -/
def JD (P : Program) (ops : Array Oper) (Q : Exit → Act → World → Prop) (c : Ctx) (N : Nat) (nd : List Nat) (k : Nat) (rest : List Oper) (E : Env) (L : List Item) : Prop :=
  Good ops nd → opsAll (fun _ o => dstB N o.dst) ops.toList 0 = true → k + rest.length = ops.size → (∀ i, rest[i]? = ops[k + i]?) → ∀ φ a w listed, Pre ops nd k listed → St c N (look E) L φ a w → wpAny P .any ops Q (unl ops.size listed) listed a w
def killE (E : EnvO) : Option Tmp → EnvO
  | none => E
  | some s => E.filter fun x => !Nat.beq x.1 s
theorem lookO_kill : ∀ (E : EnvO) (d : Option Tmp), lookO (killE E d) = killO (lookO E) d
  | E, none => by funext t; simp [killE, killO]
  | E, some s => by
    funext t
    show lookO (E.filter fun x => !Nat.beq x.1 s) t = _
    induction E with
    | nil => unfold killO; split <;> rfl
    | cons x E ih =>
      obtain ⟨k, A⟩ := x
      by_cases hst : (some s : Option Tmp) = some t
      · injection hst with hst
        subst hst
        rw [killO_eq] at ih ⊢
        simp only [List.filter_cons]
        by_cases hks : Nat.beq k s = true
        · rw [hks]; exact ih
        · rw [Bool.eq_false_iff.mpr hks]
          simp only [Bool.not_false, if_true, lookO, Bool.eq_false_iff.mpr hks, cond_false]
          exact ih
      · rw [killO_ne hst] at ih ⊢
        simp only [List.filter_cons, lookO]
        by_cases hks : Nat.beq k s = true
        · rw [hks]
          have hkt : Nat.beq k t = false := beq_ff fun e => hst (by rw [← Nat.eq_of_beq_eq_true hks, e])
          rw [hkt]; simpa using ih
        · rw [Bool.eq_false_iff.mpr hks]
          simp only [Bool.not_false, if_true, lookO]
          cases Nat.beq k t
          · exact ih
          · rfl
def killB (ops : Array Oper) (nd : List Nat) (k : Nat) (s : Tmp) : Bool :=
  opsAll (fun j x => Nat.beq k j || !((namesOf ops x).any fun t => Nat.beq t s) || (bif Nat.blt k j then (ndOf nd j).testBit k else (ndOf nd k).testBit j)) ops.toList 0
theorem killB_spec {nd : List Nat} {k : Nat} {s : Tmp} (h : killB ops nd k s = true) : ∀ j x, ops[j]? = some x → s ∈ namesOf ops x → j ≠ k → (k < j → (ndOf nd j).testBit k = true) ∧ (j < k → (ndOf nd k).testBit j = true) := by
  intro j x hj hx hne
  have h3 := opsAll_spec h j x (by simpa using hj)
  simp only [Nat.zero_add, Bool.or_eq_true] at h3
  have hkj : Nat.beq k j = false := beq_ff (Ne.symm hne)
  have hany : ((namesOf ops x).any fun t => Nat.beq t s) = true := List.any_eq_true.2 ⟨s, hx, by simp⟩
  rw [hkj, hany] at h3
  simp only [Bool.false_eq_true, Bool.not_true, false_or] at h3
  constructor
  · intro hlt
    have : Nat.blt k j = true := by simpa using hlt
    rw [this] at h3; exact h3
  · intro hlt
    have : Nat.blt k j = false := blt_ff (by omega)
    rw [this] at h3; exact h3
def storeB (ops : Array Oper) (nd : List Nat) (k : Nat) (o : Oper) (s : Tmp) : Bool :=
  ((o.looksAt ops).any fun t => Nat.beq t s) || opsAll (fun j x => Nat.beq k j || !wrB x || (bif Nat.blt k j then (ndOf nd j).testBit k else (ndOf nd k).testBit j)) ops.toList 0
theorem storeB_spec {nd : List Nat} {k : Nat} {s : Tmp} {o : Oper} (h : storeB ops nd k o s = true) (hs : s ∉ o.looksAt ops) : ∀ j x, ops[j]? = some x → wrB x = true → j ≠ k → (k < j → (ndOf nd j).testBit k = true) ∧ (j < k → (ndOf nd k).testBit j = true) := by
  intro j x hj hx hne
  unfold storeB at h
  have h0 : ((o.looksAt ops).any fun t => Nat.beq t s) = false := by
    cases hv : ((o.looksAt ops).any fun t => Nat.beq t s) with
    | false => rfl
    | true =>
      exfalso
      obtain ⟨t, h1, h2⟩ := List.any_eq_true.1 hv
      exact hs (by rw [← Nat.eq_of_beq_eq_true h2]; exact h1)
  rw [h0, Bool.false_or] at h
  have h3 := opsAll_spec h j x (by simpa using hj)
  simp only [Nat.zero_add, Bool.or_eq_true] at h3
  have hkj : Nat.beq k j = false := beq_ff (Ne.symm hne)
  rw [hkj, hx] at h3
  simp only [Bool.false_eq_true, Bool.not_true, false_or] at h3
  constructor
  · intro hlt
    have : Nat.blt k j = true := by simpa using hlt
    rw [this] at h3; exact h3
  · intro hlt
    have : Nat.blt k j = false := blt_ff (by omega)
    rw [this] at h3; exact h3
/-- n operations of a stretch are still to come. -/
def JW (P : Program) (ops : Array Oper) (Q : Exit → Act → World → Prop) (c : Ctx) (N : Nat) (nd : List Nat) (k : Nat) : Nat → List Oper → EnvO → List Item → Prop
  | 0, rest, EO, L => bareB EO [] = true ∧ opn EO fun E M => JD P ops Q c N nd k rest E (M ++ L)
  | _ + 1, [], _, _ => False
  | n + 1, o :: rest, EO, L => ∃ F kl, KillOk ops nd k o (lookO EO) kl ∧ LocOp P ops c L o (lookO EO) F kl ∧ JW P ops Q c N nd (k + 1) n rest (putEO (killE EO kl) (tgt o kl) F) L
theorem JW.locW {Q : Exit → Act → World → Prop} {nd : List Nat} : ∀ {n k : Nat} {rest : List Oper} {E : EnvO}, JW P ops Q c N nd k n rest E L →
    n ≤ rest.length ∧ LocW P ops c L nd (fun A => ∃ E', lookO E' = A ∧ bareB E' [] = true ∧ opn E' fun E M => JD P ops Q c N nd (k + n) (rest.drop n) E (M ++ L)) (rest.take n) k (lookO E)
  | 0, k, rest, E, h => ⟨Nat.zero_le _, by simp only [List.take_zero, LocW]; exact ⟨E, rfl, h⟩⟩
  | n + 1, k, [], E, h => h.elim
  | n + 1, k, o :: rest, E, ⟨F, kl, h0, h1, h2⟩ => by
    obtain ⟨h3, h4⟩ := JW.locW h2
    refine ⟨by simp; omega, ?_⟩
    rw [List.take_succ_cons]
    refine ⟨F, kl, h0, h1, ?_⟩
    rw [lookO_put, lookO_kill] at h4
    rw [show k + (n + 1) = k + 1 + n by omega, List.drop_succ_cons]
    exact h4
theorem SS.start {E : Env} {φ : Fz} {a : Act} {w : World} (h : St c N (look E) L φ a w) : SS c N (lookO (liftE E)) L φ a w := by
  have hn : ∀ (t : Tmp) (ι : Type) (val : ι → Value) (I : ι → Item), lookO (liftE E) t ≠ some (.own val I) := fun t ι val I ht => by
    rw [lookO_lift] at ht
    cases hl : look E t with
    | none => rw [hl] at ht; cases ht
    | some B => rw [hl] at ht; cases ht
  refine ⟨h.defers, h.size, fun t B ht => ?_, h.mem, fun _ => fact undef Top, fun t ι val I ht => absurd ht (hn t ι val I), fun t t' ι ι' val I val' I' _ ht => absurd ht (hn t ι val I)⟩
  rw [lookO_lift] at ht
  cases hl : look E t with
  | none => rw [hl] at ht; cases ht
  | some D =>
    rw [hl] at ht
    simp only [Option.map_some, Option.some.injEq, Out.v.injEq] at ht
    subst ht
    exact h.env t D hl
theorem JD_stretch {Q : Exit → Act → World → Prop} {nd : List Nat} {k : Nat} (n : Nat) {rest : List Oper} {E : Env} (hS : stretchB nd ops.size k n = true) (h : JW P ops Q c N nd k n rest (liftE E) L) : JD P ops Q c N nd k rest E L := by
  intro hg hN hk hrest φ a w listed hp st
  obtain ⟨hn, hw⟩ := JW.locW h
  obtain ⟨m, e1, e2, e3, E', e4, e5, e6⟩ := LocW.out hw
  have hlen : k + n ≤ ops.size := by omega
  have hml : m.length = n := by rw [e1, List.length_take]; omega
  refine stretch (Q := Q) hg hN hS hlen hml (fun i x hx => ?_) e3 ?_ _ φ a w listed rfl hp.cl (fun i hi => ?_) (fun i hi hi' => ?_) ((SS.start st).congr fun t => ?_)
  · obtain ⟨h1, h2⟩ := e2 i x hx
    have hil : i < m.length := (List.getElem?_eq_some_iff.1 hx).1
    rw [List.getElem?_take_of_lt (by omega), hrest i] at h2
    exact ⟨h1, h2⟩
  · intro φ' a' w' listed' hp' st'
    rw [← e4] at st'
    obtain ⟨E2, M, h1, h2⟩ := st'.open_ e5 e6
    refine h1 hg hN (by rw [List.length_drop]; omega) (fun i => ?_) φ' a' w' listed' hp' h2
    rw [List.getElem?_drop, hrest, Nat.add_assoc]
  · exact (hp.pre i (by omega)).2 hi
  · cases hv : listed.getD i true with
    | false => rfl
    | true => have := (hp.pre i hi').1 hv; omega
  · refine (acc_skip fun x hx _ => ?_).symm
    obtain ⟨i, hi⟩ := List.mem_iff_getElem?.1 hx
    have hil : i < m.length := (List.getElem?_eq_some_iff.1 hi).1
    obtain ⟨h1, _⟩ := e2 i x hi
    rw [h1]
    have hlt : k + i < ops.size := by omega
    refine getD_tf ?_
    cases hv : listed.getD (k + i) true with
    | false => rfl
    | true => have := (hp.pre (k + i) hlt).1 hv; omega
/-- Memory from outside, told under names of its own for the length of a stretch. -/
def ghosts : Nat → List Item → EnvO
  | _, [] => []
  | t, it :: its => (t, .own (fun _ : Unit => undef) (fun _ => it)) :: ghosts (t + 1) its
theorem ghosts_get : ∀ {its : List Item} {t0 t : Nat} {o : Out} {E : EnvO}, lookO (ghosts t0 its ++ E) t = some o → (∃ j it, t = t0 + j ∧ its[j]? = some it ∧ o = .own (fun _ : Unit => undef) (fun _ => it)) ∨ lookO E t = some o
  | [], _, _, _, _, h => .inr h
  | it :: its, t0, t, o, E, h => by
    simp only [ghosts, List.cons_append, lookO] at h
    cases hk : Nat.beq t0 t with
    | true =>
      rw [hk] at h
      simp only [cond_true, Option.some.injEq] at h
      exact .inl ⟨0, it, by rw [← Nat.eq_of_beq_eq_true hk]; rfl, rfl, h.symm⟩
    | false =>
      rw [hk] at h
      rcases ghosts_get (its := its) (E := E) h with ⟨j, x, h1, h2, h3⟩ | h1
      · exact .inl ⟨j + 1, x, by omega, by simpa using h2, h3⟩
      · exact .inr h1
theorem SS.startG {E : Env} {φ : Fz} {a : Act} {w : World} {its : List Item} (h : St c N (look E) (its ++ L) φ a w) : SS c N (lookO (ghosts N its ++ liftE E)) L φ a w := by
  have hlift : ∀ (t : Tmp) (o : Out), lookO (liftE E) t = some o → ∃ B, look E t = some B ∧ o = .v B := fun t o ht => by
    rw [lookO_lift] at ht
    cases hl : look E t with
    | none => rw [hl] at ht; cases ht
    | some B => rw [hl] at ht; simp only [Option.map_some, Option.some.injEq] at ht; exact ⟨B, rfl, ht.symm⟩
  have hown : ∀ (t : Tmp) (ι : Type) (val : ι → Value) (I : ι → Item), lookO (ghosts N its ++ liftE E) t = some (.own val I) → ∃ j it, t = N + j ∧ its[j]? = some it ∧ (∃ i, undef = val i ∧ it = I i) := fun t ι val I ht => by
    rcases ghosts_get ht with ⟨j, it, h1, h2, h3⟩ | h1
    · cases h3
      exact ⟨j, it, h1, h2, (), rfl, rfl⟩
    · obtain ⟨B, _, h2⟩ := hlift _ _ h1
      cases h2
  have hsep := List.pairwise_append.1 h.mem.mem.sep
  refine ⟨h.defers, h.size, fun t B ht => ?_, ⟨⟨h.mem.mem.base, fun it hi => h.mem.mem.items it (List.mem_append_right _ hi), hsep.2.1⟩, h.mem.kept, fun b hb => h.mem.mine b (by rw [names_append]; exact List.mem_append_right _ hb), h.mem.old⟩,
    fun t => (its[t - N]?).getD (fact undef Top), fun t ι val I ht => ?_, fun t t' ι ι' val I val' I' hne ht ht' => ?_⟩
  · rcases ghosts_get ht with ⟨j, it, h1, h2, h3⟩ | h1
    · cases h3
    · obtain ⟨D, h2, h3⟩ := hlift _ _ h1
      injection h3 with h3
      subst h3
      exact h.env t _ h2
  · obtain ⟨j, it, rfl, h2, i, h3, h4⟩ := hown t ι val I ht
    have e : its[N + j - N]? = some it := by rw [Nat.add_sub_cancel_left]; exact h2
    have hmem : it ∈ its := List.mem_of_getElem? h2
    simp only [e, Option.getD_some]
    refine ⟨⟨i, ?_, h4⟩, h.mem.mem.items it (List.mem_append_left _ hmem), fun b hb => ⟨h.mem.mine b (by rw [names_append]; exact List.mem_append_left _ (mem_names.2 ⟨it, hmem, hb⟩)), fun hbl => ?_⟩⟩
    · rw [← h3]
      have hs := h.size
      simp only [Array.getD, hs]
      rw [dif_neg (by omega)]
    · obtain ⟨y, hy, hyb⟩ := mem_names.1 hbl
      exact hsep.2.2 it hmem y hy b hb hyb
  · obtain ⟨j, it, rfl, h2, _⟩ := hown t ι val I ht
    obtain ⟨j', it', rfl, h2', _⟩ := hown t' ι' val' I' ht'
    have e : its[N + j - N]? = some it := by rw [Nat.add_sub_cancel_left]; exact h2
    have e' : its[N + j' - N]? = some it' := by rw [Nat.add_sub_cancel_left]; exact h2'
    simp only [e, e', Option.getD_some]
    obtain ⟨l1, g1⟩ := List.getElem?_eq_some_iff.1 h2
    obtain ⟨l2, g2⟩ := List.getElem?_eq_some_iff.1 h2'
    have hp := List.pairwise_iff_getElem.1 hsep.1
    rcases Nat.lt_trichotomy j j' with hlt | heq | hgt
    · have := hp j j' l1 l2 hlt
      rw [g1, g2] at this; exact this
    · exact absurd (by rw [heq]) hne
    · have := hp j' j l2 l1 hgt
      rw [g1, g2] at this
      exact fun b hb hb' => this b hb' hb
theorem JD_stretchG {its : List Item} {Q : Exit → Act → World → Prop} {nd : List Nat} {k : Nat} (n : Nat) {rest : List Oper} {E : Env} (hS : stretchB nd ops.size k n = true) (h : JW P ops Q c N nd k n rest (ghosts N its ++ liftE E) L) : JD P ops Q c N nd k rest E (its ++ L) := by
  intro hg hN hk hrest φ a w listed hp st
  obtain ⟨hn, hw⟩ := JW.locW h
  obtain ⟨m, e1, e2, e3, E', e4, e5, e6⟩ := LocW.out hw
  have hlen : k + n ≤ ops.size := by omega
  have hml : m.length = n := by rw [e1, List.length_take]; omega
  refine stretch (Q := Q) hg hN hS hlen hml (fun i x hx => ?_) e3 ?_ _ φ a w listed rfl hp.cl (fun i hi => ?_) (fun i hi hi' => ?_) ((SS.startG st).congr fun t => ?_)
  · obtain ⟨h1, h2⟩ := e2 i x hx
    have hil : i < m.length := (List.getElem?_eq_some_iff.1 hx).1
    rw [List.getElem?_take_of_lt (by omega), hrest i] at h2
    exact ⟨h1, h2⟩
  · intro φ' a' w' listed' hp' st'
    rw [← e4] at st'
    obtain ⟨E2, M, h1, h2⟩ := st'.open_ e5 e6
    refine h1 hg hN (by rw [List.length_drop]; omega) (fun i => ?_) φ' a' w' listed' hp' h2
    rw [List.getElem?_drop, hrest, Nat.add_assoc]
  · exact (hp.pre i (by omega)).2 hi
  · cases hv : listed.getD i true with
    | false => rfl
    | true => have := (hp.pre i hi').1 hv; omega
  · refine (acc_skip fun x hx _ => ?_).symm
    obtain ⟨i, hi⟩ := List.mem_iff_getElem?.1 hx
    have hil : i < m.length := (List.getElem?_eq_some_iff.1 hi).1
    obtain ⟨h1, _⟩ := e2 i x hi
    rw [h1]
    have hlt : k + i < ops.size := by omega
    refine getD_tf ?_
    cases hv : listed.getD (k + i) true with
    | false => rfl
    | true => have := (hp.pre (k + i) hlt).1 hv; omega
theorem JD_end {Q : Exit → Act → World → Prop} {nd : List Nat} {k : Nat} {E : Env} (h : JQ c N E L Q .normal) : JD P ops Q c N nd k [] E L := by
  intro hg hN hk hrest φ a w listed hp st
  have hall : ∀ i, i < ops.size → listed.getD i true = true := fun i hi => (hp.pre i hi).2 (by simp at hk; omega)
  refine wpAny_done ?_ (h φ a w st) _
  cases hr : Region.ready .any ops listed with
  | nil => rfl
  | cons i l =>
    exfalso
    have hm : i ∈ Region.ready .any ops listed := by rw [hr]; exact List.mem_cons_self ..
    obtain ⟨h1, o, ho, _⟩ := mem_ready.1 hm
    rw [hall i (Array.getElem?_eq_some_iff.1 ho).1] at h1
    cases h1
/-- An operation for which all behind it wait. -/
theorem JD_step {Q : Exit → Act → World → Prop} {nd : List Nat} {k : Nat} {o : Oper} {rest : List Oper} {E : Env} (ha : afterB nd ops.size (k + 1) k = true)
    (hs : ∀ φ a w, St c N (look E) L φ a w → ∀ K : Act → World → Prop, (∀ a' w', (∃ E' L' φ', JD P ops Q c N nd (k + 1) rest E' L' ∧ St c N (look E') L' φ' a' w') → K a' w') → wpOp P ops Q k K a w) : JD P ops Q c N nd k (o :: rest) E L := by
  intro hg hN hk hrest φ a w listed hp st
  simp only [List.length_cons] at hk
  have hkl : k < ops.size := by omega
  have hku : listed.getD k true = false := by
    cases hv : listed.getD k true with
    | false => rfl
    | true => have := (hp.pre k hkl).1 hv; omega
  have hks : k < listed.size := by rw [hp.cl.size]; exact hkl
  have hr : k ∈ Region.ready .any ops listed := ready_least hg hp.cl.size hkl hku fun j hj => (hp.pre j (by omega)).2 hj
  have hone : ∀ i, i ∈ Region.ready .any ops listed → i = k := fun i hi => by
    obtain ⟨h1, oi, hoi, _⟩ := mem_ready.1 hi
    have hil : i < ops.size := (Array.getElem?_eq_some_iff.1 hoi).1
    rcases Nat.lt_trichotomy i k with hlt | heq | hgt
    · rw [(hp.pre i hil).2 hlt] at h1; cases h1
    · exact heq
    · exfalso
      have h2 := List.all_eq_true.1 ha i (List.mem_range.2 hil)
      rw [blt_ff (by omega), Bool.false_or] at h2
      have h3 := ready_need hg hp.cl hi h2
      rw [getD_tf hku] at h3; cases h3
  have hu := unl_set hks hku hkl
  rw [← hu]
  refine ⟨fun h0 => (by rw [h0] at hr; cases hr), fun i hi => ?_⟩
  obtain rfl := hone i hi
  refine hs φ a w st _ ?_
  rintro a' w' ⟨E', L', φ', h1, h2⟩
  refine h1 hg hN (by omega) (fun j => ?_) φ' a' w' _ ⟨hp.cl.set hg hr, fun j hj => ?_⟩ h2
  · have := hrest (j + 1)
    rw [List.getElem?_cons_succ] at this
    rw [this]; congr 1; omega
  · by_cases hji : i = j
    · subst hji
      simp [hks]
    · rw [getD_set_ne true hji, hp.pre j hj]; omega
theorem JD_op {Q : Exit → Act → World → Prop} {nd : List Nat} {k : Nat} {o : Oper} {rest : List Oper} {E : Env} {ι : Type} {F : ι → VP} {L' : ι → List Item} (ha : afterB nd ops.size (k + 1) k = true) (hko : ops[k]? = some o) (hg : o.guard = none) (hd : dstB N o.dst = true)
    (hs : OpS P c o (look E) L F L') (h : ∀ i, JD P ops Q c N nd (k + 1) rest (putE E o.dst (F i)) (L' i)) : JD P ops Q c N nd k (o :: rest) E L := by
  refine JD_step ha fun φ a w st K hK => ?_
  unfold wpOp
  simp only [hko]
  rw [if_pos (by simp [Region.wanted, hg])]
  refine .inl (hs φ a w K Q st.mem (fun x _ B hx => st.ev hx) fun i φ' v w' hle hv hm => hK _ _ ⟨_, _, φ', h i, ?_⟩)
  rw [look_putE]
  exact st.put (dstB_spec hd) hle hv hm
theorem JD_op1 {Q : Exit → Act → World → Prop} {nd : List Nat} {k : Nat} {o : Oper} {rest : List Oper} {E : Env} {F : VP} (ha : afterB nd ops.size (k + 1) k = true) (hko : ops[k]? = some o) (hg : o.guard = none) (hd : dstB N o.dst = true)
    (hs : OpP P c o (look E) L F) (h : JD P ops Q c N nd (k + 1) rest (putE E o.dst F) L) : JD P ops Q c N nd k (o :: rest) E L := JD_op ha hko hg hd hs.toS fun _ => h
/-- The region itself. -/
theorem JC_draw {Q : Exit → Act → World → Prop} {id : Nat} {l : List Oper} {E : Env} (nd : List Nat) (hm : P.follows .mixedOrders = true) (hB : (goodB l.toArray nd && ordB l.toArray nd && opsAll (fun _ o => dstB N o.dst) l 0) = true)
    (h : JD P l.toArray Q c N nd 0 l E L) : JC P c N (Code.region id l.toArray true) E L Q := by
  intro φ a w st
  simp only [Bool.and_eq_true] at hB
  refine wp_region_any hm ?_
  have h1 := h (good_of hB.1.1 hB.1.2) (by simpa using hB.2) (by simp) (fun i => by simp) φ a { w with drawn := w.drawn + 1 } (Array.replicate l.toArray.size false)
    ⟨⟨by simp, fun i hi => (by rw [getD_replicate_false] at hi; cases hi)⟩, fun i hi => ⟨fun h => (by rw [getD_in (by simpa using hi) (getD_replicate_false _ _)] at h; cases h), fun h => by omega⟩⟩
    ⟨st.defers, st.size, st.env, st.mem.drew⟩
  have hu : unl l.toArray.size (Array.replicate l.toArray.size false) = l.toArray.size := by
    unfold unl
    have : ∀ n, n ≤ l.toArray.size → (List.range n).countP (fun i => !(Array.replicate l.toArray.size false).getD i true) = n := fun n => by
      intro hn
      rw [List.countP_eq_length.2 (fun i hi => by
        have : i < n := List.mem_range.1 hi
        rw [getD_in (by simp at hn ⊢; omega) (getD_replicate_false _ _)]; rfl), List.length_range]
    exact this _ (Nat.le_refl _)
  rw [hu] at h1
  exact h1
/-! ### The steps of a stretch -/
section
variable {Q : Exit → Act → World → Prop} {nd : List Nat} {k n : Nat} {o : Oper} {rest : List Oper} {E : EnvO}
theorem evs {o : Oper} {A : Nat → Option Out} {φ : Fz} {a : Act} (f : Facts φ L) (hl : ∀ t, t ∈ o.looksAt ops → ∀ B, (A t).bind Out.toV = some B → B.ok φ (a.tmps.getD t undef)) :
    ∀ x, x ∈ o.op.operands → ∀ B, Ev (fun t => (A t).bind Out.toV) L x B → B.ok φ (a.eval x) := fun x hx B hB =>
  ev_of f (fun t ht D hD => hl t (mem_looks (by rw [← ht]; exact hx)) D hD) hB
theorem killOk_none {A : Nat → Option Out} : KillOk ops nd k o A none := fun s hs => by cases hs
theorem JW_0 {F : Out} (h0 : LocOp P ops c L o (lookO E) F none) (h : JW P ops Q c N nd (k + 1) n rest (putEO E o.dst F) L) : JW P ops Q c N nd k (n + 1) (o :: rest) E L := ⟨F, none, killOk_none, h0, by rw [tgt_none]; exact h⟩
theorem JW_op {F : VP} (hg : o.guard = none) (hs : OpP P c o (vals E) L F) (h : JW P ops Q c N nd (k + 1) n rest (putEO E o.dst (.v F)) L) : JW P ops Q c N nd k (n + 1) (o :: rest) E L := by
  refine JW_0 (F := .v F) (fun φ a w K Q M hm ht hl hk => ?_) h
  rw [if_pos (by simp [Region.wanted, hg])]
  obtain rfl : M = [] := ht
  exact hs φ a w K Q hm (evs hm.mem.facts hl) fun φ' v w' hp hf => hk φ' v w' (by rw [res_none]; exact ⟨hp, hf⟩)
/-- Something new of one's own, told by its address. -/
def OpN (P : Program) (c : Ctx) (o : Oper) (A : Nat → Option VP) (L : List Item) {ι : Type} (val : ι → Value) (I : ι → Item) : Prop :=
  ∀ φ a w K Q, HP c φ L w → (∀ x, x ∈ o.op.operands → ∀ B, Ev A L x B → B.ok φ (a.eval x)) →
    (∀ i φ' w', HP ⟨w, φ, [], []⟩ φ' [I i] w' → K (a.put o.dst (val i)) w') → o.wp P a w K Q
theorem OpN.toS {o : Oper} {A : Nat → Option VP} {ι : Type} {val : ι → Value} {I : ι → Item} (h : OpN P c o A L val I) : OpS P c o A L (fun i => Is (val i)) (fun i => I i :: L) :=
  fun φ a w K Q hm he hk => h φ a w K Q hm he fun i φ' w' hp => hk i φ' _ w' (hp.fle hm.mem.base) rfl (hm.new hp)
/-- Something of one's own is changed where it lies. -/
def OpW (P : Program) (c : Ctx) (o : Oper) (A : Nat → Option VP) (L : List Item) (s : Tmp) {κ : Type} (val : κ → Value) (I I' : κ → Item) : Prop :=
  ∀ φ a w K Q i, HP c φ (I i :: L) w → a.tmps.getD s undef = val i → (∀ x, x ∈ o.op.operands → ∀ B, Ev A L x B → B.ok φ (a.eval x)) →
    (∀ φ' v w', HP ⟨w, φ, names [I i], []⟩ φ' [I' i] w' → K (a.put o.dst v) w') → o.wp P a w K Q
theorem JW_write {s : Tmp} {κ : Type} {val : κ → Value} {I I' : κ → Item} (hg : o.guard = none) (hd : o.dst = none) (hl : lookO E s = some (.own val I)) (hB : (killB ops nd k s && storeB ops nd k o s) = true)
    (hs : OpW P c o (vals E) L s val I I') (h : JW P ops Q c N nd (k + 1) n rest ((s, .own val I') :: killE E (some s)) L) : JW P ops Q c N nd k (n + 1) (o :: rest) E L := by
  simp only [Bool.and_eq_true] at hB
  refine ⟨.own val I', some s, fun s' hs' => ?_, fun φ a w K Q M hm ht hlk hk => ?_, by rw [tgt_kl hd]; exact h⟩
  · injection hs' with hs'
    subst hs'
    exact ⟨⟨.inr (by unfold wrB; rw [hd]; rfl), _, val, I, hl⟩, fun j x h1 h2 h3 => h2.elim (fun h2 => killB_spec hB.1 j x h1 h2 h3) (fun h2 => storeB_spec hB.2 h2.1 j x h1 h2.2.2 h3)⟩
  · rw [if_pos (by simp [Region.wanted, hg])]
    obtain ⟨_, κ', val0, I0, i, h1, h2, rfl⟩ := ht
    rw [hl] at h1
    injection h1 with h1
    cases h1
    exact hs φ a w K Q i hm h2 (evs (fun it hi => hm.mem.facts it (List.mem_cons_of_mem _ hi)) hlk) fun φ' v w' hp => hk φ' v w' ⟨i, by rw [res_kl hd]; exact h2, hp⟩
/-- A write into memory that lay outside the stretch. -/
theorem JW_ghost {s : Tmp} {it it' : Item} {F : Unit → VP} (hg : o.guard = none) (hd : o.dst = none) (hl : lookO E s = some (.own (fun _ : Unit => undef) (fun _ => it))) (hB : (killB ops nd k s && storeB ops nd k o s) = true)
    (hs : ∀ c' : Ctx, OpS P c' o (vals E) [it] F (fun _ => [it'])) (h : JW P ops Q c N nd (k + 1) n rest ((s, .own (fun _ : Unit => undef) (fun _ => it')) :: killE E (some s)) L) : JW P ops Q c N nd k (n + 1) (o :: rest) E L := by
  refine JW_write (κ := Unit) (val := fun _ => undef) (I := fun _ => it) (I' := fun _ => it') hg hd hl hB (fun φ a w K Q i hm h0 he hk => ?_) h
  have hm1 : HP ⟨w, φ, names [it], []⟩ φ [it] w := HP.start ⟨hm.mem.base, fun x hx => by rw [List.mem_singleton] at hx; subst hx; exact hm.mem.items _ (List.mem_cons_self ..), List.pairwise_singleton _ _⟩
  refine hs ⟨w, φ, names [it], []⟩ φ a w K Q hm1 (fun x hx B hB => ?_) fun _ φ' v w' _ _ hm' => hk φ' v w' hm'
  obtain ⟨D, h1, h2⟩ := hB
  exact h2 _ _ hm1.mem.facts (he x hx D (.rfl' h1))
theorem gval {A : Nat → Option Out} {φ : Fz} {a : Act} {j : Nat} {want : Bool} {g : Tmp} (hg : o.guard = some (j, want)) (hj : (ops[j]?).bind (·.dst) = some g)
    (hl : ∀ t, t ∈ o.looksAt ops → ∀ B, (A t).bind Out.toV = some B → B.ok φ (a.tmps.getD t undef)) {B : VP} (hB : (A g).bind Out.toV = some B) : B.ok φ (a.tmps.getD g undef) :=
  hl g (gtmp_looks (by unfold gtmp; rw [hg]; exact hj)) B hB
theorem JW_if0 {j : Nat} {want b : Bool} {g : Tmp} {F : VP} (hg : o.guard = some (j, want)) (hj : (ops[j]?).bind (·.dst) = some g) (hl : vals E g = some (Is (.bool b)))
    (hs : (b == want) = true → OpP P c o (vals E) L F) (h : JW P ops Q c N nd (k + 1) n rest (putEO E o.dst (.v (VPite (b == want) F (Is undef)))) L) : JW P ops Q c N nd k (n + 1) (o :: rest) E L := by
  refine JW_0 (fun φ a w K Q M hm ht hlk hk => ?_) h
  obtain rfl : M = [] := ht
  have hw := wanted_of (a := a) hg hj (gval hg hj hlk hl)
  cases hbw : (b == want) with
  | false =>
    rw [if_neg (by rw [hw, hbw]; simp)]
    exact ⟨rfl, (rfl : undef = undef)⟩
  | true =>
    rw [if_pos (by rw [hw, hbw])]
    refine hs hbw φ a w K Q hm (evs hm.mem.facts hlk) fun φ' v w' hpp hf => hk φ' v w' ⟨hpp, ?_⟩
    rw [res_none, hbw]; exact hf
end
end
end Go.Proofs.YtfkmbdpnjcgimaaGreat

/- One rule an operation. Own work. -/
namespace Go.Proofs.YtfkmbdpnjcgimaaGreat
open Go.RowKit
set_option linter.unusedVariables false
set_option linter.unusedSimpArgs false
section
variable {P : Program} {c : Ctx} {A : Nat → Option VP} {L : List Item} {d : Option Tmp} {ty : TypeId} {pos : String} {af : Array Edge} {g : Option (Nat × Bool)}
theorem HP.idle {φ : Fz} {w : World} (h : HP c φ L w) : HP ⟨w, φ, [], []⟩ φ [] w := HP.start (L := []) ⟨h.mem.base, by simp, List.Pairwise.nil⟩
/-- An operation that yields a value in the world as it is. -/
theorem opp {o : Oper} {F : VP} (h : ∀ (φ : Fz) (a : Act) (w : World), HP c φ L w → (∀ x, x ∈ o.op.operands → ∀ B, Ev A L x B → B.ok φ (a.eval x)) → ∃ v, (execOp a.eval o).run P w = .ok (.value v) w ∧ F.ok φ v) : OpP P c o A L F := by
  intro φ a w K Q hm he hk
  obtain ⟨v, h1, h2⟩ := h φ a w hm he
  unfold Oper.wp
  rw [h1]
  exact hk φ v w hm.idle h2
/-- The same, some frozen memory being made. -/
theorem opq {o : Oper} {F : VP} (h : ∀ (φ : Fz) (a : Act) (w : World), HP c φ L w → (∀ x, x ∈ o.op.operands → ∀ B, Ev A L x B → B.ok φ (a.eval x)) → ∃ v φ' w', (execOp a.eval o).run P w = .ok (.value v) w' ∧ HP ⟨w, φ, [], []⟩ φ' [] w' ∧ F.ok φ' v) : OpP P c o A L F := by
  intro φ a w K Q hm he hk
  obtain ⟨v, φ', w', h1, h2, h3⟩ := h φ a w hm he
  unfold Oper.wp
  rw [h1]
  exact hk φ' v w' h2 h3
theorem op_move {x : Operand} {D : VP} (h : evA A x = some D) : OpP P c ⟨d, .move x, ty, pos, af, g⟩ A L D :=
  opp fun φ a w hm he => ⟨_, rfl, he x (by simp [Op.operands]) D (.rfl' h)⟩
theorem op_assign {x : Operand} {D : VP} (h : evA A x = some D) : OpP P c ⟨d, .assign x, ty, pos, af, g⟩ A L D :=
  opp fun φ a w hm he => ⟨_, rfl, he x (by simp [Op.operands]) D (.rfl' h)⟩
theorem op_or {x y : Operand} {p q : Bool} {Y : VP} (hx : Ev A L x (Is (.bool p))) (hy : evA A y = some Y) (hs : p = false → SubL L Y (Is (.bool q))) : OpP P c ⟨d, .pick x (.const (.bool true)) y, ty, pos, af, g⟩ A L (Is (.bool (p || q))) :=
  opp fun φ a w hm he => by
    have h1 : a.eval x = .bool p := he x (by simp [Op.operands]) _ hx
    refine ⟨.bool (p || q), ?_, rfl⟩
    cases p with
    | true =>
      have hc : a.eval (.const (.bool true)) = .bool true := rfl
      simp [execOp, h1, hc, asBool]
    | false =>
      have h2 : a.eval y = .bool q := he y (by simp [Op.operands]) _ (.sub hy (hs rfl))
      simp [execOp, h1, h2, asBool]
theorem op_and {x y : Operand} {p q : Bool} {Y : VP} (hx : Ev A L x (Is (.bool p))) (hy : evA A y = some Y) (hs : p = true → SubL L Y (Is (.bool q))) : OpP P c ⟨d, .pick x y (.const (.bool false)), ty, pos, af, g⟩ A L (Is (.bool (p && q))) :=
  opp fun φ a w hm he => by
    have h1 : a.eval x = .bool p := he x (by simp [Op.operands]) _ hx
    refine ⟨.bool (p && q), ?_, rfl⟩
    cases p with
    | false =>
      have hc : a.eval (.const (.bool false)) = .bool false := rfl
      simp [execOp, h1, hc, asBool]
    | true =>
      have h2 : a.eval y = .bool q := he y (by simp [Op.operands]) _ (.sub hy (hs rfl))
      simp [execOp, h1, h2, asBool]
theorem op_bin {op : BinOp} {t u : TypeId} {x y : Operand} {k j : IntKind} {n m : Int} {r : Value} (hx : Ev A L x (Is (.int k n))) (hy : Ev A L y (Is (.int j m))) (hr : ∀ w, (binOp op t (.int k n) (.int j m)).run P w = .ok r w) :
    OpP P c ⟨d, .binOp op t x y u, ty, pos, af, g⟩ A L (Is r) :=
  opp fun φ a w hm he => by
    have h1 : a.eval x = .int k n := he x (by simp [Op.operands]) _ hx
    have h2 : a.eval y = .int j m := he y (by simp [Op.operands]) _ hy
    refine ⟨r, ?_, rfl⟩
    have h3 : (eqGuard op t x y (.int k n) (.int j m)).run P w = .ok () w := by
      unfold eqGuard
      cases op <;> rfl
    simp only [execOp, h1, h2, Sem.run_bind, h3, Result.andThen_ok, hr w, Sem.run_pure]
section ints
variable {t u : TypeId} {x y : Operand} {k : IntKind} {n m r : Int}
theorem op_add (hx : Ev A L x (Is (.int k n))) (hy : Ev A L y (Is (.int k m))) (hr : k.wrap (n + m) = r) : OpP P c ⟨d, .binOp .add t x y u, ty, pos, af, g⟩ A L (Is (.int k r)) :=
  op_bin hx hy fun w => by simp [binOp, Op.intArith, hr]
theorem op_sub (hx : Ev A L x (Is (.int k n))) (hy : Ev A L y (Is (.int k m))) (hr : k.wrap (n - m) = r) : OpP P c ⟨d, .binOp .sub t x y u, ty, pos, af, g⟩ A L (Is (.int k r)) :=
  op_bin hx hy fun w => by simp [binOp, Op.intArith, hr]
theorem op_mul (hx : Ev A L x (Is (.int k n))) (hy : Ev A L y (Is (.int k m))) (hr : k.wrap (n * m) = r) : OpP P c ⟨d, .binOp .mul t x y u, ty, pos, af, g⟩ A L (Is (.int k r)) :=
  op_bin hx hy fun w => by simp [binOp, Op.intArith, hr]
theorem op_quo (hx : Ev A L x (Is (.int k n))) (hy : Ev A L y (Is (.int k m))) (h0 : m ≠ 0) (hr : k.wrap (n.tdiv m) = r) : OpP P c ⟨d, .binOp .quo t x y u, ty, pos, af, g⟩ A L (Is (.int k r)) :=
  op_bin hx hy fun w => by simp [binOp, Op.intDiv, h0, hr]
theorem op_rem (hx : Ev A L x (Is (.int k n))) (hy : Ev A L y (Is (.int k m))) (h0 : m ≠ 0) (hr : n.tmod m = r) : OpP P c ⟨d, .binOp .rem t x y u, ty, pos, af, g⟩ A L (Is (.int k r)) :=
  op_bin hx hy fun w => by simp [binOp, Op.intDiv, h0, hr]
theorem op_lss (hx : Ev A L x (Is (.int k n))) (hy : Ev A L y (Is (.int k m))) : OpP P c ⟨d, .binOp .lss t x y u, ty, pos, af, g⟩ A L (Is (.bool (decide (n < m)))) :=
  op_bin hx hy fun w => by simp [binOp, Op.intCmp]
theorem op_leq (hx : Ev A L x (Is (.int k n))) (hy : Ev A L y (Is (.int k m))) : OpP P c ⟨d, .binOp .leq t x y u, ty, pos, af, g⟩ A L (Is (.bool (decide (n ≤ m)))) :=
  op_bin hx hy fun w => by simp [binOp, Op.intCmp]
theorem op_gtr (hx : Ev A L x (Is (.int k n))) (hy : Ev A L y (Is (.int k m))) : OpP P c ⟨d, .binOp .gtr t x y u, ty, pos, af, g⟩ A L (Is (.bool (decide (n > m)))) :=
  op_bin hx hy fun w => by simp [binOp, Op.intCmp]
theorem op_geq (hx : Ev A L x (Is (.int k n))) (hy : Ev A L y (Is (.int k m))) : OpP P c ⟨d, .binOp .geq t x y u, ty, pos, af, g⟩ A L (Is (.bool (decide (n ≥ m)))) :=
  op_bin hx hy fun w => by simp [binOp, Op.intCmp]
theorem op_eql (hx : Ev A L x (Is (.int k n))) (hy : Ev A L y (Is (.int k m))) : OpP P c ⟨d, .binOp .eql t x y u, ty, pos, af, g⟩ A L (Is (.bool (n == m))) :=
  op_bin hx hy fun w => by simp [binOp, Op.intCmp]
theorem op_neq (hx : Ev A L x (Is (.int k n))) (hy : Ev A L y (Is (.int k m))) : OpP P c ⟨d, .binOp .neq t x y u, ty, pos, af, g⟩ A L (Is (.bool (n != m))) :=
  op_bin hx hy fun w => by simp [binOp, Op.intCmp]
theorem op_bits {op : BinOp} {v : Value} (hx : Ev A L x (Is (.int k n))) (hy : Ev A L y (Is (.int k m))) (hop : op = .and ∨ op = .or ∨ op = .xor ∨ op = .andNot) (hr : Op.intBits op k n m = pure v) : OpP P c ⟨d, .binOp op t x y u, ty, pos, af, g⟩ A L (Is v) :=
  op_bin hx hy fun w => by
    rcases hop with rfl | rfl | rfl | rfl <;> simp [binOp, hr]
theorem op_shl {j : IntKind} (hx : Ev A L x (Is (.int k n))) (hy : Ev A L y (Is (.int j m))) (h0 : 0 ≤ m) (hr : k.wrap (n * 2 ^ (min m.toNat k.bits)) = r) : OpP P c ⟨d, .binOp .shl t x y u, ty, pos, af, g⟩ A L (Is (.int k r)) :=
  op_bin hx hy fun w => by
    have : ¬ m < 0 := by omega
    simp [binOp, Op.shift, this, hr]
theorem op_shr {j : IntKind} (hx : Ev A L x (Is (.int k n))) (hy : Ev A L y (Is (.int j m))) (h0 : 0 ≤ m) (hr : n.fdiv (2 ^ (min m.toNat k.bits)) = r) : OpP P c ⟨d, .binOp .shr t x y u, ty, pos, af, g⟩ A L (Is (.int k r)) :=
  op_bin hx hy fun w => by
    have : ¬ m < 0 := by omega
    simp [binOp, Op.shift, this, hr]
theorem op_not {p : Bool} (hx : Ev A L x (Is (.bool p))) : OpP P c ⟨d, .unOp .not t x, ty, pos, af, g⟩ A L (Is (.bool (!p))) :=
  opp fun φ a w hm he => by
    have h1 : a.eval x = .bool p := he x (by simp [Op.operands]) _ hx
    exact ⟨_, by simp [execOp, h1, Op.unary], rfl⟩
theorem op_conv {src dst : TypeId} {j : IntKind} {s0 : TypeDesc} (hx : Ev A L x (Is (.int k n))) (hs : P.underlying src = some s0) (hd : P.underlying dst = some (.int j)) (hr : j.wrap n = r) : OpP P c ⟨d, .convert src dst x, ty, pos, af, g⟩ A L (Is (.int j r)) :=
  opp fun φ a w hm he => by
    have h1 : a.eval x = .int k n := he x (by simp [Op.operands]) _ hx
    refine ⟨.int j r, ?_, rfl⟩
    rw [← hr]
    simp [execOp, h1, convert, run_underlying hs, run_underlying hd, Conv.intToInt]
end ints
theorem run_val {s : Sem Value} {v : Value} {w w' : World} (h : s.run P w = .ok v w') : (do pure (Next.value (← s)) : Sem Next).run P w = .ok (.value v) w' := by
  simp only [Sem.run_bind, h, Result.andThen_ok, Sem.run_pure]
theorem alls_arr {φ : Fz} {As : List VP} {vs : List Value} (h : Alls φ As vs) {i : Nat} {B : VP} (hi : As[i]? = some B) : ∃ v, vs.toArray[i]? = some v ∧ B.ok φ v := by
  obtain ⟨v, h1, h2⟩ := h.get hi
  exact ⟨v, by simpa using h1, h2⟩
theorem op_extract {x : Operand} {i : Nat} {As : List VP} {B : VP} (hx : Ev A L x (IsTup As)) (hi : As[i]? = some B) : OpP P c ⟨d, .extract x i, ty, pos, af, g⟩ A L B :=
  opp fun φ a w hm he => by
    obtain ⟨vs, h1, h2⟩ : (IsTup As).ok φ (a.eval x) := he x (by simp [Op.operands]) _ hx
    obtain ⟨v, h3, h4⟩ := alls_arr h2 hi
    exact ⟨v, by simp only [execOp, h1, Instr.extract, h3]; rfl, h4⟩
theorem op_nilCheck {x : Operand} {p : Addr} (hx : Ev A L x (Is (.pointer (some p)))) : OpP P c ⟨d, .nilCheck x, ty, pos, af, g⟩ A L (Is (.pointer (some p))) :=
  opp fun φ a w hm he => by
    have h1 : a.eval x = .pointer (some p) := he x (by simp [Op.operands]) _ hx
    exact ⟨_, by simp only [execOp, h1]; rfl, rfl⟩
/-! ### Addresses and loads -/
theorem run_sizeOf {t : TypeId} {n : Nat} (h : (P.info? t).map (·.size) = some n) (w : World) : (sizeOf t).run P w = .ok n w := by
  obtain ⟨i, h1, h2⟩ := Option.map_eq_some_iff.1 h
  simp [sizeOf, typeInfo, h1, h2]
theorem run_field {s : TypeId} {fs : Array Field} {i n : Nat} {f : Field} (hu : P.underlying s = some (.struct fs)) (hf : fs[i]? = some f) (hn : (P.info? f.type).map (·.size) = some (n + 1)) (p : Addr) (w : World) :
    (Instr.fieldAt s (.pointer (some p)) i).run P w = .ok (.pointer (some (p.add f.offset))) w := by
  simp [Instr.fieldAt, run_underlying hu, hf, Instr.sureAddr, fieldPlace, run_sizeOf hn]
theorem addr_add0 (b i k : Nat) : (⟨b, i, none⟩ : Addr).add k = ⟨b, i + k, none⟩ := Addr.add_lit b i k
theorem op_fieldPtr {s : TypeId} {x : Operand} {i n b o k : Nat} {fs : Array Field} {f : Field} (hx : Ev A L x (Is (.pointer (some ⟨b, o, none⟩)))) (hu : P.underlying s = some (.struct fs)) (hf : fs[i]? = some f) (hn : (P.info? f.type).map (·.size) = some (n + 1)) (hk : f.offset = k) :
    OpP P c ⟨d, .fieldAddr s x i, ty, pos, af, g⟩ A L (Is (.pointer (some ⟨b, o + k, none⟩))) := by
  subst hk; exact
  opp fun φ a w hm he => by
    have h1 : a.eval x = .pointer (some ⟨b, o, none⟩) := he x (by simp [Op.operands]) _ hx
    exact ⟨_, by simp only [execOp, h1, Sem.run_bind, run_field hu hf hn, Result.andThen_ok, Sem.run_pure, addr_add0], rfl⟩
theorem RefAt.drop {φ : Fz} {b o : Nat} {As : List VP} (h : RefAt φ b o As) (k : Nat) : RefAt φ b (o + k) (As.drop k) := fun j B hj => by
  rw [List.getElem?_drop] at hj
  obtain ⟨u, h1, h2⟩ := h _ B hj
  exact ⟨u, by rw [Nat.add_assoc]; exact h1, h2⟩
theorem op_fieldRef {s : TypeId} {x : Operand} {i n k : Nat} {As : List VP} {fs : Array Field} {f : Field} (hx : Ev A L x (IsRef As)) (hu : P.underlying s = some (.struct fs)) (hf : fs[i]? = some f) (hn : (P.info? f.type).map (·.size) = some (n + 1)) (hk : f.offset = k) :
    OpP P c ⟨d, .fieldAddr s x i, ty, pos, af, g⟩ A L (IsRef (As.drop k)) := by
  subst hk; exact
  opp fun φ a w hm he => by
    obtain ⟨b, o, h1, h2⟩ : (IsRef As).ok φ (a.eval x) := he x (by simp [Op.operands]) _ hx
    exact ⟨.pointer (some ⟨b, o + f.offset, none⟩), by simp only [execOp, h1, Sem.run_bind, run_field hu hf hn, Result.andThen_ok, Sem.run_pure, addr_add0], ⟨b, _, rfl, h2.drop _⟩⟩
def aggB : TypeDesc → Bool
  | .struct _ => true
  | .array _ _ => true
  | _ => false
theorem run_isAgg {t : TypeId} {D : TypeDesc} (h : P.underlying t = some D) (w : World) : (isAgg t).run P w = .ok (aggB D) w := by
  simp only [isAgg, Sem.run_bind, run_underlying h, Result.andThen_ok]
  cases D <;> rfl
theorem run_load1 {w : World} {p : Addr} {v : Value} (h : w.cell? p = some v) : (load p).run P w = .ok v w := by
  simp [load, Sem.run, h]
theorem run_loadCellsFrom {w : World} {b o : Nat} : ∀ (vs : List Value) (i : Nat) (acc : Array Value), (∀ j v, vs[j]? = some v → w.cell? ⟨b, o + (i + j), none⟩ = some v) → (loadCellsFrom ⟨b, o, none⟩ i vs.length acc).run P w = .ok (acc ++ vs.toArray) w
  | [], i, acc, _ => by simp [loadCellsFrom]
  | v :: vs, i, acc, h => by
    have h0 : w.cell? ((⟨b, o, none⟩ : Addr).add i) = some v := by rw [addr_add0]; exact h 0 v rfl
    have ih := run_loadCellsFrom (b := b) (o := o) vs (i + 1) (acc.push v) (fun j u hj => by rw [show i + 1 + j = i + (j + 1) by omega]; exact h (j + 1) u (by simpa using hj))
    simp only [List.length_cons, loadCellsFrom, Sem.run_bind, run_load1 h0, Result.andThen_ok, ih]
    simp
theorem run_loadAgg {t : TypeId} {D : TypeDesc} {n : Nat} {w : World} {b o : Nat} {vs : List Value} (hu : P.underlying t = some D) (hD : aggB D = true) (hn : (P.info? t).map (·.size) = some n) (hl : vs.length = n) (h : ∀ j v, vs[j]? = some v → w.cell? ⟨b, o + j, none⟩ = some v) :
    (loadVar t ⟨b, o, none⟩).run P w = .ok (.agg vs.toArray) w := by
  subst hl
  simp only [loadVar, Sem.run_bind, run_isAgg hu, Result.andThen_ok, hD, if_true, run_sizeOf hn, loadCells]
  rw [run_loadCellsFrom vs 0 #[] (fun j v hj => by rw [Nat.zero_add]; exact h j v hj)]
  simp
theorem run_loadOne {t : TypeId} {D : TypeDesc} {w : World} {p : Addr} {v : Value} (hu : P.underlying t = some D) (hD : aggB D = false) (h : w.cell? p = some v) : (loadVar t p).run P w = .ok v w := by
  simp only [loadVar, Sem.run_bind, run_isAgg hu, Result.andThen_ok, hD, Bool.false_eq_true, if_false]
  exact run_load1 h
theorem op_loadRef {t : TypeId} {x : Operand} {As : List VP} {B : VP} {D : TypeDesc} (hx : Ev A L x (IsRef As)) (hu : P.underlying t = some D) (hD : aggB D = false) (h0 : As[0]? = some B) : OpP P c ⟨d, .load t x, ty, pos, af, g⟩ A L B :=
  opp fun φ a w hm he => by
    obtain ⟨b, o, h1, h2⟩ : (IsRef As).ok φ (a.eval x) := he x (by simp [Op.operands]) _ hx
    obtain ⟨u, h3, h4, _⟩ := h2 0 B h0
    have h5 := hm.mem.base b _ u h3
    exact ⟨u, by simp only [execOp, h1]; exact run_val (run_loadOne hu hD h5), h4⟩
theorem refAt_alls {φ : Fz} {b : Nat} : ∀ {As : List VP} {o : Nat}, RefAt φ b o As → ∃ vs, Alls φ As vs ∧ vs.length = As.length ∧ ones vs ∧ ∀ j v, vs[j]? = some v → φ b (o + j) = some v
  | [], o, _ => ⟨[], trivial, rfl, ones_nil, fun j v h => by simp at h⟩
  | B :: As, o, h => by
    obtain ⟨u, h1, h2, hu⟩ := h 0 B rfl
    obtain ⟨vs, h3, h4, h6, h5⟩ := refAt_alls (As := As) (o := o + 1) fun j D hj => by
      obtain ⟨u, e1, e2⟩ := h (j + 1) D (by simpa using hj)
      exact ⟨u, by rw [show o + 1 + j = o + (j + 1) by omega]; exact e1, e2⟩
    refine ⟨u :: vs, ⟨h2, h3⟩, by simp [h4], ones_cons hu h6, fun j v hj => ?_⟩
    cases j with
    | zero => simp at hj; subst hj; exact h1
    | succ j => rw [show o + (j + 1) = o + 1 + j by omega]; exact h5 j v (by simpa using hj)
theorem op_loadRefs {t : TypeId} {x : Operand} {As : List VP} {n : Nat} {D : TypeDesc} (hx : Ev A L x (IsRef As)) (hu : P.underlying t = some D) (hD : aggB D = true) (hn : (P.info? t).map (·.size) = some n) (hl : Nat.ble n As.length = true) : OpP P c ⟨d, .load t x, ty, pos, af, g⟩ A L (IsAgg (As.take n)) :=
  opp fun φ a w hm he => by
    obtain ⟨b, o, h1, h2⟩ : (IsRef As).ok φ (a.eval x) := he x (by simp [Op.operands]) _ hx
    obtain ⟨vs, h3, h4, h7, h5⟩ := refAt_alls h2
    have hn' := Nat.le_of_ble_eq_true hl
    have h6 := run_loadAgg (w := w) (b := b) (o := o) (vs := vs.take n) hu hD hn (by rw [List.length_take]; omega) fun j v hj => by
      rw [List.getElem?_take] at hj
      split at hj
      · exact hm.mem.base _ _ _ (h5 j v hj)
      · cases hj
    exact ⟨_, by simp only [execOp, h1]; exact run_val h6, ⟨_, rfl, h3.take n, h7.sub fun u hu => List.mem_of_mem_take hu⟩⟩
/-- An item among one's own. -/
theorem own_blk {φ : Fz} {w : World} {b : Nat} {t : TypeId} {As : List VP} (hm : HP c φ L w) (h : blk b t As ∈ L) : ∃ vs, w.heap[b]? = some (.cells vs.toArray t (0, 0)) ∧ Alls φ As vs ∧ ones vs := by
  obtain ⟨vs, h1, h2, h3⟩ := (hm.mem.items _ h).1
  exact ⟨vs, by simpa [blk] using h1, h2, h3⟩
theorem cell_blk {w : World} {b : Nat} {t : TypeId} {vs : List Value} (h : w.heap[b]? = some (.cells vs.toArray t (0, 0))) (i : Nat) : w.cell? ⟨b, i, none⟩ = vs[i]? := by
  simp [World.cell?, h]
theorem op_loadPtr {t t0 : TypeId} {x : Operand} {b o : Nat} {As : List VP} {B : VP} {D : TypeDesc} (hx : Ev A L x (Is (.pointer (some ⟨b, o, none⟩)))) (hL : blk b t0 As ∈ L) (hu : P.underlying t = some D) (hD : aggB D = false) (h0 : As[o]? = some B) : OpP P c ⟨d, .load t x, ty, pos, af, g⟩ A L B :=
  opp fun φ a w hm he => by
    have h1 : a.eval x = .pointer (some ⟨b, o, none⟩) := he x (by simp [Op.operands]) _ hx
    obtain ⟨vs, h2, h3, h7⟩ := own_blk hm hL
    obtain ⟨u, h4, h5⟩ := h3.get h0
    have h6 := (cell_blk h2 o).trans h4
    exact ⟨u, by simp only [execOp, h1]; exact run_val (run_loadOne hu hD h6), h5⟩
theorem op_loadPtrs {t t0 : TypeId} {x : Operand} {b o n : Nat} {As : List VP} {D : TypeDesc} (hx : Ev A L x (Is (.pointer (some ⟨b, o, none⟩)))) (hL : blk b t0 As ∈ L) (hu : P.underlying t = some D) (hD : aggB D = true) (hn : (P.info? t).map (·.size) = some n) (hl : Nat.ble (o + n) As.length = true) :
    OpP P c ⟨d, .load t x, ty, pos, af, g⟩ A L (IsAgg ((As.drop o).take n)) :=
  opp fun φ a w hm he => by
    have h1 : a.eval x = .pointer (some ⟨b, o, none⟩) := he x (by simp [Op.operands]) _ hx
    obtain ⟨vs, h2, h3, h7⟩ := own_blk hm hL
    have hn' := Nat.le_of_ble_eq_true hl
    have hlen := h3.len
    have h6 := run_loadAgg (w := w) (b := b) (o := o) (vs := (vs.drop o).take n) hu hD hn (by rw [List.length_take, List.length_drop]; omega) fun j v hj => by
      rw [List.getElem?_take] at hj
      split at hj
      · rw [List.getElem?_drop] at hj
        rw [cell_blk h2]; exact hj
      · cases hj
    exact ⟨_, by simp only [execOp, h1]; exact run_val h6, ⟨_, rfl, (h3.drop o).take n, h7.sub fun u hu => List.mem_of_mem_drop (List.mem_of_mem_take hu)⟩⟩
end
end Go.Proofs.YtfkmbdpnjcgimaaGreat

/- Rules: slices, structs, new memory, stores, calls. Own work. -/
namespace Go.Proofs.YtfkmbdpnjcgimaaGreat
open Go.RowKit
set_option linter.unusedVariables false
set_option linter.unusedSimpArgs false
section
variable {P : Program} {c : Ctx} {A : Nat → Option VP} {L : List Item} {d : Option Tmp} {ty : TypeId} {pos : String} {af : Array Edge} {g : Option (Nat × Bool)}
/-! ### Slices -/
section
variable {α : Type} {T : Ty α} {xs : List α}
theorem run_len {t : TypeId} {e : TypeId} (hu : P.underlying t = some (.slice e)) (ts : Array TypeId) (hts : ts[0]? = some t) (rt : TypeId) (a : Option Addr) (n cp : Nat) (w : World) : (Builtin.len_ ts rt #[.slice a n cp]).run P w = .ok (.int .i64 n) w := by
  simp [Builtin.len_, hts, run_underlying hu, goInt]
theorem op_len {x : Operand} {t e : TypeId} (hx : Ev A L x (IsSl T xs)) (hu : P.underlying t = some (.slice e)) :
    OpP P c ⟨d, .call { callee := .builtin .len, args := #[x], argTypes := #[t] }, ty, pos, af, g⟩ A L (Is (.int .i64 xs.length)) :=
  opp fun φ a w hm he => by
    obtain ⟨ad, n, cp, h1, h2, _⟩ : (IsSl T xs).ok φ (a.eval x) := he x (by simp [Op.operands, Call.operands]) _ hx
    refine ⟨.int .i64 n, ?_, by rw [h2]; exact (rfl : Value.int .i64 (xs.length : Int) = _)⟩
    have h3 : (#[x].map a.eval) = #[.slice ad n cp] := by simp [h1]
    simp only [execOp, resolve, h3, Sem.run_bind, Sem.run_pure, Result.andThen_ok, invoke, builtin]
    simp only [run_len hu #[t] rfl, Result.andThen_ok]
theorem op_lenLit {x : Operand} {t e : TypeId} {ad : Option Addr} {n cp : Nat} (hx : Ev A L x (Is (.slice ad n cp))) (hu : P.underlying t = some (.slice e)) :
    OpP P c ⟨d, .call { callee := .builtin .len, args := #[x], argTypes := #[t] }, ty, pos, af, g⟩ A L (Is (.int .i64 n)) :=
  opp fun φ a w hm he => by
    have h1 : a.eval x = .slice ad n cp := he x (by simp [Op.operands, Call.operands]) _ hx
    refine ⟨.int .i64 n, ?_, rfl⟩
    have h3 : (#[x].map a.eval) = #[.slice ad n cp] := by simp [h1]
    simp only [execOp, resolve, h3, Sem.run_bind, Sem.run_pure, Result.andThen_ok, invoke, builtin]
    simp only [run_len hu #[t] rfl, Result.andThen_ok]
theorem op_index {x y : Operand} {t e : TypeId} {i : Int} {j : Nat} {k : IntKind} {z : α} (hx : Ev A L x (IsSl T xs)) (hy : Ev A L y (Is (.int k i))) (hu : P.underlying t = some (.slice e)) (hs : (P.info? e).map (·.size) = some T.size) (hi : i = j) (hz : xs[j]? = some z) :
    OpP P c ⟨d, .indexAddr t x y, ty, pos, af, g⟩ A L (IsRef (T.cells z)) :=
  opp fun φ a w hm he => by
    obtain ⟨ad, n, cp, h1, h2, h3, h4, h5⟩ : (IsSl T xs).ok φ (a.eval x) := he x (by simp [Op.operands]) _ hx
    have h6 : a.eval y = .int k i := he y (by simp [Op.operands]) _ hy
    have hlt : j < xs.length := (List.getElem?_eq_some_iff.1 hz).1
    rcases h5 with h5 | ⟨b, o, rfl, h5⟩
    · omega
    · refine ⟨.pointer (some ⟨b, o + j * T.size, none⟩), ?_, ⟨b, _, rfl, h5 j z hz⟩⟩
      have h7 : (0 : Int) ≤ i ∧ i < (n : Int) := by omega
      have h8 : i.toNat = j := by omega
      simp only [execOp, h1, h6]
      refine run_val ?_
      simp only [Instr.indexAt, asIntOf, Sem.run_bind, Sem.run_pure, Result.andThen_ok, run_underlying hu, h7, and_self, if_true, run_sizeOf hs, h8, addr_add0]
/-- A part of a slice. -/
theorem SlAt.cut {φ : Fz} {a : Option Addr} {n cp lo hi : Nat} (h : SlAt T φ a n cp xs) (h1 : lo ≤ hi) (h2 : hi ≤ n) : SlAt T φ (if cp = lo then a else a.map (·.add (lo * T.size))) (hi - lo) (cp - lo) ((xs.take hi).drop lo) := by
  obtain ⟨e1, e2, e3, e4⟩ := h
  refine ⟨by simp; omega, by omega, by omega, ?_⟩
  by_cases h0 : hi - lo = 0
  · exact .inl h0
  · rcases e4 with e4 | ⟨b, o, rfl, e4⟩
    · omega
    · refine .inr ⟨b, o + lo * T.size, ?_, fun k x hx => ?_⟩
      · rw [if_neg (by omega), Option.map_some, addr_add0]
      · rw [List.getElem?_drop] at hx
        have hlt : lo + k < hi := by
          have := (List.getElem?_eq_some_iff.1 hx).1
          rw [List.length_take] at this; omega
        rw [List.getElem?_take_of_lt hlt] at hx
        have := e4 (lo + k) x hx
        rw [Nat.add_assoc, ← Nat.add_mul]; exact this
theorem run_bound {y k : IntKind} {i : Int} {m n : Nat} (hi : i = n) (h : n ≤ m) (cd : BoundsCode) (w : World) : (Instr.sliceBound (.int k i) m cd).run P w = .ok n w := by
  subst hi
  have : (0 : Int) ≤ (n : Int) ∧ (n : Int) ≤ (m : Int) := by omega
  simp [Instr.sliceBound, asIntOf, this]
def opN (A : Nat → Option VP) (L : List Item) (dflt : Nat) : Option Operand → Nat → Prop
  | none, n => n = dflt
  | some x, n => ∃ k i, Ev A L x (Is (.int k i)) ∧ i = (n : Int)
theorem run_bounds {a : Act} {lo hi : Option Operand} {l h n cp : Nat} (hl : ∀ x, lo = some x → ∃ k, a.eval x = .int k (l : Int)) (hl0 : lo = none → l = 0) (hh : ∀ x, hi = some x → ∃ k, a.eval x = .int k (h : Int)) (hh0 : hi = none → h = n) (h1 : l ≤ h) (h2 : h ≤ n) (h3 : n ≤ cp) (w : World) :
    (Instr.sliceBounds true n cp (lo.map a.eval) (hi.map a.eval) none).run P w = .ok (l, h, cp) w := by
  have e1 : ∀ cd, (match (hi.map a.eval : Option Value), (none : Option Value) with | some v, some _ => Instr.sliceBound v cp cd | some v, none => Instr.sliceBound v cp (if true then .sliceAcap else .sliceAlen) | none, none => pure n | none, some _ => stuck "Slice: max without high" : Sem Nat).run P w = .ok h w := by
    intro cd
    cases hi with
    | none => rw [hh0 rfl]; rfl
    | some x =>
      obtain ⟨k, e⟩ := hh x rfl
      simp only [Option.map_some, e]
      exact run_bound (y := k) rfl (by omega) _ w
  cases lo with
  | none =>
    obtain rfl := hl0 rfl
    cases hi with
    | none =>
      obtain rfl := hh0 rfl
      simp [Instr.sliceBounds]
    | some x =>
      obtain ⟨k, e⟩ := hh x rfl
      simp [Instr.sliceBounds, e, run_bound (P := P) (y := k) (k := k) rfl (show h ≤ cp by omega)]
  | some y =>
    obtain ⟨k', e'⟩ := hl y rfl
    cases hi with
    | none =>
      obtain rfl := hh0 rfl
      simp [Instr.sliceBounds, e', run_bound (P := P) (y := k') (k := k') rfl h1]
    | some x =>
      obtain ⟨k, e⟩ := hh x rfl
      simp [Instr.sliceBounds, e, e', run_bound (P := P) (y := k) (k := k) rfl (show h ≤ cp by omega), run_bound (P := P) (y := k') (k := k') rfl h1]
theorem op_slice {x : Operand} {t e : TypeId} {lo hi : Option Operand} {l h : Nat} (hx : Ev A L x (IsSl T xs)) (hu : P.underlying t = some (.slice e)) (hs : (P.info? e).map (·.size) = some T.size) (hl : opN A L 0 lo l) (hh : opN A L xs.length hi h) (h1 : l ≤ h) (h2 : h ≤ xs.length) :
    OpP P c ⟨d, .slice t x lo hi none, ty, pos, af, g⟩ A L (IsSl T ((xs.take h).drop l)) :=
  opp fun φ a w hm he => by
    obtain ⟨ad, n, cp, e1, e2⟩ : (IsSl T xs).ok φ (a.eval x) := he x (by simp [Op.operands]) _ hx
    have hn := e2.1
    have hcp := e2.2.1
    have hlo : ∀ y, lo = some y → ∃ k, a.eval y = .int k (l : Int) := fun y hy => by
      subst hy
      obtain ⟨k, i, h3, h4⟩ := hl
      have h5 : a.eval y = .int k i := he y (by simp [Op.operands]) _ h3
      exact ⟨k, by rw [h5, h4]⟩
    have hhi : ∀ y, hi = some y → ∃ k, a.eval y = .int k (h : Int) := fun y hy => by
      subst hy
      obtain ⟨k, i, h3, h4⟩ := hh
      have h5 : a.eval y = .int k i := he y (by simp [Op.operands]) _ h3
      exact ⟨k, by rw [h5, h4]⟩
    have hb := run_bounds (P := P) (a := a) (lo := lo) (hi := hi) (l := l) (h := h) (n := n) (cp := cp) hlo (fun e => by subst e; exact hl) hhi (fun e => by subst e; rw [hn]; exact hh) h1 (by omega) hcp w
    refine ⟨_, ?_, ⟨_, _, _, rfl, e2.cut h1 (by omega)⟩⟩
    simp only [execOp, e1]
    refine run_val ?_
    simp only [Instr.sliceAt, Sem.run_bind, run_underlying hu, Result.andThen_ok, Instr.slice]
    simp only [Option.map_none] at hb ⊢
    simp only [hb, Result.andThen_ok, run_sizeOf hs, Sem.run_pure]
end

/-! ### Cells of a value -/
def CellsOf (A : VP) (As : List VP) : Prop := ∀ φ v, A.ok φ v → ∃ vs : List Value, v.cells = vs.toArray ∧ Alls φ As vs ∧ ones vs
theorem ones_one {v : Value} (h : v.oneCell' = true) : ones [v] := ones_cons h ones_nil
theorem cells_agg {As : List VP} : CellsOf (IsAgg As) As := fun φ v ⟨vs, e, k⟩ => ⟨vs, by rw [e]; rfl, k⟩
theorem cells_is {u : Value} (h1 : u.oneCell' = true) : CellsOf (Is u) [Is u] := fun φ v e => by
  have e' : v = u := e
  subst e'
  refine ⟨[v], ?_, ⟨rfl, trivial⟩, ones_one h1⟩
  cases v <;> first | rfl | cases h1
theorem cells_ref {As : List VP} : CellsOf (IsRef As) [IsRef As] := fun φ v ⟨b, o, e, k⟩ => ⟨[v], by rw [e]; rfl, ⟨⟨b, o, e, k⟩, trivial⟩, by rw [e]; exact ones_one rfl⟩
theorem cells_sl {α : Type} {T : Ty α} {xs : List α} : CellsOf (IsSl T xs) [IsSl T xs] := fun φ v ⟨a, n, cp, e, k⟩ => ⟨[v], by rw [e]; rfl, ⟨⟨a, n, cp, e, k⟩, trivial⟩, by rw [e]; exact ones_one rfl⟩
theorem cells_lit {vs : List Value} (h : (vs.all Value.oneCell') = true) : CellsOf (Is (.agg vs.toArray)) (vs.map Is) := fun φ v e => ⟨vs, by rw [show v = .agg vs.toArray from e]; rfl, alls_is vs, ones_all h⟩
/-! ### Structs out of parts -/
def ovr : List VP → Nat → List VP → List VP
  | As, _, [] => As
  | As, o, B :: Bs => ovr (As.set o B) (o + 1) Bs
def fillL (place : Nat → Option (Nat × Nat)) : List VP → List (Nat × List VP) → Option (List VP)
  | As, [] => some As
  | As, (i, Bs) :: rest =>
    match place i with
    | none => none
    | some (off, size) => bif Nat.beq Bs.length size && Nat.ble (off + Bs.length) As.length then fillL place (ovr As off Bs) rest else none
def Parts (φ : Fz) : List (Nat × List VP) → List (Nat × Value) → Prop
  | [], [] => True
  | (i, Bs) :: l, (j, v) :: m => (i = j ∧ ∃ vs : List Value, v.cells = vs.toArray ∧ Alls φ Bs vs ∧ ones vs) ∧ Parts φ l m
  | _, _ => False
theorem fold_ovr {φ : Fz} : ∀ (us : List Value) (Bs : List VP) (As : List VP) (vs : List Value) (o k : Nat), Alls φ As vs → ones vs → Alls φ Bs us → ones us →
    ∃ rs : List Value, (us.zipIdx k).foldl (fun (cs : Array Value) (p : Value × Nat) => cs.setIfInBounds (o + p.2) p.1) vs.toArray = rs.toArray ∧ Alls φ (ovr As (o + k) Bs) rs ∧ ones rs
  | [], [], As, vs, o, k, h, g, _, _ => ⟨vs, rfl, h, g⟩
  | u :: us, B :: Bs, As, vs, o, k, h, g, ⟨h1, h2⟩, g2 => by
    simp only [List.zipIdx_cons, List.foldl_cons, List.setIfInBounds_toArray, ovr]
    have g3 : ones (vs.set (o + k) u) := fun x hx => by
      rcases List.mem_or_eq_of_mem_set hx with hx | rfl
      · exact g x hx
      · exact g2 _ (List.mem_cons_self ..)
    obtain ⟨rs, e1, e2⟩ := fold_ovr us Bs (As.set (o + k) B) (vs.set (o + k) u) o (k + 1) (h.set _ h1) g3 h2 (g2.sub fun x hx => List.mem_cons_of_mem _ hx)
    exact ⟨rs, e1, by rw [Nat.add_assoc]; exact e2⟩
  | [], _ :: _, _, _, _, _, _, _, h, _ => h.elim
  | _ :: _, [], _, _, _, _, _, _, h, _ => h.elim
theorem fill_ok {φ : Fz} {place : Nat → Option (Nat × Nat)} : ∀ {ps : List (Nat × List VP)} {qs : List (Nat × Value)} {As Rs : List VP} {vs : List Value}, Alls φ As vs → ones vs → Parts φ ps qs → fillL place As ps = some Rs → ∃ rs : List Value, Instr.fill place vs.toArray qs = some rs.toArray ∧ Alls φ Rs rs ∧ ones rs
  | [], [], As, Rs, vs, h, g, _, e => by
    simp only [fillL, Option.some.injEq] at e
    subst e
    exact ⟨vs, rfl, h, g⟩
  | (i, Bs) :: ps, (j, v) :: qs, As, Rs, vs, h, g, ⟨⟨hij, us, hus, hB, gB⟩, hr⟩, e => by
    subst hij
    simp only [fillL] at e
    cases hp : place i with
    | none => rw [hp] at e; cases e
    | some os =>
      obtain ⟨off, size⟩ := os
      rw [hp] at e
      dsimp only at e
      cases hc : (Nat.beq Bs.length size && Nat.ble (off + Bs.length) As.length) with
      | false => rw [hc] at e; cases e
      | true =>
        rw [hc] at e
        simp only [cond_true] at e
        simp only [Bool.and_eq_true] at hc
        have h1 := Nat.eq_of_beq_eq_true hc.1
        have h2 := Nat.le_of_ble_eq_true hc.2
        have h3 := hB.len
        have h4 := h.len
        obtain ⟨rs, f1, f2, f3⟩ := fold_ovr us Bs As vs off 0 h g hB gB
        obtain ⟨ts, g1, g2⟩ := fill_ok (vs := rs) f2 f3 hr e
        refine ⟨ts, ?_, g2⟩
        simp only [Instr.fill, hp, hus, List.size_toArray]
        rw [if_neg (by simp; omega)]
        have : us.toArray.zipIdx.foldl (fun (cs : Array Value) (p : Value × Nat) => cs.setIfInBounds (off + p.2) p.1) vs.toArray = rs.toArray := by
          rw [← f1]; simp
        rw [this]; exact g1
  | [], _ :: _, _, _, _, _, _, h, _ => h.elim
  | _ :: _, [], _, _, _, _, _, h, _ => h.elim
/-- The parts as the walk knows them. -/
def PartsE (A : Nat → Option VP) (L : List Item) : List (Nat × Operand) → List (Nat × List VP) → Prop
  | [], [] => True
  | (i, x) :: l, (j, Bs) :: m => (i = j ∧ ∃ D, Ev A L x D ∧ CellsOf D Bs) ∧ PartsE A L l m
  | _, _ => False
theorem PartsE.at_ {φ : Fz} {a : Act} : ∀ {l : List (Nat × Operand)} {m : List (Nat × List VP)}, PartsE A L l m → (∀ i x, (i, x) ∈ l → ∀ B, Ev A L x B → B.ok φ (a.eval x)) → Parts φ m (l.map fun p => (p.1, a.eval p.2))
  | [], [], _, _ => trivial
  | (i, x) :: l, (j, Bs) :: m, ⟨⟨hij, D, h1, h2⟩, h3⟩, h => ⟨⟨hij.symm, h2 φ _ (h i x (List.mem_cons_self ..) D h1)⟩, h3.at_ fun i x hx => h i x (List.mem_cons_of_mem _ hx)⟩
  | [], _ :: _, h, _ => h.elim
  | _ :: _, [], h, _ => h.elim
theorem run_zero {t : TypeId} {z : Value} (h : (P.info? t).map (·.zero) = some (some z)) (w : World) : (zeroValue t).run P w = .ok z w := by
  obtain ⟨i, h1, h2⟩ := Option.map_eq_some_iff.1 h
  simp [zeroValue, typeInfo, h1, h2]
def sizesOf (P : Program) : List Field → Option (List (Nat × Nat))
  | [] => some []
  | f :: fs => match (P.info? f.type).map (·.size), sizesOf P fs with
    | some n, some l => some ((f.offset, n) :: l)
    | _, _ => none
theorem run_places {w : World} : ∀ {fs : List Field} {l : List (Nat × Nat)}, sizesOf P fs = some l → (fs.toArray.mapM fun f => do pure (f.offset, ← sizeOf f.type) : Sem (Array (Nat × Nat))).run P w = .ok l.toArray w := by
  intro fs l h
  rw [List.mapM_toArray]
  have : ∀ {fs : List Field} {l : List (Nat × Nat)}, sizesOf P fs = some l → (fs.mapM fun f => do pure (f.offset, ← sizeOf f.type) : Sem (List (Nat × Nat))).run P w = .ok l w := by
    intro fs
    induction fs with
    | nil => intro l h; simp only [sizesOf, Option.some.injEq] at h; subst h; rfl
    | cons f fs ih =>
      intro l h
      simp only [sizesOf] at h
      split at h
      · rename_i n l' h1 h2
        injection h with h
        subst h
        rw [List.mapM_cons]
        simp only [Sem.run_bind, run_sizeOf h1, Result.andThen_ok, Sem.run_pure, ih h2]
      · cases h
  simp only [Sem.run_map, this h]
  rfl
theorem op_build {t : TypeId} {ps : Array (Nat × Operand)} {fs : List Field} {zs : List Value} {pl : List (Nat × Nat)} {qs : List (Nat × List VP)} {Rs : List VP} (hu : P.underlying t = some (.struct fs.toArray)) (hz : (P.info? t).map (·.zero) = some (some (.agg zs.toArray))) (h1 : (zs.all Value.oneCell') = true)
    (hpl : sizesOf P fs = some pl) (hq : PartsE A L ps.toList qs) (hf : fillL (fun i => pl[i]?) (zs.map Is) qs = some Rs) : OpP P c ⟨d, .build t ps, ty, pos, af, g⟩ A L (IsAgg Rs) :=
  opp fun φ a w hm he => by
    have hp := hq.at_ (φ := φ) (a := a) fun i x hx => he x (by simp only [Op.operands]; simp; exact ⟨i, by simpa using hx⟩)
    obtain ⟨rs, h1, h2⟩ := fill_ok (alls_is (φ := φ) zs) (ones_all h1) hp hf
    refine ⟨.agg rs.toArray, ?_, ⟨rs, rfl, h2⟩⟩
    simp only [execOp]
    refine run_val ?_
    have h3 : (ps.map fun x => (x.1, a.eval x.2)).toList = ps.toList.map fun p => (p.1, a.eval p.2) := by simp
    simp only [Instr.build, Sem.run_bind, run_zero hz, Result.andThen_ok, run_underlying hu, run_places hpl]
    have h4 : (fun (x : Nat) => pl.toArray[x]?) = (fun (i : Nat) => pl[i]?) := by funext x; simp
    rw [h3, h4]
    show (match Instr.fill (fun i => pl[i]?) zs.toArray (ps.toList.map fun p => (p.1, a.eval p.2)) with | some cells => pure (.agg cells) | _ => stuck _ : Sem Value).run P w = _
    rw [h1]; rfl
end
end Go.Proofs.YtfkmbdpnjcgimaaGreat

/- Rules: new memory, stores, calls, append, freezing, returns. Own work. -/
namespace Go.Proofs.YtfkmbdpnjcgimaaGreat
open Go.RowKit
set_option linter.unusedVariables false
set_option linter.unusedSimpArgs false
section
variable {P : Program} {c : Ctx} {A : Nat → Option VP} {L : List Item} {d : Option Tmp} {ty : TypeId} {pos : String} {af : Array Edge} {g : Option (Nat × Bool)}
/-! ### New memory -/
theorem kpt_alloc (X : List Nat) (w : World) (o : Obj) : Kpt X w (w.alloc o) := ⟨rfl, rfl, rfl, by simp, fun k hk _ => Below.heap_alloc w o k hk⟩
theorem heap_new (w : World) (o : Obj) : (w.alloc o).heap[w.heap.size]? = some o := heap_alloc_new w o
theorem cell_kept {w w' : World} {b i : Nat} (h : w'.heap[b]? = w.heap[b]?) : w'.cell? ⟨b, i, none⟩ = w.cell? ⟨b, i, none⟩ := World.cell?_of_block h
theorem hp_new {φ : Fz} {w : World} {b : Nat} {it : Item} {o : Obj} (hm : HP c φ L w) (hat : it.at_ = some w.heap.size) (hok : it.ok φ (some o)) : HP ⟨w, φ, [], []⟩ φ [it] (w.alloc o) := by
  refine ⟨⟨fun b i v e => ?_, fun x hx => ?_, List.pairwise_singleton _ _⟩, kpt_alloc _ _ _, fun b hb => ?_, fun _ _ _ => rfl⟩
  · have h1 := hm.mem.base b i v e
    rw [cell_kept (Below.heap_alloc w o b (cell_lt h1))]; exact h1
  · rw [List.mem_singleton] at hx; subst hx
    refine ⟨by rw [hat]; simp only [Option.bind_some, heap_new]; exact hok, fun b hb => ?_⟩
    rw [hat] at hb; injection hb with hb; subst hb
    refine ⟨by simp, fun i => ?_⟩
    cases hφ : φ w.heap.size i with
    | none => rfl
    | some v => have := cell_lt (hm.mem.base _ _ _ hφ); omega
  · obtain ⟨x, hx, hxb⟩ := mem_names.1 hb
    rw [List.mem_singleton] at hx; subst hx
    rw [hat] at hxb; injection hxb with hxb
    exact .inl (by show w.heap.size ≤ b; omega)
def zcells (z : Value) : List Value := z.cells.toList
theorem op_alloc {t : TypeId} {z : Value} (hz : (P.info? t).map (·.zero) = some (some z)) (h1 : ((zcells z).all Value.oneCell') = true) : OpN P c ⟨d, .alloc t, ty, pos, af, g⟩ A L (fun b : Nat => .pointer (some ⟨b, 0, none⟩)) (fun b => blk b t ((zcells z).map Is)) := by
  intro φ a w K Q hm he hk
  have hrun : (execOp a.eval ⟨d, .alloc t, ty, pos, af, g⟩).run P w = .ok (.value (.pointer (some ⟨w.heap.size, 0, none⟩))) (w.alloc (.cells (zcells z).toArray t)) := by
    simp only [execOp]
    refine run_val ?_
    simp [Instr.alloc, run_zero hz, newVar, newRow, zcells]
  unfold Oper.wp
  rw [hrun]
  exact hk w.heap.size φ _ (hp_new (b := 0) hm rfl ⟨zcells z, rfl, alls_is _, ones_all h1⟩)
theorem op_box {t : TypeId} {x : Operand} {D : VP} {Bs : List VP} (hx : Ev A L x D) (hD : CellsOf D Bs) : OpN P c ⟨d, .box t x, ty, pos, af, g⟩ A L (fun b : Nat => .pointer (some ⟨b, 0, none⟩)) (fun b => blk b t Bs) := by
  intro φ a w K Q hm he hk
  obtain ⟨vs, h1, h2, h3⟩ := hD φ _ (he x (by simp [Op.operands]) _ hx)
  have hrun : (execOp a.eval ⟨d, .box t x, ty, pos, af, g⟩).run P w = .ok (.value (.pointer (some ⟨w.heap.size, 0, none⟩))) (w.alloc (.cells vs.toArray t)) := by
    simp only [execOp]
    refine run_val ?_
    simp [Instr.box, newVar, newRow, h1]
  unfold Oper.wp
  rw [hrun]
  exact hk w.heap.size φ _ (hp_new (b := 0) hm rfl ⟨vs, rfl, h2, h3⟩)
/-! ### Stores -/
theorem setRow_kpt (X : List Nat) (w : World) (b : Nat) (cs : Array Value) (hb : b ∈ X) : Kpt X w (w.setRow b cs) := ⟨rfl, rfl, rfl, by simp [World.setRow], fun k _ hk => setRow_other w b k cs (fun e => hk (by rw [e]; exact hb))⟩
theorem ovr_get : ∀ (Bs As : List VP) (o : Nat), o + Bs.length ≤ As.length → ovr As o Bs = As.take o ++ Bs ++ As.drop (o + Bs.length)
  | [], As, o, _ => by simp [ovr]
  | B :: Bs, As, o, h => by
    simp only [List.length_cons] at h
    rw [ovr, ovr_get Bs (As.set o B) (o + 1) (by simp; omega)]
    have h1 : (As.set o B).take (o + 1) = As.take o ++ [B] := by
      rw [List.take_succ_eq_append_getElem (by simp; omega), List.take_set, List.set_eq_of_length_le (by simp; omega)]
      simp
    have h2 : (As.set o B).drop (o + 1 + Bs.length) = As.drop (o + 1 + Bs.length) := by
      rw [List.drop_set]
      simp; omega
    rw [h1, h2]
    simp only [List.append_assoc, List.singleton_append, List.length_cons]
    congr 3; omega
theorem op_store {t t0 : TypeId} {x y : Operand} {b o n : Nat} {D : VP} {As Bs : List VP} {L' : List Item} (hx : Ev A L x (Is (.pointer (some ⟨b, o, none⟩)))) (hy : Ev A L y D) (hD : CellsOf D Bs) (hr : Repl L (blk b t0 As) (blk b t0 (ovr As o Bs)) L')
    (hn : (P.info? t).map (·.size) = some n) (hB : Nat.beq Bs.length n = true) (hl : Nat.ble (o + n) As.length = true) : OpS P c ⟨d, .store t x y, ty, pos, af, g⟩ A L (fun _ : Unit => Is undef) (fun _ => L') := by
  intro φ a w K Q hm he hk
  have h1 : a.eval x = .pointer (some ⟨b, o, none⟩) := he x (by simp [Op.operands]) _ hx
  obtain ⟨us, h2, h3, h4⟩ := hD φ _ (he y (by simp [Op.operands]) _ hy)
  obtain ⟨vs, h5, h6, h7⟩ := own_blk hm hr.mem
  have e1 := Nat.eq_of_beq_eq_true hB
  have e2 := Nat.le_of_ble_eq_true hl
  have e3 := h3.len
  have e4 := h6.len
  have hst := run_storeCells_at (P := P) b o t0 us 0 vs.toArray w h5 (by simp; omega) h4
  have hrun : (execOp a.eval ⟨d, .store t x y, ty, pos, af, g⟩).run P w = .ok .skip (w.setRow b (vs.take o ++ us ++ vs.drop (o + us.length)).toArray) := by
    simp only [execOp, h1, Instr.storeAt, Instr.sureAddr, Sem.run_bind, Sem.run_pure, Result.andThen_ok, storeVar, run_sizeOf hn, h2]
    rw [if_neg (by simp; omega)]
    simp only [Nat.add_zero] at hst
    rw [hst]; rfl
  unfold Oper.wp
  rw [hrun]
  refine hk () φ undef _ Fle.rfl' rfl (hm.upd hr (setRow_kpt _ _ _ _ (by simp [names, blk])) ?_ (fun b' hb' => .inr hb'))
  refine ⟨⟨vs.take o ++ us ++ vs.drop (o + us.length), ?_, ?_, ?_⟩, fun b' hb' => ?_⟩
  · simp only [blk, Option.bind_some]
    exact setRow_heap w b _ _ _ _ h5
  · rw [ovr_get Bs As o (by omega), e3]
    exact ((h6.take o).append h3).append (h6.drop _)
  · intro u hu
    simp only [List.mem_append] at hu
    rcases hu with (hu | hu) | hu
    · exact h7 u (List.mem_of_mem_take hu)
    · exact h4 u hu
    · exact h7 u (List.mem_of_mem_drop hu)
  · have := (hm.mem.items _ hr.mem).2 b' hb'
    exact ⟨by simp [World.setRow]; exact this.1, this.2⟩
/-! ### Calls -/
def ArgsE (A : Nat → Option VP) (L : List Item) : List Operand → List VP → Prop
  | [], [] => True
  | x :: xs, B :: Bs => Ev A L x B ∧ ArgsE A L xs Bs
  | _, _ => False
theorem ArgsE.alls {φ : Fz} {a : Act} : ∀ {xs : List Operand} {Bs : List VP}, ArgsE A L xs Bs → (∀ x, x ∈ xs → ∀ B, Ev A L x B → B.ok φ (a.eval x)) → Alls φ Bs (xs.map a.eval)
  | [], [], _, _ => trivial
  | x :: xs, B :: Bs, ⟨h1, h2⟩, h => ⟨h x (List.mem_cons_self ..) B h1, h2.alls fun y hy => h y (List.mem_cons_of_mem _ hy)⟩
  | [], _ :: _, h, _ => h.elim
  | _ :: _, [], h, _ => h.elim
theorem run_enter {f : FuncId} {xs : List Operand} {ts : Array TypeId} {a : Act} {w : World} (hc : ∀ (args : Array Value) (w : World), (callFunc f args).run P w = .ok (.enter f args) w) :
    (execOp a.eval ⟨d, .call { callee := .value (.func f), args := xs.toArray, argTypes := ts }, ty, pos, af, g⟩).run P w = .ok (.enter f (xs.map a.eval).toArray) w := by
  have h0 : a.eval (.func f) = .func (.func f) #[] #[] := rfl
  simp only [execOp, resolve, h0, Deferred.ofValue, Sem.run_bind, Sem.run_pure, Result.andThen_ok, invoke, hc]
  simp
theorem op_callS {f : FuncId} {xs : List Operand} {ts : Array TypeId} {As : List VP} {Lf M : List Item} {ι : Type} {R : ι → VP} {L' : ι → List Item} (hc : ∀ (args : Array Value) (w : World), (callFunc f args).run P w = .ok (.enter f args) w)
    (hF : Fn P f As Lf R L') (hL : L = Lf ++ M) (ha : ArgsE A L xs As) : OpS P c ⟨d, .call { callee := .value (.func f), args := xs.toArray, argTypes := ts }, ty, pos, af, g⟩ A L R (fun i => L' i ++ M) := by
  subst hL
  intro φ a w K Q hm he hk
  have hv := ha.alls (φ := φ) (a := a) fun x hx => he x (by simp [Op.operands, Call.operands, hx])
  unfold Oper.wp
  rw [run_enter hc]
  refine (hF φ w _ hv hm.mem.left).mono ?_
  rintro e w' ⟨i, v, φ', rfl, h1, h2⟩
  exact hk i φ' v w' (h2.fle hm.mem.base) h1 (hm.call h2)
theorem op_call {f : FuncId} {xs : List Operand} {ts : Array TypeId} {As : List VP} {R : VP} (hc : ∀ (args : Array Value) (w : World), (callFunc f args).run P w = .ok (.enter f args) w)
    (hF : FnP P f As R) (ha : ArgsE A L xs As) : OpP P c ⟨d, .call { callee := .value (.func f), args := xs.toArray, argTypes := ts }, ty, pos, af, g⟩ A L R := by
  intro φ a w K Q hm he hk
  have hv := ha.alls (φ := φ) (a := a) fun x hx => he x (by simp [Op.operands, Call.operands, hx])
  unfold Oper.wp
  rw [run_enter hc]
  refine (hF φ w _ hv ⟨hm.mem.base, by simp, List.Pairwise.nil⟩).mono ?_
  rintro e w' ⟨i, v, φ', rfl, h1, h2⟩
  exact hk φ' v w' (by simpa [names] using h2) h1
/-- A call that hands back memory of one's own. -/
theorem op_callN {f : FuncId} {xs : List Operand} {ts : Array TypeId} {As : List VP} {ι : Type} {R : ι → VP} {L' : ι → List Item} (hc : ∀ (args : Array Value) (w : World), (callFunc f args).run P w = .ok (.enter f args) w)
    (hF : Fn P f As [] R L') (ha : ArgsE A L xs As) : OpS P c ⟨d, .call { callee := .value (.func f), args := xs.toArray, argTypes := ts }, ty, pos, af, g⟩ A L R (fun i => L' i ++ L) := op_callS hc hF rfl ha
/-! ### Rows that grow -/
section
variable {α : Type} {T : Ty α}
def Owns (o : Option Obj) (e : TypeId) (size : Nat) (v : Value) (n : Nat) (flat : List Value) : Prop :=
  (v = .slice none 0 0 ∧ n = 0) ∨ ∃ g cap cur, v = .slice (some ⟨g, 0, none⟩) n cap ∧ o = some (.cells cur e (0, 0)) ∧ n ≤ cap ∧ cap ≤ maxLen ∧ cur.size = cap * size ∧ cur.toList.take (n * size) = flat
/-- A row of one's own, to which more may be appended. -/
def buf (v : Value) (e : TypeId) (T : Ty α) (xs : List α) : Item := ⟨v.ownBlock, fun φ o => ∃ flat : List Value, flat.length = xs.length * T.size ∧ Alls φ (xs.flatMap T.cells) flat ∧ ones flat ∧ Owns o e T.size v xs.length flat, fun h ⟨flat, h0, h1, h2, h3⟩ => ⟨flat, h0, h1.mono h, h2, h3⟩⟩
theorem buf_owns {φ : Fz} {w : World} {v : Value} {e : TypeId} {xs : List α} (h : (buf v e T xs).here φ w) : ∃ flat : List Value, Alls φ (xs.flatMap T.cells) flat ∧ ones flat ∧ w.ownsRow 0 e T.size v xs.length flat := by
  obtain ⟨⟨flat, h0, h1, h2, h3⟩, _⟩ := h
  refine ⟨flat, h1, h2, h0, ?_⟩
  rcases h3 with h3 | ⟨g, cap, cur, rfl, e1, e2, e3, e4, e5⟩
  · exact .inl h3
  · refine .inr ⟨g, cap, cur, rfl, Nat.zero_le _, ?_, e2, e3, e4, e5⟩
    simpa [buf, Value.ownBlock] using e1
theorem owns_buf {φ : Fz} {w : World} {v : Value} {e : TypeId} {xs : List α} {flat : List Value} (h1 : Alls φ (xs.flatMap T.cells) flat) (h2 : ones flat) (h : w.ownsRow 0 e T.size v xs.length flat) : (buf v e T xs).ok φ ((buf v e T xs).at_.bind fun b => w.heap[b]?) := by
  refine ⟨flat, h.1, h1, h2, ?_⟩
  rcases h.2 with h3 | ⟨g, cap, cur, rfl, _, e1, e2, e3, e4, e5⟩
  · exact .inl h3
  · exact .inr ⟨g, cap, cur, rfl, by simpa [buf, Value.ownBlock] using e1, e2, e3, e4, e5⟩
/-- The cells of a slice that stays, as one list. -/
theorem sl_flat {φ : Fz} {w : World} {a : Option Addr} {n cp : Nat} {xs : List α} (hm : ∀ b i v, φ b i = some v → w.cell? ⟨b, i, none⟩ = some v) (h : SlAt T φ a n cp xs) : ∃ flat : List Value, flat.length = xs.length * T.size ∧ Alls φ (xs.flatMap T.cells) flat ∧ ones flat ∧
    (n ≠ 0 → ∃ b o, a = some ⟨b, o, none⟩ ∧ ∀ j u, flat[j]? = some u → φ b (o + j) = some u) := by
  obtain ⟨h1, h2, h3, h4⟩ := h
  rcases h4 with h4 | ⟨b, o, rfl, h4⟩
  · have : xs = [] := List.eq_nil_of_length_eq_zero (by omega)
    subst this
    exact ⟨[], by simp, trivial, ones_nil, fun h => absurd h4 h⟩
  · have key : ∀ (ys : List α) (o' : Nat), (∀ k x, ys[k]? = some x → RefAt φ b (o' + k * T.size) (T.cells x)) → ∃ flat : List Value, flat.length = ys.length * T.size ∧ Alls φ (ys.flatMap T.cells) flat ∧ ones flat ∧ ∀ j u, flat[j]? = some u → φ b (o' + j) = some u := by
      intro ys
      induction ys with
      | nil => intro o' _; exact ⟨[], by simp, trivial, ones_nil, fun j u h => by simp at h⟩
      | cons y ys ih =>
        intro o' hy
        obtain ⟨vs, e1, e2, e3, e4⟩ := refAt_alls (hy 0 y rfl)
        obtain ⟨fl, f0, f1, f2, f3⟩ := ih (o' + T.size) fun k x hx => by
          have := hy (k + 1) x (by simpa using hx)
          rw [show o' + T.size + k * T.size = o' + (k + 1) * T.size by rw [Nat.add_mul]; omega]; exact this
        have hvl : vs.length = T.size := by rw [e2, T.len]
        refine ⟨vs ++ fl, ?_, by rw [List.flatMap_cons]; exact e1.append f1, fun u hu => ?_, fun j u hj => ?_⟩
        · rw [List.length_append, hvl, f0, List.length_cons, Nat.add_mul]; omega
        · rcases List.mem_append.1 hu with hu | hu
          · exact e3 u hu
          · exact f2 u hu
        · rcases Nat.lt_or_ge j vs.length with hlt | hge
          · rw [List.getElem?_append_left hlt] at hj
            have := e4 j u hj
            rw [Nat.zero_mul, Nat.add_zero] at this; exact this
          · rw [List.getElem?_append_right hge, hvl] at hj
            have := f3 _ u hj
            rw [show o' + T.size + (j - T.size) = o' + j by omega] at this; exact this
    obtain ⟨flat, e0, e1, e2, e3⟩ := key xs o h4
    exact ⟨flat, e0, e1, e2, fun _ => ⟨b, o, rfl, e3⟩⟩
theorem run_app_ev {φ : Fz} {w : World} {t rt e : TypeId} {z : Value} {bytes : Nat} {v xv : Value} {xs ys : List α} {flat : List Value} (ht : P.underlying t = some (.slice e)) (hinfo : (P.info? e).map (fun i => (i.zero, i.size, i.bytes)) = some (some z, T.size, bytes)) (hzs : z.cells.size = T.size) (hsz : 0 < T.size)
    (hm : ∀ b i v, φ b i = some v → w.cell? ⟨b, i, none⟩ = some v) (ho : w.ownsRow 0 e T.size v xs.length flat) (hf : Alls φ (xs.flatMap T.cells) flat) (hf1 : ones flat) (hx : (IsSl T ys).ok φ xv) (hlen : xs.length + ys.length ≤ 1073741824) (hby : (xs.length + ys.length) * bytes ≤ 140737488355328) :
    ∃ (i : Option Addr × Nat) (w' : World) (flat' : List Value), (Builtin.append_ #[t, t] rt #[v, xv]).run P w = .ok (.slice i.1 (xs ++ ys).length i.2) w' ∧ Alls φ ((xs ++ ys).flatMap T.cells) flat' ∧ ones flat' ∧ w'.ownsRow 0 e T.size (.slice i.1 (xs ++ ys).length i.2) (xs ++ ys).length flat' ∧
      w.grownBy w' v.ownBlock ∧ ((Value.slice i.1 (xs ++ ys).length i.2).ownBlock = v.ownBlock ∨ (Value.slice i.1 (xs ++ ys).length i.2).ownBlock = some w.heap.size) := by
  obtain ⟨i, hi, hzz⟩ := Option.map_eq_some_iff.1 hinfo
  simp only [Prod.mk.injEq] at hzz
  obtain ⟨hz, hs, hb⟩ := hzz
  obtain ⟨ad, m, cp, rfl, h2⟩ := hx
  have hml : xs.length + ys.length ≤ maxLen := by unfold maxLen; omega
  have hmy : m = ys.length := h2.1
  obtain ⟨news, n0, n1, n2, n3⟩ := sl_flat hm h2
  have form : ∀ (v' : Value) (w' : World), w'.ownsRow 0 e T.size v' (xs.length + ys.length) (flat ++ news) → ∃ i : Option Addr × Nat, v' = .slice i.1 (xs ++ ys).length i.2 := fun v' w' ho' => by
    rcases ho'.2 with ⟨rfl, h0⟩ | ⟨g, cap, cur, rfl, _⟩
    · exact ⟨(none, 0), by simp [h0]⟩
    · exact ⟨(some ⟨g, 0, none⟩, cap), by simp⟩
  have hal : Alls φ ((xs ++ ys).flatMap T.cells) (flat ++ news) := by rw [List.flatMap_append]; exact hf.append n1
  have hone : ones (flat ++ news) := fun u hu => by
    rcases List.mem_append.1 hu with hu | hu
    · exact hf1 u hu
    · exact n2 u hu
  have fin : ∀ (v' : Value) (w' : World), (Builtin.append_ #[t, t] rt #[v, .slice ad m cp]).run P w = .ok v' w' → w'.ownsRow 0 e T.size v' (xs.length + ys.length) (flat ++ news) → w.grownBy w' v.ownBlock → (v'.ownBlock = v.ownBlock ∨ v'.ownBlock = some w.heap.size) →
      ∃ (i : Option Addr × Nat) (w' : World) (flat' : List Value), (Builtin.append_ #[t, t] rt #[v, .slice ad m cp]).run P w = .ok (.slice i.1 (xs ++ ys).length i.2) w' ∧ Alls φ ((xs ++ ys).flatMap T.cells) flat' ∧ ones flat' ∧ w'.ownsRow 0 e T.size (.slice i.1 (xs ++ ys).length i.2) (xs ++ ys).length flat' ∧
      w.grownBy w' v.ownBlock ∧ ((Value.slice i.1 (xs ++ ys).length i.2).ownBlock = v.ownBlock ∨ (Value.slice i.1 (xs ++ ys).length i.2).ownBlock = some w.heap.size) := fun v' w' r1 r2 r3 r4 => by
    obtain ⟨j, rfl⟩ := form v' w' r2
    exact ⟨j, w', flat ++ news, r1, hal, hone, by rw [List.length_append] at r1 r2 ⊢; exact r2, r3, r4⟩
  by_cases h0 : m = 0
  · have hys : ys = [] := List.eq_nil_of_length_eq_zero (by omega)
    subst hys
    have hn : news = [] := List.eq_nil_of_length_eq_zero (by rw [n0]; simp)
    subst hn h0
    cases ad with
    | none =>
      refine fin v w ?_ (by simpa using ho) (World.grownBy.refl w _) (.inl rfl)
      rcases ho.2 with ⟨rfl, h3⟩ | ⟨g, cap, cur, rfl, _, _, hnc, _⟩
      · simp [Builtin.append_, run_underlying ht, sizeOf, typeInfo, hi, Builtin.lenOf, Builtin.firstCells]
      · simp [Builtin.append_, run_underlying ht, sizeOf, typeInfo, hi, Builtin.lenOf, Builtin.firstCells, hnc, storeCells]
    | some a =>
      obtain ⟨v', w', r1, r2, r3, _, r4⟩ := run_append_own_at (P := P) w 0 t rt e i z T.size bytes ht hi hz hs hb hzs hsz v xs.length flat ho a 0 cp [] (by simp) (by simp) (by simp) (by simpa using hml) (by simpa using hby) (Nat.zero_le _)
      exact fin v' w' r1 (by simpa using r2) r3 r4
  · obtain ⟨b, o, rfl, n4⟩ := n3 h0
    subst hmy
    obtain ⟨v', w', r1, r2, r3, _, r4⟩ := run_append_own_at (P := P) w 0 t rt e i z T.size bytes ht hi hz hs hb hzs hsz v xs.length flat ho ⟨b, o, none⟩ ys.length cp news n0
      (fun j u hu => by rw [addr_add0]; exact hm _ _ _ (n4 j u hu)) n2 hml hby (Nat.zero_le _)
    exact fin v' w' r1 r2 r3 r4
end
/-! ### append, freezing -/
section
variable {α : Type} {T : Ty α} {xs ys : List α}
theorem grown_kpt {w w' : World} {row : Option Nat} {it : Item} (h : w.grownBy w' row) (hr : it.at_ = row) : Kpt (names [it]) w w' := ⟨h.os, h.tape, h.output, h.size, fun k hk hn => h.block k hk fun e => hn (mem_names.2 ⟨it, List.mem_singleton.2 rfl, by rw [hr, ← e]⟩)⟩
/-- What an append leaves of a row of one's own. -/
theorem hp_app {φ : Fz} {w w' : World} {v v' : Value} {e : TypeId} {zs : List α} {flat : List Value} (hm : HP c φ (buf v e T xs :: L) w) (h1 : Alls φ (zs.flatMap T.cells) flat) (h2 : ones flat) (h3 : w'.ownsRow 0 e T.size v' zs.length flat) (hg : w.grownBy w' v.ownBlock)
    (hb : v'.ownBlock = v.ownBlock ∨ v'.ownBlock = some w.heap.size) : HP ⟨w, φ, names [buf v e T xs], []⟩ φ [buf v' e T zs] w' := by
  have hk : Kpt (names [buf v e T xs]) w w' := grown_kpt hg rfl
  have hit := hm.mem.items _ (List.mem_cons_self ..)
  have hnm : ∀ b, b ∈ names [buf v e T xs] → v.ownBlock = some b := fun b hb => by
    obtain ⟨x, hx, hxb⟩ := mem_names.1 hb
    rw [List.mem_singleton] at hx; subst hx; exact hxb
  have hnew : ∀ b, v'.ownBlock = some b → (w.heap.size ≤ b ∨ b ∈ names [buf v e T xs]) ∧ ∀ i, φ b i = none := fun b hb' => by
    rcases hb with hb | hb
    · rw [hb'] at hb
      exact ⟨.inr (mem_names.2 ⟨_, List.mem_singleton.2 rfl, hb.symm⟩), (hit.2 b hb.symm).2⟩
    · rw [hb'] at hb; injection hb with hb; subst hb
      refine ⟨.inl (Nat.le_refl _), fun i => ?_⟩
      cases hφ : φ w.heap.size i with
      | none => rfl
      | some u => have := cell_lt (hm.mem.base _ _ _ hφ); omega
  refine ⟨⟨fun b i u e => ?_, fun x hx => ?_, List.pairwise_singleton _ _⟩, hk, fun b hb' => ?_, fun _ _ _ => rfl⟩
  · have h4 := hm.mem.base b i u e
    rw [cell_kept (hk.block b (cell_lt h4) fun hn => by rw [(hit.2 b (hnm b hn)).2 i] at e; cases e)]; exact h4
  · rw [List.mem_singleton] at hx; subst hx
    refine ⟨owns_buf h1 h2 h3, fun b hb' => ⟨?_, (hnew b hb').2⟩⟩
    rcases h3.2 with ⟨rfl, _⟩ | ⟨gg, cap, cur, rfl, _, e1, _⟩
    · cases hb'
    · have : gg = b := by simpa [buf, Value.ownBlock] using hb'
      subst this
      exact (Array.getElem?_eq_some_iff.1 e1).1
  · obtain ⟨x, hx, hxb⟩ := mem_names.1 hb'
    rw [List.mem_singleton] at hx; subst hx
    exact (hnew b hxb).1
/-- The facts of an append. -/
structure AppT (P : Program) (t e : TypeId) (size : Nat) : Prop where
  ht : P.underlying t = some (.slice e)
  hi : ∃ (z : Value) (bytes : Nat), (P.info? e).map (fun i => (i.zero, i.size, i.bytes)) = some (some z, size, bytes) ∧ z.cells.size = size ∧ bytes ≤ 100000
  hs : 0 < size
theorem appT {t e : TypeId} {size bytes : Nat} {z : Value} (ht : P.underlying t = some (.slice e)) (hi : (P.info? e).map (fun i => (i.zero, i.size, i.bytes)) = some (some z, size, bytes)) (h : (Nat.beq z.cells.size size && Nat.ble bytes 100000 && Nat.blt 0 size) = true) : AppT P t e size := by
  simp only [Bool.and_eq_true] at h
  exact ⟨ht, ⟨z, bytes, hi, Nat.eq_of_beq_eq_true h.1.1, Nat.le_of_ble_eq_true h.1.2⟩, Nat.le_of_ble_eq_true h.2⟩
theorem run_app2 {φ : Fz} {w : World} {x y : Operand} {a : Act} {t e : TypeId} {v : Value} {flat : List Value} (hT : AppT P t e T.size) (hm : ∀ b i v, φ b i = some v → w.cell? ⟨b, i, none⟩ = some v) (hx : a.eval x = v) (ho : w.ownsRow 0 e T.size v xs.length flat) (hf : Alls φ (xs.flatMap T.cells) flat) (hf1 : ones flat) (hy : (IsSl T ys).ok φ (a.eval y)) (hlen : xs.length + ys.length ≤ 1048576) :
    ∃ (i : Option Addr × Nat) (w' : World) (flat' : List Value), (execOp a.eval ⟨d, .call { callee := .builtin .append, args := #[x, y], argTypes := #[t, t] }, ty, pos, af, g⟩).run P w = .ok (.value (.slice i.1 (xs ++ ys).length i.2)) w' ∧ Alls φ ((xs ++ ys).flatMap T.cells) flat' ∧ ones flat' ∧ w'.ownsRow 0 e T.size (.slice i.1 (xs ++ ys).length i.2) (xs ++ ys).length flat' ∧
      w.grownBy w' v.ownBlock ∧ ((Value.slice i.1 (xs ++ ys).length i.2).ownBlock = v.ownBlock ∨ (Value.slice i.1 (xs ++ ys).length i.2).ownBlock = some w.heap.size) := by
  obtain ⟨z, bytes, h1, h2, h3⟩ := hT.hi
  obtain ⟨i, w', flat', r, r2⟩ := run_app_ev (rt := ty) hT.ht h1 h2 hT.hs hm ho hf hf1 hy (by omega) (by
    have := Nat.mul_le_mul hlen h3; omega)
  refine ⟨i, w', flat', ?_, r2⟩
  have h4 : (#[x, y].map a.eval) = #[v, a.eval y] := by simp [hx]
  simp only [execOp, resolve, h4, Sem.run_bind, Sem.run_pure, Result.andThen_ok, invoke, builtin, r]
def slV (n : Nat) (i : Option Addr × Nat) : Value := .slice i.1 n i.2
/-- append onto a row of one's own. -/
theorem op_app {x y : Operand} {t e : TypeId} {v : Value} {L' : Option Addr × Nat → List Item} (hx : Ev A L x (Is v)) (hr : ∀ i, Repl L (buf v e T xs) (buf (slV (xs ++ ys).length i) e T (xs ++ ys)) (L' i)) (hy : Ev A L y (IsSl T ys)) (hT : AppT P t e T.size) (hlen : xs.length + ys.length ≤ 1048576) :
    OpS P c ⟨d, .call { callee := .builtin .append, args := #[x, y], argTypes := #[t, t] }, ty, pos, af, g⟩ A L (fun i => Is (slV (xs ++ ys).length i)) L' := by
  intro φ a w K Q hm he hk
  have h1 : a.eval x = v := he x (by simp [Op.operands, Call.operands]) _ hx
  have h2 : (IsSl T ys).ok φ (a.eval y) := he y (by simp [Op.operands, Call.operands]) _ hy
  have hit := hm.mem.items _ (hr (none, 0)).mem
  obtain ⟨flat, f1, f2, f3⟩ := buf_owns hit
  obtain ⟨i, w', flat', r1, r2, r3, r4, r5, r6⟩ := run_app2 (d := d) (ty := ty) (pos := pos) (af := af) (g := g) hT hm.mem.base h1 f3 f1 f2 h2 hlen
  unfold Oper.wp
  rw [r1]
  have hm1 : HP ⟨w, φ, names [buf v e T xs], []⟩ φ [buf v e T xs] w := HP.start ⟨hm.mem.base, fun it hi => by rw [List.mem_singleton] at hi; subst hi; exact hit, List.pairwise_singleton _ _⟩
  have h5 := hp_app (L := []) hm1 r2 r3 r4 r5 r6
  refine hk i φ _ w' Fle.rfl' rfl (hm.upd (hr i) h5.kept (h5.mem.items _ (List.mem_singleton.2 rfl)) fun b hb => ?_)
  rcases r6 with r6 | r6
  · exact .inr (by rw [← hb]; exact r6.symm)
  · have hb' : (Value.slice i.1 (xs ++ ys).length i.2).ownBlock = some b := hb
    rw [r6] at hb'; injection hb' with hb'; exact .inl (by omega)
theorem flat_at {φ : Fz} {flat : List Value} : ∀ {xs : List α} {flat : List Value}, Alls φ (xs.flatMap T.cells) flat → ∀ {k : Nat} {x : α} {j : Nat} {B : VP}, xs[k]? = some x → (T.cells x)[j]? = some B → ∃ u, flat[k * T.size + j]? = some u ∧ B.ok φ u
  | [], _, _, k, x, j, B, h, _ => by simp at h
  | y :: ys, flat, hf, k, x, j, B, h, hB => by
    rw [List.flatMap_cons] at hf
    have hl : (T.cells y).length = T.size := T.len y
    cases k with
    | zero =>
      simp only [List.getElem?_cons_zero, Option.some.injEq] at h
      subst h
      obtain ⟨u, h1, h2⟩ := hf.get (j := j) (A := B) (by rw [List.getElem?_append_left (List.getElem?_eq_some_iff.1 hB).1]; exact hB)
      exact ⟨u, by simpa using h1, h2⟩
    | succ k =>
      have hd := hf.drop (T.cells y).length
      rw [List.drop_left, hl] at hd
      obtain ⟨u, h1, h2⟩ := flat_at (flat := flat) hd (k := k) (x := x) (by simpa using h) hB
      refine ⟨u, ?_, h2⟩
      rw [List.getElem?_drop] at h1
      rw [show (k + 1) * T.size + j = T.size + (k * T.size + j) by rw [Nat.add_mul]; omega]; exact h1
/-- A row of one's own stays as it is from here on. -/
theorem HP.freeze {φ : Fz} {w : World} {v : Value} {e : TypeId} {L' : List Item} {p0 : Prop} (hX : c.X = [] ∧ p0) (hm : HP c φ L w) (hr : Repl L (buf v e T xs) (fact v (IsSl T xs)) L') : ∃ φ', Fle φ φ' ∧ HP c φ' L' w := by
  have hit := hm.mem.items _ hr.mem
  obtain ⟨flat, f1, f2, f3⟩ := buf_owns hit
  rcases f3.2 with ⟨rfl, h0⟩ | ⟨gg, cap, cur, rfl, _, e1, e2, e3, e4, e5⟩
  · have hxs : xs = [] := List.eq_nil_of_length_eq_zero h0
    subst hxs
    refine ⟨φ, Fle.rfl', hm.upd hr (Kpt.refl _ _) ⟨?_, fun b (hb : none = some b) => (nomatch hb)⟩ fun b (hb : none = some b) => (nomatch hb)⟩
    exact ⟨none, 0, 0, rfl, rfl, Nat.le_refl _, Nat.zero_le _, .inl rfl⟩
  · have hown : ∀ i, φ gg i = none := fun i => (hit.2 gg rfl).2 i
    let φ' : Fz := fun b i => if b = gg then flat[i]? else φ b i
    have hsame : ∀ i, φ' gg i = flat[i]? := fun i => if_pos rfl
    have hoth : ∀ b i, b ≠ gg → φ' b i = φ b i := fun b i h => if_neg h
    have hle : Fle φ φ' := fun b i u hu => by
      rw [hoth b i (fun e => by subst e; rw [hown i] at hu; cases hu)]; exact hu
    have hg0 : c.w.heap.size ≤ gg := (hm.mine gg (mem_names.2 ⟨_, hr.mem, rfl⟩)).resolve_right (by rw [hX.1]; simp)
    have hfl : flat.length = xs.length * T.size := f3.1
    refine ⟨φ', hle, ⟨⟨fun b i u hu => ?_, fun x hx => ?_, hr.sep hm.mem.sep fun x hx _ _ => ⟨fun b _ (hb : none = some b) => (nomatch hb), fun b (hb : none = some b) => (nomatch hb)⟩⟩, hm.kept, fun b hb => ?_, fun b i hb => ?_⟩⟩
    · by_cases hbg : b = gg
      · subst hbg
        rw [hsame] at hu
        rw [cell_of_row w b i cur e _ e1]
        rw [← e5] at hu
        have hi : i < xs.length * T.size := by
          have := (List.getElem?_eq_some_iff.1 hu).1
          rw [List.length_take] at this; omega
        rw [List.getElem?_take_of_lt hi, Array.getElem?_toList] at hu
        exact hu
      · rw [hoth b i hbg] at hu
        exact hm.mem.base b i u hu
    · rcases hr.mem' hx with rfl | ⟨hx', hap⟩
      · refine ⟨⟨_, _, _, rfl, rfl, e2, e3, .inr ⟨gg, 0, rfl, fun k x hk j B hB => ?_⟩⟩, fun b (hb : none = some b) => (nomatch hb)⟩
        obtain ⟨u, h1, h2⟩ := flat_at (flat := flat) f1 hk hB
        refine ⟨u, ?_, B.mono hle h2, f2 u (List.mem_of_getElem? h1)⟩
        rw [hsame, Nat.zero_add]; exact h1
      · obtain ⟨h1, h2⟩ := hm.mem.items x hx'
        refine ⟨x.mono hle h1, fun b hb => ⟨(h2 b hb).1, fun i => ?_⟩⟩
        rw [hoth b i (fun e => (hap hm.mem.sep).1 b hb (by rw [e]; rfl))]
        exact (h2 b hb).2 i
    · obtain ⟨x, hx, hxb⟩ := mem_names.1 hb
      rcases hr.mem' hx with rfl | ⟨hx', _⟩
      · cases hxb
      · exact hm.mine b (mem_names.2 ⟨x, hx', hxb⟩)
    · rw [hoth b i (by omega)]
      exact hm.old b i hb
variable {Q : Exit → Act → World → Prop} {N : Nat} {ops : Array Oper} {rest : List Oper} {E : Env}
theorem JC_freeze {x : Code} {v : Value} {e : TypeId} {L' : List Item} {p0 : Prop} (hX : c.X = [] ∧ p0) (hr : Repl L (buf v e T xs) (fact v (IsSl T xs)) L') (h : JC P c N x E L' Q) : JC P c N x E L Q := fun φ a w st =>
  let ⟨φ', h1, h2⟩ := st.mem.freeze hX hr
  h φ' a w ⟨st.defers, st.size, fun t B hB => B.mono h1 (st.env t B hB), h2⟩
theorem JQ_freeze {ex : Exit} {v : Value} {e : TypeId} {L' : List Item} {p0 : Prop} (hX : c.X = [] ∧ p0) (hr : Repl L (buf v e T xs) (fact v (IsSl T xs)) L') (h : JQ c N E L' Q ex) : JQ c N E L Q ex := fun φ a w st =>
  let ⟨φ', h1, h2⟩ := st.mem.freeze hX hr
  h φ' a w ⟨st.defers, st.size, fun t B hB => B.mono h1 (st.env t B hB), h2⟩
end
/-! ### The slice out of a literal -/
/-- Cells that stay, told one by one, as a slice whose capacity is its length. -/
def IsRow (n size : Nat) (As : List VP) : VP := ⟨fun φ v => ∃ b, v = .slice (some ⟨b, 0, none⟩) n n ∧ RefAt φ b 0 As ∧ As.length = n * size ∧ n ≤ maxLen, fun h ⟨b, e, k, l⟩ => ⟨b, e, k.mono h, l⟩⟩
theorem subLs_get {Bs : List VP} : ∀ {As Bs : List VP} {j : Nat} {B : VP}, SubLs L As Bs → Bs[j]? = some B → ∃ D, As[j]? = some D ∧ SubL L D B
  | [], [], _, _, _, h => by simp at h
  | D :: As, B :: Bs, 0, C, ⟨h1, _⟩, h => by simp at h; subst h; exact ⟨D, rfl, h1⟩
  | D :: As, B :: Bs, j + 1, C, ⟨_, h2⟩, h => by
    obtain ⟨X, h3, h4⟩ := subLs_get (Bs := Bs) h2 (by simpa using h)
    exact ⟨X, by simpa using h3, h4⟩
  | [], _ :: _, _, _, h, _ => h.elim
  | _ :: _, [], _, _, h, _ => h.elim
theorem flat_idx {α : Type} {T : Ty α} : ∀ {xs : List α} {k : Nat} {x : α} {j : Nat} {B : VP}, xs[k]? = some x → (T.cells x)[j]? = some B → (xs.flatMap T.cells)[k * T.size + j]? = some B
  | [], k, x, j, B, h, _ => by simp at h
  | y :: ys, k, x, j, B, h, hB => by
    have hl : (T.cells y).length = T.size := T.len y
    rw [List.flatMap_cons]
    cases k with
    | zero =>
      simp only [List.getElem?_cons_zero, Option.some.injEq] at h
      subst h
      rw [Nat.zero_mul, Nat.zero_add, List.getElem?_append_left (List.getElem?_eq_some_iff.1 hB).1]; exact hB
    | succ k =>
      rw [List.getElem?_append_right (by rw [hl, Nat.add_mul]; omega), hl, show (k + 1) * T.size + j - T.size = k * T.size + j by rw [Nat.add_mul]; omega]
      exact flat_idx (by simpa using h) hB
theorem SubL.row {α : Type} {T : Ty α} {xs : List α} {n size : Nat} {As : List VP} (hn : n = xs.length) (hs : size = T.size) (h : SubLs L As (xs.flatMap T.cells)) : SubL L (IsRow n size As) (IsSl T xs) := fun φ v f ⟨b, e, k, _, l⟩ => by
  subst hs
  refine ⟨_, _, _, e, hn, Nat.le_refl _, l, .inr ⟨b, 0, rfl, fun i x hx j B hB => ?_⟩⟩
  obtain ⟨D, h1, h2⟩ := subLs_get (Bs := []) h (flat_idx hx hB)
  obtain ⟨u, h3, h4, h5⟩ := k _ D h1
  exact ⟨u, by rw [Nat.add_assoc]; exact h3, h2 φ u f h4, h5⟩
/-- Cells of a new block that stay. -/
theorem hp_newF {φ : Fz} {w : World} {vs : List Value} {As : List VP} {e : TypeId} (hm : HP c φ L w) (h : Alls φ As vs) (h1 : ones vs) : ∃ φ', Fle φ φ' ∧ HP ⟨w, φ, [], []⟩ φ' [] (w.alloc (.cells vs.toArray e)) ∧ RefAt φ' w.heap.size 0 As := by
  let φ' : Fz := fun b i => if b = w.heap.size then vs[i]? else φ b i
  have hno : ∀ i, φ w.heap.size i = none := fun i => by
    cases hφ : φ w.heap.size i with
    | none => rfl
    | some u => have := cell_lt (hm.mem.base _ _ _ hφ); omega
  have hsame : ∀ i, φ' w.heap.size i = vs[i]? := fun i => if_pos rfl
  have hoth : ∀ b i, b ≠ w.heap.size → φ' b i = φ b i := fun b i h => if_neg h
  have hle : Fle φ φ' := fun b i u hu => by
    rw [hoth b i (fun e => by subst e; rw [hno i] at hu; cases hu)]; exact hu
  refine ⟨φ', hle, ⟨⟨fun b i u hu => ?_, by simp, List.Pairwise.nil⟩, kpt_alloc _ _ _, by simp [names], fun b i hb => ?_⟩, fun j B hB => ?_⟩
  · by_cases hbg : b = w.heap.size
    · subst hbg
      rw [hsame] at hu
      rw [cell_of_row _ _ i vs.toArray e _ (heap_new w _)]
      simpa using hu
    · rw [hoth b i hbg] at hu
      have h2 := hm.mem.base b i u hu
      rw [cell_kept (Below.heap_alloc w _ b (cell_lt h2))]; exact h2
  · exact hoth b i (by have : b < w.heap.size := hb; omega)
  · obtain ⟨u, h2, h3⟩ := h.get hB
    exact ⟨u, by rw [hsame, Nat.zero_add]; exact h2, B.mono hle h3, h1 u (List.mem_of_getElem? h2)⟩
def zRow (zs : List Value) (n : Nat) : List Value := (List.range n).map fun i => zs.toArray[i % zs.toArray.size]!
theorem op_buildSlice {t e : TypeId} {n size : Nat} {z : Value} {ps : Array (Nat × Operand)} {qs : List (Nat × List VP)} {Rs : List VP} (hu : P.underlying t = some (.slice e)) (hs : (P.info? e).map (·.size) = some size) (hz : (P.info? e).map (·.zero) = some (some z))
    (hq : PartsE A L ps.toList qs) (hf : fillL (fun i => some (i * size, size)) ((zRow (zcells z) (n * size)).map Is) qs = some Rs)
    (hn : (Nat.ble (n * size) 16777216 && Nat.blt 0 (n * size) && Nat.ble n 1000000 && (zRow (zcells z) (n * size)).all Value.oneCell' && Nat.beq Rs.length (n * size)) = true) :
    OpP P c ⟨d, .buildSlice t n ps, ty, pos, af, g⟩ A L (IsRow n size Rs) :=
  opq fun φ a w hm he => by
    simp only [Bool.and_eq_true] at hn
    obtain ⟨⟨⟨⟨n1, n2⟩, n3⟩, n4⟩, n5⟩ := hn
    have m1 := Nat.le_of_ble_eq_true n1
    have m2 : 0 < n * size := Nat.le_of_ble_eq_true n2
    have m3 := Nat.le_of_ble_eq_true n3
    have hp := hq.at_ (φ := φ) (a := a) fun i x hx => he x (by simp only [Op.operands]; simp; exact ⟨i, by simpa using hx⟩)
    obtain ⟨rs, h1, h2, h3⟩ := fill_ok (alls_is (φ := φ) (zRow (zcells z) (n * size))) (ones_all n4) hp hf
    obtain ⟨φ', g1, g2, g3⟩ := hp_newF (e := e) hm h2 h3
    refine ⟨.slice (some ⟨w.heap.size, 0, none⟩) n n, φ', _, ?_, g2, ⟨w.heap.size, rfl, g3, Nat.eq_of_beq_eq_true n5, by unfold maxLen; omega⟩⟩
    simp only [execOp]
    refine run_val ?_
    have e1 : (ps.map fun x => (x.1, a.eval x.2)).toList = ps.toList.map fun p => (p.1, a.eval p.2) := by simp
    have e2 : ((Array.range (n * size)).map fun x => z.cells[x % z.cells.size]!) = (zRow (zcells z) (n * size)).toArray := by
      unfold zRow zcells
      rw [Array.toArray_toList]
      apply Array.ext'
      simp
    simp only [Instr.buildSlice, Sem.run_bind, run_underlying hu, Result.andThen_ok, run_sizeOf hs]
    rw [if_neg (by omega)]
    have e3 : (List.map (fun x : Nat × Operand => (x.1, a.eval x.2)) ps.toList) = ps.toList.map fun p => (p.1, a.eval p.2) := rfl
    have e4 : ¬ n * size = 0 := by omega
    simp only [if_neg e4, Sem.run_bind, run_zero hz, Result.andThen_ok, Sem.run_pure, e1, e2, h1, newRow, run_newObj_alloc]
end
end Go.Proofs.YtfkmbdpnjcgimaaGreat

/- Returns; small things. Own work. -/
namespace Go.Proofs.YtfkmbdpnjcgimaaGreat
open Go.RowKit
set_option linter.unusedVariables false
set_option linter.unusedSimpArgs false
section
variable {P : Program} {c : Ctx} {N : Nat} {E : Env} {L : List Item} {Q : Exit → Act → World → Prop}
theorem Fn.enterN {f : FuncId} {fn : Func} {x : Code} {As : List VP} {ι : Type} {R : ι → VP} {L' : ι → List Item} (hf : P.funcs[f]? = some fn) (hN : fn.ntmps = N) (hb : fn.body = some x) (hn : Nat.ble As.length N = true)
    (h : ∀ c : Ctx, (c.X = names L ∧ c.ds = []) → JC P c N x (argE 0 As) L (bodyPost P fn (Post c R L'))) : Fn P f As L R L' := by
  subst hN
  exact Fn.enter hf hb hn h
theorem FnP.enter {f : FuncId} {fn : Func} {x : Code} {As : List VP} {R : VP} (hf : P.funcs[f]? = some fn) (hN : fn.ntmps = N) (hb : fn.body = some x) (hn : Nat.ble As.length N = true)
    (h : ∀ c : Ctx, (c.X = [] ∧ c.ds = []) → JC P c N x (argE 0 As) [] (bodyPost P fn (Post c (fun _ : Unit => R) (fun _ => [])))) : FnP P f As R := Fn.enterN hf hN hb hn h
theorem JC_dr {id : Nat} {l : List Oper} (hm : P.follows .mixedOrders = true) (hB : (goodB l.toArray (needs l []) && ordB l.toArray (needs l []) && opsAll (fun _ o => dstB N o.dst) l 0) = true) (h : JD P l.toArray Q c N (needs l []) 0 l E L) : JC P c N (Code.region id l.toArray true) E L Q := JC_draw _ hm hB h
theorem JQ_hit {id : Nat} (h : JQ c N E L Q .normal) : JQ c N E L (Exit.inBlock id Q) (.exit id) := JQ_block_hit (by simp) h
theorem SubL.eq {A B : VP} (h : A = B) : SubL L A B := h ▸ SubL.rfl'
/-- One result. -/
def RetE (P : Program) (E : Env) (L : List Item) : List ResultVar → List VP → Prop
  | [], [] => True
  | .tmp t :: rs, B :: Bs => (∃ D, look E t = some D ∧ SubL L D B) ∧ RetE P E L rs Bs
  | .cell t ty :: rs, B :: Bs => (∃ b t0 As D, look E t = some (Is (.pointer (some ⟨b, 0, none⟩))) ∧ blk b t0 As ∈ L ∧ P.underlying ty = some D ∧
      ((aggB D = false ∧ ∃ X, As[0]? = some X ∧ SubL L X B) ∨ (aggB D = true ∧ ∃ n, (P.info? ty).map (·.size) = some n ∧ Nat.ble n As.length = true ∧ SubL L (IsAgg (As.take n)) B))) ∧ RetE P E L rs Bs
  | _, _ => False
theorem run_asAddr (p : Addr) (w : World) : (asAddr (.pointer (some p))).run P w = .ok p w := rfl
theorem run_results {A : Nat → Option VP} {φ : Fz} {a : Act} {w : World} (st : St c N (look E) L φ a w) : ∀ {rs : List ResultVar} {Bs : List VP}, RetE P E L rs Bs → ∃ vs : List Value,
    (rs.mapM fun | .tmp t => pure (a.tmps.getD t undef) | .cell b t => do loadVar t (← asAddr (a.tmps.getD b undef)) : Sem (List Value)).run P w = .ok vs w ∧ Alls φ Bs vs
  | [], [], _ => ⟨[], rfl, trivial⟩
  | .tmp t :: rs, B :: Bs, ⟨⟨D, h1, h2⟩, h3⟩ => by
    obtain ⟨vs, h4, h5⟩ := run_results (A := A) st h3
    refine ⟨a.tmps.getD t undef :: vs, ?_, h2 _ _ st.mem.mem.facts (st.env t D h1), h5⟩
    rw [List.mapM_cons]
    simp only [Sem.run_bind, Sem.run_pure, Result.andThen_ok, h4]
  | .cell t ty :: rs, B :: Bs, ⟨⟨b, t0, As, D, h1, h2, h3, h4⟩, h5⟩ => by
    obtain ⟨vs, h6, h7⟩ := run_results (A := A) st h5
    have hv : a.tmps.getD t undef = .pointer (some ⟨b, 0, none⟩) := st.env t _ h1
    obtain ⟨us, e1, e2, e3⟩ := own_blk st.mem h2
    have key : ∃ u, (loadVar ty ⟨b, 0, none⟩).run P w = .ok u w ∧ B.ok φ u := by
      rcases h4 with ⟨hD, X, hX, hs⟩ | ⟨hD, n, hn, hl, hs⟩
      · obtain ⟨u, f1, f2⟩ := e2.get hX
        exact ⟨u, run_loadOne h3 hD ((cell_blk e1 0).trans f1), hs _ _ st.mem.mem.facts f2⟩
      · have hl' := Nat.le_of_ble_eq_true hl
        have hlen := e2.len
        refine ⟨_, run_loadAgg (vs := us.take n) h3 hD hn (by rw [List.length_take]; omega) fun j v hj => ?_, hs _ _ st.mem.mem.facts ⟨us.take n, rfl, e2.take n, e3.sub fun u hu => List.mem_of_mem_take hu⟩⟩
        rw [List.getElem?_take] at hj
        split at hj
        · rw [Nat.zero_add, cell_blk e1]; exact hj
        · cases hj
    obtain ⟨u, k1, k2⟩ := key
    refine ⟨u :: vs, ?_, k2, h7⟩
    rw [List.mapM_cons]
    simp only [Sem.run_bind, hv, run_asAddr, Sem.run_pure, Result.andThen_ok, k1, h6]
  | .tmp _ :: _, [], h => h.elim
  | .cell _ _ :: _, [], h => h.elim
  | [], _ :: _, h => h.elim
def retVP : List VP → VP
  | [B] => B
  | Bs => IsTup Bs
theorem JQ_ret {fn : Func} {ι : Type} {R : ι → VP} {L' : ι → List Item} {rs : List ResultVar} {Bs : List VP} (hr : fn.results = rs.toArray) (hE : RetE P E L rs Bs) (i : ι) (hB : SubL L (retVP Bs) (R i)) (hL : (L' i).Sublist L) (hD0 : c.ds = [] := by first | assumption | exact And.right (by assumption)) : JQ c N E L (bodyPost P fn (Post c R L')) .ret := by
  intro φ a w st
  obtain ⟨vs, h1, h2⟩ := run_results (A := look E) st hE
  have hlen := h2.len
  have hrun : (results fn a.tmps).run P w = .ok (if h : vs.toArray.size = 1 then vs.toArray[0] else .tuple vs.toArray) w := by
    unfold results
    rw [hr, List.mapM_toArray]
    simp only [Sem.run_bind, Sem.run_map, Sem.run_pure]
    erw [h1]
    rfl
  refine bodyPost_ret hrun (st.defers.trans hD0) ⟨i, _, φ, rfl, hB _ _ st.mem.mem.facts ?_, st.mem.less hL⟩
  match Bs, vs, h2 with
  | [], [], _ => exact ⟨[], rfl, trivial⟩
  | [B], [v], h => exact h.1
  | B :: B' :: Bs, v :: v' :: vs, h => exact ⟨_, rfl, h⟩
theorem JQ_end {fn : Func} {ι : Type} {R : ι → VP} {L' : ι → List Item} (h : JQ c N E L (bodyPost P fn (Post c R L')) .ret) : JQ c N E L (bodyPost P fn (Post c R L')) .normal := h
variable {A : Nat → Option VP} {d : Option Tmp} {ty : TypeId} {pos : String} {af : Array Edge} {g : Option (Nat × Bool)}
theorem op_moveE {x : Operand} {D : VP} (h : Ev A L x D) : OpP P c ⟨d, .move x, ty, pos, af, g⟩ A L D :=
  opp fun φ a w hm he => ⟨_, rfl, he x (by simp [Op.operands]) D h⟩
theorem wI64 {n : Int} (h : -9223372036854775808 ≤ n ∧ n ≤ 9223372036854775807) : IntKind.i64.wrap n = n := IntWalk.i64_in n h
theorem wU64 {n : Int} (h : 0 ≤ n ∧ n < 18446744073709551616) : IntKind.u64.wrap n = n := by
  rw [wrap_u64_mod]; omega
theorem wU32 {n : Int} (h : 0 ≤ n ∧ n < 4294967296) : IntKind.u32.wrap n = n := by
  rw [wrap_u32_mod]; omega
theorem u64lit {n : Int} (h : 0 ≤ n ∧ n < 18446744073709551616) : Value.int .u64 n = .int .u64 (UV (BitVec.ofInt 64 n)) := by
  have : UV (BitVec.ofInt 64 n) = n := by
    unfold UV; rw [BitVec.toNat_ofInt]; simp; omega
  rw [this]
theorem u32lit {n : Int} (h : 0 ≤ n ∧ n < 4294967296) : Value.int .u32 n = .int .u32 (UV (BitVec.ofInt 32 n)) := by
  have : UV (BitVec.ofInt 32 n) = n := by
    unfold UV; rw [BitVec.toNat_ofInt]; simp; omega
  rw [this]
theorem alls_is_eq {φ : Fz} : ∀ {vs us : List Value}, Alls φ (vs.map Is) us → us = vs
  | [], [], _ => rfl
  | v :: vs, u :: us, ⟨h1, h2⟩ => by rw [show u = v from h1, alls_is_eq h2]
/-- Two structs are compared. -/
theorem op_cmpA {o : BinOp} {t u : TypeId} {x y : Operand} {vs ws : List Value} {r : Value} (hx : Ev A L x (IsAgg (vs.map Is))) (hy : Ev A L y (IsAgg (ws.map Is))) (hg : ∀ w, (eqGuard o t x y (.agg vs.toArray) (.agg ws.toArray)).run P w = .ok () w)
    (hr : ∀ w, (binOp o t (.agg vs.toArray) (.agg ws.toArray)).run P w = .ok r w) : OpP P c ⟨d, .binOp o t x y u, ty, pos, af, g⟩ A L (Is r) :=
  opp fun φ a w hm he => by
    obtain ⟨us, h1, h2, _⟩ : (IsAgg (vs.map Is)).ok φ (a.eval x) := he x (by simp [Op.operands]) _ hx
    obtain ⟨us', h3, h4, _⟩ : (IsAgg (ws.map Is)).ok φ (a.eval y) := he y (by simp [Op.operands]) _ hy
    rw [alls_is_eq h2] at h1
    rw [alls_is_eq h4] at h3
    exact ⟨r, by simp only [execOp, h1, h3, Sem.run_bind, hg, Result.andThen_ok, hr, Sem.run_pure], rfl⟩
/-- A call of a function that a temporary holds. -/
theorem op_callV {f : FuncId} {x : Operand} {xs : List Operand} {ts : Array TypeId} {As : List VP} {R : VP} {cap : List Value} (hx : Ev A L x (Is (.func (.func f) #[] cap.toArray))) (hc : ∀ (args : Array Value) (w : World), (callFunc f args).run P w = .ok (.enter f args) w)
    (hF : FnP P f (As ++ cap.map Is) R) (ha : ArgsE A L xs As) : OpP P c ⟨d, .call { callee := .value x, args := xs.toArray, argTypes := ts }, ty, pos, af, g⟩ A L R := by
  intro φ a w K Q hm he hk
  have h1 : a.eval x = .func (.func f) #[] cap.toArray := he x (by simp [Op.operands, Call.operands]) _ hx
  have hv := ha.alls (φ := φ) (a := a) fun x hx => he x (by simp [Op.operands, Call.operands, hx])
  have hrun : (execOp a.eval ⟨d, .call { callee := .value x, args := xs.toArray, argTypes := ts }, ty, pos, af, g⟩).run P w = .ok (.enter f (xs.map a.eval ++ cap).toArray) w := by
    simp only [execOp, resolve, h1, Deferred.ofValue, Sem.run_bind, Sem.run_pure, Result.andThen_ok, invoke, hc]
    simp
  unfold Oper.wp
  rw [hrun]
  refine (hF φ w _ (hv.append (alls_is cap)) ⟨hm.mem.base, by simp, List.Pairwise.nil⟩).mono ?_
  rintro e w' ⟨i, v, φ', rfl, h1, h2⟩
  exact hk φ' v w' (by simpa [names] using h2) h1
theorem op_callV0 {f : FuncId} {x : Operand} {xs : List Operand} {ts : Array TypeId} {As : List VP} {R : VP} (hx : Ev A L x (Is (.func (.func f) #[] #[]))) (hc : ∀ (args : Array Value) (w : World), (callFunc f args).run P w = .ok (.enter f args) w)
    (hF : FnP P f As R) (ha : ArgsE A L xs As) : OpP P c ⟨d, .call { callee := .value x, args := xs.toArray, argTypes := ts }, ty, pos, af, g⟩ A L R := op_callV (cap := []) hx hc (by simpa using hF) ha
/-- The nil slice is a row of one's own. -/
theorem HP.buf0 {α : Type} {φ : Fz} {w : World} (e : TypeId) (T : Ty α) (h : HP c φ L w) : HP c φ (buf (.slice none 0 0) e T [] :: L) w :=
  ⟨⟨h.mem.base, fun it hi => by
    rcases List.mem_cons.1 hi with rfl | hi
    · exact ⟨⟨[], by simp, trivial, ones_nil, .inl ⟨rfl, rfl⟩⟩, fun b (hb : none = some b) => (nomatch hb)⟩
    · exact h.mem.items it hi, List.pairwise_cons.2 ⟨fun y _ b (hb : none = some b) => (nomatch hb), h.mem.sep⟩⟩, h.kept, h.mine, h.old⟩
theorem JC_buf0 {α : Type} {x : Code} (e : TypeId) (T : Ty α) (h : JC P c N x E (buf (.slice none 0 0) e T [] :: L) Q) : JC P c N x E L Q := fun φ a w st =>
  h φ a w ⟨st.defers, st.size, st.env, st.mem.buf0 e T⟩
/-! ### Steps, the operation laid open -/
section
variable {ops : Array Oper} {rest : List Oper} {t : Tmp} {op : Op}
theorem JL_1 {F : VP} (hd : Nat.blt t N = true) (hs : OpP P c ⟨some t, op, ty, pos, af, none⟩ (look E) L F) (h : JL P ops Q c N rest ((t, F) :: E) L) : JL P ops Q c N (⟨some t, op, ty, pos, af, none⟩ :: rest) E L := JL_op1 rfl hd hs h
theorem JL_i {j : Nat} {want p b : Bool} {g : Tmp} {F : VP} (hj : (ops[j]?).bind (·.dst) = some g) (hl : look E g = some (VPite p (Is (.bool b)) (Is undef))) (hd : Nat.blt t N = true) (hs : p = true → (b == want) = true → OpP P c ⟨some t, op, ty, pos, af, some (j, want)⟩ (look E) L F)
    (h : JL P ops Q c N rest ((t, VPite (p && (b == want)) F (Is undef)) :: E) L) : JL P ops Q c N (⟨some t, op, ty, pos, af, some (j, want)⟩ :: rest) E L := JL_if rfl hj hl hd hs h
theorem JL_i0 {j : Nat} {want b : Bool} {g : Tmp} {F : VP} (hj : (ops[j]?).bind (·.dst) = some g) (hl : look E g = some (Is (.bool b))) (hd : Nat.blt t N = true) (hs : (b == want) = true → OpP P c ⟨some t, op, ty, pos, af, some (j, want)⟩ (look E) L F)
    (h : JL P ops Q c N rest ((t, VPite (b == want) F (Is undef)) :: E) L) : JL P ops Q c N (⟨some t, op, ty, pos, af, some (j, want)⟩ :: rest) E L := JL_if0 rfl hj hl hd hs h
theorem JL_n {ι : Type} {val : ι → Value} {I : ι → Item} (hd : Nat.blt t N = true) (hs : OpN P c ⟨some t, op, ty, pos, af, none⟩ (look E) L val I) (h : ∀ i, JL P ops Q c N rest ((t, Is (val i)) :: E) (I i :: L)) : JL P ops Q c N (⟨some t, op, ty, pos, af, none⟩ :: rest) E L := JL_op rfl hd hs.toS h
theorem JL_s {ι : Type} {F : ι → VP} {L' : ι → List Item} (hd : Nat.blt t N = true) (hs : OpS P c ⟨some t, op, ty, pos, af, none⟩ (look E) L F L') (h : ∀ i, JL P ops Q c N rest ((t, F i) :: E) (L' i)) : JL P ops Q c N (⟨some t, op, ty, pos, af, none⟩ :: rest) E L := JL_op rfl hd hs h
theorem JL_s0 {L' : List Item} {F : VP} (hs : OpS P c ⟨none, op, ty, pos, af, none⟩ (look E) L (fun _ : Unit => F) (fun _ => L')) (h : JL P ops Q c N rest E L') : JL P ops Q c N (⟨none, op, ty, pos, af, none⟩ :: rest) E L := JL_op rfl rfl hs fun _ => h
variable {nd : List Nat} {k : Nat}
theorem JD_1 {F : VP} (ha : afterB nd ops.size (k + 1) k = true) (hko : ops[k]? = some ⟨some t, op, ty, pos, af, none⟩) (hd : Nat.blt t N = true) (hs : OpP P c ⟨some t, op, ty, pos, af, none⟩ (look E) L F) (h : JD P ops Q c N nd (k + 1) rest ((t, F) :: E) L) : JD P ops Q c N nd k (⟨some t, op, ty, pos, af, none⟩ :: rest) E L := JD_op1 ha hko rfl hd hs h
theorem JD_s {ι : Type} {F : ι → VP} {L' : ι → List Item} (ha : afterB nd ops.size (k + 1) k = true) (hko : ops[k]? = some ⟨some t, op, ty, pos, af, none⟩) (hd : Nat.blt t N = true) (hs : OpS P c ⟨some t, op, ty, pos, af, none⟩ (look E) L F L') (h : ∀ i, JD P ops Q c N nd (k + 1) rest ((t, F i) :: E) (L' i)) : JD P ops Q c N nd k (⟨some t, op, ty, pos, af, none⟩ :: rest) E L := JD_op ha hko rfl hd hs h
theorem JD_s0 {L' : List Item} {F : VP} (ha : afterB nd ops.size (k + 1) k = true) (hko : ops[k]? = some ⟨none, op, ty, pos, af, none⟩) (hs : OpS P c ⟨none, op, ty, pos, af, none⟩ (look E) L (fun _ : Unit => F) (fun _ => L')) (h : JD P ops Q c N nd (k + 1) rest E L') : JD P ops Q c N nd k (⟨none, op, ty, pos, af, none⟩ :: rest) E L := JD_op ha hko rfl rfl hs fun _ => h
variable {n : Nat} {EO : EnvO}
theorem JW_1 {F : VP} (hs : OpP P c ⟨some t, op, ty, pos, af, none⟩ (vals EO) L F) (h : JW P ops Q c N nd (k + 1) n rest ((t, .v F) :: EO) L) : JW P ops Q c N nd k (n + 1) (⟨some t, op, ty, pos, af, none⟩ :: rest) EO L := JW_op rfl hs h
theorem JW_i0 {j : Nat} {want b : Bool} {g : Tmp} {F : VP} (hj : (ops[j]?).bind (·.dst) = some g) (hl : vals EO g = some (Is (.bool b))) (hs : (b == want) = true → OpP P c ⟨some t, op, ty, pos, af, some (j, want)⟩ (vals EO) L F)
    (h : JW P ops Q c N nd (k + 1) n rest ((t, .v (VPite (b == want) F (Is undef))) :: EO) L) : JW P ops Q c N nd k (n + 1) (⟨some t, op, ty, pos, af, some (j, want)⟩ :: rest) EO L := JW_if0 rfl hj hl hs h
end
end
end Go.Proofs.YtfkmbdpnjcgimaaGreat

/- Rules: the elements of a row of one's own, read and written. Own work. -/
namespace Go.Proofs.YtfkmbdpnjcgimaaGreat
open Go.RowKit
set_option linter.unusedVariables false
set_option linter.unusedSimpArgs false
section
variable {P : Program} {c : Ctx} {A : Nat → Option VP} {L : List Item} {d : Option Tmp} {ty : TypeId} {pos : String} {af : Array Edge} {g : Option (Nat × Bool)}
variable {α : Type} {T : Ty α} {xs : List α} {i : Option Addr × Nat} {n : Nat} {e : TypeId}
/-- The address of a cell of a row of one's own. -/
def bpt (i : Option Addr × Nat) (o : Nat) : Value := match i.1 with
  | some a => .pointer (some ⟨a.block, o, none⟩)
  | none => undef
theorem own_buf {φ : Fz} {w : World} {k : Nat} (hm : HP c φ L w) (hL : buf (slV n i) e T xs ∈ L) (hk : k < xs.length) : ∃ gg cap cur, i = (some ⟨gg, 0, none⟩, cap) ∧ n = xs.length ∧ w.heap[gg]? = some (.cells cur e (0, 0)) ∧ xs.length ≤ cap ∧ cap ≤ maxLen ∧ cur.size = cap * T.size ∧
    ∃ flat, cur.toList.take (xs.length * T.size) = flat ∧ Alls φ (xs.flatMap T.cells) flat ∧ ones flat ∧ flat.length = xs.length * T.size := by
  obtain ⟨flat, f1, f2, f3⟩ := buf_owns (hm.mem.items _ hL)
  rcases f3.2 with ⟨_, h0⟩ | ⟨gg, cap, cur, e1, _, e2, e3, e4, e5, e6⟩
  · omega
  · obtain ⟨a, cp⟩ := i
    unfold slV at e1
    injection e1 with e7 e8 e9
    dsimp only at e7 e8 e9
    subst e7 e9
    exact ⟨gg, cp, cur, rfl, e8, e2, e3, e4, e5, flat, e6, f1, f2, f3.1⟩
theorem op_indexBuf {x y : Operand} {t : TypeId} {j : Int} {k : Nat} {q : IntKind} (hx : Ev A L x (Is (slV n i))) (hL : buf (slV n i) e T xs ∈ L) (hy : Ev A L y (Is (.int q j))) (hu : P.underlying t = some (.slice e)) (hs : (P.info? e).map (·.size) = some T.size) (hj : j = k) (hk : k < xs.length) :
    OpP P c ⟨d, .indexAddr t x y, ty, pos, af, g⟩ A L (Is (bpt i (k * T.size))) :=
  opp fun φ a w hm he => by
    have h1 : a.eval x = slV n i := he x (by simp [Op.operands]) _ hx
    have h6 : a.eval y = .int q j := he y (by simp [Op.operands]) _ hy
    obtain ⟨gg, cap, cur, rfl, rfl, _⟩ := own_buf hm hL hk
    refine ⟨_, ?_, rfl⟩
    have h7 : (0 : Int) ≤ j ∧ j < (xs.length : Int) := by omega
    have h8 : j.toNat = k := by omega
    simp only [execOp, h1, h6, slV]
    refine run_val ?_
    simp only [Instr.indexAt, asIntOf, Sem.run_bind, Sem.run_pure, Result.andThen_ok, run_underlying hu, h7, and_self, if_true, run_sizeOf hs, h8, addr_add0, bpt, Nat.zero_add]
theorem op_fieldBuf {s : TypeId} {x : Operand} {f0 o m k : Nat} {fs : Array Field} {f : Field} (hx : Ev A L x (Is (bpt i o))) (hL : buf (slV n i) e T xs ∈ L) (h0 : 0 < xs.length) (hu : P.underlying s = some (.struct fs)) (hf : fs[f0]? = some f) (hn : (P.info? f.type).map (·.size) = some (m + 1)) (hk : f.offset = k) :
    OpP P c ⟨d, .fieldAddr s x f0, ty, pos, af, g⟩ A L (Is (bpt i (o + k))) := by
  subst hk
  exact opp fun φ a w hm he => by
    have h1 : a.eval x = bpt i o := he x (by simp [Op.operands]) _ hx
    obtain ⟨gg, cap, cur, rfl, _⟩ := own_buf hm hL h0
    exact ⟨_, by simp only [execOp, h1, bpt, Sem.run_bind, run_field hu hf hn, Result.andThen_ok, Sem.run_pure, addr_add0], rfl⟩
theorem buf_cell {φ : Fz} {w : World} {gg k j : Nat} {cur : Array Value} {flat : List Value} {x : α} {B : VP} (h1 : w.heap[gg]? = some (.cells cur e (0, 0))) (h2 : cur.toList.take (xs.length * T.size) = flat) (h3 : Alls φ (xs.flatMap T.cells) flat) (hk : xs[k]? = some x) (hB : (T.cells x)[j]? = some B) :
    ∃ u, w.cell? ⟨gg, k * T.size + j, none⟩ = some u ∧ B.ok φ u ∧ flat[k * T.size + j]? = some u := by
  obtain ⟨u, h4, h5⟩ := flat_at (flat := flat) h3 hk hB
  refine ⟨u, ?_, h5, h4⟩
  rw [cell_of_row w gg _ cur e _ h1]
  rw [← h2] at h4
  have hl : k * T.size + j < xs.length * T.size := by
    have := (List.getElem?_eq_some_iff.1 h4).1
    rw [List.length_take] at this; omega
  rw [List.getElem?_take_of_lt hl, Array.getElem?_toList] at h4
  exact h4
theorem op_loadBuf {t : TypeId} {x : Operand} {k j : Nat} {z : α} {B : VP} {D : TypeDesc} (hx : Ev A L x (Is (bpt i (k * T.size + j)))) (hL : buf (slV n i) e T xs ∈ L) (hz : xs[k]? = some z) (hu : P.underlying t = some D) (hD : aggB D = false) (hB : (T.cells z)[j]? = some B) : OpP P c ⟨d, .load t x, ty, pos, af, g⟩ A L B :=
  opp fun φ a w hm he => by
    have h1 : a.eval x = bpt i (k * T.size + j) := he x (by simp [Op.operands]) _ hx
    obtain ⟨gg, cap, cur, rfl, _, e2, _, _, _, flat, e6, e7, _⟩ := own_buf hm hL (List.getElem?_eq_some_iff.1 hz).1
    obtain ⟨u, f1, f2, _⟩ := buf_cell e2 e6 e7 hz hB
    exact ⟨u, by simp only [execOp, h1, bpt]; exact run_val (run_loadOne hu hD f1), f2⟩
theorem op_loadBuf0 {t : TypeId} {x : Operand} {k : Nat} {z : α} {B : VP} {D : TypeDesc} (hx : Ev A L x (Is (bpt i (k * T.size)))) (hL : buf (slV n i) e T xs ∈ L) (hz : xs[k]? = some z) (hu : P.underlying t = some D) (hD : aggB D = false) (hB : (T.cells z)[0]? = some B) : OpP P c ⟨d, .load t x, ty, pos, af, g⟩ A L B :=
  op_loadBuf (j := 0) hx hL hz hu hD hB
theorem flatT_len (ys : List α) : (ys.flatMap T.cells).length = ys.length * T.size := by
  induction ys with
  | nil => simp
  | cons y ys ih => rw [List.flatMap_cons, List.length_append, ih, T.len, List.length_cons, Nat.add_mul]; omega
theorem op_loadBufs {t : TypeId} {x : Operand} {k : Nat} {z : α} {D : TypeDesc} (hx : Ev A L x (Is (bpt i (k * T.size)))) (hL : buf (slV n i) e T xs ∈ L) (hz : xs[k]? = some z) (hu : P.underlying t = some D) (hD : aggB D = true) (hn : (P.info? t).map (·.size) = some T.size) : OpP P c ⟨d, .load t x, ty, pos, af, g⟩ A L (IsAgg (T.cells z)) :=
  opp fun φ a w hm he => by
    have h1 : a.eval x = bpt i (k * T.size) := he x (by simp [Op.operands]) _ hx
    obtain ⟨gg, cap, cur, rfl, _, e2, _, _, _, flat, e6, e7, e8, e9⟩ := own_buf hm hL (List.getElem?_eq_some_iff.1 hz).1
    have hkl := (List.getElem?_eq_some_iff.1 hz).1
    have hlen : (T.cells z).length = T.size := T.len z
    have key : Alls φ (T.cells z) ((flat.drop (k * T.size)).take T.size) := by
      have h2 : (xs.flatMap T.cells).drop (k * T.size) = T.cells z ++ ((xs.drop (k + 1)).flatMap T.cells) := by
        have h3 : xs.flatMap T.cells = (xs.take k).flatMap T.cells ++ (xs.drop k).flatMap T.cells := by
          rw [← List.flatMap_append, List.take_append_drop]
        have h4 : ((xs.take k).flatMap T.cells).length = k * T.size := by
          rw [flatT_len, List.length_take]
          congr 1; omega
        rw [h3, ← h4, List.drop_left, List.drop_eq_getElem_cons hkl, List.flatMap_cons]
        have : xs[k] = z := by rw [List.getElem?_eq_getElem hkl] at hz; exact Option.some.inj hz
        rw [this]
      have h5 := (e7.drop (k * T.size)).take T.size
      rw [h2, ← hlen, List.take_left] at h5
      rw [hlen] at h5; exact h5
    have hl2 : ((flat.drop (k * T.size)).take T.size).length = T.size := by rw [← key.len, hlen]
    have h6 := run_loadAgg (w := w) (b := gg) (o := k * T.size) (vs := (flat.drop (k * T.size)).take T.size) hu hD hn hl2 fun j v hj => by
      rw [List.getElem?_take] at hj
      split at hj
      · rename_i hjt
        rw [List.getElem?_drop] at hj
        rw [cell_of_row w gg _ cur e _ e2]
        rw [← e6] at hj
        have hl : k * T.size + j < xs.length * T.size := by
          have := (List.getElem?_eq_some_iff.1 hj).1
          rw [List.length_take] at this; omega
        rw [List.getElem?_take_of_lt hl, Array.getElem?_toList] at hj
        exact hj
      · cases hj
    exact ⟨_, by simp only [execOp, h1, bpt]; exact run_val h6, ⟨_, rfl, key, e8.sub fun u hu => List.mem_of_mem_drop (List.mem_of_mem_take hu)⟩⟩
theorem ovr_append {As Cs Bs : List VP} {o : Nat} (h : o + Bs.length ≤ Cs.length) (D : List VP) : ovr (As ++ Cs ++ D) (As.length + o) Bs = As ++ ovr Cs o Bs ++ D := by
  induction Bs generalizing Cs o with
  | nil => rfl
  | cons B Bs ih =>
    simp only [List.length_cons] at h
    rw [ovr, ovr]
    have : (As ++ Cs ++ D).set (As.length + o) B = As ++ Cs.set o B ++ D := by
      rw [List.append_assoc, List.set_append_right _ _ (by omega), Nat.add_sub_cancel_left, List.set_append_left _ _ (by omega), List.append_assoc]
    rw [this, Nat.add_assoc, ih (by simp; omega)]
theorem flat_split {k : Nat} {z : α} (hz : xs[k]? = some z) : xs.flatMap T.cells = (xs.take k).flatMap T.cells ++ T.cells z ++ (xs.drop (k + 1)).flatMap T.cells := by
  have hkl := (List.getElem?_eq_some_iff.1 hz).1
  have h3 : xs = xs.take k ++ z :: xs.drop (k + 1) := by
    have : xs[k] = z := by rw [List.getElem?_eq_getElem hkl] at hz; exact Option.some.inj hz
    rw [← this, List.getElem_cons_drop, List.take_append_drop]
  conv => lhs; rw [h3]
  rw [List.flatMap_append, List.flatMap_cons, List.append_assoc]
theorem flat_ovr {k o : Nat} {z z' : α} {Bs : List VP} (hz : xs[k]? = some z) (hB : o + Bs.length ≤ T.size) (hc : T.cells z' = ovr (T.cells z) o Bs) : (xs.set k z').flatMap T.cells = ovr (xs.flatMap T.cells) (k * T.size + o) Bs := by
  have hkl := (List.getElem?_eq_some_iff.1 hz).1
  have h1 : (xs.set k z')[k]? = some z' := by simp [hkl]
  rw [flat_split h1, flat_split hz, hc]
  have h2 : ((xs.take k).flatMap T.cells).length = k * T.size := by rw [flatT_len, List.length_take]; congr 1; omega
  rw [← h2, ovr_append (by rw [T.len]; exact hB)]
  congr 2
  · rw [List.take_set, List.set_eq_of_length_le (by simp; omega)]
  · rw [List.drop_set]; simp
theorem op_storeBuf {t : TypeId} {x y : Operand} {k o m : Nat} {z z' : α} {D : VP} {Bs : List VP} {L' : List Item} (hx : Ev A L x (Is (bpt i (k * T.size + o)))) (hy : Ev A L y D) (hD : CellsOf D Bs) (hr : Repl L (buf (slV n i) e T xs) (buf (slV n i) e T (xs.set k z')) L') (hz : xs[k]? = some z)
    (hn : (P.info? t).map (·.size) = some m) (hB : (Nat.beq Bs.length m && Nat.ble (o + m) T.size) = true) (hc : T.cells z' = ovr (T.cells z) o Bs) : OpS P c ⟨d, .store t x y, ty, pos, af, g⟩ A L (fun _ : Unit => Is undef) (fun _ => L') := by
  intro φ a w K Q hm he hk
  have h1 : a.eval x = bpt i (k * T.size + o) := he x (by simp [Op.operands]) _ hx
  obtain ⟨us, h2, h3, h4⟩ := hD φ _ (he y (by simp [Op.operands]) _ hy)
  simp only [Bool.and_eq_true] at hB
  have b1 := Nat.eq_of_beq_eq_true hB.1
  have b2 := Nat.le_of_ble_eq_true hB.2
  have hkl := (List.getElem?_eq_some_iff.1 hz).1
  obtain ⟨gg, cap, cur, rfl, rfl, e2, e3, e4, e5, flat, e6, e7, e8, e9⟩ := own_buf hm hr.mem hkl
  have l1 := h3.len
  have hmul : (k + 1) * T.size ≤ xs.length * T.size := Nat.mul_le_mul_right _ hkl
  have hmul2 : xs.length * T.size ≤ cap * T.size := Nat.mul_le_mul_right _ e3
  rw [Nat.add_mul, Nat.one_mul] at hmul
  have hst := run_storeCells_at (P := P) gg (k * T.size + o) e us 0 cur w e2 (by omega) h4
  simp only [Nat.add_zero] at hst
  have hrun : (execOp a.eval ⟨d, .store t x y, ty, pos, af, g⟩).run P w = .ok .skip (w.setRow gg (cur.toList.take (k * T.size + o) ++ us ++ cur.toList.drop (k * T.size + o + us.length)).toArray) := by
    simp only [execOp, h1, bpt, Instr.storeAt, Instr.sureAddr, Sem.run_bind, Sem.run_pure, Result.andThen_ok, storeVar, run_sizeOf hn, h2]
    rw [if_neg (by simp; omega)]
    rw [hst]; rfl
  unfold Oper.wp
  rw [hrun]
  have hup := hm.upd hr (setRow_kpt (names [buf (slV xs.length (some ⟨gg, 0, none⟩, cap)) e T xs]) w gg (cur.toList.take (k * T.size + o) ++ us ++ cur.toList.drop (k * T.size + o + us.length)).toArray (by simp [names, buf, slV, Value.ownBlock])) ?_ (fun b' hb' => .inr hb')
  · exact hk () φ undef _ Fle.rfl' rfl hup
  refine ⟨⟨flat.take (k * T.size + o) ++ us ++ flat.drop (k * T.size + o + us.length), ?_, ?_, ?_, ?_⟩, fun b' hb' => ?_⟩
  · simp only [List.length_append, List.length_take, List.length_drop, List.length_set]; omega
  · rw [flat_ovr hz (by omega) hc, ovr_get _ _ _ (by rw [flatT_len]; omega), l1]
    exact ((e7.take _).append h3).append (e7.drop _)
  · intro u hu
    simp only [List.mem_append] at hu
    rcases hu with (hu | hu) | hu
    · exact e8 u (List.mem_of_mem_take hu)
    · exact h4 u hu
    · exact e8 u (List.mem_of_mem_drop hu)
  · rw [List.length_set]
    refine .inr ⟨gg, cap, (cur.toList.take (k * T.size + o) ++ us ++ cur.toList.drop (k * T.size + o + us.length)).toArray, rfl, ?_, e3, e4, ?_, ?_⟩
    · simp only [buf, slV, Value.ownBlock, Option.bind_some]
      exact setRow_heap w gg _ _ _ _ e2
    · simp only [List.size_toArray, List.length_append, List.length_take, List.length_drop, Array.length_toList]; omega
    · rw [← e6]
      simp only [List.take_append, List.take_take, List.drop_take, List.length_take, List.length_append, Array.length_toList]
      have q1 : min (xs.length * T.size) (k * T.size + o) = k * T.size + o := by omega
      have q2 : min (k * T.size + o) (xs.length * T.size) = k * T.size + o := by omega
      have q3 : min (k * T.size + o) cur.size = k * T.size + o := by omega
      rw [q1, q2, q3, List.take_of_length_le (l := us) (by omega)]
  · have := (hm.mem.items _ hr.mem).2 b' hb'
    exact ⟨by simp [World.setRow]; exact this.1, this.2⟩
theorem op_storeBuf0 {t : TypeId} {x y : Operand} {k m : Nat} {z z' : α} {D : VP} {Bs : List VP} {L' : List Item} (hx : Ev A L x (Is (bpt i (k * T.size)))) (hy : Ev A L y D) (hD : CellsOf D Bs) (hr : Repl L (buf (slV n i) e T xs) (buf (slV n i) e T (xs.set k z')) L') (hz : xs[k]? = some z)
    (hn : (P.info? t).map (·.size) = some m) (hB : (Nat.beq Bs.length m && Nat.ble m T.size) = true) (hc : T.cells z' = ovr (T.cells z) 0 Bs) : OpS P c ⟨d, .store t x y, ty, pos, af, g⟩ A L (fun _ : Unit => Is undef) (fun _ => L') :=
  op_storeBuf (o := 0) hx hy hD hr hz hn (by simpa using hB) hc
end
end Go.Proofs.YtfkmbdpnjcgimaaGreat
