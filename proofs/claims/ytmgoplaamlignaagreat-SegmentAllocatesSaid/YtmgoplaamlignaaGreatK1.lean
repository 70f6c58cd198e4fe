/- Texts laid together: walks of functions, what they compute, and plain laws of it. Own work. -/
import Derived.Test.YtmgoplaamlignaaGreatChecked
import Derived.WalkKit
import Derived.WalkSpells
import Derived.WalkLawsBesides
import Derived.Lib.Hide
import Derived.Below
import Derived.Deep.LoopGhost
import Derived.Deep.Quiet
import Derived.StillTail
namespace Go.Proofs.YtmgoplaamlignaaGreat
open Go.RowKit Tryz
set_option linter.unusedVariables false
set_option linter.unusedSimpArgs false
set_option maxRecDepth 100000
set_option maxHeartbeats 4000000
theorem rf {α : Sort _} {a b : α} (h : a = b := by rfl) : a = b := h
def UV {n:Nat} (x:BitVec n):Int:=(x.toNat:Int)
theorem qbj {n:Nat} (x:BitVec n):0≤UV x:=Int.natCast_nonneg _
theorem UV_lt {n:Nat} (x:BitVec n):UV x<2 ^ n:=by
 unfold UV;have:=x.isLt;exact_mod_cast this
@[go_sem] theorem qug {n:Nat} (a b:BitVec n):(UV a=UV b)=(a=b):=by
 unfold UV
 apply propext
 constructor
 ·intro h;apply BitVec.eq_of_toNat_eq;exact_mod_cast h
 ·intro h;rw [h]
@[go_sem] theorem UV_beq {n:Nat} (a b:BitVec n):(UV a==UV b)=(a==b):=by
 rw [Bool.eq_iff_iff];simp [qug]
@[go_sem] theorem UV_bne {n:Nat} (a b:BitVec n):(UV a != UV b)=(a != b):=by
 rw [bne,bne,UV_beq]
@[go_sem] theorem UV_ltd {n:Nat} (a b:BitVec n):(UV a<UV b)=(a<b):=by
 unfold UV;simp [BitVec.lt_def]
@[go_sem] theorem UV_led {n:Nat} (a b:BitVec n):(UV a≤UV b)=(a≤b):=by
 unfold UV;simp [BitVec.le_def]
theorem qsa {w n:Nat} (h:n<2 ^ w):UV (BitVec.ofNat w n)=(n:Int):=by
 unfold UV;rw [BitVec.toNat_ofNat,Nat.mod_eq_of_lt h]
@[go_sem] theorem lit_u64 (n:Nat) (h:n<18446744073709551616):Value.int .u64 (no_index (OfNat.ofNat n))=Value.int .u64 (UV (BitVec.ofNat 64 n)):=by
 rw [qsa h];rfl
@[go_sem] theorem lit_u32 (n:Nat) (h:n<4294967296):Value.int .u32 (no_index (OfNat.ofNat n))=Value.int .u32 (UV (BitVec.ofNat 32 n)):=by
 rw [qsa h];rfl
@[go_sem] theorem lit_u8 (n:Nat) (h:n<256):Value.int .u8 (no_index (OfNat.ofNat n))=Value.int .u8 (UV (BitVec.ofNat 8 n)):=by
 rw [qsa h];rfl
theorem bv64 (a:BitVec 64):a.toNat<18446744073709551616:=a.isLt
theorem zcn (a:BitVec 32):a.toNat<4294967296:=a.isLt
theorem bv8 (a:BitVec 8):a.toNat<256:=a.isLt
theorem qjw {w:Nat} (a:BitVec w):BitVec.ofInt w (UV a)=a:=by
 unfold UV;rw [BitVec.ofInt_natCast];simp
@[go_sem high] theorem zct (a b:BitVec 64):Op.intBits .and .u64 (UV a) (UV b)=pure (.int .u64 (UV (a&&&b))):=by
 rw [intBits_and];congr 2;unfold UV;rw [u64_and_nat _ _ (bv64 a) (bv64 b),BitVec.toNat_and]
@[go_sem high] theorem za0 (a b:BitVec 64):Op.intBits .or .u64 (UV a) (UV b)=pure (.int .u64 (UV (a|||b))):=by
 rw [intBits_or];congr 2;unfold UV;rw [u64_or_nat _ _ (bv64 a) (bv64 b),BitVec.toNat_or]
@[go_sem high] theorem quu (a b:BitVec 64):Op.intBits .xor .u64 (UV a) (UV b)=pure (.int .u64 (UV (a ^^^ b))):=by
 rw [intBits_xor];congr 2;unfold UV;rw [u64_xor_nat _ _ (bv64 a) (bv64 b),BitVec.toNat_xor]
theorem qc7 (n:Int):IntKind.u64.wrap n=n % 18446744073709551616:=by simp [IntKind.wrap,IntKind.bits,IntKind.signed]
theorem qd3 (n:Int):IntKind.u32.wrap n=n % 4294967296:=by simp [IntKind.wrap,IntKind.bits,IntKind.signed]
theorem qkg (n:Int):IntKind.u8.wrap n=n % 256:=by simp [IntKind.wrap,IntKind.bits,IntKind.signed]
theorem qk4 (a:BitVec 64):IntKind.u64.wrap (a.toNat:Int)=(a.toNat:Int):=by
 rw [qc7];have:=bv64 a;omega
theorem qno (a:BitVec 32):IntKind.u32.wrap (a.toNat:Int)=(a.toNat:Int):=by
 rw [qd3];have:=zcn a;omega
theorem wrap_UV8 (a:BitVec 8):IntKind.u8.wrap (a.toNat:Int)=(a.toNat:Int):=by
 rw [qkg];have:=bv8 a;omega
@[go_sem high] theorem qp9 (a b:BitVec 64):Op.intBits .andNot .u64 (UV a) (UV b)=pure (.int .u64 (UV (a &&& ~~~b))):=by
 rw [intBits_andNot];congr 2
 show IntKind.u64.wrap ((BitVec.ofInt 64 (UV a) &&& ~~~ BitVec.ofInt 64 (UV b)).toNat:Int)=_
 rw [qjw,qjw,qk4];rfl
@[go_sem high] theorem not_u64 (b:BitVec 64):Op.intBits .xor .u64 IntKind.u64.max (UV b)=pure (.int .u64 (UV (~~~b))):=by
 rw [intBits_xor];congr 2
 show IntKind.u64.wrap ((BitVec.ofInt 64 18446744073709551615 ^^^ BitVec.ofInt 64 (UV b)).toNat:Int)=_
 rw [qjw,qk4]
 have h:(BitVec.ofInt 64 18446744073709551615 ^^^ b) = ~~~ b:=by
  have:BitVec.ofInt 64 18446744073709551615=BitVec.allOnes 64:=by decide
  rw [this,BitVec.allOnes_xor]
 rw [h];rfl
@[go_sem high] theorem unary_not_u64 (b:BitVec 64):Op.unary .xor (.int .u64 (UV b))=pure (.int .u64 (UV (~~~b))):=not_u64 b
@[go_sem high] theorem and_u8 (a b:BitVec 8):Op.intBits .and .u8 (UV a) (UV b)=pure (.int .u8 (UV (a&&&b))):=by
 rw [intBits_and];congr 2;unfold UV;rw [u8_and_nat _ _ (bv8 a) (bv8 b),BitVec.toNat_and]
@[go_sem high] theorem or_u8 (a b:BitVec 8):Op.intBits .or .u8 (UV a) (UV b)=pure (.int .u8 (UV (a|||b))):=by
 rw [intBits_or];congr 2;unfold UV;rw [u8_or_nat _ _ (bv8 a) (bv8 b),BitVec.toNat_or]
@[go_sem high] theorem xor_u8 (a b:BitVec 8):Op.intBits .xor .u8 (UV a) (UV b)=pure (.int .u8 (UV (a ^^^ b))):=by
 rw [intBits_xor];congr 2;unfold UV;rw [u8_xor_nat _ _ (bv8 a) (bv8 b),BitVec.toNat_xor]
@[go_sem high] theorem zcu (a b:BitVec 32):Op.intBits .and .u32 (UV a) (UV b)=pure (.int .u32 (UV (a&&&b))):=by
 rw [intBits_and];congr 2;unfold UV;rw [u32_and_nat _ _ (zcn a) (zcn b),BitVec.toNat_and]
@[go_sem high] theorem or_u32 (a b:BitVec 32):Op.intBits .or .u32 (UV a) (UV b)=pure (.int .u32 (UV (a|||b))):=by
 rw [intBits_or];congr 2;unfold UV;rw [u32_or_nat _ _ (zcn a) (zcn b),BitVec.toNat_or]
@[go_sem high] theorem qzj (a b:BitVec 32):Op.intBits .xor .u32 (UV a) (UV b)=pure (.int .u32 (UV (a ^^^ b))):=by
 rw [intBits_xor];congr 2;unfold UV;rw [u32_xor_nat _ _ (zcn a) (zcn b),BitVec.toNat_xor]
@[go_sem high] theorem qop (t:TypeId) (a b:BitVec 64):binOp .add t (.int .u64 (UV a)) (.int .u64 (UV b))=pure (.int .u64 (UV (a+b))):=by
 rw [binOp_add]
 show (pure (.int .u64 (IntKind.u64.wrap (UV a+UV b))):Sem Value)=_
 refine congrArg (fun n=>(pure (Value.int _ n):Sem Value)) ?_;rw [qc7];unfold UV;rw [BitVec.toNat_add];omega
@[go_sem high] theorem qz4 (t:TypeId) (a b:BitVec 64):binOp .sub t (.int .u64 (UV a)) (.int .u64 (UV b))=pure (.int .u64 (UV (a-b))):=by
 rw [binOp_sub]
 show (pure (.int .u64 (IntKind.u64.wrap (UV a-UV b))):Sem Value)=_
 congr 2;rw [qc7];unfold UV;rw [BitVec.toNat_sub];have:=bv64 a;have:=bv64 b;omega
@[go_sem high] theorem zbd (t:TypeId) (a b:BitVec 64):binOp .mul t (.int .u64 (UV a)) (.int .u64 (UV b))=pure (.int .u64 (UV (a*b))):=by
 rw [binOp_mul]
 show (pure (.int .u64 (IntKind.u64.wrap (UV a*UV b))):Sem Value)=_
 refine congrArg (fun n=>(pure (Value.int _ n):Sem Value)) ?_;rw [qc7];unfold UV;rw [BitVec.toNat_mul,Int.natCast_emod,Int.natCast_mul];rfl
@[go_sem high] theorem zcv (t:TypeId) (a b:BitVec 32):binOp .add t (.int .u32 (UV a)) (.int .u32 (UV b))=pure (.int .u32 (UV (a+b))):=by
 rw [binOp_add]
 show (pure (.int .u32 (IntKind.u32.wrap (UV a+UV b))):Sem Value)=_
 refine congrArg (fun n=>(pure (Value.int _ n):Sem Value)) ?_;rw [qd3];unfold UV;rw [BitVec.toNat_add];omega
@[go_sem high] theorem qz5 (t:TypeId) (a b:BitVec 32):binOp .sub t (.int .u32 (UV a)) (.int .u32 (UV b))=pure (.int .u32 (UV (a-b))):=by
 rw [binOp_sub]
 show (pure (.int .u32 (IntKind.u32.wrap (UV a-UV b))):Sem Value)=_
 congr 2;rw [qd3];unfold UV;rw [BitVec.toNat_sub];have:=zcn a;have:=zcn b;omega
@[go_sem high] theorem zbe (t:TypeId) (a b:BitVec 32):binOp .mul t (.int .u32 (UV a)) (.int .u32 (UV b))=pure (.int .u32 (UV (a*b))):=by
 rw [binOp_mul]
 show (pure (.int .u32 (IntKind.u32.wrap (UV a*UV b))):Sem Value)=_
 refine congrArg (fun n=>(pure (Value.int _ n):Sem Value)) ?_;rw [qd3];unfold UV;rw [BitVec.toNat_mul,Int.natCast_emod,Int.natCast_mul];rfl
theorem zc1 {w:Nat} (a b:BitVec w):(UV a).tdiv (UV b)=UV (a / b):=by
 unfold UV;rw [BitVec.toNat_udiv,Int.tdiv_eq_ediv_of_nonneg (Int.natCast_nonneg _)];rfl
theorem zc0 {w:Nat} (a b:BitVec w):(UV a).tmod (UV b)=UV (a % b):=by
 unfold UV;rw [BitVec.toNat_umod,Int.tmod_eq_emod_of_nonneg (Int.natCast_nonneg _)];rfl
theorem qr9 {w:Nat} (b:BitVec w) (h:b≠0#w):UV b≠0:=by
 intro h2;apply h;apply BitVec.eq_of_toNat_eq;unfold UV at h2;simp;omega
@[go_sem high] theorem quo_u64 (t:TypeId) (a b:BitVec 64) (h:b≠0#64):binOp .quo t (.int .u64 (UV a)) (.int .u64 (UV b))=pure (.int .u64 (UV (a / b))):=by
 rw [binOp_quo];unfold Op.intDiv;rw [if_neg (qr9 b h)];simp only [zc1];congr 2;exact qk4 _
@[go_sem high] theorem rem_u64 (t:TypeId) (a b:BitVec 64) (h:b≠0#64):binOp .rem t (.int .u64 (UV a)) (.int .u64 (UV b))=pure (.int .u64 (UV (a % b))):=by
 rw [binOp_rem];unfold Op.intDiv;rw [if_neg (qr9 b h)];simp only [zc0]
@[go_sem high] theorem quo_u32 (t:TypeId) (a b:BitVec 32) (h:b≠0#32):binOp .quo t (.int .u32 (UV a)) (.int .u32 (UV b))=pure (.int .u32 (UV (a / b))):=by
 rw [binOp_quo];unfold Op.intDiv;rw [if_neg (qr9 b h)];simp only [zc1];congr 2;exact qno _
@[go_sem high] theorem rem_u32 (t:TypeId) (a b:BitVec 32) (h:b≠0#32):binOp .rem t (.int .u32 (UV a)) (.int .u32 (UV b))=pure (.int .u32 (UV (a % b))):=by
 rw [binOp_rem];unfold Op.intDiv;rw [if_neg (qr9 b h)];simp only [zc0]
theorem quf {w:Nat} (b:BitVec w):¬ UV b<0:=by have:=qbj b;omega
theorem qsw {w:Nat} (a:BitVec w) (n:Nat):(UV a).fdiv (2 ^ min n w)=UV (a>>>n):=by
 unfold UV
 rw [BitVec.toNat_ushiftRight,Nat.shiftRight_eq_div_pow]
 have h0:(0:Int)≤2 ^ min n w:=Int.pow_nonneg (by omega)
 rw [Int.fdiv_eq_ediv_of_nonneg _ h0]
 by_cases h:n≤w
 ·rw [Nat.min_eq_left h];norm_cast
 ·rw [Nat.min_eq_right (by omega)]
  have h1:=a.isLt
  have h2:a.toNat<2 ^ n:=Nat.lt_of_lt_of_le h1 (Nat.pow_le_pow_right (by omega) (by omega))
  rw [Nat.div_eq_of_lt h2]
  have h3:((a.toNat:Int)) / ((2 ^ w:Nat):Int)=0:=Int.ediv_eq_zero_of_lt (by omega) (by exact_mod_cast h1)
  exact_mod_cast h3
theorem qwb {w:Nat} (a:BitVec w) (n:Nat):(UV a*2 ^ min n w) % (2 ^ w:Nat)=UV (a<<<n):=by
 unfold UV
 rw [BitVec.toNat_shiftLeft,Nat.shiftLeft_eq]
 by_cases h:n≤w
 ·rw [Nat.min_eq_left h];norm_cast
 ·rw [Nat.min_eq_right (by omega)]
  have h1:a.toNat*2 ^ n % 2 ^ w=0:=by
   have:n=(n-w)+w:=by omega
   rw [this,Nat.pow_add,← Nat.mul_assoc,Nat.mul_mod_left]
  rw [h1]
  have h2:a.toNat*2 ^ w % 2 ^ w=0:=Nat.mul_mod_left _ _
  exact_mod_cast h2
theorem qtd (n:Int):((BitVec.ofInt 64 n).toNat:Int)=n % 18446744073709551616:=by
 rw [BitVec.toNat_ofInt]
 have h:0≤n % ((2 ^ 64:Nat):Int):=Int.emod_nonneg _ (by decide)
 omega
def shf {w:Nat} (b:BitVec w):Nat:=b.toNat
@[go_sem] theorem shf_lit (n:Nat) (h:n<18446744073709551616):shf (BitVec.ofNat 64 (no_index (OfNat.ofNat n)))=OfNat.ofNat n:=by
 unfold shf;rw [BitVec.toNat_ofNat];exact Nat.mod_eq_of_lt h
@[go_sem] theorem shf_nat (n:Nat) (h:n≤64):shf (BitVec.ofNat 64 n)=n:=by
 unfold shf;rw [BitVec.toNat_ofNat];exact Nat.mod_eq_of_lt (by omega)
@[go_sem] theorem shf_int (n:Int) (h0:0≤n) (h:n≤64):shf (BitVec.ofInt 64 n)=n.toNat:=by
 unfold shf
 have h1:=qtd n
 omega
theorem qk6 {w:Nat} (b:BitVec w):(UV b).toNat=b.toNat:=rfl
@[go_sem high] theorem shr_u64 {w:Nat} (a:BitVec 64) (b:BitVec w) (k:IntKind):Op.shift .shr .u64 (UV a) k (UV b)=pure (.int .u64 (UV (a>>>shf b))):=by
 unfold Op.shift;rw [if_neg (quf b)];simp only [qk6];congr 2;exact qsw a b.toNat
@[go_sem high] theorem shr_u32 {w:Nat} (a:BitVec 32) (b:BitVec w) (k:IntKind):Op.shift .shr .u32 (UV a) k (UV b)=pure (.int .u32 (UV (a>>>shf b))):=by
 unfold Op.shift;rw [if_neg (quf b)];simp only [qk6];congr 2;exact qsw a b.toNat
@[go_sem high] theorem shr_u8 {w:Nat} (a:BitVec 8) (b:BitVec w) (k:IntKind):Op.shift .shr .u8 (UV a) k (UV b)=pure (.int .u8 (UV (a>>>shf b))):=by
 unfold Op.shift;rw [if_neg (quf b)];simp only [qk6];congr 2;exact qsw a b.toNat
@[go_sem high] theorem shl_u64 {w:Nat} (a:BitVec 64) (b:BitVec w) (k:IntKind):Op.shift .shl .u64 (UV a) k (UV b)=pure (.int .u64 (UV (a<<<shf b))):=by
 unfold Op.shift;rw [if_neg (quf b)];simp only [qk6];congr 2;rw [qc7];exact qwb a b.toNat
@[go_sem high] theorem shl_u32 {w:Nat} (a:BitVec 32) (b:BitVec w) (k:IntKind):Op.shift .shl .u32 (UV a) k (UV b)=pure (.int .u32 (UV (a<<<shf b))):=by
 unfold Op.shift;rw [if_neg (quf b)];simp only [qk6];congr 2;rw [qd3];exact qwb a b.toNat
@[go_sem] theorem qzu (a:BitVec 64):IntKind.u64.wrap (UV a)=UV a:=qk4 a
@[go_sem] theorem qzx (a:BitVec 32):IntKind.u32.wrap (UV a)=UV a:=qno a
@[go_sem] theorem to_u8_8 (a:BitVec 8):IntKind.u8.wrap (UV a)=UV a:=wrap_UV8 a
@[go_sem] theorem to_u64_8 (a:BitVec 8):IntKind.u64.wrap (UV a)=UV (a.setWidth 64):=by
 rw [qc7];unfold UV;rw [BitVec.toNat_setWidth];have:=bv8 a;omega
@[go_sem] theorem qzv (a:BitVec 32):IntKind.u64.wrap (UV a)=UV (a.setWidth 64):=by
 rw [qc7];unfold UV;rw [BitVec.toNat_setWidth];have:=zcn a;omega
@[go_sem] theorem to_u8_64 (a:BitVec 64):IntKind.u8.wrap (UV a)=UV (a.setWidth 8):=by
 rw [qkg];unfold UV;rw [BitVec.toNat_setWidth];omega
@[go_sem] theorem qzw (a:BitVec 64):IntKind.u32.wrap (UV a)=UV (a.setWidth 32):=by
 rw [qd3];unfold UV;rw [BitVec.toNat_setWidth];omega
theorem qkm (w:Nat) (n:Int):((BitVec.ofInt w n).toNat:Int)=n % (2 ^ w:Nat):=by
 rw [BitVec.toNat_ofInt]
 have h:0≤n % ((2 ^ w:Nat):Int):=Int.emod_nonneg _ (by have:=Nat.two_pow_pos w;omega)
 omega
@[go_sem low] theorem qhs (n:Int):IntKind.u64.wrap n=UV (BitVec.ofInt 64 n):=by
 rw [qc7];unfold UV;rw [qkm];rfl
@[go_sem low] theorem qx8 (n:Int):IntKind.u32.wrap n=UV (BitVec.ofInt 32 n):=by
 rw [qd3];unfold UV;rw [qkm];rfl
@[go_sem low] theorem qsp (n:Int):IntKind.u8.wrap n=UV (BitVec.ofInt 8 n):=by
 rw [qkg];unfold UV;rw [qkm];rfl
def I64 (a:BitVec 64):Int:=a.toInt
@[go_sem] theorem qzy (a:BitVec 64):IntKind.i64.wrap (UV a)=I64 a:=by
 unfold I64
 rw [IntKind.wrap_i64];unfold UV;rw [BitVec.toInt_eq_toNat_cond];have:=bv64 a;split <;> omega
@[go_sem] theorem qzz (a:BitVec 32):IntKind.i64.wrap (UV a)=UV a:=by
 rw [IntKind.wrap_i64];unfold UV;have:=zcn a;omega
@[go_sem] theorem to_i64_8 (a:BitVec 8):IntKind.i64.wrap (UV a)=UV a:=by
 rw [IntKind.wrap_i64];unfold UV;have:=bv8 a;omega
abbrev Fz:=Nat→Nat→Option Value
def Fle (φ φ':Fz):Prop:=∀ b i v,φ b i=some v→φ' b i=some v
theorem Fle.rfl' {φ:Fz}:Fle φ φ:=fun _ _ _ h=>h
theorem Fle.tr {φ φ' φ'':Fz} (h:Fle φ φ') (h':Fle φ' φ''):Fle φ φ'':=fun b i v e=>h' b i v (h b i v e)
structure VP where
 ok:Fz→Value→Prop
 mono:∀ {φ φ':Fz} {v:Value},Fle φ φ'→ok φ v→ok φ' v
def Alls (φ:Fz):List VP→List Value→Prop
 | [],[]=>True
 | A :: As,v :: vs=>A.ok φ v∧Alls φ As vs
 | _,_=>False
theorem Alls.mono {φ φ':Fz} (h:Fle φ φ'):∀ {As:List VP} {vs:List Value},Alls φ As vs→Alls φ' As vs
 | [],[],_=>trivial
 | A :: As,v :: vs,⟨h1,h2⟩=>⟨A.mono h h1,Alls.mono h h2⟩
theorem Alls.len {φ:Fz}:∀ {As:List VP} {vs:List Value},Alls φ As vs→As.length=vs.length
 | [],[],_=>rfl
 | A :: As,v :: vs,⟨_,h2⟩=>by simp [Alls.len h2]
theorem Alls.get {φ:Fz}:∀ {As:List VP} {vs:List Value} {j:Nat} {A:VP},Alls φ As vs→As[j]?=some A→∃ v,vs[j]?=some v∧A.ok φ v
 | [],[],_,_,_,h=>by simp at h
 | A :: As,v :: vs,0,B,⟨h1,_⟩,h=>by simp at h;subst h;exact ⟨v,rfl,h1⟩
 | A :: As,v :: vs,j+1,B,⟨_,h2⟩,h=>by
  obtain ⟨u,h3,h4⟩:=Alls.get h2 (by simpa using h)
  exact ⟨u,by simpa using h3,h4⟩
theorem Alls.set {φ:Fz}:∀ {As:List VP} {vs:List Value} (j:Nat) {A:VP} {v:Value},Alls φ As vs→A.ok φ v→Alls φ (As.set j A) (vs.set j v)
 | [],[],_,_,_,_,_=>trivial
 | A :: As,v :: vs,0,B,u,⟨_,h2⟩,h=>⟨h,h2⟩
 | A :: As,v :: vs,j+1,B,u,⟨h1,h2⟩,h=>⟨h1,Alls.set j h2 h⟩
theorem Alls.append {φ:Fz}:∀ {As:List VP} {vs:List Value} {Bs:List VP} {us:List Value},Alls φ As vs→Alls φ Bs us→Alls φ (As++Bs) (vs++us)
 | [],[],_,_,_,h=>h
 | A :: As,v :: vs,_,_,⟨h1,h2⟩,h=>⟨h1,Alls.append h2 h⟩
theorem Alls.take {φ:Fz}:∀ {As:List VP} {vs:List Value} (n:Nat),Alls φ As vs→Alls φ (As.take n) (vs.take n)
 | [],[],n,_=>by simp [Alls]
 | A :: As,v :: vs,0,_=>trivial
 | A :: As,v :: vs,n+1,⟨h1,h2⟩=>⟨h1,Alls.take n h2⟩
theorem Alls.drop {φ:Fz}:∀ {As:List VP} {vs:List Value} (n:Nat),Alls φ As vs→Alls φ (As.drop n) (vs.drop n)
 | [],[],n,_=>by simp [Alls]
 | A :: As,v :: vs,0,h=>h
 | A :: As,v :: vs,n+1,⟨_,h2⟩=>Alls.drop n h2
def Sub (A B:VP):Prop:=∀ φ v,A.ok φ v→B.ok φ v
theorem Sub.rfl' {A:VP}:Sub A A:=fun _ _ h=>h
theorem Sub.tr {A B C:VP} (h:Sub A B) (h':Sub B C):Sub A C:=fun φ v e=>h' φ v (h φ v e)
def Subs:List VP→List VP→Prop
 | [],[]=>True
 | A :: As,B :: Bs=>Sub A B∧Subs As Bs
 | _,_=>False
theorem Subs.rfl':∀ {As:List VP},Subs As As
 | []=>trivial
 | _ :: _=>⟨Sub.rfl',Subs.rfl'⟩
theorem Subs.alls {φ:Fz}:∀ {As Bs:List VP} {vs:List Value},Subs As Bs→Alls φ As vs→Alls φ Bs vs
 | [],[],[],_,_=>trivial
 | A :: As,B :: Bs,v :: vs,⟨h1,h2⟩,⟨h3,h4⟩=>⟨h1 _ _ h3,Subs.alls h2 h4⟩
def ones (vs:List Value):Prop:=∀ u,u∈vs→u.oneCell'=true
theorem qf3:ones []:=fun u h=>by cases h
theorem qi5 {v:Value} {vs:List Value} (h:v.oneCell'=true) (k:ones vs):ones (v :: vs):=fun u hu=>by
 rcases List.mem_cons.1 hu with rfl|hu
 ·exact h
 ·exact k u hu
theorem ones.sub {vs us:List Value} (h:ones vs) (k:∀ u,u∈us→u∈vs):ones us:=fun u hu=>h u (k u hu)
def Is (u:Value):VP:=⟨fun _ v=>v=u,fun _ h=>h⟩
def IsAgg (As:List VP):VP:=⟨fun φ v=>∃ vs:List Value,v = .agg vs.toArray∧Alls φ As vs∧ones vs,fun h ⟨vs,e,k,k1⟩=>⟨vs,e,k.mono h,k1⟩⟩
def qbv (As:List VP):VP:=⟨fun φ v=>∃ vs:List Value,v = .tuple vs.toArray∧Alls φ As vs,fun h ⟨vs,e,k⟩=>⟨vs,e,k.mono h⟩⟩
def Top:VP:=⟨fun _ _=>True,fun _ h=>h⟩
def qdn (b:Bool) (A B:VP):VP:=⟨fun φ v=>if b then A.ok φ v else B.ok φ v,fun h k=>by
 cases b
 ·exact B.mono h k
 ·exact A.mono h k⟩
def RefAt (φ:Fz) (b o:Nat) (As:List VP):Prop:=∀ j A,As[j]?=some A→∃ u,φ b (o+j)=some u∧A.ok φ u∧u.oneCell'=true
theorem RefAt.mono {φ φ':Fz} {b o:Nat} {As:List VP} (h:Fle φ φ') (k:RefAt φ b o As):RefAt φ' b o As:=fun j A e =>
 let ⟨u,h1,h2,h3⟩:=k j A e
 ⟨u,h _ _ _ h1,A.mono h h2,h3⟩
def qdo (As:List VP):VP:=⟨fun φ v=>∃ b o,v = .pointer (some ⟨b,o,none⟩)∧RefAt φ b o As,fun h ⟨b,o,e,k⟩=>⟨b,o,e,k.mono h⟩⟩
structure Ty (α:Type) where
 size:Nat
 cells:α→List VP
 len:∀ x,(cells x).length=size
def SlAt {α:Type} (T:Ty α) (φ:Fz) (a:Option Addr) (n c:Nat) (xs:List α):Prop:=
 n=xs.length∧n≤c∧c≤maxLen∧(n=0∨∃ b o,a=some ⟨b,o,none⟩∧∀ k x,xs[k]?=some x→RefAt φ b (o+k*T.size) (T.cells x))
def qal {α:Type} (T:Ty α) (xs:List α):VP:=⟨fun φ v=>∃ a n c,v = .slice a n c∧SlAt T φ a n c xs,fun h ⟨a,n,c,e,h1,h2,h3,h4⟩=>by
 refine ⟨a,n,c,e,h1,h2,h3,?_⟩
 rcases h4 with h4|⟨b,o,h5,h6⟩
 ·exact .inl h4
 ·exact .inr ⟨b,o,h5,fun k x hx=>(h6 k x hx).mono h⟩⟩
structure Item where
 at_:Option Nat
 ok:Fz→Option Obj→Prop
 mono:∀ {φ φ':Fz} {o:Option Obj},Fle φ φ'→ok φ o→ok φ' o
def Item.here (it:Item) (φ:Fz) (w:World):Prop:=it.ok φ (it.at_.bind fun b=>w.heap[b]?)∧∀ b,it.at_=some b→b<w.heap.size∧∀ i,φ b i=none
def Apart (x y:Item):Prop:=∀ b,x.at_=some b→y.at_≠some b
def qb4 (L:List Item):List Nat:=L.filterMap Item.at_
theorem mem_names {L:List Item} {b:Nat}:b∈qb4 L↔∃ it,it∈L∧it.at_=some b:=by simp [qb4,List.mem_filterMap]
def blk (b:Nat) (t:TypeId) (As:List VP):Item:=⟨some b,fun φ o=>∃ vs:List Value,o=some (.cells vs.toArray t (0,0))∧Alls φ As vs∧ones vs,fun h ⟨vs,e,k,k1⟩=>⟨vs,e,k.mono h,k1⟩⟩
structure Kpt (X:List Nat) (w w':World):Prop where
 os:w'.os=w.os
 tape:w'.tape=w.tape
 output:w'.output=w.output
 size:w.heap.size≤w'.heap.size
 block:∀ k,k<w.heap.size→k ∉ X→w'.heap[k]?=w.heap[k]?
theorem Kpt.refl (X:List Nat) (w:World):Kpt X w w:=⟨rfl,rfl,rfl,Nat.le_refl _,fun _ _ _=>rfl⟩
theorem Kpt.below {w w':World} (h:Kpt [] w w'):Below w.heap.size w w':=⟨h.os,h.tape,h.output,h.size,fun k hk=>h.block k hk (by simp)⟩
theorem Kpt.tr {X Y:List Nat} {a b c:World} (h:Kpt X a b) (k:Kpt Y b c) (hy:∀ y,y∈Y→y<a.heap.size→y∈X):Kpt X a c:=
 ⟨k.os.trans h.os,k.tape.trans h.tape,k.output.trans h.output,Nat.le_trans h.size k.size,fun i hi hx=>(k.block i (Nat.lt_of_lt_of_le hi h.size) (fun hm=>hx (hy i hm hi))).trans (h.block i hi hx)⟩
structure Mem (φ:Fz) (L:List Item) (w:World):Prop where
 base:∀ b i v,φ b i=some v→w.cell? ⟨b,i,none⟩=some v
 items:∀ it,it∈L→it.here φ w
 sep:L.Pairwise Apart
structure Ctx where
 w:World
 φ:Fz
 X:List Nat
 ds:List Deferred
structure HP (c:Ctx) (φ:Fz) (L:List Item) (w:World):Prop where
 mem:Mem φ L w
 kept:Kpt c.X c.w w
 mine:∀ b,b∈qb4 L→c.w.heap.size≤b∨b∈c.X
 old:∀ b i,b<c.w.heap.size→φ b i=c.φ b i
theorem qf0 {w:World} {b i:Nat} {v:Value} (h:w.cell? ⟨b,i,none⟩=some v):b<w.heap.size:=by
 rcases Nat.lt_or_ge b w.heap.size with hl|hl
 ·exact hl
 ·simp only [World.cell?] at h
  rw [Array.getElem?_eq_none hl] at h;cases h
def Fn (P:Program) (f:FuncId) (As:List VP) (L:List Item) {ι:Type} (R:ι→VP) (L':ι→List Item):Prop:=
 ∀ φ w vs,Alls φ As vs→Mem φ L w→Calls P f vs.toArray w fun e w'=>∃ i v φ',e = .returned v∧(R i).ok φ' v∧HP ⟨w,φ,qb4 L,[]⟩ φ' (L' i) w'
def FnP (P:Program) (f:FuncId) (As:List VP) (R:VP):Prop:=Fn P f As [] (fun _:Unit=>R) (fun _=>[])
theorem qey (L M:List Item):qb4 (L++M)=qb4 L++qb4 M:=by simp [qb4]
theorem Mem.left {φ:Fz} {L M:List Item} {w:World} (h:Mem φ (L++M) w):Mem φ L w:=
 ⟨h.base,fun it hi=>h.items it (List.mem_append_left _ hi),(List.pairwise_append.1 h.sep).1⟩
theorem HP.fle {c:Ctx} {φ:Fz} {L:List Item} {w:World} (h:HP c φ L w) (hb:∀ b i v,c.φ b i=some v→c.w.cell? ⟨b,i,none⟩=some v):Fle c.φ φ:=fun b i v e=>by
 rw [h.old b i (qf0 (hb b i v e))];exact e
theorem HP.call {c:Ctx} {φ φ':Fz} {L L' M:List Item} {w w':World} (h:HP c φ (L++M) w) (h':HP ⟨w,φ,qb4 L,[]⟩ φ' L' w'):HP c φ' (L'++M) w':=by
 have hle:Fle φ φ':=h'.fle h.mem.base
 have hM:∀ it,it∈M→∀ b,it.at_=some b→b<w.heap.size∧b ∉ qb4 L:=fun it hi b hb=>by
  refine ⟨((h.mem.items it (List.mem_append_right _ hi)).2 b hb).1,fun hm=>?_⟩
  obtain ⟨x,hx,hxb⟩:=mem_names.1 hm
  exact (List.pairwise_append.1 h.mem.sep).2.2 x hx it hi b hxb hb
 have hMine:∀ b,b∈qb4 L→c.w.heap.size≤b∨b∈c.X:=fun b hb=>h.mine b (by rw [qey];exact List.mem_append_left _ hb)
 refine ⟨⟨h'.mem.base,?_,?_⟩,?_,?_,?_⟩
 ·intro it hi
  rcases List.mem_append.1 hi with hi|hi
  ·exact h'.mem.items it hi
  ·obtain ⟨h1,h2⟩:=h.mem.items it (List.mem_append_right _ hi)
   cases hat:it.at_ with
   | none =>
    refine ⟨?_,fun b hb=>by rw [hat] at hb;cases hb⟩
    rw [hat] at h1 ⊢
    exact it.mono hle h1
   | some b =>
    obtain ⟨hb1,hb2⟩:=hM it hi b hat
    refine ⟨?_,fun b' hb'=>?_⟩
    ·rw [hat] at h1 ⊢
     simp only [Option.bind_some] at h1 ⊢
     rw [h'.kept.block b hb1 hb2]
     exact it.mono hle h1
    ·obtain rfl:b=b':=Option.some.inj (hat.symm.trans hb')
     refine ⟨Nat.lt_of_lt_of_le hb1 h'.kept.size,fun i=>?_⟩
     rw [h'.old b i hb1]
     exact (h2 b hat).2 i
 ·refine List.pairwise_append.2 ⟨h'.mem.sep,(List.pairwise_append.1 h.mem.sep).2.1,fun x hx y hy b hxb hyb=>?_⟩
  obtain ⟨hb1,hb2⟩:=hM y hy b hyb
  rcases h'.mine b (mem_names.2 ⟨x,hx,hxb⟩) with h3|h3
  ·exact absurd hb1 (Nat.not_lt.2 h3)
  ·exact hb2 h3
 ·exact h.kept.tr h'.kept fun y hy hl=>(hMine y hy).resolve_left (by omega)
 ·intro b hb
  rw [qey] at hb
  rcases List.mem_append.1 hb with hb|hb
  ·rcases h'.mine b hb with h3|h3
   ·exact .inl (Nat.le_trans h.kept.size h3)
   ·exact hMine b h3
  ·exact h.mine b (by rw [qey];exact List.mem_append_right _ hb)
 ·intro b i hb
  rw [h'.old b i (Nat.lt_of_lt_of_le hb h.kept.size)]
  exact h.old b i hb
inductive Repl:List Item→Item→Item→List Item→Prop
 | head (it it':Item) (L:List Item):Repl (it :: L) it it' (it' :: L)
 | tail (x:Item) {it it':Item} {L L':List Item} (h:Repl L it it' L'):Repl (x :: L) it it' (x :: L')
theorem Repl.mem {L L':List Item} {it it':Item} (h:Repl L it it' L'):it∈L:=by
 induction h with
 | head=>simp
 | tail x _ ih=>exact List.mem_cons_of_mem _ ih
theorem Repl.mem' {L L':List Item} {it it' x:Item} (h:Repl L it it' L') (hx:x∈L'):x=it'∨(x∈L∧(L.Pairwise Apart→Apart x it∧Apart it x)):=by
 induction h with
 | head a b L =>
  rcases List.mem_cons.1 hx with hx|hx
  ·exact .inl hx
  ·refine .inr ⟨List.mem_cons_of_mem _ hx,fun hp=>?_⟩
   have h1:=(List.pairwise_cons.1 hp).1 x hx
   exact ⟨fun q h2 h3=>h1 q h3 h2,h1⟩
 | @tail y a b L L' hr ih =>
  rcases List.mem_cons.1 hx with hx|hx
  ·subst hx
   refine .inr ⟨List.mem_cons_self ..,fun hp=>?_⟩
   have h1:=(List.pairwise_cons.1 hp).1 _ hr.mem
   exact ⟨h1,fun q h2 h3=>h1 q h3 h2⟩
  ·rcases ih hx with h2|⟨h2,h3⟩
   ·exact .inl h2
   ·exact .inr ⟨List.mem_cons_of_mem _ h2,fun hp=>h3 (List.pairwise_cons.1 hp).2⟩
theorem Repl.sep {L L':List Item} {it it':Item} (h:Repl L it it' L') (hs:L.Pairwise Apart) (hn:∀ x,x∈L→Apart x it→Apart it x→Apart x it'∧Apart it' x):L'.Pairwise Apart:=by
 induction h with
 | head a b L =>
  rw [List.pairwise_cons] at hs ⊢
  refine ⟨fun x hx=>(hn x (List.mem_cons_of_mem _ hx) (fun q h2 h3=>hs.1 x hx q h3 h2) (hs.1 x hx)).2,hs.2⟩
 | @tail y a b L L' hr ih =>
  rw [List.pairwise_cons] at hs ⊢
  refine ⟨fun x hx=>?_,ih hs.2 fun x hx=>hn x (List.mem_cons_of_mem _ hx)⟩
  rcases hr.mem' hx with rfl|⟨hx',_⟩
  ·have h1:=hs.1 _ hr.mem
   exact (hn y (List.mem_cons_self ..) h1 (fun q h2 h3=>h1 q h3 h2)).1
  ·exact hs.1 x hx'
theorem HP.upd {c:Ctx} {φ:Fz} {L L':List Item} {w w':World} {it it':Item} (h:HP c φ L w) (hr:Repl L it it' L') (hk:Kpt (qb4 [it]) w w') (hh:it'.here φ w')
  (hm:∀ b,it'.at_=some b→w.heap.size≤b∨it.at_=some b):HP c φ L' w':=by
 have hit:=h.mem.items it hr.mem
 have hlt:∀ x,x∈L→∀ b,x.at_=some b→b<w.heap.size:=fun x hx b hb=>((h.mem.items x hx).2 b hb).1
 have hnm:∀ b,b∈qb4 [it]→it.at_=some b:=fun b hb=>by
  obtain ⟨x,hx,hxb⟩:=mem_names.1 hb
  rw [List.mem_singleton] at hx
  exact hx ▸ hxb
 refine ⟨⟨?_,?_,?_⟩,?_,?_,h.old⟩
 ·intro b i v e
  have h1:=h.mem.base b i v e
  have h2:w'.heap[b]?=w.heap[b]?:=hk.block b (qf0 h1) fun hb=>by
   have:=(hit.2 b (hnm b hb)).2 i
   rw [e] at this;cases this
  unfold World.cell? at h1 ⊢
  dsimp only at h1 ⊢
  rw [h2];exact h1
 ·intro x hx
  rcases hr.mem' hx with rfl|⟨hx',hap⟩
  ·exact hh
  ·obtain ⟨h1,h2⟩:=h.mem.items x hx'
   have hap1:=(hap h.mem.sep).1
   refine ⟨?_,fun b hb=>⟨Nat.lt_of_lt_of_le (h2 b hb).1 hk.size,(h2 b hb).2⟩⟩
   cases hat:x.at_ with
   | none=>rw [hat] at h1;exact h1
   | some b =>
    rw [hat] at h1
    simp only [Option.bind_some] at h1 ⊢
    rw [hk.block b (h2 b hat).1 (fun hb=>hap1 b hat (hnm b hb))]
    exact h1
 ·refine hr.sep h.mem.sep fun x hx h1 h2=>⟨fun b hb hb'=>?_,fun b hb' hb=>?_⟩
  all_goals
   rcases hm b hb' with h3|h3
   ·exact absurd (hlt x hx b hb) (Nat.not_lt.2 h3)
   ·exact h1 b hb h3
 ·refine h.kept.tr hk fun y hy hl=>?_
  exact (h.mine y (mem_names.2 ⟨it,hr.mem,hnm y hy⟩)).resolve_left (by omega)
 ·intro b hb
  obtain ⟨x,hx,hxb⟩:=mem_names.1 hb
  rcases hr.mem' hx with rfl|⟨hx',_⟩
  ·rcases hm b hxb with h3|h3
   ·exact .inl (Nat.le_trans h.kept.size h3)
   ·exact h.mine b (mem_names.2 ⟨it,hr.mem,h3⟩)
  ·exact h.mine b (mem_names.2 ⟨x,hx',hxb⟩)
theorem HP.new {c:Ctx} {φ φ':Fz} {L L':List Item} {w w':World} (h:HP c φ L w) (h':HP ⟨w,φ,[],[]⟩ φ' L' w'):HP c φ' (L'++L) w':=
 HP.call (L:=[]) (by simpa using h) (by simpa [qb4] using h')
theorem HP.start {φ:Fz} {L:List Item} {w:World} (h:Mem φ L w):HP ⟨w,φ,qb4 L,[]⟩ φ L w:=⟨h,Kpt.refl _ _,fun _ hb=>.inr hb,fun _ _ _=>rfl⟩
theorem HP.less {c:Ctx} {φ:Fz} {L L':List Item} {w:World} (h:HP c φ L w) (hs:L'.Sublist L):HP c φ L' w:=
 ⟨⟨h.mem.base,fun it hi=>h.mem.items it (hs.subset hi),h.mem.sep.sublist hs⟩,h.kept,fun b hb=>by
  obtain ⟨x,hx,hxb⟩:=mem_names.1 hb
  exact h.mine b (mem_names.2 ⟨x,hs.subset hx,hxb⟩),h.old⟩
theorem HP.drew {c:Ctx} {φ:Fz} {L:List Item} {w:World} (h:HP c φ L w):HP c φ L { w with drawn:=w.drawn+1 }:=
 ⟨⟨h.mem.base,h.mem.items,h.mem.sep⟩,⟨h.kept.os,h.kept.tape,h.kept.output,h.kept.size,h.kept.block⟩,h.mine,h.old⟩
end Go.Proofs.YtmgoplaamlignaaGreat
