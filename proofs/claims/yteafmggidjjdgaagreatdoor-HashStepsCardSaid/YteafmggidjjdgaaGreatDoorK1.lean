/- Walks of functions and plain laws, laid together. Own work. -/
import Derived.KernelRfl
import Derived.Test.YteafmggidjjdgaaGreatDoorChecked
import Derived.WalkKit
import Derived.WalkSpells
import Derived.WalkLawsBesides
import Derived.Lib.Hide
import Derived.Below
import Derived.Deep.LoopGhost
import Derived.Deep.Quiet
import Derived.StillTail
namespace Go.Proofs.YteafmggidjjdgaaGreatDoor
open Go.RowKit Tryz
set_option linter.unusedVariables false
set_option linter.unusedSimpArgs false
set_option maxRecDepth 100000
set_option maxHeartbeats 4000000
theorem xE {α:Sort _} (a:α):∃ x,a = x:=⟨a,rfl⟩
theorem de {p:Prop} (h:p:=by decide):p:=h
theorem nZ (n:Nat):0<=n:=Nat.zero_le n
theorem nT {a b c:Nat} (h:a<=b) (g:b<=c):a<=c:=Nat.le_trans h g
theorem gE {α:Type _} {l:List α} {i:Nat} (h:i<l.length):l[i]? = some l[i]:=List.getElem?_eq_getElem h
theorem kr {α:Sort _} {a b:α} (h:a = b:=by kernel_rfl):a = b:=h
theorem om {p:Prop} (h:p:=by omega):p:=h
theorem rf {α : Sort _} {a b : α} (h : a = b := by rfl) : a = b := h
def UV {n:Nat} (x:BitVec n):Int:=(x.toNat:Int)
theorem qa2 {n:Nat} (x:BitVec n):0≤UV x:=Int.natCast_nonneg _
theorem zgj {n:Nat} (x:BitVec n):UV x<2 ^ n:=by
 unfold UV;have:=x.isLt;exact_mod_cast this
@[go_sem] theorem zal {n:Nat} (a b:BitVec n):(UV a=UV b)=(a=b):=by
 unfold UV
 apply propext
 constructor
 ·intro h;apply BitVec.eq_of_toNat_eq;exact_mod_cast h
 ·intro h;rw [h]
@[go_sem] theorem UV_beq {n:Nat} (a b:BitVec n):(UV a==UV b)=(a==b):=by
 rw [Bool.eq_iff_iff];simp [zal]
@[go_sem] theorem UV_bne {n:Nat} (a b:BitVec n):(UV a != UV b)=(a != b):=by
 rw [bne,bne,UV_beq]
@[go_sem] theorem UV_ltd {n:Nat} (a b:BitVec n):(UV a<UV b)=(a<b):=by
 unfold UV;simp [BitVec.lt_def]
@[go_sem] theorem UV_led {n:Nat} (a b:BitVec n):(UV a≤UV b)=(a≤b):=by
 unfold UV;simp [BitVec.le_def]
theorem qtp {w n:Nat} (h:n<2 ^ w):UV (BitVec.ofNat w n)=(n:Int):=by
 unfold UV;rw [BitVec.toNat_ofNat,Nat.mod_eq_of_lt h]
@[go_sem] theorem lit_u64 (n:Nat) (h:n<18446744073709551616):Value.int .u64 (no_index (OfNat.ofNat n))=Value.int .u64 (UV (BitVec.ofNat 64 n)):=by
 rw [qtp h];rfl
@[go_sem] theorem lit_u32 (n:Nat) (h:n<4294967296):Value.int .u32 (no_index (OfNat.ofNat n))=Value.int .u32 (UV (BitVec.ofNat 32 n)):=by
 rw [qtp h];rfl
@[go_sem] theorem lit_u8 (n:Nat) (h:n<256):Value.int .u8 (no_index (OfNat.ofNat n))=Value.int .u8 (UV (BitVec.ofNat 8 n)):=by
 rw [qtp h];rfl
theorem bv64 (a:BitVec 64):a.toNat<18446744073709551616:=a.isLt
theorem zf5 (a:BitVec 32):a.toNat<4294967296:=a.isLt
theorem bv8 (a:BitVec 8):a.toNat<256:=a.isLt
theorem qkv {w:Nat} (a:BitVec w):BitVec.ofInt w (UV a)=a:=by
 unfold UV;rw [BitVec.ofInt_natCast];simp
@[go_sem high] theorem zgc (a b:BitVec 64):Op.intBits .and .u64 (UV a) (UV b)=pure (.int .u64 (UV (a&&&b))):=by
 rw [intBits_and];congr 2;unfold UV;rw [u64_and_nat _ _ (bv64 a) (bv64 b),BitVec.toNat_and]
@[go_sem high] theorem or_u64 (a b:BitVec 64):Op.intBits .or .u64 (UV a) (UV b)=pure (.int .u64 (UV (a|||b))):=by
 rw [intBits_or];congr 2;unfold UV;rw [u64_or_nat _ _ (bv64 a) (bv64 b),BitVec.toNat_or]
@[go_sem high] theorem qwn (a b:BitVec 64):Op.intBits .xor .u64 (UV a) (UV b)=pure (.int .u64 (UV (a ^^^ b))):=by
 rw [intBits_xor];congr 2;unfold UV;rw [u64_xor_nat _ _ (bv64 a) (bv64 b),BitVec.toNat_xor]
theorem qc2 (n:Int):IntKind.u64.wrap n=n % 18446744073709551616:=by simp [IntKind.wrap,IntKind.bits,IntKind.signed]
theorem qdx (n:Int):IntKind.u32.wrap n=n % 4294967296:=by simp [IntKind.wrap,IntKind.bits,IntKind.signed]
theorem qlo (n:Int):IntKind.u8.wrap n=n % 256:=by simp [IntKind.wrap,IntKind.bits,IntKind.signed]
theorem qma (a:BitVec 64):IntKind.u64.wrap (a.toNat:Int)=(a.toNat:Int):=by
 rw [qc2];have:=bv64 a;omega
theorem qty (a:BitVec 32):IntKind.u32.wrap (a.toNat:Int)=(a.toNat:Int):=by
 rw [qdx];have:=zf5 a;omega
theorem wrap_UV8 (a:BitVec 8):IntKind.u8.wrap (a.toNat:Int)=(a.toNat:Int):=by
 rw [qlo];have:=bv8 a;omega
@[go_sem high] theorem qr2 (a b:BitVec 64):Op.intBits .andNot .u64 (UV a) (UV b)=pure (.int .u64 (UV (a &&& ~~~b))):=by
 rw [intBits_andNot];congr 2;show IntKind.u64.wrap ((BitVec.ofInt 64 (UV a) &&& ~~~ BitVec.ofInt 64 (UV b)).toNat:Int)=_;rw [qkv,qkv,qma];rfl
@[go_sem high] theorem not_u64 (b:BitVec 64):Op.intBits .xor .u64 IntKind.u64.max (UV b)=pure (.int .u64 (UV (~~~b))):=by
 rw [intBits_xor];congr 2;show IntKind.u64.wrap ((BitVec.ofInt 64 18446744073709551615 ^^^ BitVec.ofInt 64 (UV b)).toNat:Int)=_;rw [qkv,qma];have h:(BitVec.ofInt 64 18446744073709551615 ^^^ b) = ~~~ b:=by
  have:BitVec.ofInt 64 18446744073709551615=BitVec.allOnes 64:=by decide
  rw [this,BitVec.allOnes_xor]
 rw [h];rfl
@[go_sem high] theorem unary_not_u64 (b:BitVec 64):Op.unary .xor (.int .u64 (UV b))=pure (.int .u64 (UV (~~~b))):=not_u64 b
@[go_sem high] theorem and_u8 (a b:BitVec 8):Op.intBits .and .u8 (UV a) (UV b)=pure (.int .u8 (UV (a&&&b))):=by
 rw [intBits_and];congr 2;unfold UV;rw [u8_and_nat _ _ (bv8 a) (bv8 b),BitVec.toNat_and]
@[go_sem high] theorem or_u8 (a b:BitVec 8):Op.intBits .or .u8 (UV a) (UV b)=pure (.int .u8 (UV (a|||b))):=by
 rw [intBits_or];congr 2;unfold UV;rw [u8_or_nat _ _ (bv8 a) (bv8 b),BitVec.toNat_or]
@[go_sem high] theorem xor_u8 (a b:BitVec 8):Op.intBits .xor .u8 (UV a) (UV b)=pure (.int .u8 (UV (a ^^^ b))):=by
 rw [intBits_xor];congr 2;unfold UV;rw [u8_xor_nat _ _ (bv8 a) (bv8 b),BitVec.toNat_xor]
@[go_sem high] theorem zgd (a b:BitVec 32):Op.intBits .and .u32 (UV a) (UV b)=pure (.int .u32 (UV (a&&&b))):=by
 rw [intBits_and];congr 2;unfold UV;rw [u32_and_nat _ _ (zf5 a) (zf5 b),BitVec.toNat_and]
@[go_sem high] theorem or_u32 (a b:BitVec 32):Op.intBits .or .u32 (UV a) (UV b)=pure (.int .u32 (UV (a|||b))):=by
 rw [intBits_or];congr 2;unfold UV;rw [u32_or_nat _ _ (zf5 a) (zf5 b),BitVec.toNat_or]
@[go_sem high] theorem zcc (a b:BitVec 32):Op.intBits .xor .u32 (UV a) (UV b)=pure (.int .u32 (UV (a ^^^ b))):=by
 rw [intBits_xor];congr 2;unfold UV;rw [u32_xor_nat _ _ (zf5 a) (zf5 b),BitVec.toNat_xor]
@[go_sem high] theorem qqb (t:TypeId) (a b:BitVec 64):binOp .add t (.int .u64 (UV a)) (.int .u64 (UV b))=pure (.int .u64 (UV (a+b))):=by
 rw [binOp_add];show (pure (.int .u64 (IntKind.u64.wrap (UV a+UV b))):Sem Value)=_;refine congrArg (fun n=>(pure (Value.int _ n):Sem Value)) ?_;rw [qc2];unfold UV;rw [BitVec.toNat_add];omega
@[go_sem high] theorem zc4 (t:TypeId) (a b:BitVec 64):binOp .sub t (.int .u64 (UV a)) (.int .u64 (UV b))=pure (.int .u64 (UV (a-b))):=by
 rw [binOp_sub];show (pure (.int .u64 (IntKind.u64.wrap (UV a-UV b))):Sem Value)=_
 congr 2;rw [qc2];unfold UV;rw [BitVec.toNat_sub];have:=bv64 a;have:=bv64 b;omega
@[go_sem high] theorem zeo (t:TypeId) (a b:BitVec 64):binOp .mul t (.int .u64 (UV a)) (.int .u64 (UV b))=pure (.int .u64 (UV (a*b))):=by
 rw [binOp_mul];show (pure (.int .u64 (IntKind.u64.wrap (UV a*UV b))):Sem Value)=_;refine congrArg (fun n=>(pure (Value.int _ n):Sem Value)) ?_;rw [qc2];unfold UV;rw [BitVec.toNat_mul,Int.natCast_emod,Int.natCast_mul];rfl
@[go_sem high] theorem zge (t:TypeId) (a b:BitVec 32):binOp .add t (.int .u32 (UV a)) (.int .u32 (UV b))=pure (.int .u32 (UV (a+b))):=by
 rw [binOp_add];show (pure (.int .u32 (IntKind.u32.wrap (UV a+UV b))):Sem Value)=_;refine congrArg (fun n=>(pure (Value.int _ n):Sem Value)) ?_;rw [qdx];unfold UV;rw [BitVec.toNat_add];omega
@[go_sem high] theorem zc5 (t:TypeId) (a b:BitVec 32):binOp .sub t (.int .u32 (UV a)) (.int .u32 (UV b))=pure (.int .u32 (UV (a-b))):=by
 rw [binOp_sub];show (pure (.int .u32 (IntKind.u32.wrap (UV a-UV b))):Sem Value)=_
 congr 2;rw [qdx];unfold UV;rw [BitVec.toNat_sub];have:=zf5 a;have:=zf5 b;omega
@[go_sem high] theorem zep (t:TypeId) (a b:BitVec 32):binOp .mul t (.int .u32 (UV a)) (.int .u32 (UV b))=pure (.int .u32 (UV (a*b))):=by
 rw [binOp_mul];show (pure (.int .u32 (IntKind.u32.wrap (UV a*UV b))):Sem Value)=_;refine congrArg (fun n=>(pure (Value.int _ n):Sem Value)) ?_;rw [qdx];unfold UV;rw [BitVec.toNat_mul,Int.natCast_emod,Int.natCast_mul];rfl
theorem zgi {w:Nat} (a b:BitVec w):(UV a).tdiv (UV b)=UV (a / b):=by
 unfold UV;rw [BitVec.toNat_udiv,Int.tdiv_eq_ediv_of_nonneg (Int.natCast_nonneg _)];rfl
theorem zgh {w:Nat} (a b:BitVec w):(UV a).tmod (UV b)=UV (a % b):=by
 unfold UV;rw [BitVec.toNat_umod,Int.tmod_eq_emod_of_nonneg (Int.natCast_nonneg _)];rfl
theorem qto {w:Nat} (b:BitVec w) (h:b≠0#w):UV b≠0:=by
 intro h2;apply h;apply BitVec.eq_of_toNat_eq;unfold UV at h2;simp;omega
@[go_sem high] theorem quo_u64 (t:TypeId) (a b:BitVec 64) (h:b≠0#64):binOp .quo t (.int .u64 (UV a)) (.int .u64 (UV b))=pure (.int .u64 (UV (a / b))):=by
 rw [binOp_quo];unfold Op.intDiv;rw [if_neg (qto b h)];simp only [zgi];congr 2;exact qma _
@[go_sem high] theorem rem_u64 (t:TypeId) (a b:BitVec 64) (h:b≠0#64):binOp .rem t (.int .u64 (UV a)) (.int .u64 (UV b))=pure (.int .u64 (UV (a % b))):=by
 rw [binOp_rem];unfold Op.intDiv;rw [if_neg (qto b h)];simp only [zgh]
@[go_sem high] theorem quo_u32 (t:TypeId) (a b:BitVec 32) (h:b≠0#32):binOp .quo t (.int .u32 (UV a)) (.int .u32 (UV b))=pure (.int .u32 (UV (a / b))):=by
 rw [binOp_quo];unfold Op.intDiv;rw [if_neg (qto b h)];simp only [zgi];congr 2;exact qty _
@[go_sem high] theorem rem_u32 (t:TypeId) (a b:BitVec 32) (h:b≠0#32):binOp .rem t (.int .u32 (UV a)) (.int .u32 (UV b))=pure (.int .u32 (UV (a % b))):=by
 rw [binOp_rem];unfold Op.intDiv;rw [if_neg (qto b h)];simp only [zgh]
theorem qv3 {w:Nat} (b:BitVec w):¬ UV b<0:=by have:=qa2 b;omega
theorem qt7 {w:Nat} (a:BitVec w) (n:Nat):(UV a).fdiv (2 ^ min n w)=UV (a>>>n):=by
 unfold UV;rw [BitVec.toNat_ushiftRight,Nat.shiftRight_eq_div_pow];have h0:(0:Int)≤2 ^ min n w:=Int.pow_nonneg (by omega);rw [Int.fdiv_eq_ediv_of_nonneg _ h0];by_cases h:n≤w
 ·rw [Nat.min_eq_left h];norm_cast
 ·rw [Nat.min_eq_right (by omega)];have h1:=a.isLt;have h2:a.toNat<2 ^ n:=Nat.lt_of_lt_of_le h1 (Nat.pow_le_pow_right (by omega) (by omega));rw [Nat.div_eq_of_lt h2];have h3:((a.toNat:Int)) / ((2 ^ w:Nat):Int)=0:=Int.ediv_eq_zero_of_lt (by omega) (by exact_mod_cast h1)
  exact_mod_cast h3
theorem qyu {w:Nat} (a:BitVec w) (n:Nat):(UV a*2 ^ min n w) % (2 ^ w:Nat)=UV (a<<<n):=by
 unfold UV;rw [BitVec.toNat_shiftLeft,Nat.shiftLeft_eq];by_cases h:n≤w
 ·rw [Nat.min_eq_left h];norm_cast
 ·rw [Nat.min_eq_right (by omega)];have h1:a.toNat*2 ^ n % 2 ^ w=0:=by
   have:n=(n-w)+w:=by omega
   rw [this,Nat.pow_add,← Nat.mul_assoc,Nat.mul_mod_left]
  rw [h1];have h2:a.toNat*2 ^ w % 2 ^ w=0:=Nat.mul_mod_left _ _
  exact_mod_cast h2
theorem qux (n:Int):((BitVec.ofInt 64 n).toNat:Int)=n % 18446744073709551616:=by
 rw [BitVec.toNat_ofInt];have h:0≤n % ((2 ^ 64:Nat):Int):=Int.emod_nonneg _ (by decide);omega
def shf {w:Nat} (b:BitVec w):Nat:=b.toNat
@[go_sem] theorem shf_lit (n:Nat) (h:n<18446744073709551616):shf (BitVec.ofNat 64 (no_index (OfNat.ofNat n)))=OfNat.ofNat n:=by
 unfold shf;rw [BitVec.toNat_ofNat];exact Nat.mod_eq_of_lt h
@[go_sem] theorem shf_nat (n:Nat) (h:n≤64):shf (BitVec.ofNat 64 n)=n:=by
 unfold shf;rw [BitVec.toNat_ofNat];exact Nat.mod_eq_of_lt (by omega)
@[go_sem] theorem shf_int (n:Int) (h0:0≤n) (h:n≤64):shf (BitVec.ofInt 64 n)=n.toNat:=by
 unfold shf;have h1:=qux n;omega
theorem qmd {w:Nat} (b:BitVec w):(UV b).toNat=b.toNat:=rfl
@[go_sem high] theorem shr_u64 {w:Nat} (a:BitVec 64) (b:BitVec w) (k:IntKind):Op.shift .shr .u64 (UV a) k (UV b)=pure (.int .u64 (UV (a>>>shf b))):=by
 unfold Op.shift;rw [if_neg (qv3 b)];simp only [qmd];congr 2;exact qt7 a b.toNat
@[go_sem high] theorem shr_u32 {w:Nat} (a:BitVec 32) (b:BitVec w) (k:IntKind):Op.shift .shr .u32 (UV a) k (UV b)=pure (.int .u32 (UV (a>>>shf b))):=by
 unfold Op.shift;rw [if_neg (qv3 b)];simp only [qmd];congr 2;exact qt7 a b.toNat
@[go_sem high] theorem shr_u8 {w:Nat} (a:BitVec 8) (b:BitVec w) (k:IntKind):Op.shift .shr .u8 (UV a) k (UV b)=pure (.int .u8 (UV (a>>>shf b))):=by
 unfold Op.shift;rw [if_neg (qv3 b)];simp only [qmd];congr 2;exact qt7 a b.toNat
@[go_sem high] theorem shl_u64 {w:Nat} (a:BitVec 64) (b:BitVec w) (k:IntKind):Op.shift .shl .u64 (UV a) k (UV b)=pure (.int .u64 (UV (a<<<shf b))):=by
 unfold Op.shift;rw [if_neg (qv3 b)];simp only [qmd];congr 2;rw [qc2];exact qyu a b.toNat
@[go_sem high] theorem shl_u32 {w:Nat} (a:BitVec 32) (b:BitVec w) (k:IntKind):Op.shift .shl .u32 (UV a) k (UV b)=pure (.int .u32 (UV (a<<<shf b))):=by
 unfold Op.shift;rw [if_neg (qv3 b)];simp only [qmd];congr 2;rw [qdx];exact qyu a b.toNat
@[go_sem] theorem zcu (a:BitVec 64):IntKind.u64.wrap (UV a)=UV a:=qma a
@[go_sem] theorem zcx (a:BitVec 32):IntKind.u32.wrap (UV a)=UV a:=qty a
@[go_sem] theorem to_u8_8 (a:BitVec 8):IntKind.u8.wrap (UV a)=UV a:=wrap_UV8 a
@[go_sem] theorem to_u64_8 (a:BitVec 8):IntKind.u64.wrap (UV a)=UV (a.setWidth 64):=by
 rw [qc2];unfold UV;rw [BitVec.toNat_setWidth];have:=bv8 a;omega
@[go_sem] theorem zcv (a:BitVec 32):IntKind.u64.wrap (UV a)=UV (a.setWidth 64):=by
 rw [qc2];unfold UV;rw [BitVec.toNat_setWidth];have:=zf5 a;omega
@[go_sem] theorem to_u8_64 (a:BitVec 64):IntKind.u8.wrap (UV a)=UV (a.setWidth 8):=by
 rw [qlo];unfold UV;rw [BitVec.toNat_setWidth];omega
@[go_sem] theorem zcw (a:BitVec 64):IntKind.u32.wrap (UV a)=UV (a.setWidth 32):=by
 rw [qdx];unfold UV;rw [BitVec.toNat_setWidth];omega
theorem qlw (w:Nat) (n:Int):((BitVec.ofInt w n).toNat:Int)=n % (2 ^ w:Nat):=by
 rw [BitVec.toNat_ofInt];have h:0≤n % ((2 ^ w:Nat):Int):=Int.emod_nonneg _ (by have:=Nat.two_pow_pos w;omega);omega
@[go_sem low] theorem qkp (n:Int):IntKind.u64.wrap n=UV (BitVec.ofInt 64 n):=by
 rw [qc2];unfold UV;rw [qlw];rfl
@[go_sem low] theorem zas (n:Int):IntKind.u32.wrap n=UV (BitVec.ofInt 32 n):=by
 rw [qdx];unfold UV;rw [qlw];rfl
@[go_sem low] theorem zct (n:Int):IntKind.u8.wrap n=UV (BitVec.ofInt 8 n):=by
 rw [qlo];unfold UV;rw [qlw];rfl
def I64 (a:BitVec 64):Int:=a.toInt
@[go_sem] theorem zcy (a:BitVec 64):IntKind.i64.wrap (UV a)=I64 a:=by
 unfold I64;rw [IntKind.wrap_i64];unfold UV;rw [BitVec.toInt_eq_toNat_cond];have:=bv64 a;split <;> omega
@[go_sem] theorem zcz (a:BitVec 32):IntKind.i64.wrap (UV a)=UV a:=by
 rw [IntKind.wrap_i64];unfold UV;have:=zf5 a;omega
@[go_sem] theorem to_i64_8 (a:BitVec 8):IntKind.i64.wrap (UV a)=UV a:=by
 rw [IntKind.wrap_i64];unfold UV;have:=bv8 a;omega
abbrev Fz:=Nat->Nat->Option Value
def Fle (φ φ':Fz):Prop:=∀ b i v,φ b i=some v->φ' b i=some v
theorem Fle.rfl' {φ:Fz}:Fle φ φ:=fun _ _ _ h=>h
theorem Fle.tr {φ φ' φ'':Fz} (h:Fle φ φ') (h':Fle φ' φ''):Fle φ φ'':=fun b i v e=>h' b i v (h b i v e)
structure VP where
 ok:Fz->Value->Prop
 mono:∀ {φ φ':Fz} {v:Value},Fle φ φ'->ok φ v->ok φ' v
def Alls (φ:Fz):List VP->List Value->Prop
 | [],[]=>True
 | A::As,v::vs=>A.ok φ v∧Alls φ As vs
 | _,_=>False
theorem Alls.mono {φ φ':Fz} (h:Fle φ φ'):∀ {As:List VP} {vs:List Value},Alls φ As vs->Alls φ' As vs
 | [],[],_=>trivial
 | A::As,v::vs,⟨h1,h2⟩=>⟨A.mono h h1,Alls.mono h h2⟩
theorem Alls.len {φ:Fz}:∀ {As:List VP} {vs:List Value},Alls φ As vs->As.length=vs.length
 | [],[],_=>rfl
 | A::As,v::vs,⟨_,h2⟩=>by simp [Alls.len h2]
theorem Alls.get {φ:Fz}:∀ {As:List VP} {vs:List Value} {j:Nat} {A:VP},Alls φ As vs->As[j]?=some A->∃ v,vs[j]?=some v∧A.ok φ v
 | [],[],_,_,_,h=>by simp at h
 | A::As,v::vs,0,B,⟨h1,_⟩,h=>by simp at h;subst h;exact ⟨v,rfl,h1⟩
 | A::As,v::vs,j+1,B,⟨_,h2⟩,h=>by
  obtain ⟨u,h3,h4⟩:=Alls.get h2 (by simpa using h);exact ⟨u,by simpa using h3,h4⟩
theorem Alls.set {φ:Fz}:∀ {As:List VP} {vs:List Value} (j:Nat) {A:VP} {v:Value},Alls φ As vs->A.ok φ v->Alls φ (As.set j A) (vs.set j v)
 | [],[],_,_,_,_,_=>trivial
 | A::As,v::vs,0,B,u,⟨_,h2⟩,h=>⟨h,h2⟩
 | A::As,v::vs,j+1,B,u,⟨h1,h2⟩,h=>⟨h1,Alls.set j h2 h⟩
theorem Alls.append {φ:Fz}:∀ {As:List VP} {vs:List Value} {Bs:List VP} {us:List Value},Alls φ As vs->Alls φ Bs us->Alls φ (As++Bs) (vs++us)
 | [],[],_,_,_,h=>h
 | A::As,v::vs,_,_,⟨h1,h2⟩,h=>⟨h1,Alls.append h2 h⟩
theorem Alls.take {φ:Fz}:∀ {As:List VP} {vs:List Value} (n:Nat),Alls φ As vs->Alls φ (As.take n) (vs.take n)
 | [],[],n,_=>by simp [Alls]
 | A::As,v::vs,0,_=>trivial
 | A::As,v::vs,n+1,⟨h1,h2⟩=>⟨h1,Alls.take n h2⟩
theorem Alls.drop {φ:Fz}:∀ {As:List VP} {vs:List Value} (n:Nat),Alls φ As vs->Alls φ (As.drop n) (vs.drop n)
 | [],[],n,_=>by simp [Alls]
 | A::As,v::vs,0,h=>h
 | A::As,v::vs,n+1,⟨_,h2⟩=>Alls.drop n h2
def Sub (A B:VP):Prop:=∀ φ v,A.ok φ v->B.ok φ v
theorem Sub.rfl' {A:VP}:Sub A A:=fun _ _ h=>h
theorem Sub.tr {A B C:VP} (h:Sub A B) (h':Sub B C):Sub A C:=fun φ v e=>h' φ v (h φ v e)
def Subs:List VP->List VP->Prop
 | [],[]=>True
 | A::As,B::Bs=>Sub A B∧Subs As Bs
 | _,_=>False
theorem Subs.rfl':∀ {As:List VP},Subs As As
 | []=>trivial
 | _::_=>⟨Sub.rfl',Subs.rfl'⟩
theorem Subs.alls {φ:Fz}:∀ {As Bs:List VP} {vs:List Value},Subs As Bs->Alls φ As vs->Alls φ Bs vs
 | [],[],[],_,_=>trivial
 | A::As,B::Bs,v::vs,⟨h1,h2⟩,⟨h3,h4⟩=>⟨h1 _ _ h3,Subs.alls h2 h4⟩
def ones (vs:List Value):Prop:=∀ u,u∈vs->u.oneCell'=true
theorem qg6:ones []:=fun u h=>by cases h
theorem qpu {v:Value} {vs:List Value} (h:v.oneCell'=true) (k:ones vs):ones (v::vs):=fun u hu=>by
 rcases List.mem_cons.1 hu with rfl|hu
 ·exact h
 ·exact k u hu
theorem ones.sub {vs us:List Value} (h:ones vs) (k:∀ u,u∈us->u∈vs):ones us:=fun u hu=>h u (k u hu)
def Is (u:Value):VP:=⟨fun _ v=>v=u,fun _ h=>h⟩
@[reducible] def Ii (x:Int):VP:=Is (.int .i64 x)
@[reducible] def Iw {n:Nat} (x:BitVec n):VP:=Is (.int .u64 (UV x))
@[reducible] def Ib (x:Bool):VP:=Is (.bool x)
def IsAgg (As:List VP):VP:=⟨fun φ v=>∃ vs:List Value,v = .agg vs.toArray∧Alls φ As vs∧ones vs,fun h ⟨vs,e,k,k1⟩=>⟨vs,e,k.mono h,k1⟩⟩
def qbs (As:List VP):VP:=⟨fun φ v=>∃ vs:List Value,v = .tuple vs.toArray∧Alls φ As vs,fun h ⟨vs,e,k⟩=>⟨vs,e,k.mono h⟩⟩
def Top:VP:=⟨fun _ _=>True,fun _ h=>h⟩
def qdi (b:Bool) (A B:VP):VP:=⟨fun φ v=>if b then A.ok φ v else B.ok φ v,fun h k=>by
 cases b
 ·exact B.mono h k
 ·exact A.mono h k⟩
def RefAt (φ:Fz) (b o:Nat) (As:List VP):Prop:=∀ j A,As[j]?=some A->∃ u,φ b (o+j)=some u∧A.ok φ u∧u.oneCell'=true
theorem RefAt.mono {φ φ':Fz} {b o:Nat} {As:List VP} (h:Fle φ φ') (k:RefAt φ b o As):RefAt φ' b o As:=fun j A e =>
 let ⟨u,h1,h2,h3⟩:=k j A e
 ⟨u,h _ _ _ h1,A.mono h h2,h3⟩
def IsRef (As:List VP):VP:=⟨fun φ v=>∃ b o,v = .pointer (some ⟨b,o,none⟩)∧RefAt φ b o As,fun h ⟨b,o,e,k⟩=>⟨b,o,e,k.mono h⟩⟩
structure Ty (α:Type) where
 size:Nat
 cells:α->List VP
 len:∀ x,(cells x).length=size
def SlAt {α:Type} (T:Ty α) (φ:Fz) (a:Option Addr) (n c:Nat) (xs:List α):Prop:=
 n=xs.length∧n<=c∧c<=maxLen∧(n=0∨∃ b o,a=some ⟨b,o,none⟩∧∀ k x,xs[k]?=some x->RefAt φ b (o+k*T.size) (T.cells x))
def qad {α:Type} (T:Ty α) (xs:List α):VP:=⟨fun φ v=>∃ a n c,v = .slice a n c∧SlAt T φ a n c xs,fun h ⟨a,n,c,e,h1,h2,h3,h4⟩=>by
 refine ⟨a,n,c,e,h1,h2,h3,?_⟩;rcases h4 with h4|⟨b,o,h5,h6⟩
 ·exact .inl h4
 ·exact .inr ⟨b,o,h5,fun k x hx=>(h6 k x hx).mono h⟩⟩
structure Item where
 at_:Option Nat
 ok:Fz->Option Obj->Prop
 mono:∀ {φ φ':Fz} {o:Option Obj},Fle φ φ'->ok φ o->ok φ' o
def Item.here (it:Item) (φ:Fz) (w:World):Prop:=it.ok φ (it.at_.bind fun b=>w.heap[b]?)∧∀ b,it.at_=some b->b<w.heap.size∧∀ i,φ b i=none
def Apart (x y:Item):Prop:=∀ b,x.at_=some b->y.at_≠some b
def qbr (L:List Item):List Nat:=L.filterMap Item.at_
theorem mem_names {L:List Item} {b:Nat}:b∈qbr L↔∃ it,it∈L∧it.at_=some b:=by simp [qbr,List.mem_filterMap]
def blk (b:Nat) (t:TypeId) (As:List VP):Item:=⟨some b,fun φ o=>∃ vs:List Value,o=some (.cells vs.toArray t (0,0))∧Alls φ As vs∧ones vs,fun h ⟨vs,e,k,k1⟩=>⟨vs,e,k.mono h,k1⟩⟩
structure Kpt (X:List Nat) (w w':World):Prop where
 os:w'.os=w.os
 tape:w'.tape=w.tape
 output:w'.output=w.output
 size:w.heap.size<=w'.heap.size
 block:∀ k,k<w.heap.size->k ∉ X->w'.heap[k]?=w.heap[k]?
theorem Kpt.refl (X:List Nat) (w:World):Kpt X w w:=⟨rfl,rfl,rfl,Nat.le_refl _,fun _ _ _=>rfl⟩
theorem Kpt.below {w w':World} (h:Kpt [] w w'):Below w.heap.size w w':=⟨h.os,h.tape,h.output,h.size,fun k hk=>h.block k hk (by simp)⟩
theorem Kpt.tr {X Y:List Nat} {a b c:World} (h:Kpt X a b) (k:Kpt Y b c) (hy:∀ y,y∈Y->y<a.heap.size->y∈X):Kpt X a c:=
 ⟨k.os.trans h.os,k.tape.trans h.tape,k.output.trans h.output,nT h.size k.size,fun i hi hx=>(k.block i (Nat.lt_of_lt_of_le hi h.size) (fun hm=>hx (hy i hm hi))).trans (h.block i hi hx)⟩
structure Mem (φ:Fz) (L:List Item) (w:World):Prop where
 base:∀ b i v,φ b i=some v->w.cell? ⟨b,i,none⟩=some v
 items:∀ it,it∈L->it.here φ w
 sep:L.Pairwise Apart
structure Ctx where
 w:World
 φ:Fz
 X:List Nat
 ds:List Deferred
structure HP (c:Ctx) (φ:Fz) (L:List Item) (w:World):Prop where
 mem:Mem φ L w
 kept:Kpt c.X c.w w
 mine:∀ b,b∈qbr L->c.w.heap.size<=b∨b∈c.X
 old:∀ b i,b<c.w.heap.size->φ b i=c.φ b i
theorem qfp {w:World} {b i:Nat} {v:Value} (h:w.cell? ⟨b,i,none⟩=some v):b<w.heap.size:=by
 rcases Nat.lt_or_ge b w.heap.size with hl|hl
 ·exact hl
 ·simp only [World.cell?] at h;rw [Array.getElem?_eq_none hl] at h;cases h
def Fn (P:Program) (f:FuncId) (As:List VP) (L:List Item) {ι:Type} (R:ι->VP) (L':ι->List Item):Prop:=
 ∀ φ w vs,Alls φ As vs->Mem φ L w->Calls P f vs.toArray w fun e w'=>∃ i v φ',e = .returned v∧(R i).ok φ' v∧HP ⟨w,φ,qbr L,[]⟩ φ' (L' i) w'
def FnP (P:Program) (f:FuncId) (As:List VP) (R:VP):Prop:=Fn P f As [] (fun _:Unit=>R) (fun _=>[])
theorem qez (L M:List Item):qbr (L++M)=qbr L++qbr M:=by simp [qbr]
theorem Mem.left {φ:Fz} {L M:List Item} {w:World} (h:Mem φ (L++M) w):Mem φ L w:=
 ⟨h.base,fun it hi=>h.items it (List.mem_append_left _ hi),(List.pairwise_append.1 h.sep).1⟩
theorem HP.fle {c:Ctx} {φ:Fz} {L:List Item} {w:World} (h:HP c φ L w) (hb:∀ b i v,c.φ b i=some v->c.w.cell? ⟨b,i,none⟩=some v):Fle c.φ φ:=fun b i v e=>by
 rw [h.old b i (qfp (hb b i v e))];exact e
theorem HP.call {c:Ctx} {φ φ':Fz} {L L' M:List Item} {w w':World} (h:HP c φ (L++M) w) (h':HP ⟨w,φ,qbr L,[]⟩ φ' L' w'):HP c φ' (L'++M) w':=by
 have hle:Fle φ φ':=h'.fle h.mem.base;have hM:∀ it,it∈M->∀ b,it.at_=some b->b<w.heap.size∧b ∉ qbr L:=fun it hi b hb=>by
  refine ⟨((h.mem.items it (List.mem_append_right _ hi)).2 b hb).1,fun hm=>?_⟩;obtain ⟨x,hx,hxb⟩:=mem_names.1 hm;exact (List.pairwise_append.1 h.mem.sep).2.2 x hx it hi b hxb hb
 have hMine:∀ b,b∈qbr L->c.w.heap.size<=b∨b∈c.X:=fun b hb=>h.mine b (by rw [qez];exact List.mem_append_left _ hb);refine ⟨⟨h'.mem.base,?_,?_⟩,?_,?_,?_⟩
 ·intro it hi;rcases List.mem_append.1 hi with hi|hi
  ·exact h'.mem.items it hi
  ·obtain ⟨h1,h2⟩:=h.mem.items it (List.mem_append_right _ hi);cases hat:it.at_ with
   | none =>
    refine ⟨?_,fun b hb=>by rw [hat] at hb;cases hb⟩;rw [hat] at h1 ⊢;exact it.mono hle h1
   | some b =>
    obtain ⟨hb1,hb2⟩:=hM it hi b hat;refine ⟨?_,fun b' hb'=>?_⟩
    ·rw [hat] at h1 ⊢;simp only [Option.bind_some] at h1 ⊢;rw [h'.kept.block b hb1 hb2];exact it.mono hle h1
    ·obtain rfl:b=b':=Option.some.inj (hat.symm.trans hb');refine ⟨Nat.lt_of_lt_of_le hb1 h'.kept.size,fun i=>?_⟩;rw [h'.old b i hb1];exact (h2 b hat).2 i
 ·refine List.pairwise_append.2 ⟨h'.mem.sep,(List.pairwise_append.1 h.mem.sep).2.1,fun x hx y hy b hxb hyb=>?_⟩;obtain ⟨hb1,hb2⟩:=hM y hy b hyb;rcases h'.mine b (mem_names.2 ⟨x,hx,hxb⟩) with h3|h3
  ·exact absurd hb1 (Nat.not_lt.2 h3)
  ·exact hb2 h3
 ·exact h.kept.tr h'.kept fun y hy hl=>(hMine y hy).resolve_left om
 ·intro b hb;rw [qez] at hb;rcases List.mem_append.1 hb with hb|hb
  ·rcases h'.mine b hb with h3|h3
   ·exact .inl (nT h.kept.size h3)
   ·exact hMine b h3
  ·exact h.mine b (by rw [qez];exact List.mem_append_right _ hb)
 ·intro b i hb;rw [h'.old b i (Nat.lt_of_lt_of_le hb h.kept.size)];exact h.old b i hb
inductive Repl:List Item->Item->Item->List Item->Prop
 | head (it it':Item) (L:List Item):Repl (it::L) it it' (it'::L)
 | tail (x:Item) {it it':Item} {L L':List Item} (h:Repl L it it' L'):Repl (x::L) it it' (x::L')
theorem Repl.mem {L L':List Item} {it it':Item} (h:Repl L it it' L'):it∈L:=by
 induction h with
 | head=>simp
 | tail x _ ih=>exact List.mem_cons_of_mem _ ih
theorem Repl.mem' {L L':List Item} {it it' x:Item} (h:Repl L it it' L') (hx:x∈L'):x=it'∨(x∈L∧(L.Pairwise Apart->Apart x it∧Apart it x)):=by
 induction h with
 | head a b L =>
  rcases List.mem_cons.1 hx with hx|hx
  ·exact .inl hx
  ·refine .inr ⟨List.mem_cons_of_mem _ hx,fun hp=>?_⟩;have h1:=(List.pairwise_cons.1 hp).1 x hx;exact ⟨fun q h2 h3=>h1 q h3 h2,h1⟩
 | @tail y a b L L' hr ih =>
  rcases List.mem_cons.1 hx with hx|hx
  ·subst hx;refine .inr ⟨List.mem_cons_self ..,fun hp=>?_⟩;have h1:=(List.pairwise_cons.1 hp).1 _ hr.mem;exact ⟨h1,fun q h2 h3=>h1 q h3 h2⟩
  ·rcases ih hx with h2|⟨h2,h3⟩
   ·exact .inl h2
   ·exact .inr ⟨List.mem_cons_of_mem _ h2,fun hp=>h3 (List.pairwise_cons.1 hp).2⟩
theorem Repl.sep {L L':List Item} {it it':Item} (h:Repl L it it' L') (hs:L.Pairwise Apart) (hn:∀ x,x∈L->Apart x it->Apart it x->Apart x it'∧Apart it' x):L'.Pairwise Apart:=by
 induction h with
 | head a b L =>
  rw [List.pairwise_cons] at hs ⊢;refine ⟨fun x hx=>(hn x (List.mem_cons_of_mem _ hx) (fun q h2 h3=>hs.1 x hx q h3 h2) (hs.1 x hx)).2,hs.2⟩
 | @tail y a b L L' hr ih =>
  rw [List.pairwise_cons] at hs ⊢;refine ⟨fun x hx=>?_,ih hs.2 fun x hx=>hn x (List.mem_cons_of_mem _ hx)⟩;rcases hr.mem' hx with rfl|⟨hx',_⟩
  ·have h1:=hs.1 _ hr.mem;exact (hn y (List.mem_cons_self ..) h1 (fun q h2 h3=>h1 q h3 h2)).1
  ·exact hs.1 x hx'
theorem HP.upd {c:Ctx} {φ:Fz} {L L':List Item} {w w':World} {it it':Item} (h:HP c φ L w) (hr:Repl L it it' L') (hk:Kpt (qbr [it]) w w') (hh:it'.here φ w')
  (hm:∀ b,it'.at_=some b->w.heap.size<=b∨it.at_=some b):HP c φ L' w':=by
 have hit:=h.mem.items it hr.mem;have hlt:∀ x,x∈L->∀ b,x.at_=some b->b<w.heap.size:=fun x hx b hb=>((h.mem.items x hx).2 b hb).1;have hnm:∀ b,b∈qbr [it]->it.at_=some b:=fun b hb=>by
  obtain ⟨x,hx,hxb⟩:=mem_names.1 hb;rw [List.mem_singleton] at hx;exact hx ▸ hxb
 refine ⟨⟨?_,?_,?_⟩,?_,?_,h.old⟩
 ·intro b i v e;have h1:=h.mem.base b i v e;have h2:w'.heap[b]?=w.heap[b]?:=hk.block b (qfp h1) fun hb=>by
   have:=(hit.2 b (hnm b hb)).2 i;rw [e] at this;cases this
  unfold World.cell? at h1 ⊢;dsimp only at h1 ⊢;rw [h2];exact h1
 ·intro x hx;rcases hr.mem' hx with rfl|⟨hx',hap⟩
  ·exact hh
  ·obtain ⟨h1,h2⟩:=h.mem.items x hx';have hap1:=(hap h.mem.sep).1;refine ⟨?_,fun b hb=>⟨Nat.lt_of_lt_of_le (h2 b hb).1 hk.size,(h2 b hb).2⟩⟩;cases hat:x.at_ with
   | none=>rw [hat] at h1;exact h1
   | some b =>
    rw [hat] at h1;simp only [Option.bind_some] at h1 ⊢;rw [hk.block b (h2 b hat).1 (fun hb=>hap1 b hat (hnm b hb))]
    exact h1
 ·refine hr.sep h.mem.sep fun x hx h1 h2=>⟨fun b hb hb'=>?_,fun b hb' hb=>?_⟩
  all_goals
   rcases hm b hb' with h3|h3
   ·exact absurd (hlt x hx b hb) (Nat.not_lt.2 h3)
   ·exact h1 b hb h3
 ·refine h.kept.tr hk fun y hy hl=>?_;exact (h.mine y (mem_names.2 ⟨it,hr.mem,hnm y hy⟩)).resolve_left om
 ·intro b hb;obtain ⟨x,hx,hxb⟩:=mem_names.1 hb;rcases hr.mem' hx with rfl|⟨hx',_⟩
  ·rcases hm b hxb with h3|h3
   ·exact .inl (nT h.kept.size h3)
   ·exact h.mine b (mem_names.2 ⟨it,hr.mem,h3⟩)
  ·exact h.mine b (mem_names.2 ⟨x,hx',hxb⟩)
theorem HP.new {c:Ctx} {φ φ':Fz} {L L':List Item} {w w':World} (h:HP c φ L w) (h':HP ⟨w,φ,[],[]⟩ φ' L' w'):HP c φ' (L'++L) w':=
 HP.call (L:=[]) (by simpa using h) (by simpa [qbr] using h')
theorem HP.start {φ:Fz} {L:List Item} {w:World} (h:Mem φ L w):HP ⟨w,φ,qbr L,[]⟩ φ L w:=⟨h,Kpt.refl _ _,fun _ hb=>.inr hb,fun _ _ _=>rfl⟩
theorem HP.less {c:Ctx} {φ:Fz} {L L':List Item} {w:World} (h:HP c φ L w) (hs:L'.Sublist L):HP c φ L' w:=
 ⟨⟨h.mem.base,fun it hi=>h.mem.items it (hs.subset hi),h.mem.sep.sublist hs⟩,h.kept,fun b hb=>by
  obtain ⟨x,hx,hxb⟩:=mem_names.1 hb;exact h.mine b (mem_names.2 ⟨x,hs.subset hx,hxb⟩),h.old⟩
theorem HP.drew {c:Ctx} {φ:Fz} {L:List Item} {w:World} (h:HP c φ L w):HP c φ L { w with drawn:=w.drawn+1 }:=
 ⟨⟨h.mem.base,h.mem.items,h.mem.sep⟩,⟨h.kept.os,h.kept.tape,h.kept.output,h.kept.size,h.kept.block⟩,h.mine,h.old⟩
theorem qjm {d t:Nat} (h:d≠t):Nat.beq d t=false:=by
 cases hb:Nat.beq d t with
 | false=>rfl
 | true=>exact absurd (Nat.eq_of_beq_eq_true hb) h
abbrev Env:=List (Nat×VP)
def look:Env->Nat->Option VP
 | [],_=>none
 | (k,A)::E,t=>bif Nat.beq k t then some A else look E t
def evA (A:Nat->Option VP):Operand->Option VP
 | .tmp t=>A t
 | .const v=>some (Is v)
 | .global g=>some (Is (.pointer (some ⟨g,0,none⟩)))
 | .func f=>some (Is (.func (.func f) #[] #[]))
def ev (E:Env):Operand->Option VP
 | .tmp t=>look E t
 | .const v=>some (Is v)
 | .global g=>some (Is (.pointer (some ⟨g,0,none⟩)))
 | .func f=>some (Is (.func (.func f) #[] #[]))
def za1 (E:Env):Option Tmp->VP->Env
 | some d,A=>(d,A)::E
 | none,_=>E
def qtw (A:Nat->Option VP) (d:Option Tmp) (B:VP):Nat->Option VP:=fun t=>if d=some t then some B else A t
theorem qe0 (E:Env) (d:Option Tmp) (B:VP):look (za1 E d B)=qtw (look E) d B:=by
 funext t;cases d with
 | none=>simp [za1,qtw]
 | some d =>
  simp only [za1,look,qtw,Option.some.injEq];by_cases h:d=t
  ·simp [h]
  ·have:Nat.beq d t=false:=qjm h;simp [this,h]
def zbz (φ:Fz) (L:List Item):Prop:=∀ it,it∈L->it.at_=none->it.ok φ none
theorem Mem.facts {φ:Fz} {L:List Item} {w:World} (h:Mem φ L w):zbz φ L:=fun it hi ha=>by
 have:=(h.items it hi).1;rw [ha] at this;exact this
def fact (v:Value) (B:VP):Item:=⟨none,fun φ _=>B.ok φ v,fun h k=>B.mono h k⟩
def SubL (L:List Item) (A B:VP):Prop:=∀ φ v,zbz φ L->A.ok φ v->B.ok φ v
theorem SubL.rfl' {L:List Item} {A:VP}:SubL L A A:=fun _ _ _ h=>h
theorem SubL.of {L:List Item} {A B:VP} (h:Sub A B):SubL L A B:=fun φ v _ k=>h φ v k
theorem SubL.tr {L:List Item} {A B C:VP} (h:SubL L A B) (h':SubL L B C):SubL L A C:=fun φ v f e=>h' φ v f (h φ v f e)
theorem SubL.fact {L:List Item} {v:Value} {B:VP} (h:fact v B∈L):SubL L (Is v) B:=fun φ u f e=>by
 have e':u=v:=e;subst e';exact f _ h rfl
def SubLs (L:List Item):List VP->List VP->Prop
 | [],[]=>True
 | A::As,B::Bs=>SubL L A B∧SubLs L As Bs
 | _,_=>False
theorem SubLs.rfl' {L:List Item}:∀ {As:List VP},SubLs L As As
 | []=>trivial
 | _::_=>⟨SubL.rfl',SubLs.rfl'⟩
theorem SubLs.alls {L:List Item} {φ:Fz} (f:zbz φ L):∀ {As Bs:List VP} {vs:List Value},SubLs L As Bs->Alls φ As vs->Alls φ Bs vs
 | [],[],[],_,_=>trivial
 | A::As,B::Bs,v::vs,⟨h1,h2⟩,⟨h3,h4⟩=>⟨h1 _ _ f h3,SubLs.alls f h2 h4⟩
theorem SubL.agg {L:List Item} {As Bs:List VP} (h:SubLs L As Bs):SubL L (IsAgg As) (IsAgg Bs):=fun φ v f ⟨vs,e,k,k1⟩=>⟨vs,e,h.alls f k,k1⟩
theorem SubL.tup {L:List Item} {As Bs:List VP} (h:SubLs L As Bs):SubL L (qbs As) (qbs Bs):=fun φ v f ⟨vs,e,k⟩=>⟨vs,e,h.alls f k⟩
theorem qil {φ:Fz}:∀ (vs:List Value),Alls φ (vs.map Is) vs
 | []=>trivial
 | _::vs=>⟨rfl,qil vs⟩
theorem qgh {vs:List Value} (h:(vs.all Value.oneCell')=true):ones vs:=fun u hu=>List.all_eq_true.1 h u hu
theorem SubL.lit {L:List Item} {vs:List Value} {Bs:List VP} (h1:(vs.all Value.oneCell')=true) (h:SubLs L (vs.map Is) Bs):SubL L (Is (.agg vs.toArray)) (IsAgg Bs):=fun φ v f e=>⟨vs,e,h.alls f (qil vs),qgh h1⟩
theorem SubL.nil {L:List Item} {α:Type} {T:Ty α}:SubL L (Is (.slice none 0 0)) (qad T []):=fun φ v f e=>⟨none,0,0,e,rfl,Nat.le_refl _,nZ _,.inl rfl⟩
theorem SubL.top {L:List Item} {A:VP}:SubL L A Top:=fun _ _ _ _=>trivial
theorem SubL.iteT {L:List Item} {p:Bool} {A B C:VP} (hp:p=true) (h:SubL L A C):SubL L (qdi p A B) C:=fun φ v f e=>by
 subst hp;exact h φ v f e
def Ev (A:Nat->Option VP) (L:List Item) (x:Operand) (B:VP):Prop:=∃ D,evA A x=some D∧SubL L D B
theorem Ev.rfl' {A:Nat->Option VP} {L:List Item} {x:Operand} {B:VP} (h:evA A x=some B):Ev A L x B:=⟨B,h,SubL.rfl'⟩
theorem er {A : Nat -> Option VP} {L : List Item} {x : Operand} {B : VP} (h : evA A x = some B) : Ev A L x B := Ev.rfl' h
theorem Ev.sub {A:Nat->Option VP} {L:List Item} {x:Operand} {D B:VP} (h:evA A x=some D) (hs:SubL L D B):Ev A L x B:=⟨D,h,hs⟩
structure St (c:Ctx) (N:Nat) (A:Nat->Option VP) (L:List Item) (φ:Fz) (a:Act) (w:World):Prop where
 defers:a.defers=c.ds
 size:a.tmps.size=N
 env:∀ t B,A t=some B->B.ok φ (a.tmps.getD t undef)
 mem:HP c φ L w
theorem ev_of {A:Nat->Option VP} {L:List Item} {φ:Fz} {a:Act} {x:Operand} (f:zbz φ L) (h:∀ t,x = .tmp t->∀ B,A t=some B->B.ok φ (a.tmps.getD t undef)) {B:VP} (hx:Ev A L x B):B.ok φ (a.eval x):=by
 obtain ⟨D,hx,hs⟩:=hx;refine hs _ _ f ?_;cases x with
 | tmp t=>exact h t rfl D hx
 | const v=>injection hx with hx;subst hx;exact rfl
 | global g=>injection hx with hx;subst hx;exact rfl
 | func f=>injection hx with hx;subst hx;exact rfl
theorem St.ev {c:Ctx} {N:Nat} {A:Nat->Option VP} {L:List Item} {φ:Fz} {a:Act} {w:World} (h:St c N A L φ a w) {x:Operand} {B:VP} (hx:Ev A L x B):B.ok φ (a.eval x):=ev_of h.mem.mem.facts (fun t _ D hD=>h.env t D hD) hx
theorem Act.put_size (a:Act) (d:Option Tmp) (v:Value):(a.put d v).tmps.size=a.tmps.size:=by cases d <;> simp [Act.put]
theorem Act.put_defs (a:Act) (d:Option Tmp) (v:Value):(a.put d v).defers=a.defers:=by cases d <;> rfl
theorem St.put {c:Ctx} {N:Nat} {A:Nat->Option VP} {L L':List Item} {φ φ':Fz} {a:Act} {w w':World} (h:St c N A L φ a w) {d:Option Tmp} {B:VP} {v:Value} (hd:∀ t,d=some t->t<N)
  (hle:Fle φ φ') (hB:B.ok φ' v) (hm:HP c φ' L' w'):St c N (qtw A d B) L' φ' (a.put d v) w':=by
 refine ⟨by rw [Act.put_defs];exact h.defers,by rw [Act.put_size];exact h.size,fun t D hD=>?_,hm⟩;unfold qtw at hD;split at hD
 ·rename_i hdt;injection hD with hD
  subst hD;have hlt:t<a.tmps.size:=by rw [h.size];exact hd t hdt
  subst hdt;have:(a.put (some t) v).tmps.getD t undef=v:=by simp [Act.put,hlt]
  rw [this];exact hB
 ·rename_i hdt;have:(a.put d v).tmps.getD t undef=a.tmps.getD t undef:=by
   cases d with
   | none=>rfl
   | some d =>
    have hne:d≠t:=fun e=>hdt (by rw [e]);simp [Act.put,Array.getElem?_setIfInBounds_ne hne]
  rw [this];exact D.mono hle (h.env t D hD)
def OpS (P:Program) (c:Ctx) (o:Oper) (A:Nat->Option VP) (L:List Item) {ι:Type} (F:ι->VP) (L':ι->List Item):Prop:=
 ∀ φ a w K Q,HP c φ L w->(∀ x,x∈o.op.operands->∀ B,Ev A L x B->B.ok φ (a.eval x)) ->
  (∀ i φ' v w',Fle φ φ'->(F i).ok φ' v->HP c φ' (L' i) w'->K (a.put o.dst v) w')->o.wp P a w K Q
def OpP (P:Program) (c:Ctx) (o:Oper) (A:Nat->Option VP) (L:List Item) (F:VP):Prop:=
 ∀ φ a w K Q,HP c φ L w->(∀ x,x∈o.op.operands->∀ B,Ev A L x B->B.ok φ (a.eval x)) ->
  (∀ φ' v w',HP ⟨w,φ,[],[]⟩ φ' [] w'->F.ok φ' v->K (a.put o.dst v) w')->o.wp P a w K Q
theorem OpP.toS {P:Program} {c:Ctx} {o:Oper} {A:Nat->Option VP} {L:List Item} {F:VP} (h:OpP P c o A L F):OpS P c o A L (fun _:Unit=>F) (fun _=>L):=
 fun φ a w K Q hm he hk=>h φ a w K Q hm he fun φ' v w' hp hf=>hk () φ' v w' (hp.fle hm.mem.base) hf (by simpa using hm.new hp)
def JL (P:Program) (ops:Array Oper) (Q:Exit->Act->World->Prop) (c:Ctx) (N:Nat) (rest:List Oper) (E:Env) (L:List Item):Prop:=
 ∀ φ a w,St c N (look E) L φ a w->wpList P ops Q rest a w
def JC (P:Program) (c:Ctx) (N:Nat) (code:Code) (E:Env) (L:List Item) (Q:Exit->Act->World->Prop):Prop:=
 ∀ φ a w,St c N (look E) L φ a w->code.wp P Q a w
def JQ (c:Ctx) (N:Nat) (E:Env) (L:List Item) (Q:Exit->Act->World->Prop) (e:Exit):Prop:=
 ∀ φ a w,St c N (look E) L φ a w->Q e a w
section
variable {P:Program} {ops:Array Oper} {Q:Exit->Act->World->Prop} {c:Ctx} {N:Nat} {rest:List Oper} {E:Env} {L:List Item} {o:Oper}
def qtd (N:Nat):Option Tmp->Bool
 | some d=>Nat.blt d N
 | none=>true
theorem qe2 {N:Nat} {d:Option Tmp} (h:qtd N d=true):∀ t,d=some t->t<N:=by
 rintro t rfl
 simpa [qtd] using h
theorem JL_op {ι:Type} {F:ι->VP} {L':ι->List Item} (hg:o.guard=none) (hd:qtd N o.dst=true) (hs:OpS P c o (look E) L F L') (h:∀ i,JL P ops Q c N rest (za1 E o.dst (F i)) (L' i)):JL P ops Q c N (o::rest) E L:=by
 intro φ a w st;refine wpList_plain hg fun K hK=>hs φ a w K Q st.mem (fun x _ B hx=>st.ev hx) fun i φ' v w' hle hv hm=>hK _ _ (h i φ' _ _ ?_);rw [qe0];exact st.put (qe2 hd) hle hv hm
theorem JL_op1 {F:VP} (hg:o.guard=none) (hd:qtd N o.dst=true) (hs:OpP P c o (look E) L F) (h:JL P ops Q c N rest (za1 E o.dst F) L):JL P ops Q c N (o::rest) E L:=
 JL_op hg hd hs.toS fun _=>h
theorem JL_nil (h:JQ c N E L Q .normal):JL P ops Q c N [] E L:=fun φ a w st=>h φ a w st
theorem qhp {a:Act} {j:Nat} {want b:Bool} {g:Tmp} (hg:o.guard=some (j,want)) (hj:(ops[j]?).bind (·.dst)=some g) (hv:a.tmps.getD g undef = .bool b):Region.wanted o (yielded ops a.tmps)=(b==want):=by
 have hv':a.tmps[g]?=some (.bool b):=by
  rw [<- hv];cases h:a.tmps[g]? with
  | none =>
   exfalso;rw [Array.getD_eq_getD_getElem?,h] at hv;simp [undef] at hv
  | some u=>rw [Array.getD_eq_getD_getElem?,h];rfl
 unfold Region.wanted;rw [hg];simp only [yielded,hj,hv',Option.bind_some];cases b <;> cases want <;> rfl
theorem JL_no {j:Nat} {want b:Bool} {g:Tmp} (hg:o.guard=some (j,want)) (hj:(ops[j]?).bind (·.dst)=some g) (hl:look E g=some (Ib b)) (hd:qtd N o.dst=true) (hb:(b==want)=false) (h:JL P ops Q c N rest (za1 E o.dst (Is undef)) L):JL P ops Q c N (o::rest) E L:=by
 intro φ a w st;have hw:=qhp (a:=a) hg hj (st.env g _ hl);unfold wpList;rw [hw,hb];simp only [Bool.false_eq_true,if_false];refine h φ _ _ ?_;rw [qe0];exact st.put (qe2 hd) Fle.rfl' rfl st.mem
theorem JL_yes {j:Nat} {want b:Bool} {g:Tmp} {ι:Type} {F:ι->VP} {L':ι->List Item} (hg:o.guard=some (j,want)) (hj:(ops[j]?).bind (·.dst)=some g) (hl:look E g=some (Ib b)) (hd:qtd N o.dst=true) (hb:(b==want)=true)
  (hs:OpS P c o (look E) L F L') (h:∀ i,JL P ops Q c N rest (za1 E o.dst (F i)) (L' i)):JL P ops Q c N (o::rest) E L:=by
 intro φ a w st;have hw:=qhp (a:=a) hg hj (st.env g _ hl);unfold wpList;rw [hw,hb];simp only [if_true];refine .inl (hs φ a w _ _ st.mem (fun x _ B hx=>st.ev hx) fun i φ' v w' hle hv hm=>h i φ' _ _ ?_);rw [qe0];exact st.put (qe2 hd) hle hv hm
theorem ql9 {a:Act} {j:Nat} {want:Bool} {g:Tmp} (hg:o.guard=some (j,want)) (hj:(ops[j]?).bind (·.dst)=some g) (hv:a.tmps.getD g undef=undef):Region.wanted o (yielded ops a.tmps)=false:=by
 unfold Region.wanted;rw [hg];simp only [yielded,hj,Option.bind_some];rw [Array.getD_eq_getD_getElem?] at hv;cases h:a.tmps[g]? with
 | none=>rfl
 | some u =>
  rw [h] at hv;simp only [Option.getD_some] at hv;subst hv;rfl
theorem JL_if {j:Nat} {want p b:Bool} {g:Tmp} {F:VP} (hg:o.guard=some (j,want)) (hj:(ops[j]?).bind (·.dst)=some g) (hl:look E g=some (qdi p (Ib b) (Is undef))) (hd:qtd N o.dst=true)
  (hs:p=true->(b==want)=true->OpP P c o (look E) L F) (h:JL P ops Q c N rest (za1 E o.dst (qdi (p&&(b==want)) F (Is undef))) L):JL P ops Q c N (o::rest) E L:=by
 intro φ a w st;have h0:(qdi p (Ib b) (Is undef)).ok φ (a.tmps.getD g undef):=st.env g _ hl;have no:(p&&(b==want))=false->Region.wanted o (yielded ops a.tmps)=false->wpList P ops Q (o::rest) a w:=fun hpb hw=>by
  unfold wpList;rw [hw];simp only [Bool.false_eq_true,if_false];refine h φ _ _ ?_;rw [qe0];exact st.put (qe2 hd) Fle.rfl' (by rw [hpb];exact (rfl:undef=undef)) st.mem
 cases hp:p with
 | false =>
  rw [hp] at h0;exact no (by rw [hp];rfl) (ql9 hg hj h0)
 | true =>
  rw [hp] at h0;have hw:=qhp (a:=a) hg hj h0;cases hbw:(b==want) with
  | false=>exact no (by rw [hbw,Bool.and_false]) (by rw [hw,hbw])
  | true =>
   unfold wpList;rw [hw,hbw];simp only [if_true];refine .inl ((hs hp hbw).toS φ a w _ _ st.mem (fun x _ B hx=>st.ev hx) fun i φ' v w' hle hv hm=>h φ' _ _ ?_);rw [qe0];exact st.put (qe2 hd) hle (by rw [hp,hbw];exact hv) hm
theorem JL_if0 {j:Nat} {want b:Bool} {g:Tmp} {F:VP} (hg:o.guard=some (j,want)) (hj:(ops[j]?).bind (·.dst)=some g) (hl:look E g=some (Ib b)) (hd:qtd N o.dst=true)
  (hs:(b==want)=true->OpP P c o (look E) L F) (h:JL P ops Q c N rest (za1 E o.dst (qdi (b==want) F (Is undef))) L):JL P ops Q c N (o::rest) E L:=by
 intro φ a w st;cases hbw:(b==want) with
 | false =>
  rw [hbw] at h;refine JL_no hg hj hl hd hbw (fun φ a w st=>h φ a w ?_) φ a w st;refine ⟨st.defers,st.size,fun t B hB=>?_,st.mem⟩;rw [qe0] at hB;have st':=st.env;rw [qe0] at st';unfold qtw at hB st';by_cases hdt:o.dst=some t
  ·rw [if_pos hdt] at hB;injection hB with hB
   subst hB;have:=st' t (Is undef) (by rw [if_pos hdt]);exact this
  ·rw [if_neg hdt] at hB;exact st' t B (by rw [if_neg hdt];exact hB)
 | true =>
  rw [hbw] at h;refine JL_yes (F:=fun _:Unit=>F) (L':=fun _=>L) hg hj hl hd hbw (hs hbw).toS (fun _ φ a w st=>h φ a w ?_) φ a w st;refine ⟨st.defers,st.size,fun t B hB=>?_,st.mem⟩;rw [qe0] at hB;have st':=st.env;rw [qe0] at st';unfold qtw at hB st';by_cases hdt:o.dst=some t
  ·rw [if_pos hdt] at hB;injection hB with hB
   subst hB;have:=st' t F (by rw [if_pos hdt]);exact this
  ·rw [if_neg hdt] at hB;exact st' t B (by rw [if_neg hdt];exact hB)
theorem zgv {id:Nat} {l:List Oper} (h:JL P l.toArray Q c N l E L):JC P c N (Code.region id l.toArray false) E L Q:=fun φ a w st=>wp_region_lit (h φ a w st)
theorem zap {x y:Code} (h:JC P c N x E L (Exit.then (y.wp P Q) Q)):JC P c N (Code.seq x y) E L Q:=fun φ a w st=>wp_seq (h φ a w st)
theorem zgu (h:JQ c N E L Q .normal):JC P c N Code.skip E L Q:=fun φ a w st=>wp_skip (h φ a w st)
theorem JC_block {id:Nat} {x:Code} (h:JC P c N x E L (Exit.inBlock id Q)):JC P c N (Code.block id x) E L Q:=fun φ a w st=>wp_block (h φ a w st)
theorem JC_exit {id:Nat} (h:JQ c N E L Q (.exit id)):JC P c N (Code.exit id) E L Q:=fun φ a w st=>wp_exit (h φ a w st)
theorem JC_ret (h:JQ c N E L Q .ret):JC P c N Code.ret E L Q:=fun φ a w st=>wp_ret (h φ a w st)
theorem zgx {x:Operand} {y z:Code} {b:Bool} (hx:Ev (look E) L x (Ib b)) (ht:b=true->JC P c N y E L Q) (hf:b=false->JC P c N z E L Q):JC P c N (Code.cond x y z) E L Q:=fun φ a w st =>
 wp_cond_split (st.ev hx) (fun h=>ht h φ a w st) (fun h=>hf h φ a w st)
theorem qqh {y:Code} {Q':Exit->Act->World->Prop} (h:JC P c N y E L Q):JQ c N E L (Exit.then (y.wp P Q) Q') .normal:=h
theorem qv7 {id:Nat} {K:Act->World->Prop} (h:JQ c N E L Q (.exit id)):JQ c N E L (Exit.then K Q) (.exit id):=h
theorem qyb {K:Act->World->Prop} (h:JQ c N E L Q .ret):JQ c N E L (Exit.then K Q) .ret:=h
theorem JQ_block {id:Nat} (h:JQ c N E L Q .normal):JQ c N E L (Exit.inBlock id Q) .normal:=h
theorem qv8 {id:Nat} (h:JQ c N E L Q .ret):JQ c N E L (Exit.inBlock id Q) .ret:=h
theorem qv9 {id id':Nat} (hid:Nat.beq id' id=true) (h:JQ c N E L Q .normal):JQ c N E L (Exit.inBlock id Q) (.exit id'):=fun φ a w st=>by
 have e:id'=id:=Nat.eq_of_beq_eq_true hid;simp only [Exit.inBlock,e,if_true];exact h φ a w st
theorem qtt {id id':Nat} (hid:Nat.beq id' id=false) (h:JQ c N E L Q (.exit id')):JQ c N E L (Exit.inBlock id Q) (.exit id'):=fun φ a w st=>by
 have e:id'≠id:=Nat.ne_of_beq_eq_false hid;simp only [Exit.inBlock,e,if_false];exact h φ a w st
def ESub (L:List Item) (E:Env):Env->Prop
 | []=>True
 | (t,B)::E'=>(∃ A,look E t=some A∧SubL L A B)∧ESub L E E'
theorem ESub.look {L:List Item} {E:Env}:∀ {E':Env} {t:Nat} {B:VP},ESub L E E'->Go.Proofs.YteafmggidjjdgaaGreatDoor.look E' t=some B->∃ A,Go.Proofs.YteafmggidjjdgaaGreatDoor.look E t=some A∧SubL L A B
 | [],_,_,_,h=>by cases h
 | (k,D)::E',t,B,⟨h1,h2⟩,h=>by
  simp only [Go.Proofs.YteafmggidjjdgaaGreatDoor.look] at h;by_cases hk:Nat.beq k t=true
  ·rw [hk] at h;simp only [cond_true,Option.some.injEq] at h;subst h;rw [<- Nat.eq_of_beq_eq_true hk];exact h1
  ·have hk':Nat.beq k t=false:=Bool.eq_false_iff.mpr hk;rw [hk'] at h;exact ESub.look h2 (by simpa using h)
theorem St.less {E E':Env} {L L':List Item} {φ:Fz} {a:Act} {w:World} (h:St c N (look E) L φ a w) (hE:ESub L E E') (hL:L'.Sublist L):St c N (look E') L' φ a w:=
 ⟨h.defers,h.size,fun t B hB=>let ⟨A,h1,h2⟩:=hE.look hB;h2 _ _ h.mem.mem.facts (h.env t A h1),h.mem.less hL⟩
def Meet (c:Ctx) (N:Nat) {ι:Type} (I:ι->Prop) (Ef:ι->Env) (Lf:ι->List Item) (a:Act) (w:World):Prop:=∃ i φ,I i∧St c N (look (Ef i)) (Lf i) φ a w
def Round (c:Ctx) (N:Nat) {ι:Type} (I:ι->Prop) (Ef:ι->Env) (Lf:ι->List Item) (μ:ι->Nat) (n:Nat) (a:Act) (w:World):Prop:=∃ i φ,I i∧μ i<n∧St c N (look (Ef i)) (Lf i) φ a w
theorem qjp {x:Code} {α:Type} {T:Ty α} {xs:List α} {t:Tmp} (hl:look E t=some (qad T xs)) (h:xs.length<=9223372036854775807->JC P c N x E L Q):JC P c N x E L Q:=fun φ a w st=>by
 obtain ⟨ad,n,cp,h1,h2,h3,h4,_⟩:=st.env t _ hl;exact h (by unfold maxLen at h4;omega) φ a w st
def argE:Nat->List VP->Env
 | _,[]=>[]
 | k,A::As=>(k,A)::argE (k+1) As
theorem qj9 {φ:Fz} {a:Array Value}:∀ (As:List VP) (vs:List Value) (k:Nat),Alls φ As vs->(∀ j,j<vs.length->a.getD (k+j) undef=vs.getD j undef)->∀ t B,look (argE k As) t=some B->B.ok φ (a.getD t undef)
 | [],[],_,_,_,_,_,h=>by cases h
 | A::As,v::vs,k,⟨h1,h2⟩,ha,t,B,h=>by
  simp only [argE,look] at h;by_cases hk:Nat.beq k t=true
  ·rw [hk] at h;simp only [cond_true,Option.some.injEq] at h;subst h;rw [<- Nat.eq_of_beq_eq_true hk];have:=ha 0 (by simp);simp only [Nat.add_zero,List.getD_cons_zero] at this;rw [this];exact h1
  ·have hk':Nat.beq k t=false:=Bool.eq_false_iff.mpr hk;rw [hk'] at h;refine qj9 As vs (k+1) h2 (fun j hj=>?_) t B (by simpa using h);have:=ha (j+1) (by simp;omega);rw [show k+1+j=k+(j+1) by omega,this];simp
def qre (c:Ctx) {ι:Type} (R:ι->VP) (L':ι->List Item) (e:Ending) (w':World):Prop:=∃ i v φ',e = .returned v∧(R i).ok φ' v∧HP c φ' (L' i) w'
theorem Fn.enter {f:FuncId} {fn:Func} {x:Code} {As:List VP} {ι:Type} {R:ι->VP} {L':ι->List Item} (hf:P.funcs[f]?=some fn) (hb:fn.body=some x) (hn:Nat.ble As.length fn.ntmps=true)
  (h:∀ c:Ctx,(c.X=qbr L∧c.ds=[])->JC P c fn.ntmps x (argE 0 As) L (bodyPost P fn (qre c R L'))):Fn P f As L R L':=by
 intro φ w vs hA hm;have hlen:=hA.len;have hn':As.length<=fn.ntmps:=Nat.le_of_ble_eq_true hn;refine calls_of_wp hf hb (h ⟨w,φ,qbr L,[]⟩ ⟨rfl,rfl⟩ φ _ w ⟨rfl,?_,?_,HP.start hm⟩)
 ·simp only [Array.size_append,List.size_toArray,Array.size_replicate];omega
 ·refine qj9 As vs 0 hA fun j hj=>?_;simp only [Nat.zero_add];rw [Array.getD_eq_getD_getElem?,Array.getElem?_append_left (by simpa using hj),List.getD_eq_getElem?_getD];simp
theorem qyc {fn:Func} {ι:Type} {R:ι->VP} {L':ι->List Item} {t:Tmp} {A:VP} (hr:fn.results=#[.tmp t]) (hl:look E t=some A) (i:ι) (hs:SubL L A (R i)) (hL:(L' i).Sublist L) (hD0:c.ds=[]:=by first|assumption|exact And.right (by assumption)):JQ c N E L (bodyPost P fn (qre c R L')) .ret:=fun φ a w st =>
 bodyPost_ret (results_tmp hr _ P w) (st.defers.trans hD0) ⟨i,_,φ,rfl,hs _ _ st.mem.mem.facts (st.env t A hl),st.mem.less hL⟩
end
end Go.Proofs.YteafmggidjjdgaaGreatDoor
