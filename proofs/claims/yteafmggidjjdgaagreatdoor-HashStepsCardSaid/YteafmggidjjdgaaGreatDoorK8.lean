/- Walks of functions and plain laws, laid together. Own work. -/
import Derived.Test.YteafmggidjjdgaaGreatDoorK7
namespace Go.Proofs.YteafmggidjjdgaaGreatDoor
open Go.RowKit Tryz
set_option linter.unusedVariables false
set_option linter.unusedSimpArgs false
set_option maxRecDepth 100000
set_option maxHeartbeats 4000000
@[reducible] def qbk (x:BitVec 32):BitVec 32:=(x*2654435769#32) ^^^ (x*2654435769#32)>>>16
def qfk (h:BitVec 32) (d:Int):BitVec 32:=h&&&(BitVec.ofInt 32 1<<<d.toNat-BitVec.ofInt 32 1)
theorem qnr (h:BitVec 32) {d:Int} (hd:0<=d∧d<=16):(qfk h d).toNat=h.toNat % 2 ^ d.toNat:=by
 unfold qfk;have h1:(2:Nat) ^ d.toNat<=2 ^ 16:=Nat.pow_le_pow_right om om;have h2:0<(2:Nat) ^ d.toNat:=Nat.pow_pos om;have e:(BitVec.ofInt 32 1<<<d.toNat-BitVec.ofInt 32 1:BitVec 32).toNat=2 ^ d.toNat-1:=by
  rw [BitVec.toNat_sub,BitVec.toNat_shiftLeft];show (2 ^ 32-1+1<<<d.toNat % 2 ^ 32) % 2 ^ 32=2 ^ d.toNat-1;rw [Nat.shiftLeft_eq,Nat.one_mul];generalize (2:Nat) ^ d.toNat=m at *;have h1':m<=65536:=h1;rw [Nat.mod_eq_of_lt (show m<2 ^ 32 by omega)];omega
 rw [BitVec.toNat_and,e,Nat.and_two_pow_sub_one_eq_mod]
theorem pow_UV {d:Int} (hd:0<=d∧d<=16):UV (BitVec.ofInt 64 1<<<d.toNat)=((2 ^ d.toNat:Nat):Int)∧0<2 ^ d.toNat∧2 ^ d.toNat<=65536:=by
 have h1:(2:Nat) ^ d.toNat<=2 ^ 16:=Nat.pow_le_pow_right om om;have h2:0<(2:Nat) ^ d.toNat:=Nat.pow_pos om;have h3:(2:Nat) ^ d.toNat<=65536:=h1;refine ⟨?_,h2,h3⟩;unfold UV;rw [BitVec.toNat_shiftLeft];show ((1<<<d.toNat % 2 ^ 64:Nat):Int)=_;rw [Nat.shiftLeft_eq,Nat.one_mul];generalize (2:Nat) ^ d.toNat=m at *;rw [Nat.mod_eq_of_lt om]
theorem zci (h:BitVec 32):UV (h.setWidth 64)=UV h:=by
 unfold UV;rw [BitVec.toNat_setWidth];have:=h.isLt;omega
theorem qns (h:BitVec 32) (d:Int) (hd:0<=d∧d<=16):FnP prog 80 [Is (.int .u32 (UV h)),Ii d] (Is (.int .u32 (UV (qfk h d)))):=by
 obtain ⟨hp,hp0,hp1⟩:=pow_UV hd;have hne:UV (BitVec.ofInt 64 1<<<d.toNat)≠0:=by rw [hp];omega
 have e:UV (BitVec.ofInt 32 ((UV (h.setWidth 64)).tmod (UV (BitVec.ofInt 64 1<<<d.toNat))))=UV (qfk h d):=by
  rw [hp,zci,Int.tmod_eq_emod_of_nonneg (qa2 h)];have h3:=qnr h hd;have h1:=qa2 h;have h2:UV (qfk h d)=UV h % ((2 ^ d.toNat:Nat):Int):=by
   unfold UV;rw [h3];simp
  generalize (2:Nat) ^ d.toNat=m at *;have h4:=Int.emod_nonneg (UV h) (show (m:Int)≠0 by omega);have h5:=Int.emod_lt_of_pos (UV h) (show (0:Int)<m by omega);rw [qk7 om,h2]
 refine FnP.enter func80 ntmps80 rfl rfl ?_;intro c hX;refine t11 ?_;refine qao rfl (by exact qeg (k:=d.toNat) qhh (er rfl) om qdh) ?_;refine t6 ?_;refine rB results80 rfl ?_;rw [<- e]
theorem qo3 (x:BitVec 32):FnP prog 35 [Is (.int .u32 (UV x))] (Is (.int .u32 (UV (qbk x)))):=by
 refine FnP.enter func35 ntmps35 rfl rfl ?_;intro c hX;refine t16 ?_;refine Z81 ?_;refine t5 ?_;refine rB results35 rfl ?_;rfl
def qc9 (p:Pt):Bool:=decide (p=Pt.nil)||qbt p
def okW (x:BitVec 32):Bool:=(UV x==0)||qbt (qbb x)
theorem qxo (p:Pt):FnP prog 140 [qh6 p] (Ib (qc9 p)):=by
 refine FnP.enter func140 ntmps140 rfl rfl ?_;intro c hX;refine t3 ?_;intro i1;refine t5 ?_;refine t2 ?_;refine qao rfl (qb0 (vs:=Pt.cells p) (ws:=Pt.cells Pt.nil) (er rfl) (er rfl) (qd3 _ _ _ p Pt.nil) (qf6 p Pt.nil)) ?_;refine t2 ?_;(refine qcg rfl rfl rfl (fun hg=>(by have hg0:=hg;(try simp at hg);exact qac call30 (qb5 _) ⟨evR,trivial⟩)) ?_);refine t5 ?_;refine rB results140 rfl ?_;rfl
theorem qkt (w:BitVec 64):FnP prog 139 [Iw w] (qbs [qh6 (qbb (w.setWidth 32)),Ib (okW (w.setWidth 32))]):=by
 refine FnP.enter func139 ntmps139 rfl rfl ?_;intro c hX;refine t3 ?_;intro i2;refine t7 ?_;refine kR call187 (qfv _) ?_;refine s1 ?_;intro i4;refine t11 ?_;refine cN ?_ ?_<;>intro h2
 ·have h3:UV (w.setWidth 32)=0:=by simpa using h2
  have h4:(w.setWidth 32).toNat=0:=by unfold UV at h3;omega
  have e:w.setWidth 32=0#32:=BitVec.eq_of_toNat_eq h4;rw [e];refine t9 ?_;exact qbq (Bs:=[qh6 Pt.nil,Ib true]) results139 eR () SubL.rfl' (List.nil_sublist _)
 have e:okW (w.setWidth 32)=qbt (qbb (w.setWidth 32)):=by unfold okW;rw [h2];rfl
 rw [e];refine Z32 ?_;refine qc1 (it:=blk i2 _ _) (by repeat (first|exact Drop1.here _ _|apply Drop1.next)) ?_;refine qcz (its:=[_]) 5 kr ?_;refine t2 ?_;refine qbc (qac call30 (qb5 _) ⟨evR,trivial⟩) ?_;refine qdm (s:=15) rfl rfl rfl kr (fun c'=>by exact qat (er rfl) (er rfl) qa5 qaf rf rf rf) ?_;refine s1 ?_;refine ⟨rfl,?_⟩;intro _;refine Z33 ?_;exact qbq (Bs:=[qh6 (qbb (w.setWidth 32)),Ib (qbt (qbb (w.setWidth 32)))]) results139 eR () SubL.rfl' (List.nil_sublist _)
def qfs (d:Int):Int:=if d<=3 then 1 else if d=4 then 2 else 4
theorem qy5 (d:Int) (h:0<=d∧d<=5):FnP prog 89 [Ii d] (Ii (qfs d)):=by
 have h6:d=0∨d=1∨d=2∨d=3∨d=4∨d=5:=om;refine FnP.enter func89 ntmps89 rfl rfl ?_;intro c hX;refine t11 ?_;refine qao rfl (op_max (er rfl) (er rfl)) ?_;refine t4 ?_;refine rB results89 rfl ?_;rcases h6 with rfl|rfl|rfl|rfl|rfl|rfl <;> rfl
def qq6 (es:List En) (k:Nat):En:=(es[k]?).getD ⟨0#32,Pt.nil⟩
theorem qg9 {es:List En} {k:Nat} (h:k<es.length):es[k]?=some (qq6 es k):=by
 unfold qq6;rw [gE h];rfl
def okBk (b:Bk):Prop:=(0<=b.depth∧b.depth<=16)∧b.es.length<=5
def qdv (r:Rt):Nat->Pt
 | 0=>r.p0
 | 1=>r.p1
 | 2=>r.p2
 | _=>r.p3
section
variable {P:Program} {c:Ctx} {A:Nat->Option VP} {L:List Item} {d:Option Tmp} {ty:TypeId} {pos:String} {af:Array Edge} {g:Option (Nat×Bool)}
theorem qnp {s:TypeId} {x:Operand} {i n:Nat} {fs:Array Field} {f:Field} {As Rs:List VP} {D:TypeDesc} (hx:Ev A L x (IsAgg As)) (hu:P.underlying s=some (.struct fs)) (hf:fs[i]?=some f) (hD:P.underlying f.type=some D) (hd:qqs D=true) (hn:(P.info? f.type).map (·.size)=some n) (hR:(As.drop f.offset).take n=Rs) :
  OpP P c ⟨d,.field s x i,ty,pos,af,g⟩ A L (IsAgg Rs):=
 opp fun φ a w hm he=>by
  obtain ⟨vs,h1,h2,h3⟩:(IsAgg As).ok φ (a.eval x):=he x (by simp [Op.operands]) _ hx;obtain ⟨v,h4,h5⟩:=qui (w:=w) h2 h3 hD hd hn hR;refine ⟨v,?_,h5⟩;simp only [execOp,h1];refine qcd ?_;simp only [Instr.field,asAgg,Sem.run_bind,Sem.run_pure,run_underlying hu,Result.andThen_ok,hf];exact h4
end

theorem qbi (B:Nat) (o:O23) (e:Int):FnP prog 31 [qyf o,Ii e] (qqk B ⟨[],[],{ o with code:=e },true⟩):=by
 refine FnP.enter func31 ntmps31 rfl rfl ?_;intro c hX;refine t3 ?_;intro i2;refine s1 ?_;intro i4;refine t11 ?_;refine s1 ?_;refine t5 ?_;exact rA (Bs:=[_]) results31 eRF
def PL23 (r:P23):Prop:=r.need.length<=1∧okBk r.bucket∧r.out.check.length<=1∧Ln r.page
theorem qI8 (i:Nat) (h:i<1000):IntKind.i64.wrap ((i:Int).tdiv 8)=((i / 8:Nat):Int):=by
 rw [Int.tdiv_eq_ediv_of_nonneg om,qqq om];omega
theorem rI8 (i:Nat):(i:Int).tmod 8=((i % 8:Nat):Int):=by
 rw [Int.tmod_eq_emod_of_nonneg om];omega
def qt9 (r:Rt) (k:Nat) (p:Pt):Rt:=match k with
 | 0=>{ r with p0:=p }
 | 1=>{ r with p1:=p }
 | 2=>{ r with p2:=p }
 | _=>{ r with p3:=p }
theorem qy4 (r:Rt) {k:Nat} (hk:k<4):((tRt.cells r).drop (3+k*2)).take 2=tPt.cells (qdv r k):=by
 rcases (show k=0∨k=1∨k=2∨k=3 by omega) with rfl|rfl|rfl|rfl <;> rfl
theorem qro (r:Rt) {k:Nat} (hk:k<4):Nat.ble (3+k*2+2) (tRt.cells r).length=true:=Nat.ble_eq_true_of_le (by rw [tRt.len];show _<=11;omega)
theorem qw0 (r:Rt) {k:Nat} (hk:k<4):(tRt.cells r)[3+k*2]?=some (Ii ((qdv r k).line)):=by
 rcases (show k=0∨k=1∨k=2∨k=3 by omega) with rfl|rfl|rfl|rfl <;> rfl
theorem pg_set (r:Rt) (p:Pt) {k:Nat} (hk:k<4):ovr (tRt.cells r) (3+k*2) (tPt.cells p)=tRt.cells (qt9 r k p):=by
 rcases (show k=0∨k=1∨k=2∨k=3 by omega) with rfl|rfl|rfl|rfl <;> rfl
def qpg (s:S8):Nat->Pt
 | 0=>s.s0
 | 1=>s.s1
 | 2=>s.s2
 | 3=>s.s3
 | 4=>s.s4
 | 5=>s.s5
 | 6=>s.s6
 | _=>s.s7
def qqv (s:S8) (k:Nat) (p:Pt):S8:=match k with
 | 0=>{ s with s0:=p }
 | 1=>{ s with s1:=p }
 | 2=>{ s with s2:=p }
 | 3=>{ s with s3:=p }
 | 4=>{ s with s4:=p }
 | 5=>{ s with s5:=p }
 | 6=>{ s with s6:=p }
 | _=>{ s with s7:=p }
theorem e8 {k:Nat} (hk:k<8):k=0∨k=1∨k=2∨k=3∨k=4∨k=5∨k=6∨k=7:=om
theorem qpf (s:S8) {k:Nat} (hk:k<8):((tS8.cells s).drop (0+k*2)).take 2=tPt.cells (qpg s k):=by
 rcases e8 hk with rfl|rfl|rfl|rfl|rfl|rfl|rfl|rfl <;> rfl
theorem qlh (s:S8) {k:Nat} (hk:k<8):Nat.ble (0+k*2+2) (tS8.cells s).length=true:=Nat.ble_eq_true_of_le (by rw [tS8.len];show _<=16;omega)
theorem zc8 (s:S8) (p:Pt) {k:Nat} (hk:k<8):ovr (tS8.cells s) (0+k*2) (tPt.cells p)=tS8.cells (qqv s k p):=by
 rcases e8 hk with rfl|rfl|rfl|rfl|rfl|rfl|rfl|rfl <;> rfl
theorem Z61 {A B:Prop} (h:A) (f:Bx A→B:=by intro z;refine Z23 ?_;refine f1 0 ?_;refine f1 1 ?_;exact z.out):B:=f ⟨h⟩
def qx8 (r:S23):Prop:=WL 3 r.writes∧r.need.length<=1∧r.out.check.length<=1
theorem quw {α:Type} {xs:List α} (h:xs.length=1):∃ a,xs[0]?=some a:=⟨_,gE om⟩
theorem two_of {α:Type} {xs:List α} (h:xs.length=2):∃ a b,xs[0]?=some a∧xs[1]?=some b:=⟨_,_,gE om,gE om⟩
theorem shI (d:Int) (h:0<=d∧d<=60):IntKind.i64.wrap (1*2 ^ (min d.toNat IntKind.i64.bits))=((2 ^ d.toNat:Nat):Int):=by
 rw [show min d.toNat IntKind.i64.bits=d.toNat from Nat.min_eq_left (by show d.toNat<=64;omega),Int.one_mul];have h1:(2:Nat) ^ d.toNat<=2 ^ 60:=Nat.pow_le_pow_right om om;have e:(2:Int) ^ d.toNat=((2 ^ d.toNat:Nat):Int):=by simp
 rw [e];generalize (2:Nat) ^ d.toNat=m at h1 ⊢;exact qqq om
theorem qU8 {n:Int} (i:Nat) (h:i<1000) (e:n=(i:Int)):IntKind.u32.wrap (n.tdiv 8)=((i / 8:Nat):Int):=by
 rw [e,Int.tdiv_eq_ediv_of_nonneg om,wU32 om];omega
theorem rU8 {n:Int} (i:Nat) (e:n=(i:Int)):n.tmod 8=((i % 8:Nat):Int):=by
 rw [e,Int.tmod_eq_emod_of_nonneg om];omega
end Go.Proofs.YteafmggidjjdgaaGreatDoor
