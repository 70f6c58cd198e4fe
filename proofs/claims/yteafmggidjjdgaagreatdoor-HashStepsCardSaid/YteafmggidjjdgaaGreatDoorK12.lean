/- Walks of functions and plain laws, laid together. Own work. -/
import Derived.Test.YteafmggidjjdgaaGreatDoorK8
namespace Go.Proofs.YteafmggidjjdgaaGreatDoor
open Go.RowKit Tryz
set_option linter.unusedVariables false
set_option linter.unusedSimpArgs false
set_option maxRecDepth 100000
set_option maxHeartbeats 4000000
def Nld (n m:Nd):Prop:=m.pin=n.pin∧m.ep=n.ep∧m.sg=n.sg∧m.inc=n.inc∧(m.r0=n.r0∨m.r0=Re.nil)∧(m.r1=n.r1∨m.r1=Re.nil)∧(m.r2=n.r2∨m.r2=Re.nil)∧(m.r3=n.r3∨m.r3=Re.nil)
theorem Nld.rfl' (n:Nd):Nld n n:=⟨rfl,rfl,rfl,rfl,.inl rfl,.inl rfl,.inl rfl,.inl rfl⟩
def qnj (r:Re):Nat:=if r=Re.nil then 0 else 1
def qq7 (n:Nd):Nat:=qnj n.r0+qnj n.r1+qnj n.r2+qnj n.r3
theorem qzc:qnj Re.nil=0:=if_pos rfl
theorem qsr {r s:Re} (h:s=r∨s=Re.nil):qnj s<=qnj r:=by
 rcases h with rfl|rfl
 ·exact Nat.le_refl _
 ·rw [qzc];exact nZ _
theorem Nld.le {n m:Nd} (h:Nld n m):qq7 m<=qq7 n:=by
 obtain ⟨_,_,_,_,h0,h1,h2,h3⟩:=h;have:=qsr h0;have:=qsr h1;have:=qsr h2;have:=qsr h3;unfold qq7;omega
theorem qov {w:BitVec 64} (h:qlj w=true):rwB (qtv w)=true:=by
 by_cases h0:w=0#64
 ·rw [(qqw h0).1];exact qnm rfl
 ·rw [(qlr h0).2] at h;unfold rwB;rw [(qlr h0).1,h,Bool.or_true]
theorem qyv {r s:Re} (hr:rwB r=true) (h:s=r∨s=Re.nil):rwB s=true:=by
 rcases h with rfl|rfl
 ·exact hr
 ·exact qnm rfl
theorem zek {p:Pg} {m:Nd} (h0:(qeo p).2=0) (hm:Nld (qeo p).1 m):(qfa p m).2=0:=by
 cases hl:qwh p.l with
 | false=>rw [zdm hl] at h0;exact absurd h0 de
 | true =>
  cases hb:zf7 p with
  | true=>rw [zdl hl hb] at h0;exact absurd h0 de
  | false =>
   cases hk:okN p 4 with
   | false=>unfold qeo at h0;rw [if_pos hl,hb,hk] at h0;exact absurd (show (14:Int)=0 from h0) de
   | true =>
    have e:qeo p=(ndK p 4,0):=by unfold qeo;rw [if_pos hl,hb,hk];rfl
    rw [e] at hm;obtain ⟨m1,m2,m3,m4,k0,k1,k2,k3⟩:=hm;obtain ⟨b1,b2,b3⟩:=zf6 hb;have hr:qlj p.d3=true∧qlj p.d4=true∧qlj p.d5=true∧qlj p.d6=true:=by
     unfold okN at hk;simpa [Bool.and_eq_true,and_assoc] using hk
    have hbw:qxz p m=false:=by
     unfold qxz;rw [hl,m1,m2,m3,m4];have u1:=qa2 p.d1;have u2:=qa2 p.d2;have e1:UV (p.d1.setWidth 32)=UV p.d1:=by
      unfold UV at b2 ⊢;rw [BitVec.toNat_setWidth];omega
     show (!true||((!(pinV p)&&UV (epV p) != 0)||(decide (UV (p.d1.setWidth 32)>511)||(decide (UV p.d2<0)||decide (UV p.d2>59)))))=false;rw [e1];have h3:(!(pinV p)&&UV (epV p) != 0)=false:=by
      unfold pinV epV;by_cases hp:UV p.d0>0
      ·rw [decide_eq_true hp];rfl
      ·rw [if_neg hp,show UV (0#32)=0 from rfl];simp
     rw [h3,decide_eq_false om,decide_eq_false om,decide_eq_false om];rfl
    have hor:okR m 4=true:=by
     unfold okR;have g0:rwB m.r0=true:=qyv (qov hr.1) k0;have g1:rwB m.r1=true:=qyv (qov hr.2.1) k1;have g2:rwB m.r2=true:=qyv (qov hr.2.2.1) k2;have g3:rwB m.r3=true:=qyv (qov hr.2.2.2) k3;simp [g0,g1,g2,g3]
    unfold qfa;rw [if_neg (by rw [hbw];simp),if_pos hor]
theorem qzu:∀ (W:List Pg) (p:Pg),p∈qju W p
 | [],p=>List.mem_singleton.2 rfl
 | q::l,p=>by
  unfold qju;split
  ·exact List.mem_cons_of_mem _ (qzu l p)
  ·split <;> exact List.mem_cons_self ..
theorem zba (a:List Pg) (q:Pg):q∈qck a [q]:=by
 unfold qck;rw [List.foldl_append];exact qzu _ q
theorem qyz (ks:List Pg) (lines:Int):∀ (l:List Pt) (w:List Pg) (n:Nat),WL n w->WL (n+2*l.length) (relS ks lines l w).writes∧(relS ks lines l w).need=[]
 | [],w,n,h=>⟨h,rfl⟩
 | p::r,w,n,h=>by
  have hm:WL (n+2) (qck w [(relR (qb9 ks p.line)).1,clrU (qb9 (qck ks w) (qbh (qk0 lines p.line).1)) (qk0 lines p.line).2.1]):=qgw h (wl2 (n:=0) (ln_rel _) (show Ln (clrU _ _) from qfb _ (qsy _))) (Nat.le_refl _);have ih:=qyz ks lines r _ _ hm;unfold relS;split
  ·exact ⟨wl0,rfl⟩
  ·split
   ·exact ⟨wl0,rfl⟩
   ·split
    ·exact ⟨wl0,rfl⟩
    ·split
     ·exact ⟨wl0,rfl⟩
     ·simp only [List.length_cons];exact ⟨ih.1.mono om,ih.2⟩
theorem zfh (ks:List Pg) (lines:Int) (all:List Pt):∀ (r pre:List Pt) (ask:List Int),WL (2*all.length) (frD ks lines all pre r ask).writes∧(frD ks lines all pre r ask).need.length<=ask.length+2*r.length
 | [],pre,ask=>by
  unfold frD frC;split
  ·exact ⟨wl0,qmu ks ask⟩
  ·have h:=qyz ks lines all [] 0 wl0;rw [h.2];exact ⟨h.1.mono om,nZ _⟩
 | p::r,pre,ask=>by
  have ih:=zfh ks lines all r (pre++[p]) (ask++[p.line,qbh (qk0 lines p.line).1]);unfold frD;split
  ·exact ⟨wl0,nZ _⟩
  ·split
   ·exact ⟨wl0,nZ _⟩
   ·simp only [List.length_append,List.length_cons,List.length_nil] at ih ⊢;exact ⟨ih.1,om⟩
theorem freR_len (ks:List Pg) (lines:Int) (l:List Pt) (hl:l.length<=4):WL 8 (freR ks lines l).writes∧(freR ks lines l).need.length<=8:=by
 unfold freR;split
 ·exact ⟨wl0,nZ _⟩
 ·have h:=zfh ks lines l l [] [];simp only [List.length_nil] at h;exact ⟨h.1.mono om,om⟩
theorem qjh (p:Pg):FnP prog 165 [qcv p] (VEx fun r:BitVec 32×Int=>qbs [Is (.int .u32 (UV r.1)),Ii r.2]):=by
 refine FnP.enter func165 ntmps165 rfl rfl ?_;intro c hX;refine t3 ?_;intro i1;refine t12 ?_;refine cN ?_ ?_<;>intro h1
 ·refine t8 ?_;exact Z104
 refine t9 ?_;refine qax [(1,_),(2,_),(3,_)] [blk i1 _ _] (fun k:Nat=>k<=7) (fun k=>[(4,Ii (k:Nat))]) (fun k=>[]) (fun k=>7-k) 1 om qag qab ?_;rintro k hk;refine t7 ?_;refine cN ?_ ?_<;>intro h4
 ·have hlt:k<7:=by have:=of_decide_eq_true h4;omega
  clear h4;rcases (show k=0∨k=1∨k=2∨k=3∨k=4∨k=5∨k=6 by omega) with rfl|rfl|rfl|rfl|rfl|rfl|rfl
  all_goals
   refine t8 ?_;refine Z52 ?_;refine t4 ?_;refine cN ?_ ?_<;>intro h6
   ·refine t12 ?_;exact Z104
   refine t8 ?_;first|((guard_hyp hlt:(0:Nat)<7);exact qaa (1) om om qag qab)|((guard_hyp hlt:(1:Nat)<7);exact qaa (2) om om qag qab)|((guard_hyp hlt:(2:Nat)<7);exact qaa (3) om om qag qab)|((guard_hyp hlt:(3:Nat)<7);exact qaa (4) om om qag qab)|((guard_hyp hlt:(4:Nat)<7);exact qaa (5) om om qag qab)|((guard_hyp hlt:(5:Nat)<7);exact qaa (6) om om qag qab)|((guard_hyp hlt:(6:Nat)<7);exact qaa (7) om om qag qab)
 have hke:k=7:=by have:=of_decide_eq_false h4;omega
 clear h4;subst hke;refine t14 ?_;refine cN ?_ ?_<;>intro h8
 ·refine t8 ?_;exact Z104
 refine t13 ?_;exact Z104
theorem qra (p:Pg) (e:BitVec 32):FnP prog 205 [qcv p,Is (.int .u32 (UV e))] (qfc (fun r:Pg×Int=>Ln p->Ln r.1) fun r=>qbs [qcv r.1,Ii r.2]):=by
 refine FnP.enter func205 ntmps205 rfl rfl ?_;intro c hX;refine t3 ?_;intro i2;refine s1 ?_;intro i4;refine t11 ?_;refine cN ?_ ?_<;>intro h1
 ·refine t9 ?_;exact quf ((⟨_,_,_,_,_,_,_,_,_⟩:Pg),_) results205 (hp:=by exact fun _=>ln0)
 refine t10 ?_;intro i6;refine t20 ?_;exact quf ((⟨_,_,_,_,_,_,_,_,_⟩:Pg),_) results205 (hp:=by exact ln_eq rfl)
theorem qrb (p:Pg) (e:BitVec 32) (hp:Ln p):FnP prog 205 [qcv p,Is (.int .u32 (UV e))] (qbs [zg2,IsIX]):=(qra p e).px hp
def safeR (g r:BitVec 32):Bool:=decide (UV (g.setWidth 64)>=UV (r.setWidth 64+BitVec.ofInt 64 2))
theorem zam (g r:BitVec 32):FnP prog 203 [Is (.int .u32 (UV g)),Is (.int .u32 (UV r))] (Ib (safeR g r)):=by
 refine FnP.enter func203 ntmps203 rfl rfl ?_;intro c hX;refine t17 ?_;refine rB results203 rfl ?_;rfl
theorem qcs (B:Nat) (e b:Int):FnP prog 164 [Ii e,Ii b] (qql B ⟨[],[],⟨e,0#32,b,[],[]⟩,true,false⟩):=by
 refine FnP.enter func164 ntmps164 rfl rfl ?_;intro c hX;refine t3 ?_;intro i4;refine t12 ?_;exact rA (Bs:=[_]) results164 eRF
def EA (op:Ep26):Prop:=(0<=op.client∧op.client<6)∧(op.kind=4->1<=op.list.length∧op.list.length<=4)∧((op.kind=5∨op.kind=6)->0<=op.for_∧op.for_<6)∧(op.kind=5->104<=op.lines∧op.lines<=256)
theorem EA4 {op:Ep26} (hc:0<=op.client∧op.client<6) (hk:op.kind=4) (h:(decide ((op.list.length:Int)>=1)&&decide ((op.list.length:Int)<=4))=true):EA op:=by
 simp only [Bool.and_eq_true,decide_eq_true_eq] at h;exact ⟨hc,fun _=>by omega,fun h=>by omega,fun h=>by omega⟩
theorem EA5 {op:Ep26} (hc:0<=op.client∧op.client<6) (hk:op.kind=5) (h:((decide (op.for_>=0)&&decide (op.for_<6))&&decide (op.lines>=104)&&decide (op.lines<=256))=true):EA op:=by
 simp only [Bool.and_eq_true,decide_eq_true_eq] at h;exact ⟨hc,fun h=>by omega,fun _=>by omega,fun _=>by omega⟩
theorem EA6 {op:Ep26} {b:Bool} (hc:0<=op.client∧op.client<6) (hk:op.kind=6) (h:((decide (op.for_>=0)&&decide (op.for_<6))&&b)=true):EA op:=by
 simp only [Bool.and_eq_true,decide_eq_true_eq] at h;exact ⟨hc,fun h=>by omega,fun _=>by omega,fun h=>by omega⟩
theorem qn1 (op:Ep26) (hl:op.list.length<=1000):FnP prog 163 [qr8 op] (qfc (fun r:Bool=>r=true->EA op) fun r=>Ib r):=by
 refine FnP.enter func163 ntmps163 rfl rfl ?_;intro c hX;refine t3 ?_;intro i1;refine t40 ?_;refine t2 ?_;refine cN ?_ ?_<;>intro h3
 ·refine t7 ?_;exact rXF _ results163 (hp:=by exact fun h=>Bool.noConfusion h)
 have hc:0<=op.client∧op.client<6:=by
  rw [Bool.or_eq_false_iff] at h3;have h8:=of_decide_eq_false h3.1;have h9:=of_decide_eq_false h3.2;omega
 clear h3;refine t17 ?_;refine cN ?_ ?_<;>intro h6
 ·have hk:op.kind=1:=by simpa using h6
  refine t2 ?_;refine cN ?_ ?_<;>intro h6
  ·have hk:op.kind=1:=by simpa using h6
   refine t9 ?_;exact rXF _ results163 (hp:=by exact fun _=>⟨hc,fun h=>by omega,fun h=>by omega,fun h=>by omega⟩)
  refine t6 ?_;refine cN ?_ ?_<;>intro h9
  ·have hk:op.kind=3:=by simpa using h9
   refine t8 ?_;exact rXF _ results163 (hp:=by exact fun _=>⟨hc,fun h=>by omega,fun h=>by omega,fun h=>by omega⟩)
  refine t6 ?_;refine cN ?_ ?_<;>intro h11
  ·have hk4:op.kind=4:=by simpa using h11
   refine t7 ?_;refine qax [(1,_),(2,_)] [blk i1 _ _] (fun k:Nat=>k<=(op.list).length) (fun k=>[(5,Ii (k:Nat))]) (fun k=>[]) (fun k=>(op.list).length-k) 0 (nZ _) qag qab ?_;rintro k hk;refine t10 ?_;refine cN ?_ ?_<;>intro h13
   ·have hlt:k<(op.list).length:=by have:=of_decide_eq_true h13;omega
    clear h13;obtain ⟨z,hz⟩:∃ q,(op.list)[k]?=some q:=⟨_,gE hlt⟩
    refine t12 ?_;refine kRF call30 (qb5 _) ?_;refine t3 ?_;refine cN ?_ ?_<;>intro h15
    ·refine t14 ?_;exact rXF _ results163 (hp:=by exact fun h=>Bool.noConfusion h)
    refine t8 ?_;obtain ⟨n,hn⟩:∃ n,n=k:=⟨_,rfl⟩
    refine qax [(1,_),(2,_),(5,_),(41,_),(42,_),(43,_),(44,_),(48,_),(49,_),(50,_),(51,_),(52,_),(53,_)] [blk i1 _ _] (fun ka:Nat=>ka<=n) (fun ka=>[(6,Ii (ka:Nat))]) (fun ka=>[]) (fun ka=>n-ka) 0 (nZ _) qag qab ?_;rintro ka hka;refine t8 ?_;refine cN ?_ ?_<;>intro h18
    ·have hlta:ka<n:=by have:=of_decide_eq_true h18;omega
     clear h18;obtain ⟨za,hza⟩:∃ q,op.list[ka]?=some q:=⟨_,gE om⟩
     refine Z70 ?_;refine qx3 ?_;refine t3 ?_;refine qbc (by exact qak (j:=_) (er rfl) (er rfl) rfl rfl rf hza) ?_;refine t4 ?_;refine qbc (by exact qak (j:=_) (er rfl) (er rfl) rfl rfl om hza) ?_;refine s1 ?_;refine qbc (qh8 (er rfl) (er rfl)) ?_;refine ⟨rfl,?_⟩;refine Z20 ?_;refine cN ?_ ?_<;>intro h20
     ·refine t17 ?_;exact rXF _ results163 (hp:=by exact fun h=>Bool.noConfusion h)
     refine t8 ?_;exact qaa (ka+1) om om qag qab
    have hkea:ka=n:=by have:=of_decide_eq_false h18;omega
    clear h18;subst hkea;refine t11 ?_;exact qaa (k+1) om om qag qab
   have hke:k=(op.list).length:=by have:=of_decide_eq_false h13;omega
   clear h13;subst hke;refine t23 ?_;exact rXF _ results163 (hp:=by exact fun h=>EA4 hc hk4 h)
  refine t6 ?_;refine cN ?_ ?_<;>intro h23
  ·have hk:op.kind=5:=by simpa using h23
   refine t19 ?_;exact rXF _ results163 (hp:=by exact fun h=>EA5 hc hk h)
  refine t6 ?_;refine cN ?_ ?_<;>intro h25
  ·have hk:op.kind=6:=by simpa using h25
   refine t12 ?_;exact rXF _ results163 (hp:=by exact fun h=>EA6 hc hk h)
  refine t9 ?_;exact rXF _ results163 (hp:=by exact fun h=>Bool.noConfusion h)
 refine t5 ?_;refine cN ?_ ?_<;>intro h7
 ·have hk:op.kind=2:=by simpa using h7
  refine t9 ?_;exact rXF _ results163 (hp:=by exact fun _=>⟨hc,fun h=>by omega,fun h=>by omega,fun h=>by omega⟩)
 refine t6 ?_;refine cN ?_ ?_<;>intro h9
 ·have hk:op.kind=3:=by simpa using h9
  refine t8 ?_;exact rXF _ results163 (hp:=by exact fun _=>⟨hc,fun h=>by omega,fun h=>by omega,fun h=>by omega⟩)
 refine t6 ?_;refine cN ?_ ?_<;>intro h11
 ·have hk4:op.kind=4:=by simpa using h11
  refine t7 ?_;refine qax [(1,_),(2,_)] [blk i1 _ _] (fun k:Nat=>k<=(op.list).length) (fun k=>[(5,Ii (k:Nat))]) (fun k=>[]) (fun k=>(op.list).length-k) 0 (nZ _) qag qab ?_;rintro k hk;refine t10 ?_;refine cN ?_ ?_<;>intro h13
  ·have hlt:k<(op.list).length:=by have:=of_decide_eq_true h13;omega
   clear h13;obtain ⟨z,hz⟩:∃ q,(op.list)[k]?=some q:=⟨_,gE hlt⟩
   refine t12 ?_;refine kRF call30 (qb5 _) ?_;refine t3 ?_;refine cN ?_ ?_<;>intro h15
   ·refine t14 ?_;exact rXF _ results163 (hp:=by exact fun h=>Bool.noConfusion h)
   refine t8 ?_;obtain ⟨n,hn⟩:∃ n,n=k:=⟨_,rfl⟩
   refine qax [(1,_),(2,_),(5,_),(41,_),(42,_),(43,_),(44,_),(48,_),(49,_),(50,_),(51,_),(52,_),(53,_)] [blk i1 _ _] (fun ka:Nat=>ka<=n) (fun ka=>[(6,Ii (ka:Nat))]) (fun ka=>[]) (fun ka=>n-ka) 0 (nZ _) qag qab ?_;rintro ka hka;refine t8 ?_;refine cN ?_ ?_<;>intro h18
   ·have hlta:ka<n:=by have:=of_decide_eq_true h18;omega
    clear h18;obtain ⟨za,hza⟩:∃ q,op.list[ka]?=some q:=⟨_,gE om⟩
    refine Z70 ?_;refine qx3 ?_;refine t3 ?_;refine qbc (by exact qak (j:=_) (er rfl) (er rfl) rfl rfl rf hza) ?_;refine t6 ?_;refine qbc (qh8 (er rfl) (er rfl)) ?_;refine ⟨rfl,?_⟩;refine Z20 ?_;refine cN ?_ ?_<;>intro h20
    ·refine t17 ?_;exact rXF _ results163 (hp:=by exact fun h=>Bool.noConfusion h)
    refine t8 ?_;exact qaa (ka+1) om om qag qab
   have hkea:ka=n:=by have:=of_decide_eq_false h18;omega
   clear h18;subst hkea;refine t11 ?_;exact qaa (k+1) om om qag qab
  have hke:k=(op.list).length:=by have:=of_decide_eq_false h13;omega
  clear h13;subst hke;refine t23 ?_;exact rXF _ results163 (hp:=by exact fun h=>EA4 hc hk4 h)
 refine t6 ?_;refine cN ?_ ?_<;>intro h23
 ·have hk:op.kind=5:=by simpa using h23
  refine t19 ?_;exact rXF _ results163 (hp:=by exact fun h=>EA5 hc hk h)
 refine t6 ?_;refine cN ?_ ?_<;>intro h25
 ·have hk:op.kind=6:=by simpa using h25
  refine t12 ?_;exact rXF _ results163 (hp:=by exact fun h=>EA6 hc hk h)
 refine t9 ?_;exact rXF _ results163 (hp:=by exact fun h=>Bool.noConfusion h)
def PES (r:ES26):Prop:=WL 20 r.writes∧r.need.length<=20∧r.out.check.length<=10
theorem qr3 (g:BitVec 32) (nd:List Nd) (ks:List Pg) (hn:nd.length<=10):FnF prog 166 [Is (.int .u32 (UV g)),qad tNd nd,qad tPg ks] (fun B=>qfc PES fun r=>qql B r):=by
 refine FnF.enter func166 ntmps166 rfl rfl ?_;intro c hX;refine t3 ?_;intro i6;refine t14 ?_;refine qdo 3 qaw ?_;refine qax [(0,_),(1,_),(2,_),(6,_)] [blk i6 _ _] (fun y:Nat×(List Int)×(Option Addr×Nat)=>y.1<=(nd).length∧(y.2.1.length<=y.1)) (fun y=>[(7,Is (slV (y.2.1).length y.2.2)),(8,Ii (y.1:Nat))]) (fun y=>[buf (slV (y.2.1).length y.2.2) 3 qaw (y.2.1)]) (fun y=>(nd).length-y.1) (0,[],(none,0)) ?_ qag qab ?_
 ·exact ⟨by exact nZ _,Nat.le_refl 0⟩
 rintro ⟨k,ck,v_0⟩ ⟨hk,hI⟩;dsimp only at hk hI ⊢;refine t9 ?_;refine cN ?_ ?_<;>intro h3
 ·have hlt:k<(nd).length:=by have:=of_decide_eq_true h3;omega
  clear h3;obtain ⟨z,hz⟩:∃ q,(nd)[k]?=some q:=⟨_,gE hlt⟩
  refine t23 ?_;refine cN ?_ ?_<;>intro h5
  ·refine t3 ?_;refine kRF call164 (qcs c.w.heap.size _ _) ?_;refine t10 ?_;exact rXF (⟨_,_,(⟨_,_,_,_,_⟩:EO26),_,_⟩:ES26) results166 (hp:=by exact ⟨wl0,nZ _,nZ _⟩)
  refine t6 ?_;refine Z1 ?_;(refine qc6 rfl (qca (er rfl) (fun _=>qaf) (by exact er rfl) (by exact qfz rfl rfl rfl) qcn) ?_;intro i39);refine t9 ?_;refine qaa (k+1,_,_) ?_ ?_ qag qab
  ·exact ⟨om,by (simp only [List.length_append,List.length_cons,List.length_nil];omega)⟩
  ·omega
 have hke:k=(nd).length:=by have:=of_decide_eq_false h3;omega
 clear h3;subst hke;refine qa7 hX (v:=slV ck.length v_0) qaf ?_;refine qbl 7 (qad qaw ck) rfl qf1 ?_;refine t12 ?_;refine cN ?_ ?_<;>intro h8
 ·refine t2 ?_;refine kRF call164 (qcs c.w.heap.size _ _) ?_;refine t5 ?_;exact rXF (⟨_,_,(⟨_,_,_,_,_⟩:EO26),_,_⟩:ES26) results166 (hp:=by exact ⟨wl0,nZ _,nZ _⟩)
 refine t5 ?_;refine Z27 ?_;intro i9;refine t9 ?_;refine qao rfl (by ((refine qac call205 (qrb _ _ ?_) ⟨qap,⟨qap,trivial⟩⟩);all_goals (exact qfb _ ⟨de,de⟩))) ?_;refine t4 ?_;intro i11;refine t5 ?_;refine qfe (b:=i11) (fun _=>qaf) ?_;intro p11 hln11;refine t2 ?_;refine Z2 ?_;refine t9 ?_;exact rXF (⟨_,_,(⟨_,_,_,_,_⟩:EO26),_,_⟩:ES26) results166 (hp:=by exact ⟨wl1 (by assumption),nZ _,by dsimp only at hI ⊢;omega⟩)
def za0 (n:Nd):Nat->Re
 | 0=>n.r0
 | 1=>n.r1
 | 2=>n.r2
 | _=>n.r3
def qwt (n:Nd) (k:Nat) (r:Re):Nd:=match k with
 | 0=>{ n with r0:=r }
 | 1=>{ n with r1:=r }
 | 2=>{ n with r2:=r }
 | _=>{ n with r3:=r }
theorem e4 {k:Nat} (hk:k<4):k=0∨k=1∨k=2∨k=3:=om
theorem re_idx (n:Nd) {k:Nat} (hk:k<4):((tNd.cells n).drop (0+4+k*3)).take 3=tRe.cells (za0 n k):=by
 rcases e4 hk with rfl|rfl|rfl|rfl <;> rfl
theorem re_to (n:Nd) {k:Nat} (hk:k<4):((tNd.cells n).drop (0+4+k*3+0)).take 2=tPt.cells (za0 n k).to:=by
 rcases e4 hk with rfl|rfl|rfl|rfl <;> rfl
theorem qy2 (n:Nd) {k:Nat} (hk:k<4):Nat.ble (0+4+k*3+3) (tNd.cells n).length=true:=Nat.ble_eq_true_of_le (by rw [tNd.len];show _<=16;omega)
theorem re_ble2 (n:Nd) {k:Nat} (hk:k<4):Nat.ble (0+4+k*3+0+2) (tNd.cells n).length=true:=Nat.ble_eq_true_of_le (by rw [tNd.len];show _<=16;omega)
theorem re_set (n:Nd) (r:Re) {k:Nat} (hk:k<4):ovr (tNd.cells n) (0+4+k*3) (tRe.cells r)=tNd.cells (qwt n k r):=by
 rcases e4 hk with rfl|rfl|rfl|rfl <;> rfl
theorem nld_set {n m:Nd} (h:Nld n m) {k:Nat} (hk:k<4):Nld n (qwt m k Re.nil):=by
 obtain ⟨a,b,c,d,h0,h1,h2,h3⟩:=h;rcases e4 hk with rfl|rfl|rfl|rfl
 ·exact ⟨a,b,c,d,.inr rfl,h1,h2,h3⟩
 ·exact ⟨a,b,c,d,h0,.inr rfl,h2,h3⟩
 ·exact ⟨a,b,c,d,h0,h1,.inr rfl,h3⟩
 ·exact ⟨a,b,c,d,h0,h1,h2,.inr rfl⟩
theorem cnt_set {m:Nd} {k:Nat} (hk:k<4) (hr:za0 m k≠Re.nil):qq7 (qwt m k Re.nil)<qq7 m:=by
 have h1:qnj (za0 m k)=1:=if_neg hr;have h0:=qzc;unfold qq7;rcases e4 hk with rfl|rfl|rfl|rfl
 ·have h2:qnj m.r0=1:=h1;show qnj Re.nil+qnj m.r1+qnj m.r2+qnj m.r3<_;omega
 ·have h2:qnj m.r1=1:=h1;show qnj m.r0+qnj Re.nil+qnj m.r2+qnj m.r3<_;omega
 ·have h2:qnj m.r2=1:=h1;show qnj m.r0+qnj m.r1+qnj Re.nil+qnj m.r3<_;omega
 ·have h2:qnj m.r3=1:=h1;show qnj m.r0+qnj m.r1+qnj m.r2+qnj Re.nil<_;omega
theorem qub (op:Ep26) (n:Nd) (p:Pg) (o:EO26) (hl:op.list.length<=4) (hp:Ln p):FnF prog 167 [qr8 op,IsNd n,qcv p,IsEO26 o] (fun B=>qfc PES fun r=>qql B r):=by
 refine FnF.enter func167 ntmps167 rfl rfl ?_;intro c hX;refine t3 ?_;intro i4;refine s1 ?_;intro i5;refine s1 ?_;intro i6;refine s1 ?_;intro i7;refine s1 ?_;intro i8;refine t9 ?_;refine qax [(4,_),(5,_),(6,_),(7,_),(8,_)] [blk i8 _ _,blk i7 _ _,blk i6 _ _,blk i5 _ _,blk i4 _ _] (fun k:Nat=>k<=(op.list).length) (fun k=>[(9,Ii (k:Nat))]) (fun k=>[]) (fun k=>(op.list).length-k) 0 (nZ _) qag qab ?_;rintro k hk;refine t10 ?_;refine cN ?_ ?_<;>intro h2
 ·have hlt:k<(op.list).length:=by have:=of_decide_eq_true h2;omega
  clear h2;obtain ⟨z,hz⟩:∃ q,(op.list)[k]?=some q:=⟨_,gE hlt⟩
  refine t10 ?_;refine qax [(4,_),(5,_),(6,_),(7,_),(8,_),(9,_),(15,_),(16,_),(17,_),(18,_)] [blk i8 _ _,blk i7 _ _,blk i6 _ _,blk i5 _ _,blk i4 _ _] (fun ka:Nat=>ka<=4) (fun ka=>[(10,Ii (ka:Nat))]) (fun ka=>[]) (fun ka=>4-ka) 0 (nZ _) qag qab ?_;rintro ka hka;refine t7 ?_;refine cN ?_ ?_<;>intro h5
  ·have hlta:ka<4:=by have:=of_decide_eq_true h5;omega
   clear h5;refine Z70 ?_;refine qx3 ?_;refine t2 ?_;refine qbc (qah (k:=ka) (sz:=3) (er rfl) (er rfl) rfl rfl rfl hlta) ?_;refine s1 ?_;refine qbc (qa3 (n:=2) (er rfl) qba rf rf rf (re_ble2 _ hlta) (re_to _ hlta)) ?_;refine t5 ?_;refine qbc (qh8 (er rfl) (er rfl)) ?_;refine ⟨rfl,?_⟩;refine Z20 ?_;refine cN ?_ ?_<;>intro h7
   ·refine t2 ?_;refine kRF call164 (qcs c.w.heap.size _ _) ?_;refine t13 ?_;exact rXF (⟨_,_,(⟨_,_,_,_,_⟩:EO26),_,_⟩:ES26) results167 (hp:=by exact ⟨by exact wl0,nZ _,by exact nZ _⟩)
   refine t8 ?_;exact qaa (ka+1) om om qag qab
  have hkea:ka=4:=by have:=of_decide_eq_false h5;omega
  clear h5;subst hkea;refine t11 ?_;exact qaa (k+1) om om qag qab
 have hke:k=(op.list).length:=by have:=of_decide_eq_false h2;omega
 clear h2;subst hke;refine t17 ?_;refine qbv (b:=i5) (As':=tNd.cells n) qaf qbo ?_;refine qax [(4,_),(5,_),(6,_),(7,_),(8,_)] [blk i8 _ _,blk i7 _ _,blk i6 _ _,blk i4 _ _] (fun yb:Nat×Nd×Nat=>yb.1<=4∧(yb.2.2<=yb.1)) (fun yb=>[(11,Ii (yb.2.2:Nat)),(12,Ii (yb.1:Nat))]) (fun yb=>[blk i5 214 (tNd.cells yb.2.1)]) (fun yb=>4-yb.1) (0,n,0) ?_ qag qab ?_
 ·exact ⟨by exact nZ _,Nat.le_refl 0⟩
 rintro ⟨kb,m,at_⟩ ⟨hkb,hIb⟩;dsimp only at hkb hIb ⊢;refine t14 ?_;refine cN ?_ ?_<;>intro h11
 ·rw [Bool.and_eq_true] at h11;have hlt4:kb<4:=by have:=of_decide_eq_true h11.1;omega
  have hla:at_<op.list.length:=by have:=of_decide_eq_true h11.2;omega
  obtain ⟨za,hza⟩:∃ q,op.list[at_]?=some q:=⟨_,gE hla⟩
  clear h11;refine t8 ?_;refine qao rfl (qah (k:=kb) (sz:=3) (er rfl) (er rfl) rfl rfl rfl hlt4) ?_;refine qao rfl (qa3 (n:=3) (er rfl) qba rf rf rf (qy2 _ hlt4) (re_idx _ hlt4)) ?_;refine s1 ?_;refine qao rfl (qb0 (vs:=Re.cells (za0 m kb)) (ws:=Re.cells Re.nil) (er rfl) (er rfl) (qgf _ _ _ (za0 m kb) Re.nil) (qj7 (za0 m kb) Re.nil)) ?_;refine t2 ?_;refine cN ?_ ?_<;>intro h13
  ·refine s1 ?_;refine Z5 ?_;refine qx3 ?_;refine t4 ?_;refine qbc (by exact qak (j:=_) (er rfl) (er rfl) rfl rfl rf hza) ?_;refine t5 ?_;refine qbc (qah (k:=kb) (sz:=3) (er rfl) (er rfl) rfl rfl rfl hlt4) ?_;refine ⟨rfl,?_⟩;refine zbx kr rfl (qdf (Rs:=tNd.cells (qwt m kb ⟨za,o.epoch⟩)) (er rfl) (er rfl) qas qaf (re_set _ _ hlt4) rf rf (qy2 _ hlt4)) ?_;refine qda ?_;refine t13 ?_;refine qan (b:=i5) (As':=tNd.cells (⟨_,_,_,_,(⟨(⟨_,_⟩:Pt),_⟩:Re),(⟨(⟨_,_⟩:Pt),_⟩:Re),(⟨(⟨_,_⟩:Pt),_⟩:Re),(⟨(⟨_,_⟩:Pt),_⟩:Re)⟩:Nd)) qaf qbo ?_;refine qaa (kb+1,(⟨_,_,_,_,(⟨(⟨_,_⟩:Pt),_⟩:Re),(⟨(⟨_,_⟩:Pt),_⟩:Re),(⟨(⟨_,_⟩:Pt),_⟩:Re),(⟨(⟨_,_⟩:Pt),_⟩:Re)⟩:Nd),_) ?_ ?_ qag qab
   ·exact ⟨om,by dsimp only;omega⟩
   ·omega
  refine t8 ?_;refine qan (b:=i5) (As':=tNd.cells (⟨_,_,_,_,(⟨(⟨_,_⟩:Pt),_⟩:Re),(⟨(⟨_,_⟩:Pt),_⟩:Re),(⟨(⟨_,_⟩:Pt),_⟩:Re),(⟨(⟨_,_⟩:Pt),_⟩:Re)⟩:Nd)) qaf qbo ?_;refine qaa (kb+1,(⟨_,_,_,_,(⟨(⟨_,_⟩:Pt),_⟩:Re),(⟨(⟨_,_⟩:Pt),_⟩:Re),(⟨(⟨_,_⟩:Pt),_⟩:Re),(⟨(⟨_,_⟩:Pt),_⟩:Re)⟩:Nd),_) ?_ ?_ qag qab
  ·exact ⟨om,by dsimp only;omega⟩
  ·omega
 skip
 refine t15 ?_;refine cN ?_ ?_<;>intro h16
 ·refine t2 ?_;refine kRF call164 (qcs c.w.heap.size _ _) ?_;refine t5 ?_;exact rXF (⟨_,_,(⟨_,_,_,_,_⟩:EO26),_,_⟩:ES26) results167 (hp:=by exact ⟨by exact wl0,nZ _,by exact nZ _⟩)
 refine t6 ?_;refine kRF call109 (qdk p m) ?_;refine t4 ?_;intro i13;refine t6 ?_;refine Z1 ?_;refine t7 ?_;refine Z2 ?_;refine t6 ?_;exact rXF (⟨_,_,(⟨_,_,_,_,_⟩:EO26),_,_⟩:ES26) results167 (hp:=by exact ⟨by exact wl1 (qgq _ hp),nZ _,by (show 1<=10;omega)⟩)
def PCol (n:Nd) (p:Pg) (r:ES26):Prop:=r.over=true->r.out.code=0->∃ m,Nld n m∧qq7 m<qq7 n∧Asc r.writes∧(qfa p m).1∈r.writes
theorem qry (op:Ep26) (n:Nd) (p:Pg) (o:EO26) (ks:List Pg) (hks:ks.length<=10000) (ho:o.freed=[]∧o.code=0) (hp:Ln p):FnF prog 168 [qr8 op,IsNd n,qcv p,IsAgg [Ii o.code,Is (.int .u32 (UV o.epoch)),Ii o.blocker,Is (.slice none 0 0),qad qaw o.check],qad tPg ks] (fun B=>qfc (fun r=>PES r∧PCol n p r) fun r=>qql B r):=by
 refine FnF.enter func168 ntmps168 rfl rfl ?_;intro c hX;refine t3 ?_;intro i5;refine s1 ?_;intro i6;refine s1 ?_;intro i7;refine s1 ?_;intro i8;refine s1 ?_;intro i10;refine t9 ?_;refine qdo 57 tPt ?_;refine qbv (b:=i6) (As':=tNd.cells n) qaf qbo ?_;refine qax [(4,_),(5,_),(6,_),(7,_),(8,_),(10,_)] [blk i10 _ _,blk i7 _ _,blk i5 _ _] (fun y:Nat×Nd×(List Pt)×(Option Addr×Nat)=>y.1<=4∧(Nld n y.2.1∧(y.2.2.1≠[]->qq7 y.2.1<qq7 n)∧y.2.2.1.length<=2)) (fun y=>[(11,Ii (y.1:Nat))]) (fun y=>[blk i6 214 (tNd.cells y.2.1),blk i8 203 [Ii o.code,Is (.int .u32 (UV o.epoch)),Ii o.blocker,Is (slV (y.2.2.1).length y.2.2.2),qad qaw o.check],buf (slV (y.2.2.1).length y.2.2.2) 57 tPt (y.2.2.1)]) (fun y=>4-y.1) (0,n,[],(none,0)) ?_ qag qab ?_
 ·exact ⟨by exact nZ _,⟨Nld.rfl' n,fun h=>absurd rfl h,nZ _⟩⟩
 rintro ⟨k,m,fr,v_0⟩ ⟨hk,hI⟩;dsimp only at hk hI ⊢;refine t13 ?_;refine cN ?_ ?_<;>intro h2
 ·rw [Bool.and_eq_true] at h2;have hlt4:k<4:=by have:=of_decide_eq_true h2.1;omega
  have hf2:fr.length<2:=by have:=of_decide_eq_true h2.2;omega
  clear h2;obtain ⟨hi1,hi2,hi3⟩:=id hI;refine t8 ?_;refine qao rfl (qah (k:=k) (sz:=3) (er rfl) (er rfl) rfl rfl rfl hlt4) ?_;refine qao rfl (qa3 (n:=3) (er rfl) qba rf rf rf (qy2 _ hlt4) (re_idx _ hlt4)) ?_;refine s1 ?_;intro i12;refine t7 ?_;refine qao rfl (qb0 (vs:=Re.cells (za0 m k)) (ws:=Re.cells Re.nil) (er rfl) (er rfl) (qgf _ _ _ (za0 m k) Re.nil) (zfs (za0 m k) Re.nil)) ?_;refine t5 ?_;(refine qcg rfl rfl rfl (fun hg=>(by have hg0:=hg;(try simp at hg);exact qac call203 (zam _ _) ⟨qap,⟨qap,trivial⟩⟩)) ?_);refine t3 ?_;refine cN ?_ ?_<;>intro h5
  ·rw [Bool.and_eq_true] at h5;have hne:za0 m k≠Re.nil:=by simpa using h5.1
   have hnew:Nld n (qwt m k Re.nil)∧(fr++[(za0 m k).to]≠[]->qq7 (qwt m k Re.nil)<qq7 n)∧(fr++[(za0 m k).to]).length<=2:=⟨nld_set hi1 hlt4,fun _=>Nat.lt_of_lt_of_le (cnt_set hlt4 hne) hi1.le,by simp;omega⟩
   clear h5;refine Z96 ?_;(refine qc6 rfl (qca (er rfl) (fun _=>qaf) (by exact er rfl) (by exact qfz rfl rfl rfl) qcn) ?_;intro i46);refine t8 ?_;refine qao rfl (qah (k:=k) (sz:=3) (er rfl) (er rfl) rfl rfl rfl hlt4) ?_;refine qjw (qdf (Rs:=tNd.cells (qwt m k Re.nil)) (er rfl) (er rfl) qas qaf (re_set _ _ hlt4) rf rf (qy2 _ hlt4)) ?_;refine t8 ?_;refine qan (b:=i6) (As':=tNd.cells (⟨_,_,_,_,(⟨(⟨_,_⟩:Pt),_⟩:Re),(⟨(⟨_,_⟩:Pt),_⟩:Re),(⟨(⟨_,_⟩:Pt),_⟩:Re),(⟨(⟨_,_⟩:Pt),_⟩:Re)⟩:Nd)) qaf qbo ?_;refine qaa (k+1,(⟨_,_,_,_,(⟨(⟨_,_⟩:Pt),_⟩:Re),(⟨(⟨_,_⟩:Pt),_⟩:Re),(⟨(⟨_,_⟩:Pt),_⟩:Re),(⟨(⟨_,_⟩:Pt),_⟩:Re)⟩:Nd),_,_) ?_ ?_ qag qab
   ·exact ⟨om,by exact hnew⟩
   ·omega
  refine t8 ?_;refine qan (b:=i6) (As':=tNd.cells (⟨_,_,_,_,(⟨(⟨_,_⟩:Pt),_⟩:Re),(⟨(⟨_,_⟩:Pt),_⟩:Re),(⟨(⟨_,_⟩:Pt),_⟩:Re),(⟨(⟨_,_⟩:Pt),_⟩:Re)⟩:Nd)) qaf qbo ?_;refine qaa (k+1,(⟨_,_,_,_,(⟨(⟨_,_⟩:Pt),_⟩:Re),(⟨(⟨_,_⟩:Pt),_⟩:Re),(⟨(⟨_,_⟩:Pt),_⟩:Re),(⟨(⟨_,_⟩:Pt),_⟩:Re)⟩:Nd),_,_) ?_ ?_ qag qab
  ·exact ⟨om,by exact hI⟩
  ·omega
 obtain ⟨hi1,hi2,hi3⟩:=id hI;clear h2;refine qa7 hX (v:=slV fr.length v_0) qaf ?_;refine qbv (b:=i8) (As':=tEO26.cells ⟨o.code,o.epoch,o.blocker,fr,o.check⟩) qaf qbo ?_;refine t14 ?_;refine cN ?_ ?_<;>intro h8
 ·refine t2 ?_;refine kRF call164 (qcs c.w.heap.size _ _) ?_;refine t5 ?_;exact rXF (⟨_,_,(⟨_,_,_,_,_⟩:EO26),_,_⟩:ES26) results168 (hp:=by exact ⟨⟨wl0,by exact nZ _,nZ _⟩,fun h h0=>by exact absurd (show (16:Int)=0 from h0) de⟩)
 have hfr:fr≠[]:=by
  intro h;subst h;simp at h8
 have hlt:=hi2 hfr;have hfl:=freR_len ks op.lines fr om;obtain ⟨F,hF⟩:=xE (freR ks op.lines fr);have hfw:WL 8 F.writes:=by rw [<- hF];exact hfl.1
 have hfn:F.need.length<=8:=by rw [<- hF];exact hfl.2
 refine t9 ?_;refine kRF call206 (FreeR_ok _ _ _ hks) ?_;refine s1 ?_;intro i13;refine t5 ?_;rw [hF];refine t6 ?_;refine cN ?_ ?_<;>intro h11
 ·refine t10 ?_;exact rXF (⟨_,_,(⟨_,_,_,_,_⟩:EO26),_,_⟩:ES26) results168 (hp:=by exact ⟨⟨wl0,by exact nT hfn de,nZ _⟩,fun h h0=>by exact (Bool.noConfusion (show false=true from h))⟩)
 refine t10 ?_;refine qbw [(6,_),(7,_),(8,_),(10,_),(13,_)] [blk i10 _ _,blk i8 _ _,blk i7 _ _,blk i6 _ _] (fun yc:S19=>yc.writes=F.writes) (fun yc=>[]) (fun yc=>[blk i13 120 (tS19.cells yc)]) qag qab ?_ ?_
 rotate_left
 focus
  refine cN ?_ ?_<;>intro h13
  ·refine t4 ?_;refine qan (b:=i13) (As':=tS19.cells (⟨_,_,_,_,_,_⟩:S19)) qaf qbo ?_;refine qal (⟨_,_,_,_,_,_⟩:S19) ?_ qag qab
   ·exact (rfl)
  refine s1 ?_;refine qan (b:=i13) (As':=tS19.cells (⟨_,_,_,_,_,_⟩:S19)) qaf qbo ?_;refine qal (⟨_,_,_,_,_,_⟩:S19) ?_ qag qab
  ·exact (rfl)
 rintro F2 hI;refine t8 ?_;refine cN ?_ ?_<;>intro h15
 ·have hc9:F2.code≠0:=by simpa using h15
  refine t4 ?_;refine kRF call164 (qcs c.w.heap.size _ _) ?_;refine s1 ?_;intro i14;refine t20 ?_;exact rXF (⟨_,_,(⟨_,_,_,_,_⟩:EO26),_,_⟩:ES26) results168 (hp:=by exact ⟨⟨wl0,by exact nZ _,nZ _⟩,fun h h0=>by exact absurd h0 hc9⟩)
 have hfw2:WL 8 F2.writes:=by rw [hI];exact hfw
 have hfw3:=hfw2.1;refine t6 ?_;refine kRF call109 (qdk p m) ?_;refine t4 ?_;intro i15;refine t6 ?_;refine Z1 ?_;refine Z70 ?_;refine qaj 7 kr ?_;refine t3 ?_;refine Z45 ?_;refine qbc (by ((refine qau call88 (qb8 _ _ ?_) ⟨qap,⟨qap,trivial⟩⟩);all_goals (first|first|omega|(simp;omega)|(simp;done)))) ?_;refine t2 ?_;refine ⟨rfl,?_⟩;refine Z3 ?_;refine t2 ?_;exact rXF (⟨_,_,(⟨_,_,_,_,_⟩:EO26),_,_⟩:ES26) results168 (hp:=by exact ⟨⟨qgw hfw2 (wl1 (n:=0) (qgq _ hp)) de,nZ _,by show 1<=10;omega⟩,fun _ _=>⟨m,hi1,hlt,qvv _ _,zba _ _⟩⟩)
def ndPg (ks:List Pg) (f:Int):Pg:=qb9 ks (98+f)
def PEN (op:Ep26) (ks:List Pg) (r:ES26):Prop:=PES r∧(op.kind=5->r.over=true->r.out.code=0->(qeo (ndPg ks op.for_)).2=0∧∃ m,Nld (qeo (ndPg ks op.for_)).1 m∧qq7 m<qq7 (qeo (ndPg ks op.for_)).1∧Asc r.writes∧(qfa (ndPg ks op.for_) m).1∈r.writes)
def NI (op:Ep26) (ks:List Pg) (n k:Nat) (pg:List Pg) (nd:List Nd):Prop:=(pg.length=nd.length∧∀ p,p∈pg->Ln p)∧nd.length<=k∧(k=n->1<=nd.length)∧(op.kind=5->(k<=1->nd=[]∧pg=[])∧(2<=k->pg=[ndPg ks op.for_]∧nd=[(qeo (ndPg ks op.for_)).1]∧(qeo (ndPg ks op.for_)).2=0))
theorem NI_skip {op:Ep26} {ks:List Pg} {ask:List Int} {k:Nat} {pg:List Pg} {nd:List Nd} {z:Int} (h:NI op ks ask.length k pg nd) (hz:ask[k]?=some z) (h97:z=97) (hl:ask.getLast?≠some 97) (h5:op.kind=5->ask=[97,98+op.for_]) (hf:op.kind=5->0<=op.for_):NI op ks ask.length (k+1) pg nd:=by
 obtain ⟨h1,h2,h3,h4⟩:=h;refine ⟨h1,om,fun hk=>?_,fun hk=>⟨fun hk1=>(h4 hk).1 om,fun hk2=>?_⟩⟩
 ·refine absurd ?_ hl;rw [List.getLast?_eq_getElem?,<- hk,Nat.add_sub_cancel,hz,h97]
 ·have e:=h5 hk;have hkl:=(List.getElem?_eq_some_iff.1 hz).1;rw [e] at hkl;have hk1:k=1:=by simp at hkl;omega
  subst hk1;rw [e] at hz;have:=hf hk;simp at hz;omega
theorem NI_node {op:Ep26} {ks:List Pg} {ask:List Int} {k:Nat} {pg:List Pg} {nd:List Nd} {z:Int} (h:NI op ks ask.length k pg nd) (hz:ask[k]?=some z) (h97:z≠97) (h5:op.kind=5->ask=[97,98+op.for_]) (ho:(qeo (qb9 ks z)).2=0):NI op ks ask.length (k+1) (pg++[qb9 ks z]) (nd++[(qeo (qb9 ks z)).1]):=by
 obtain ⟨h1,h2,h3,h4⟩:=h;refine ⟨⟨by simp [h1.1],qzp h1.2 (ln_readN ho)⟩,by simp;omega,fun hk=>by simp,fun hk=>?_⟩;have e:=h5 hk;have hkl:=(List.getElem?_eq_some_iff.1 hz).1;rw [e] at hkl hz;have hk01:k=0∨k=1:=by simp at hkl;omega
 rcases hk01 with rfl|rfl
 ·simp at hz;exact absurd hz.symm h97
 ·have ez:z=98+op.for_:=by simp at hz;exact hz.symm
  obtain ⟨q1,q2⟩:=(h4 hk).1 om;refine ⟨fun hk1=>by omega,fun _=>?_⟩;subst ez;rw [q1,q2];exact ⟨rfl,rfl,ho⟩
theorem qfx (op:Ep26) (ks:List Pg) (hks:ks.length<=10000) (hol:op.list.length<=1000):FnF prog 101 [qr8 op,qad tPg ks] (fun B=>qfc (PEN op ks) fun r=>qql B r):=by
 refine FnF.enter func101 ntmps101 rfl rfl ?_;intro c hX;refine t3 ?_;intro i2;refine s1 ?_;intro i4;refine t6 ?_;refine qao rfl (by ((refine qac call163 (qn1 op ?_) ⟨qap,trivial⟩);all_goals (omega))) ?_;(refine qbj 25 rfl ?_;intro x25 hx25);refine t3 ?_;refine cN ?_ ?_<;>intro h1
 ·refine t2 ?_;refine kRF call164 (qcs c.w.heap.size _ _) ?_;refine t5 ?_;exact rXF (⟨_,_,(⟨_,_,_,_,_⟩:EO26),_,_⟩:ES26) results101 (hp:=by exact ⟨⟨wl0,nZ _,nZ _⟩,fun _ _ h=>absurd (show (1:Int)=0 from h) de⟩)
 have hea:EA op:=hx25 (by simpa using h1);obtain ⟨he1,he2,he3,he4⟩:=hea;refine t9 ?_;refine qdo 3 qaw ?_;refine t11 ?_;refine qbw [(1,_),(2,_),(4,_)] [blk i4 _ _,blk i2 _ _] (fun yc:(List Int)×(Option Addr×Nat)=>yc.1.length<=1∧(op.kind=5->yc.1=[97])) (fun yc=>[(5,Is (slV (yc.1).length yc.2))]) (fun yc=>[buf (slV (yc.1).length yc.2) 3 qaw (yc.1)]) qag qab ?_ ?_
 rotate_left
 focus
  refine cN ?_ ?_<;>intro h4
  ·refine t2 ?_;refine Z1 ?_;(refine qc6 rfl (qca (er rfl) (fun _=>qaf) (by exact er rfl) (by exact qfz rfl rfl rfl) qcn) ?_;intro i38);refine t2 ?_;exact qal ([97],i38) ⟨Nat.le_refl 1,fun _=>rfl⟩ qag qab
  have hn5:op.kind=5->([]:List Int)=[97]:=fun h5=>by rw [h5] at h4;exact absurd h4 de
  refine s1 ?_;exact qal ([],(none,0)) ⟨nZ _,hn5⟩ qag qab
 rintro ⟨ask,v⟩ hI;dsimp only at hI ⊢;obtain ⟨ha1,ha2⟩:=hI;refine t7 ?_;refine qbw [(1,_),(2,_),(4,_)] [blk i4 _ _,blk i2 _ _] (fun yc:(List Int)×(Option Addr×Nat)=>(1<=yc.1.length∧yc.1.length<=7)∧yc.1.getLast?≠some 97∧(op.kind=5->yc.1=[97,98+op.for_])) (fun yc=>[(5,Is (slV (yc.1).length yc.2))]) (fun yc=>[buf (slV (yc.1).length yc.2) 3 qaw (yc.1)]) qag qab ?_ ?_
 rotate_left
 focus
  refine t7 ?_;refine cN ?_ ?_<;>intro h8
  ·have hk3:op.kind=3:=by simpa using h8
   refine t6 ?_;refine qax [(1,_),(2,_),(4,_)] [blk i4 _ _,blk i2 _ _] (fun y:Nat×(List Int)×(Option Addr×Nat)=>y.1<=6∧(y.2.1.length=ask.length+y.1∧(0<y.1->y.2.1.getLast?≠some 97))) (fun y=>[(5,Is (slV (y.2.1).length y.2.2)),(6,Ii (y.1:Nat))]) (fun y=>[buf (slV (y.2.1).length y.2.2) 3 qaw (y.2.1)]) (fun y=>6-y.1) (0,ask,v) ?_ qag qab ?_
   ·exact ⟨by exact nZ _,⟨rfl,fun h=>absurd h (Nat.lt_irrefl _)⟩⟩
   rintro ⟨k,a3,v_0⟩ ⟨hk,hI⟩;dsimp only at hk hI ⊢;refine t7 ?_;refine cN ?_ ?_<;>intro h10
   ·have hlt:k<6:=by have:=of_decide_eq_true h10;omega
    clear h10;refine t8 ?_;refine Z1 ?_;(refine qc6 rfl (qca (er rfl) (fun _=>qaf) (by exact er rfl) (by exact qfz rfl rfl rfl) qcn) ?_;intro i57);refine t9 ?_;refine qaa (k+1,_,_) ?_ ?_ qag qab
    ·exact ⟨om,⟨by simp only [List.length_append,List.length_cons,List.length_nil];omega,fun _=>by simp;omega⟩⟩
    ·omega
   have hke:k=6:=by have:=of_decide_eq_false h10;omega
   clear h10;subst hke;have hr3:(1<=a3.length∧a3.length<=7)∧a3.getLast?≠some 97∧(op.kind=5->a3=[97,98+op.for_]):=⟨om,hI.2 om,fun h=>by omega⟩
   refine t5 ?_;exact qal (a3,v_0) hr3 qag qab
  refine t7 ?_;refine cN ?_ ?_<;>intro h13
  ·have hk56:op.kind=5:=by simpa using h13
   refine t2 ?_;refine cN ?_ ?_<;>intro h13
   ·have hk56:op.kind=5:=by simpa using h13
    refine t5 ?_;refine Z1 ?_;(refine qc6 rfl (qca (er rfl) (fun _=>qaf) (by exact er rfl) (by exact qfz rfl rfl rfl) qcn) ?_;intro i66);refine t3 ?_;have hfo:=he3 om;have hr5:(1<=(ask++[98+op.for_]).length∧(ask++[98+op.for_]).length<=7)∧(ask++[98+op.for_]).getLast?≠some 97∧(op.kind=5->ask++[98+op.for_]=[97,98+op.for_]):=⟨⟨by simp,by simp;omega⟩,by simp;omega,fun h=>by rw [ha2 h];rfl⟩
    exact qal (ask++[98+op.for_],i66) hr5 qag qab
   have hn5:op.kind≠5:=by simpa using h13
   refine t5 ?_;refine Z1 ?_;(refine qc6 rfl (qca (er rfl) (fun _=>qaf) (by exact er rfl) (by exact qfz rfl rfl rfl) qcn) ?_;intro i46);refine t3 ?_;have hr1:(1<=(ask++[98+op.client]).length∧(ask++[98+op.client]).length<=7)∧(ask++[98+op.client]).getLast?≠some 97∧(op.kind=5->ask++[98+op.client]=[97,98+op.for_]):=⟨⟨by simp,by simp;omega⟩,by simp;omega,fun h=>absurd h hn5⟩
   exact qal (ask++[98+op.client],i46) hr1 qag qab
  have hn5:op.kind≠5:=by simpa using h13
  refine t5 ?_;refine cN ?_ ?_<;>intro h14
  ·have hk56:op.kind=6:=by simpa using h14
   refine t5 ?_;refine Z1 ?_;(refine qc6 rfl (qca (er rfl) (fun _=>qaf) (by exact er rfl) (by exact qfz rfl rfl rfl) qcn) ?_;intro i66);refine t3 ?_;have hfo:=he3 om;have hr5:(1<=(ask++[98+op.for_]).length∧(ask++[98+op.for_]).length<=7)∧(ask++[98+op.for_]).getLast?≠some 97∧(op.kind=5->ask++[98+op.for_]=[97,98+op.for_]):=⟨⟨by simp,by simp;omega⟩,by simp;omega,fun h=>by rw [ha2 h];rfl⟩
   exact qal (ask++[98+op.for_],i66) hr5 qag qab
  refine t5 ?_;refine Z1 ?_;(refine qc6 rfl (qca (er rfl) (fun _=>qaf) (by exact er rfl) (by exact qfz rfl rfl rfl) qcn) ?_;intro i46);refine t3 ?_;have hr1:(1<=(ask++[98+op.client]).length∧(ask++[98+op.client]).length<=7)∧(ask++[98+op.client]).getLast?≠some 97∧(op.kind=5->ask++[98+op.client]=[97,98+op.for_]):=⟨⟨by simp,by simp;omega⟩,by simp;omega,fun h=>absurd h hn5⟩
  exact qal (ask++[98+op.client],i46) hr1 qag qab
 rintro ⟨ask2,v2⟩ hI;dsimp only at hI ⊢;obtain ⟨hb1,hb2,hb3⟩:=hI;refine qa7 hX (v:=slV ask2.length v2) qaf ?_;refine qbl 5 (qad qaw ask2) rfl qf1 ?_;refine t4 ?_;refine qao rfl (by ((refine qac call104 (qhl _ ask2 ?_) ⟨qap,⟨qap,trivial⟩⟩);all_goals (omega))) ?_;refine t5 ?_;have hml:=qmu ks ask2;refine t6 ?_;refine cN ?_ ?_<;>intro h17
 ·refine t9 ?_;exact rXF (⟨_,_,(⟨_,_,_,_,_⟩:EO26),_,_⟩:ES26) results101 (hp:=by exact ⟨⟨wl0,by dsimp only;omega,nZ _⟩,fun _ h _=>Bool.noConfusion (show false=true from h)⟩)
 refine t24 ?_;refine qdo 214 tNd ?_;refine Z62 ?_;refine qax [(1,_),(2,_),(4,_),(5,_)] [blk i4 _ _,blk i2 _ _] (fun y:Nat×(BitVec 32)×(List Pg)×(List Nd)×(Option Addr×Nat)×(Option Addr×Nat)=>y.1<=(ask2).length∧(NI op ks ask2.length y.1 y.2.2.1 y.2.2.2.1)) (fun y=>[(8,Is (.int .u32 (UV y.2.1))),(9,Is (slV (y.2.2.1).length y.2.2.2.2.1)),(10,Is (slV (y.2.2.2.1).length y.2.2.2.2.2)),(11,Ii (y.1:Nat))]) (fun y=>[buf (slV (y.2.2.1).length y.2.2.2.2.1) 50 tPg (y.2.2.1),buf (slV (y.2.2.2.1).length y.2.2.2.2.2) 214 tNd (y.2.2.2.1)]) (fun y=>(ask2).length-y.1) (0,0#32,[],[],(none,0),(none,0)) ?_ qag qab ?_
 ·exact ⟨by exact nZ _,⟨⟨rfl,lns0⟩,Nat.le_refl 0,fun h=>by omega,fun h=>⟨fun _=>⟨rfl,rfl⟩,fun h=>absurd h de⟩⟩⟩
 rintro ⟨k,g,pg,nd,v_0,v_1⟩ ⟨hk,hI⟩;dsimp only at hk hI ⊢;refine t9 ?_;refine cN ?_ ?_<;>intro h23
 ·have hlt:k<(ask2).length:=by have:=of_decide_eq_true h23;omega
  clear h23;obtain ⟨z,hz⟩:∃ q,(ask2)[k]?=some q:=⟨_,gE hlt⟩
  have hnl:=hI.2.1;have hpl:=hI.1.1;refine t11 ?_;refine Z27 ?_;intro i12;refine t8 ?_;refine Z43 ?_;refine cN ?_ ?_<;>intro h26
  ·refine t20 ?_;refine cN ?_ ?_<;>intro h28
   ·refine t12 ?_;refine kRF call164 (qcs c.w.heap.size _ _) ?_;refine s1 ?_;intro i15;refine t22 ?_;exact rXF (⟨_,_,(⟨_,_,_,_,_⟩:EO26),_,_⟩:ES26) results101 (hp:=by exact ⟨⟨wl0,nZ _,nZ _⟩,fun _ _ h=>absurd (show (3:Int)=0 from h) de⟩)
   refine t5 ?_;refine kRF call164 (qcs c.w.heap.size _ _) ?_;refine s1 ?_;intro i15;refine t22 ?_;exact rXF (⟨_,_,(⟨_,_,_,_,_⟩:EO26),_,_⟩:ES26) results101 (hp:=by exact ⟨⟨wl0,nZ _,nZ _⟩,fun _ _ h=>absurd (show (3:Int)=0 from h) de⟩)
  refine t12 ?_;refine cN ?_ ?_<;>intro h33
  ·have hskip:=NI_skip hI hz (by simpa using h33) hb2 hb3 (fun h5=>(he3 (Or.inl h5)).1);refine t3 ?_;refine kRF call165 (qjh _) ?_;(refine qh0 118 rfl ?_;intro x118);refine t14 ?_;refine cN ?_ ?_<;>intro h35
   ·refine t2 ?_;refine kRF call164 (qcs c.w.heap.size _ _) ?_;refine t11 ?_;exact rXF (⟨_,_,(⟨_,_,_,_,_⟩:EO26),_,_⟩:ES26) results101 (hp:=by exact ⟨⟨wl0,nZ _,nZ _⟩,fun _ _ h=>absurd (show (14:Int)=0 from h) de⟩)
   refine t17 ?_;refine qaa (k+1,_,_,_,_,_) ?_ ?_ qag qab
   ·exact ⟨om,by exact hskip⟩
   ·omega
  refine t5 ?_;refine kRF call147 (qok _) ?_;refine t4 ?_;intro i18;refine t11 ?_;refine cN ?_ ?_<;>intro h39
  ·refine t2 ?_;refine kRF call164 (qcs c.w.heap.size _ _) ?_;refine t10 ?_;exact rXF (⟨_,_,(⟨_,_,_,_,_⟩:EO26),_,_⟩:ES26) results101 (hp:=by exact ⟨⟨wl0,nZ _,nZ _⟩,fun _ _ h=>absurd (show (14:Int)=0 from h) de⟩)
  have hnode:=NI_node hI hz (by simpa using h33) hb3 (by simpa using h39);refine t6 ?_;refine Z2 ?_;(refine qc6 rfl (qca (er rfl) (fun _=>qaf) (by exact Ev.sub rfl (by exact qf1)) (by exact qfz rfl rfl rfl) qcn) ?_;intro i136);refine t6 ?_;refine qao rfl (OpP.to (qa1 (size:=16) (qs:=[(0,_)]) rfl rfl rfl ⟨⟨rfl,_,(er rfl),qas⟩,trivial⟩ rf rf) (SubL.row1 (T:=tNd) (x:=(⟨_,_,_,_,(⟨(⟨_,_⟩:Pt),_⟩:Re),(⟨(⟨_,_⟩:Pt),_⟩:Re),(⟨(⟨_,_⟩:Pt),_⟩:Re),(⟨(⟨_,_⟩:Pt),_⟩:Re)⟩:Nd)) rf rf rf qav)) ?_;(refine qc6 rfl (qca (er rfl) (fun _=>qaf) (by exact er rfl) (by exact qfz rfl rfl rfl) qcn) ?_;intro i140);refine t9 ?_;refine qaa (k+1,_,_,_,_,_) ?_ ?_ qag qab
  ·exact ⟨om,by exact hnode⟩
  ·omega
 have hke:k=ask2.length:=by have:=of_decide_eq_false h23;omega
 clear h23;subst hke;obtain ⟨⟨hn1,hnp⟩,hn2,hn3,hn4⟩:=hI;have hn5:=hn3 rfl;obtain ⟨n0,nr,rfl⟩:∃ a r,nd=a::r:=by
  cases nd with
  | nil=>simp at hn5
  | cons a r=>exact ⟨a,r,rfl⟩
 obtain ⟨p0,pr,rfl⟩:∃ a r,pg=a::r:=by
  cases pg with
  | nil=>simp at hn1
  | cons a r=>exact ⟨a,r,rfl⟩
 have hz0:(n0::nr)[0]?=some n0:=rfl;have hp0:(p0::pr)[0]?=some p0:=rfl;have hp0l:Ln p0:=hnp _ (List.mem_cons_self ..);refine t10 ?_;intro i20;refine t17 ?_;refine cN ?_ ?_<;>intro h45
 ·have hk1:op.kind=1:=by simpa using h45
  refine t2 ?_;refine Z5 ?_;refine zbq ?_;refine Z14 ?_;refine qbc (by exact qcr (k:=0) (er rfl) qba qcn rfl rfl rfl rfl) ?_;refine qbc (by exact qep (er rfl) qba hz0 rfl rfl rf) ?_;refine t2 ?_;(refine qch rfl rfl (fun hg=>(by have hg0:=hg;(try simp at hg);exact qay (k:=0) evG qba evG rfl rfl qdh qcn)) ?_);(refine qch rfl rfl (fun hg=>(by have hg0:=hg;(try simp at hg);exact qcr (k:=3) evG qba qcn rfl rfl rfl rfl)) ?_);(refine qch rfl rfl (fun hg=>(by have hg0:=hg;(try simp at hg);exact qep evG qba hz0 rfl rfl rf)) ?_);(refine qch rfl rfl (fun hg=>(by have hg0:=hg;(try simp at hg);exact qbe (k:=2) evG rfl rfl rfl rfl)) ?_);(refine qch rfl rfl (fun hg=>(by have hg0:=hg;(try simp at hg);exact qc8 evG qba rf rf rf)) ?_);refine t2 ?_;refine ⟨rfl,?_⟩;refine Z20 ?_;refine cN ?_ ?_<;>intro h46
  ·refine t2 ?_;refine kRF call164 (qcs c.w.heap.size _ _) ?_;refine t7 ?_;exact rXF (⟨_,_,(⟨_,_,_,_,_⟩:EO26),_,_⟩:ES26) results101 (hp:=by exact ⟨⟨wl0,nZ _,nZ _⟩,fun _ _ h=>absurd (show (17:Int)=0 from h) de⟩)
  refine t3 ?_;refine qec (b:=i2) hX qaf ?_;refine qbl 2 (IsRef (tEp26.cells op)) rfl qf1 ?_;refine Z5 ?_;refine qdn [0,0,0,0,0,0,1,1,2,1,1,2,1,1,2] kr kr ?_;refine Z8 ?_;refine Z8 ?_;refine qhc (by exact qa0 (k:=2) (er rfl) rfl rfl rfl rfl qbx) ?_;refine Z103 ?_;refine qfq (by exact qay (k:=0) (er rfl) qba (er rfl) rfl rfl qdh qcn) ?_;refine qfq (by exact qcr (k:=0) (er rfl) qba qcn rfl rfl rfl rfl) ?_;refine qwj (by exact qby (z':={ n0 with pin:=true }) (er rfl) (er rfl) qas qaf hz0 rfl rf rf) ?_;refine qfq (by exact qay (k:=0) (er rfl) qba (er rfl) rfl rfl qdh qcn) ?_;refine Z66 ?_;refine qwj (by exact qby (z':={ n0 with pin:=true,ep:=g }) (er rfl) (er rfl) qas qaf (show ((n0::nr).set 0 { n0 with pin:=true })[0]?=some { n0 with pin:=true } from rfl) rfl rf rf) ?_;refine qfq (by exact qay (k:=0) (er rfl) qba (er rfl) rfl rfl qdh qcn) ?_;refine qfq (by exact qcr (k:=3) (er rfl) qba qcn rfl rfl rfl rfl) ?_;refine qwj (by exact qby (z':={ n0 with pin:=true,ep:=g,inc:=op.inc }) (er rfl) (er rfl) qas qaf (show (((n0::nr).set 0 { n0 with pin:=true }).set 0 { n0 with pin:=true,ep:=g })[0]?=some { n0 with pin:=true,ep:=g } from rfl) rfl rf rf) ?_;refine qjn ?_;refine Z33 ?_;refine Z1 ?_;refine t6 ?_;refine Z5 ?_;refine zbq ?_;refine Z14 ?_;refine qbc (by exact qb6 (er rfl) qba (by exact hp0) rfl rfl rfl) ?_;refine Z14 ?_;refine qbc (by exact qb6 (er rfl) qba rf rfl rfl rfl) ?_;refine qbc (qac call109 (qdk p0 (⟨_,_,_,_,(⟨(⟨_,_⟩:Pt),_⟩:Re),(⟨(⟨_,_⟩:Pt),_⟩:Re),(⟨(⟨_,_⟩:Pt),_⟩:Re),(⟨(⟨_,_⟩:Pt),_⟩:Re)⟩:Nd)) ⟨qbg,⟨qbg,trivial⟩⟩) ?_;refine Z41 ?_;refine ⟨rfl,?_⟩;intro i22;refine Z102 ?_;exact rXF (⟨_,_,(⟨_,_,_,_,_⟩:EO26),_,_⟩:ES26) results101 (hp:=by exact ⟨⟨wl1 (qgq _ hp0l),nZ _,by (show 1<=10;omega)⟩,fun h=>by omega⟩)
 refine t7 ?_;refine cN ?_ ?_<;>intro h50
 ·have hk2:op.kind=2:=by simpa using h50
  refine t2 ?_;refine cN ?_ ?_<;>intro h50
  ·have hk2:op.kind=2:=by simpa using h50
   refine t3 ?_;refine Z47 ?_;refine qao rfl (by exact qb6 (er rfl) qba hz0 rfl rfl rfl) ?_;refine s1 ?_;intro i21;refine t30 ?_;refine cN ?_ ?_<;>intro h53
   ·refine t2 ?_;refine kRF call164 (qcs c.w.heap.size _ _) ?_;refine t7 ?_;exact rXF (⟨_,_,(⟨_,_,_,_,_⟩:EO26),_,_⟩:ES26) results101 (hp:=by exact ⟨⟨wl0,nZ _,nZ _⟩,fun _ _ h=>absurd (show (16:Int)=0 from h) de⟩)
   refine t13 ?_;refine Z47 ?_;refine qao rfl (by exact qcr (k:=0) (er rfl) qba qcn rfl rfl rfl rfl) ?_;refine qjw (by exact qby (z':={ n0 with pin:=false }) (er rfl) (er rfl) qas qaf hz0 rfl rf rf) ?_;refine Z47 ?_;refine qao rfl (by exact qcr (k:=1) (er rfl) qba qcn rfl rfl rfl rfl) ?_;refine qjw (by exact qby (z':={ n0 with pin:=false,ep:=0#32 }) (er rfl) (er rfl) qas qaf (show ((n0::nr).set 0 { n0 with pin:=false })[0]?=some { n0 with pin:=false } from rfl) rfl rf rf) ?_;refine Z38 ?_;refine zbq ?_;refine Z14 ?_;refine qbc (by exact qb6 (er rfl) qba (by exact hp0) rfl rfl rfl) ?_;refine Z14 ?_;refine qbc (by exact qb6 (er rfl) qba rf rfl rfl rfl) ?_;refine qbc (qac call109 (qdk p0 (⟨_,_,_,_,(⟨(⟨_,_⟩:Pt),_⟩:Re),(⟨(⟨_,_⟩:Pt),_⟩:Re),(⟨(⟨_,_⟩:Pt),_⟩:Re),(⟨(⟨_,_⟩:Pt),_⟩:Re)⟩:Nd)) ⟨qbg,⟨qbg,trivial⟩⟩) ?_;refine Z41 ?_;refine ⟨rfl,?_⟩;intro i22;refine Z102 ?_;exact rXF (⟨_,_,(⟨_,_,_,_,_⟩:EO26),_,_⟩:ES26) results101 (hp:=by exact ⟨⟨wl1 (qgq _ hp0l),nZ _,by exact nZ _⟩,fun h=>by omega⟩)
  refine t6 ?_;refine cN ?_ ?_<;>intro h57
  ·refine qa7 hX (v:=slV (n0::nr).length v_1) qaf ?_;refine qbl 10 (qad tNd (n0::nr)) rfl qf1 ?_;have hk3:op.kind=3:=by simpa using h57
   refine t5 ?_;refine qao rfl (by ((refine qau call166 (qr3 _ _ _ ?_) ⟨qap,⟨qap,⟨qap,trivial⟩⟩⟩);all_goals (omega))) ?_;(refine qbj 218 rfl ?_;intro x218 hx218);refine t6 ?_;exact rXF (⟨_,_,(⟨_,_,_,_,_⟩:EO26),_,_⟩:ES26) results101 (hp:=by exact ⟨hx218,fun h=>by omega⟩)
  refine t6 ?_;refine cN ?_ ?_<;>intro h59
  ·refine qa7 hX (v:=slV (n0::nr).length v_1) qaf ?_;refine qbl 10 (qad tNd (n0::nr)) rfl qf1 ?_;refine qa7 hX (v:=slV (p0::pr).length v_0) qaf ?_;refine qbl 9 (qad tPg (p0::pr)) rfl qf1 ?_;have hk4:op.kind=4:=by simpa using h59
   have hol4:=(he2 hk4).2;refine s1 ?_;refine Z5 ?_;refine qaj 9 kr ?_;refine t2 ?_;refine qbc (by exact qak (j:=0) (er rfl) (er rfl) rfl rfl rf hz0) ?_;refine t2 ?_;refine qbc (by exact qak (j:=0) (er rfl) (er rfl) rfl rfl rf hp0) ?_;refine t2 ?_;refine qbc (qau call167 (qub op n0 p0 (⟨_,_,_,_,_⟩:EO26) hol4 hp0l) ⟨qbg,⟨qbg,⟨qbg,⟨qbg,trivial⟩⟩⟩⟩) ?_;refine ⟨rfl,?_⟩;(refine qol 229 rfl ?_;intro x229 hx229);refine Z3 ?_;refine t4 ?_;exact rXF (⟨_,_,(⟨_,_,_,_,_⟩:EO26),_,_⟩:ES26) results101 (hp:=by exact ⟨hx229,fun h=>by omega⟩)
  refine t6 ?_;refine cN ?_ ?_<;>intro h61
  ·refine qa7 hX (v:=slV (n0::nr).length v_1) qaf ?_;refine qbl 10 (qad tNd (n0::nr)) rfl qf1 ?_;refine qa7 hX (v:=slV (p0::pr).length v_0) qaf ?_;refine qbl 9 (qad tPg (p0::pr)) rfl qf1 ?_;have hk5:op.kind=5:=by simpa using h61
   have hlen2:2<=ask2.length:=by rw [hb3 hk5];exact Nat.le_refl 2
   obtain ⟨q1,q2,q3⟩:=(hn4 hk5).2 hlen2;injection q1 with q1 _
   injection q2 with q2 _
   refine s1 ?_;refine Z5 ?_;refine Z82 ?_;refine t2 ?_;refine qbc (by exact qak (j:=0) (er rfl) (er rfl) rfl rfl rf hz0) ?_;refine t2 ?_;refine qbc (by exact qak (j:=0) (er rfl) (er rfl) rfl rfl rf hp0) ?_;refine t3 ?_;refine qbc (qau call168 (qry op n0 p0 (⟨_,_,_,_,_⟩:EO26) ks hks ⟨rfl,rfl⟩ hp0l) ⟨qbg,⟨qbg,⟨qbg,⟨qbg,⟨qbg,trivial⟩⟩⟩⟩⟩) ?_;refine ⟨rfl,?_⟩;(refine qol 241 rfl ?_;intro x241 hx241);refine Z3 ?_;refine t4 ?_;exact rXF (⟨_,_,(⟨_,_,_,_,_⟩:EO26),_,_⟩:ES26) results101 (hp:=by exact ⟨hx241.1,fun _ h1 h2=>⟨q3,by rw [<- q2,<- q1];exact hx241.2 h1 h2⟩⟩)
  have hko:op.kind≠5:=by simpa using h61
  refine Z38 ?_;refine zbq ?_;refine Z14 ?_;refine qbc (by exact qb6 (er rfl) qba (by exact hp0) rfl rfl rfl) ?_;refine Z14 ?_;refine qbc (by exact qb6 (er rfl) qba (by exact hz0) rfl rfl rfl) ?_;refine qbc (qac call109 (qdk p0 (⟨_,_,_,_,(⟨(⟨_,_⟩:Pt),_⟩:Re),(⟨(⟨_,_⟩:Pt),_⟩:Re),(⟨(⟨_,_⟩:Pt),_⟩:Re),(⟨(⟨_,_⟩:Pt),_⟩:Re)⟩:Nd)) ⟨qbg,⟨qbg,trivial⟩⟩) ?_;refine Z41 ?_;refine ⟨rfl,?_⟩;intro i22;refine Z102 ?_;exact rXF (⟨_,_,(⟨_,_,_,_,_⟩:EO26),_,_⟩:ES26) results101 (hp:=by exact ⟨⟨wl1 (qgq _ hp0l),nZ _,by exact nZ _⟩,fun h=>by omega⟩)
 refine t5 ?_;refine cN ?_ ?_<;>intro h51
 ·have hk6:op.kind=6:=by simpa using h51
  refine t3 ?_;refine Z47 ?_;refine qao rfl (by exact qb6 (er rfl) qba hz0 rfl rfl rfl) ?_;refine s1 ?_;intro i21;refine t30 ?_;refine cN ?_ ?_<;>intro h53
  ·refine t2 ?_;refine kRF call164 (qcs c.w.heap.size _ _) ?_;refine t7 ?_;exact rXF (⟨_,_,(⟨_,_,_,_,_⟩:EO26),_,_⟩:ES26) results101 (hp:=by exact ⟨⟨wl0,nZ _,nZ _⟩,fun _ _ h=>absurd (show (16:Int)=0 from h) de⟩)
  refine t13 ?_;refine Z47 ?_;refine qao rfl (by exact qcr (k:=0) (er rfl) qba qcn rfl rfl rfl rfl) ?_;refine qjw (by exact qby (z':={ n0 with pin:=false }) (er rfl) (er rfl) qas qaf hz0 rfl rf rf) ?_;refine Z47 ?_;refine qao rfl (by exact qcr (k:=1) (er rfl) qba qcn rfl rfl rfl rfl) ?_;refine qjw (by exact qby (z':={ n0 with pin:=false,ep:=0#32 }) (er rfl) (er rfl) qas qaf (show ((n0::nr).set 0 { n0 with pin:=false })[0]?=some { n0 with pin:=false } from rfl) rfl rf rf) ?_;refine Z38 ?_;refine zbq ?_;refine Z14 ?_;refine qbc (by exact qb6 (er rfl) qba (by exact hp0) rfl rfl rfl) ?_;refine Z14 ?_;refine qbc (by exact qb6 (er rfl) qba rf rfl rfl rfl) ?_;refine qbc (qac call109 (qdk p0 (⟨_,_,_,_,(⟨(⟨_,_⟩:Pt),_⟩:Re),(⟨(⟨_,_⟩:Pt),_⟩:Re),(⟨(⟨_,_⟩:Pt),_⟩:Re),(⟨(⟨_,_⟩:Pt),_⟩:Re)⟩:Nd)) ⟨qbg,⟨qbg,trivial⟩⟩) ?_;refine Z41 ?_;refine ⟨rfl,?_⟩;intro i22;refine Z102 ?_;exact rXF (⟨_,_,(⟨_,_,_,_,_⟩:EO26),_,_⟩:ES26) results101 (hp:=by exact ⟨⟨wl1 (qgq _ hp0l),nZ _,by exact nZ _⟩,fun h=>by omega⟩)
 refine t6 ?_;refine cN ?_ ?_<;>intro h57
 ·refine qa7 hX (v:=slV (n0::nr).length v_1) qaf ?_;refine qbl 10 (qad tNd (n0::nr)) rfl qf1 ?_;have hk3:op.kind=3:=by simpa using h57
  refine t5 ?_;refine qao rfl (by ((refine qau call166 (qr3 _ _ _ ?_) ⟨qap,⟨qap,⟨qap,trivial⟩⟩⟩);all_goals (omega))) ?_;(refine qbj 218 rfl ?_;intro x218 hx218);refine t6 ?_;exact rXF (⟨_,_,(⟨_,_,_,_,_⟩:EO26),_,_⟩:ES26) results101 (hp:=by exact ⟨hx218,fun h=>by omega⟩)
 refine t6 ?_;refine cN ?_ ?_<;>intro h59
 ·refine qa7 hX (v:=slV (n0::nr).length v_1) qaf ?_;refine qbl 10 (qad tNd (n0::nr)) rfl qf1 ?_;refine qa7 hX (v:=slV (p0::pr).length v_0) qaf ?_;refine qbl 9 (qad tPg (p0::pr)) rfl qf1 ?_;have hk4:op.kind=4:=by simpa using h59
  have hol4:=(he2 hk4).2;refine s1 ?_;refine Z5 ?_;refine qaj 9 kr ?_;refine t2 ?_;refine qbc (by exact qak (j:=0) (er rfl) (er rfl) rfl rfl rf hz0) ?_;refine t2 ?_;refine qbc (by exact qak (j:=0) (er rfl) (er rfl) rfl rfl rf hp0) ?_;refine t2 ?_;refine qbc (qau call167 (qub op n0 p0 (⟨_,_,_,_,_⟩:EO26) hol4 hp0l) ⟨qbg,⟨qbg,⟨qbg,⟨qbg,trivial⟩⟩⟩⟩) ?_;refine ⟨rfl,?_⟩;(refine qol 229 rfl ?_;intro x229 hx229);refine Z3 ?_;refine t4 ?_;exact rXF (⟨_,_,(⟨_,_,_,_,_⟩:EO26),_,_⟩:ES26) results101 (hp:=by exact ⟨hx229,fun h=>by omega⟩)
 refine t6 ?_;refine cN ?_ ?_<;>intro h61
 ·refine qa7 hX (v:=slV (n0::nr).length v_1) qaf ?_;refine qbl 10 (qad tNd (n0::nr)) rfl qf1 ?_;refine qa7 hX (v:=slV (p0::pr).length v_0) qaf ?_;refine qbl 9 (qad tPg (p0::pr)) rfl qf1 ?_;have hk5:op.kind=5:=by simpa using h61
  have hlen2:2<=ask2.length:=by rw [hb3 hk5];exact Nat.le_refl 2
  obtain ⟨q1,q2,q3⟩:=(hn4 hk5).2 hlen2;injection q1 with q1 _
  injection q2 with q2 _
  refine s1 ?_;refine Z5 ?_;refine Z82 ?_;refine t2 ?_;refine qbc (by exact qak (j:=0) (er rfl) (er rfl) rfl rfl rf hz0) ?_;refine t2 ?_;refine qbc (by exact qak (j:=0) (er rfl) (er rfl) rfl rfl rf hp0) ?_;refine t3 ?_;refine qbc (qau call168 (qry op n0 p0 (⟨_,_,_,_,_⟩:EO26) ks hks ⟨rfl,rfl⟩ hp0l) ⟨qbg,⟨qbg,⟨qbg,⟨qbg,⟨qbg,trivial⟩⟩⟩⟩⟩) ?_;refine ⟨rfl,?_⟩;(refine qol 241 rfl ?_;intro x241 hx241);refine Z3 ?_;refine t4 ?_;exact rXF (⟨_,_,(⟨_,_,_,_,_⟩:EO26),_,_⟩:ES26) results101 (hp:=by exact ⟨hx241.1,fun _ h1 h2=>⟨q3,by rw [<- q2,<- q1];exact hx241.2 h1 h2⟩⟩)
 have hko:op.kind≠5:=by simpa using h61
 refine Z38 ?_;refine zbq ?_;refine Z14 ?_;refine qbc (by exact qb6 (er rfl) qba (by exact hp0) rfl rfl rfl) ?_;refine Z14 ?_;refine qbc (by exact qb6 (er rfl) qba (by exact hz0) rfl rfl rfl) ?_;refine qbc (qac call109 (qdk p0 (⟨_,_,_,_,(⟨(⟨_,_⟩:Pt),_⟩:Re),(⟨(⟨_,_⟩:Pt),_⟩:Re),(⟨(⟨_,_⟩:Pt),_⟩:Re),(⟨(⟨_,_⟩:Pt),_⟩:Re)⟩:Nd)) ⟨qbg,⟨qbg,trivial⟩⟩) ?_;refine Z41 ?_;refine ⟨rfl,?_⟩;intro i22;refine Z102 ?_;exact rXF (⟨_,_,(⟨_,_,_,_,_⟩:EO26),_,_⟩:ES26) results101 (hp:=by exact ⟨⟨wl1 (qgq _ hp0l),nZ _,by exact nZ _⟩,fun h=>by omega⟩)
end Go.Proofs.YteafmggidjjdgaaGreatDoor
