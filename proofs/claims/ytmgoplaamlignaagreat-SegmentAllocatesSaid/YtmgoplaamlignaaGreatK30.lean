/- Texts laid together: walks of functions, what they compute, and plain laws of it. Own work. -/
import Derived.Test.YtmgoplaamlignaaGreatK26
import Derived.Test.YtmgoplaamlignaaGreatK29
import Derived.Test.YtmgoplaamlignaaGreatK19
import Derived.Test.YtmgoplaamlignaaGreatK12
import Derived.Test.YtmgoplaamlignaaGreatK23
import Derived.Test.YtmgoplaamlignaaGreatK1
namespace Go.Proofs.YtmgoplaamlignaaGreat
open Go.RowKit Tryz
set_option linter.unusedVariables false
set_option linter.unusedSimpArgs false
set_option maxRecDepth 100000
set_option maxHeartbeats 4000000
def Nld (n m:Nd):Prop:=m.pin=n.pin∧m.ep=n.ep∧m.sg=n.sg∧m.inc=n.inc∧(m.r0=n.r0∨m.r0=Re.nil)∧(m.r1=n.r1∨m.r1=Re.nil)∧(m.r2=n.r2∨m.r2=Re.nil)∧(m.r3=n.r3∨m.r3=Re.nil)
theorem Nld.rfl' (n:Nd):Nld n n:=⟨rfl,rfl,rfl,rfl,.inl rfl,.inl rfl,.inl rfl,.inl rfl⟩
def ql0 (r:Re):Nat:=if r=Re.nil then 0 else 1
def qo9 (n:Nd):Nat:=ql0 n.r0+ql0 n.r1+ql0 n.r2+ql0 n.r3
theorem qwv:ql0 Re.nil=0:=if_pos rfl
theorem qq5 {r s:Re} (h:s=r∨s=Re.nil):ql0 s≤ql0 r:=by
 rcases h with rfl|rfl
 ·exact Nat.le_refl _
 ·rw [qwv];exact Nat.zero_le _
theorem Nld.le {n m:Nd} (h:Nld n m):qo9 m≤qo9 n:=by
 obtain ⟨_,_,_,_,h0,h1,h2,h3⟩:=h
 have:=qq5 h0;have:=qq5 h1;have:=qq5 h2;have:=qq5 h3
 unfold qo9;omega
theorem qna {w:BitVec 64} (h:qhr w=true):rwB (qlc w)=true:=by
 by_cases h0:w=0#64
 ·rw [(ql7 h0).1];exact qhh rfl
 ·rw [(qit h0).2] at h
  unfold rwB
  rw [(qit h0).1,h,Bool.or_true]
theorem qwd {r s:Re} (hr:rwB r=true) (h:s=r∨s=Re.nil):rwB s=true:=by
 rcases h with rfl|rfl
 ·exact hr
 ·exact qhh rfl
theorem za9 {p:Pg} {m:Nd} (h0:(qcu p).2=0) (hm:Nld (qcu p).1 m):(qdk p m).2=0:=by
 cases hl:qmo p.l with
 | false=>rw [qqu hl] at h0;exact absurd h0 (by decide)
 | true =>
  cases hb:qsl p with
  | true=>rw [qnw hl hb] at h0;exact absurd h0 (by decide)
  | false =>
   cases hk:okN p 4 with
   | false=>unfold qcu at h0;rw [if_pos hl,hb,hk] at h0;exact absurd (show (14:Int)=0 from h0) (by decide)
   | true =>
    have e:qcu p=(ndK p 4,0):=by unfold qcu;rw [if_pos hl,hb,hk];rfl
    rw [e] at hm
    obtain ⟨m1,m2,m3,m4,k0,k1,k2,k3⟩:=hm
    obtain ⟨b1,b2,b3⟩:=qol hb
    have hr:qhr p.d3=true∧qhr p.d4=true∧qhr p.d5=true∧qhr p.d6=true:=by
     unfold okN at hk;simpa [Bool.and_eq_true,and_assoc] using hk
    have hbw:qp8 p m=false:=by
     unfold qp8
     rw [hl,m1,m2,m3,m4]
     have u1:=qbj p.d1
     have u2:=qbj p.d2
     have e1:UV (p.d1.setWidth 32)=UV p.d1:=by
      unfold UV at b2 ⊢
      rw [BitVec.toNat_setWidth]
      omega
     show (!true||((!(qq0 p)&&UV (epV p) != 0)||(decide (UV (p.d1.setWidth 32)>511)||(decide (UV p.d2<0)||decide (UV p.d2>59)))))=false
     rw [e1]
     have h3:(!(qq0 p)&&UV (epV p) != 0)=false:=by
      unfold qq0 epV
      by_cases hp:UV p.d0>0
      ·rw [decide_eq_true hp];rfl
      ·rw [if_neg hp,show UV (0#32)=0 from rfl];simp
     rw [h3,decide_eq_false (by omega),decide_eq_false (by omega),decide_eq_false (by omega)];rfl
    have hor:okR m 4=true:=by
     unfold okR
     have g0:rwB m.r0=true:=qwd (qna hr.1) k0
     have g1:rwB m.r1=true:=qwd (qna hr.2.1) k1
     have g2:rwB m.r2=true:=qwd (qna hr.2.2.1) k2
     have g3:rwB m.r3=true:=qwd (qna hr.2.2.2) k3
     simp [g0,g1,g2,g3]
    unfold qdk
    rw [if_neg (by rw [hbw];simp),if_pos hor]
theorem qxb:∀ (W:List Pg) (p:Pg),p∈qfj W p
 | [],p=>List.mem_singleton.2 rfl
 | q :: l,p=>by
  unfold qfj
  split
  ·exact List.mem_cons_of_mem _ (qxb l p)
  ·split <;> exact List.mem_cons_self ..
theorem qys (a:List Pg) (q:Pg):q∈qcx a [q]:=by
 unfold qcx
 rw [List.foldl_append]
 exact qxb _ q
theorem qwg (ks:List Pg) (lines:Int):∀ (l:List Pt) (w:List Pg) (n:Nat),WL n w→WL (n+2*l.length) (relS ks lines l w).writes∧(relS ks lines l w).need=[]
 | [],w,n,h=>⟨h,rfl⟩
 | p :: r,w,n,h=>by
  have hm:WL (n+2) (qcx w [(relR (qb6 ks p.line)).1,qvx (qb6 (qcx ks w) (qas (qg9 lines p.line).1)) (qg9 lines p.line).2.1]):=qgf h (wl2 (n:=0) (ln_rel _) (show Ln (qvx _ _) from qdd _ (qrg _))) (Nat.le_refl _)
  have ih:=qwg ks lines r _ _ hm
  unfold relS
  split
  ·exact ⟨wl0,rfl⟩
  ·split
   ·exact ⟨wl0,rfl⟩
   ·split
    ·exact ⟨wl0,rfl⟩
    ·split
     ·exact ⟨wl0,rfl⟩
     ·simp only [List.length_cons]
      exact ⟨ih.1.mono (by omega),ih.2⟩
theorem zb5 (ks:List Pg) (lines:Int) (all:List Pt):∀ (r pre:List Pt) (ask:List Int),WL (2*all.length) (frD ks lines all pre r ask).writes∧(frD ks lines all pre r ask).need.length≤ask.length+2*r.length
 | [],pre,ask=>by
  unfold frD frC
  split
  ·exact ⟨wl0,qi7 ks ask⟩
  ·have h:=qwg ks lines all [] 0 wl0
   rw [h.2]
   exact ⟨h.1.mono (by omega),Nat.zero_le _⟩
 | p :: r,pre,ask=>by
  have ih:=zb5 ks lines all r (pre++[p]) (ask++[p.line,qas (qg9 lines p.line).1])
  unfold frD
  split
  ·exact ⟨wl0,Nat.zero_le _⟩
  ·split
   ·exact ⟨wl0,Nat.zero_le _⟩
   ·simp only [List.length_append,List.length_cons,List.length_nil] at ih ⊢
    exact ⟨ih.1,by omega⟩
theorem freR_len (ks:List Pg) (lines:Int) (l:List Pt) (hl:l.length≤4):WL 8 (freR ks lines l).writes∧(freR ks lines l).need.length≤8:=by
 unfold freR
 split
 ·exact ⟨wl0,Nat.zero_le _⟩
 ·have h:=zb5 ks lines l l [] []
  simp only [List.length_nil] at h
  exact ⟨h.1.mono (by omega),by omega⟩
theorem qil (p:Pg):FnP Tryz.prog 143 [qdw p] (VEx fun r:BitVec 32×Int=>qbv [Is (.int .u32 (UV r.1)),Is (.int .i64 r.2)]):=by
 refine FnP.enter func143 ntmps143 rfl rfl ?_
 intro c hX
 refine t3 ?_
 intro i1
 refine t12 ?_
 refine cN ?_ ?_ <;> intro h1
 ·refine t8 ?_
  exact qci (Bs:=[_,_]) (_,_) rfl results143 eXF (List.nil_sublist _)
 refine t9 ?_
 refine qaz [(1,_),(2,_),(3,_)] [blk i1 _ _] (fun k:Nat=>k≤7) (fun k=>[(4,Is (.int .i64 (k:Nat)))]) (fun k=>[]) (fun k=>7-k) 1 (by omega) qah qab ?_
 rintro k hk
 refine t7 ?_
 refine cN ?_ ?_ <;> intro h4
 ·have hlt:k<7:=by have:=of_decide_eq_true h4;omega
  clear h4
  rcases (show k=0∨k=1∨k=2∨k=3∨k=4∨k=5∨k=6 by omega) with rfl|rfl|rfl|rfl|rfl|rfl|rfl
  all_goals
   refine t8 ?_
   refine qap rfl (qan (k:=_) (sz:=1) (er rfl) (er rfl) rfl rfl qca (by decide)) ?_
   refine t4 ?_
   refine cN ?_ ?_ <;> intro h6
   ·refine t12 ?_
    exact qci (Bs:=[_,_]) (_,_) rfl results143 eXF (List.nil_sublist _)
   refine t8 ?_
   first|((guard_hyp hlt:(0:Nat)<7);exact qaa (1) (by omega) (by omega) qah qab)|((guard_hyp hlt:(1:Nat)<7);exact qaa (2) (by omega) (by omega) qah qab)|((guard_hyp hlt:(2:Nat)<7);exact qaa (3) (by omega) (by omega) qah qab)|((guard_hyp hlt:(3:Nat)<7);exact qaa (4) (by omega) (by omega) qah qab)|((guard_hyp hlt:(4:Nat)<7);exact qaa (5) (by omega) (by omega) qah qab)|((guard_hyp hlt:(5:Nat)<7);exact qaa (6) (by omega) (by omega) qah qab)|((guard_hyp hlt:(6:Nat)<7);exact qaa (7) (by omega) (by omega) qah qab)
 have hke:k=7:=by have:=of_decide_eq_false h4;omega
 clear h4
 subst hke
 refine t14 ?_
 refine cN ?_ ?_ <;> intro h8
 ·refine t8 ?_
  exact qci (Bs:=[_,_]) (_,_) rfl results143 eXF (List.nil_sublist _)
 refine t13 ?_
 exact qci (Bs:=[_,_]) (_,_) rfl results143 eXF (List.nil_sublist _)
theorem qpc (p:Pg) (e:BitVec 32):FnP Tryz.prog 173 [qdw p,Is (.int .u32 (UV e))] (qek (fun r:Pg×Int=>Ln p→Ln r.1) fun r=>qbv [qdw r.1,Is (.int .i64 r.2)]):=by
 refine FnP.enter func173 ntmps173 rfl rfl ?_
 intro c hX
 refine t3 ?_
 intro i2
 refine s1 ?_
 intro i4
 refine t11 ?_
 refine cN ?_ ?_ <;> intro h1
 ·refine t9 ?_
  exact qmn ((⟨_,_,_,_,_,_,_,_,_⟩:Pg),_) results173 (hp:=by exact fun _=>ln0)
 refine t10 ?_
 intro i6
 refine t20 ?_
 exact qmn ((⟨_,_,_,_,_,_,_,_,_⟩:Pg),_) results173 (hp:=by exact qvl rfl)
theorem qpd (p:Pg) (e:BitVec 32) (hp:Ln p):FnP Tryz.prog 173 [qdw p,Is (.int .u32 (UV e))] (qbv [qul,IsIX]):=(qpc p e).px hp
def safeR (g r:BitVec 32):Bool:=decide (UV (g.setWidth 64)≥UV (r.setWidth 64+BitVec.ofInt 64 2))
theorem qx0 (g r:BitVec 32):FnP Tryz.prog 169 [Is (.int .u32 (UV g)),Is (.int .u32 (UV r))] (Is (.bool (safeR g r))):=by
 refine FnP.enter func169 ntmps169 rfl rfl ?_
 intro c hX
 refine t17 ?_
 refine qa4 results169 rfl () (SubL.eq ?_) (List.nil_sublist _)
 rfl
theorem qcv (B:Nat) (e b:Int):FnP Tryz.prog 142 [Is (.int .i64 e),Is (.int .i64 b)] (qow B ⟨[],[],⟨e,0#32,b,[],[]⟩,true,false⟩):=by
 refine FnP.enter func142 ntmps142 rfl rfl ?_
 intro c hX
 refine t3 ?_
 intro i4
 refine t12 ?_
 exact qaq (Bs:=[_]) results142 eRF () SubL.rfl' (List.nil_sublist _)
def EA (op:Ep26):Prop:=(0≤op.client∧op.client<6)∧(op.kind=4→1≤op.list.length∧op.list.length≤4)∧((op.kind=5∨op.kind=6)→0≤op.for_∧op.for_<6)∧(op.kind=5→104≤op.lines∧op.lines≤256)
theorem EA4 {op:Ep26} (hc:0≤op.client∧op.client<6) (hk:op.kind=4) (h:(decide ((op.list.length:Int)≥1)&&decide ((op.list.length:Int)≤4))=true):EA op:=by
 simp only [Bool.and_eq_true,decide_eq_true_eq] at h
 exact ⟨hc,fun _=>by omega,fun h=>by omega,fun h=>by omega⟩
theorem EA5 {op:Ep26} (hc:0≤op.client∧op.client<6) (hk:op.kind=5) (h:((decide (op.for_≥0)&&decide (op.for_<6))&&decide (op.lines≥104)&&decide (op.lines≤256))=true):EA op:=by
 simp only [Bool.and_eq_true,decide_eq_true_eq] at h
 exact ⟨hc,fun h=>by omega,fun _=>by omega,fun _=>by omega⟩
theorem EA6 {op:Ep26} {b:Bool} (hc:0≤op.client∧op.client<6) (hk:op.kind=6) (h:((decide (op.for_≥0)&&decide (op.for_<6))&&b)=true):EA op:=by
 simp only [Bool.and_eq_true,decide_eq_true_eq] at h
 exact ⟨hc,fun h=>by omega,fun _=>by omega,fun h=>by omega⟩
theorem qmf (op:Ep26) (hl:op.list.length≤1000):FnP Tryz.prog 141 [qqi op] (qek (fun r:Bool=>r=true→EA op) fun r=>Is (.bool r)):=by
 refine FnP.enter func141 ntmps141 rfl rfl ?_
 intro c hX
 refine t3 ?_
 intro i1
 refine t40 ?_
 refine t2 ?_
 refine cN ?_ ?_ <;> intro h3
 ·refine t7 ?_
  exact rXF _ results141 (hp:=by exact fun h=>Bool.noConfusion h)
 have hc:0≤op.client∧op.client<6:=by
  rw [Bool.or_eq_false_iff] at h3
  have h8:=of_decide_eq_false h3.1
  have h9:=of_decide_eq_false h3.2
  omega
 clear h3
 refine t17 ?_
 refine cN ?_ ?_ <;> intro h6
 ·have hk:op.kind=1:=by simpa using h6
  refine t2 ?_
  refine cN ?_ ?_ <;> intro h6
  ·have hk:op.kind=1:=by simpa using h6
   refine t9 ?_
   exact rXF _ results141 (hp:=by exact fun _=>⟨hc,fun h=>by omega,fun h=>by omega,fun h=>by omega⟩)
  refine t6 ?_
  refine cN ?_ ?_ <;> intro h9
  ·have hk:op.kind=3:=by simpa using h9
   refine t8 ?_
   exact rXF _ results141 (hp:=by exact fun _=>⟨hc,fun h=>by omega,fun h=>by omega,fun h=>by omega⟩)
  refine t6 ?_
  refine cN ?_ ?_ <;> intro h11
  ·have hk4:op.kind=4:=by simpa using h11
   refine t7 ?_
   refine qaz [(1,_),(2,_)] [blk i1 _ _] (fun k:Nat=>k≤(op.list).length) (fun k=>[(5,Is (.int .i64 (k:Nat)))]) (fun k=>[]) (fun k=>(op.list).length-k) 0 (Nat.zero_le _) qah qab ?_
   rintro k hk
   refine t10 ?_
   refine cN ?_ ?_ <;> intro h13
   ·have hlt:k<(op.list).length:=by have:=of_decide_eq_true h13;omega
    clear h13
    obtain ⟨z,hz⟩:∃ q,(op.list)[k]?=some q:=⟨_,List.getElem?_eq_getElem hlt⟩
    refine t12 ?_
    refine kRF call70 (qb8 _) ?_
    refine t3 ?_
    refine cN ?_ ?_ <;> intro h15
    ·refine t14 ?_
     exact rXF _ results141 (hp:=by exact fun h=>Bool.noConfusion h)
    refine t8 ?_
    obtain ⟨n,hn⟩:∃ n,n=k:=⟨_,rfl⟩
    refine qaz [(1,_),(2,_),(5,_),(41,_),(42,_),(43,_),(44,_),(48,_),(49,_),(50,_),(51,_),(52,_),(53,_)] [blk i1 _ _] (fun ka:Nat=>ka≤n) (fun ka=>[(6,Is (.int .i64 (ka:Nat)))]) (fun ka=>[]) (fun ka=>n-ka) 0 (Nat.zero_le _) qah qab ?_
    rintro ka hka
    refine t8 ?_
    refine cN ?_ ?_ <;> intro h18
    ·have hlta:ka<n:=by have:=of_decide_eq_true h18;omega
     clear h18
     obtain ⟨za,hza⟩:∃ q,op.list[ka]?=some q:=⟨_,List.getElem?_eq_getElem (by omega)⟩
     refine t5 ?_
     refine qa0 rfl (by kernel_rfl) ?_
     refine qag 11 (by kernel_rfl) ?_
     refine t3 ?_
     refine qbc (by exact qau (j:=_) (er rfl) (er rfl) rfl rfl rf hza) ?_
     refine t4 ?_
     refine qbc (by exact qau (j:=_) (er rfl) (er rfl) rfl rfl (by omega) hza) ?_
     refine s1 ?_
     refine qbc (qdc (er rfl) (er rfl)) ?_
     refine ⟨rfl,?_⟩
     refine qat ?_
     refine s1 ?_
     refine cN ?_ ?_ <;> intro h20
     ·refine t17 ?_
      exact rXF _ results141 (hp:=by exact fun h=>Bool.noConfusion h)
     refine t8 ?_
     exact qaa (ka+1) (by omega) (by omega) qah qab
    have hkea:ka=n:=by have:=of_decide_eq_false h18;omega
    clear h18
    subst hkea
    refine t11 ?_
    exact qaa (k+1) (by omega) (by omega) qah qab
   have hke:k=(op.list).length:=by have:=of_decide_eq_false h13;omega
   clear h13
   subst hke
   refine t23 ?_
   exact rXF _ results141 (hp:=by exact fun h=>EA4 hc hk4 h)
  refine t6 ?_
  refine cN ?_ ?_ <;> intro h23
  ·have hk:op.kind=5:=by simpa using h23
   refine t19 ?_
   exact rXF _ results141 (hp:=by exact fun h=>EA5 hc hk h)
  refine t6 ?_
  refine cN ?_ ?_ <;> intro h25
  ·have hk:op.kind=6:=by simpa using h25
   refine t12 ?_
   exact rXF _ results141 (hp:=by exact fun h=>EA6 hc hk h)
  refine t9 ?_
  exact rXF _ results141 (hp:=by exact fun h=>Bool.noConfusion h)
 refine t5 ?_
 refine cN ?_ ?_ <;> intro h7
 ·have hk:op.kind=2:=by simpa using h7
  refine t9 ?_
  exact rXF _ results141 (hp:=by exact fun _=>⟨hc,fun h=>by omega,fun h=>by omega,fun h=>by omega⟩)
 refine t6 ?_
 refine cN ?_ ?_ <;> intro h9
 ·have hk:op.kind=3:=by simpa using h9
  refine t8 ?_
  exact rXF _ results141 (hp:=by exact fun _=>⟨hc,fun h=>by omega,fun h=>by omega,fun h=>by omega⟩)
 refine t6 ?_
 refine cN ?_ ?_ <;> intro h11
 ·have hk4:op.kind=4:=by simpa using h11
  refine t7 ?_
  refine qaz [(1,_),(2,_)] [blk i1 _ _] (fun k:Nat=>k≤(op.list).length) (fun k=>[(5,Is (.int .i64 (k:Nat)))]) (fun k=>[]) (fun k=>(op.list).length-k) 0 (Nat.zero_le _) qah qab ?_
  rintro k hk
  refine t10 ?_
  refine cN ?_ ?_ <;> intro h13
  ·have hlt:k<(op.list).length:=by have:=of_decide_eq_true h13;omega
   clear h13
   obtain ⟨z,hz⟩:∃ q,(op.list)[k]?=some q:=⟨_,List.getElem?_eq_getElem hlt⟩
   refine t12 ?_
   refine kRF call70 (qb8 _) ?_
   refine t3 ?_
   refine cN ?_ ?_ <;> intro h15
   ·refine t14 ?_
    exact rXF _ results141 (hp:=by exact fun h=>Bool.noConfusion h)
   refine t8 ?_
   obtain ⟨n,hn⟩:∃ n,n=k:=⟨_,rfl⟩
   refine qaz [(1,_),(2,_),(5,_),(41,_),(42,_),(43,_),(44,_),(48,_),(49,_),(50,_),(51,_),(52,_),(53,_)] [blk i1 _ _] (fun ka:Nat=>ka≤n) (fun ka=>[(6,Is (.int .i64 (ka:Nat)))]) (fun ka=>[]) (fun ka=>n-ka) 0 (Nat.zero_le _) qah qab ?_
   rintro ka hka
   refine t8 ?_
   refine cN ?_ ?_ <;> intro h18
   ·have hlta:ka<n:=by have:=of_decide_eq_true h18;omega
    clear h18
    obtain ⟨za,hza⟩:∃ q,op.list[ka]?=some q:=⟨_,List.getElem?_eq_getElem (by omega)⟩
    refine t5 ?_
    refine qa0 rfl (by kernel_rfl) ?_
    refine qag 11 (by kernel_rfl) ?_
    refine t3 ?_
    refine qbc (by exact qau (j:=_) (er rfl) (er rfl) rfl rfl rf hza) ?_
    refine t6 ?_
    refine qbc (qdc (er rfl) (er rfl)) ?_
    refine ⟨rfl,?_⟩
    refine qat ?_
    refine s1 ?_
    refine cN ?_ ?_ <;> intro h20
    ·refine t17 ?_
     exact rXF _ results141 (hp:=by exact fun h=>Bool.noConfusion h)
    refine t8 ?_
    exact qaa (ka+1) (by omega) (by omega) qah qab
   have hkea:ka=n:=by have:=of_decide_eq_false h18;omega
   clear h18
   subst hkea
   refine t11 ?_
   exact qaa (k+1) (by omega) (by omega) qah qab
  have hke:k=(op.list).length:=by have:=of_decide_eq_false h13;omega
  clear h13
  subst hke
  refine t23 ?_
  exact rXF _ results141 (hp:=by exact fun h=>EA4 hc hk4 h)
 refine t6 ?_
 refine cN ?_ ?_ <;> intro h23
 ·have hk:op.kind=5:=by simpa using h23
  refine t19 ?_
  exact rXF _ results141 (hp:=by exact fun h=>EA5 hc hk h)
 refine t6 ?_
 refine cN ?_ ?_ <;> intro h25
 ·have hk:op.kind=6:=by simpa using h25
  refine t12 ?_
  exact rXF _ results141 (hp:=by exact fun h=>EA6 hc hk h)
 refine t9 ?_
 exact rXF _ results141 (hp:=by exact fun h=>Bool.noConfusion h)
def PES (r:ES26):Prop:=WL 20 r.writes∧r.need.length≤20∧r.out.check.length≤10
theorem qqb (g:BitVec 32) (nd:List Nd) (ks:List Pg) (hn:nd.length≤10):FnF Tryz.prog 144 [Is (.int .u32 (UV g)),qal tNd nd,qal tPg ks] (fun B=>qek PES fun r=>qow B r):=by
 refine FnF.enter func144 ntmps144 rfl rfl ?_
 intro c hX
 refine t3 ?_
 intro i6
 refine t14 ?_
 refine qcn 3 tI64 ?_
 refine qaz [(0,_),(1,_),(2,_),(6,_)] [blk i6 _ _] (fun y:Nat×(List Int)×(Option Addr×Nat)=>y.1≤(nd).length∧(y.2.1.length≤y.1)) (fun y=>[(7,Is (slV (y.2.1).length y.2.2)),(8,Is (.int .i64 (y.1:Nat)))]) (fun y=>[buf (slV (y.2.1).length y.2.2) 3 tI64 (y.2.1)]) (fun y=>(nd).length-y.1) (0,[],(none,0)) ?_ qah qab ?_
 ·exact ⟨by exact Nat.zero_le _,Nat.le_refl 0⟩
 rintro ⟨k,ck,v_0⟩ ⟨hk,hI⟩
 dsimp only at hk hI ⊢
 refine t9 ?_
 refine cN ?_ ?_ <;> intro h3
 ·have hlt:k<(nd).length:=by have:=of_decide_eq_true h3;omega
  clear h3
  obtain ⟨z,hz⟩:∃ q,(nd)[k]?=some q:=⟨_,List.getElem?_eq_getElem hlt⟩
  refine t23 ?_
  refine cN ?_ ?_ <;> intro h5
  ·refine t3 ?_
   refine kRF call142 (qcv c.w.heap.size _ _) ?_
   refine t10 ?_
   exact rXF (⟨_,_,(⟨_,_,_,_,_⟩:EO26),_,_⟩:ES26) results144 (hp:=by exact ⟨wl0,Nat.zero_le _,Nat.zero_le _⟩)
  refine t6 ?_
  refine qap rfl (OpP.to (qad (size:=1) (qs:=[(0,_)]) rfl rfl rfl ⟨⟨rfl,_,(er rfl),qaf⟩,trivial⟩ rf rf) (SubL.row1 (T:=tI64) (x:=_) rf rf rf qaj)) ?_
  (refine qe6 rfl (qb9 (er rfl) (fun _=>qae) (by exact er rfl) (by exact qep rfl rfl rfl) qbt) ?_;intro i39)
  refine t9 ?_
  refine qaa (k+1,_,_) ?_ ?_ qah qab
  ·exact ⟨by omega,by (simp only [List.length_append,List.length_cons,List.length_nil];omega)⟩
  ·exact (by omega)
 have hke:k=(nd).length:=by have:=of_decide_eq_false h3;omega
 clear h3
 subst hke
 refine qa8 hX (v:=slV ck.length v_0) qae ?_
 refine qb0 7 (qal tI64 ck) rfl qfm ?_
 refine t12 ?_
 refine cN ?_ ?_ <;> intro h8
 ·refine t2 ?_
  refine kRF call142 (qcv c.w.heap.size _ _) ?_
  refine t5 ?_
  exact rXF (⟨_,_,(⟨_,_,_,_,_⟩:EO26),_,_⟩:ES26) results144 (hp:=by exact ⟨wl0,Nat.zero_le _,Nat.zero_le _⟩)
 refine t5 ?_
 refine kRF call19 (qbu _ _) ?_
 refine t4 ?_
 intro i9
 refine t9 ?_
 refine qap rfl (by ((refine qac call173 (qpd _ _ ?_) ⟨qar,⟨qar,trivial⟩⟩);all_goals (exact qdd _ ⟨by decide,by decide⟩))) ?_
 refine t4 ?_
 intro i11
 refine t5 ?_
 refine qcw (b:=i11) (fun _=>qae) ?_
 intro p11 hln11
 refine t2 ?_
 refine qap rfl (OpP.fr (qa2 (size:=9) (qs:=[(0,_)]) rfl rfl rfl ⟨⟨rfl,_,(er rfl),qaf⟩,trivial⟩ rf rf) qcf (SubL.row1 (T:=tPg) (x:=(⟨_,_,_,_,_,_,_,_,_⟩:Pg)) rf rf rf qaj)) ?_
 refine t9 ?_
 exact rXF (⟨_,_,(⟨_,_,_,_,_⟩:EO26),_,_⟩:ES26) results144 (hp:=by exact ⟨wl1 (by assumption),Nat.zero_le _,by dsimp only at hI ⊢;omega⟩)
def qyf (n:Nd):Nat→Re
 | 0=>n.r0
 | 1=>n.r1
 | 2=>n.r2
 | _=>n.r3
def qu1 (n:Nd) (k:Nat) (r:Re):Nd:=match k with
 | 0=>{ n with r0:=r }
 | 1=>{ n with r1:=r }
 | 2=>{ n with r2:=r }
 | _=>{ n with r3:=r }
theorem e4 {k:Nat} (hk:k<4):k=0∨k=1∨k=2∨k=3:=by omega
theorem re_idx (n:Nd) {k:Nat} (hk:k<4):((tNd.cells n).drop (0+4+k*3)).take 3=tRe.cells (qyf n k):=by
 rcases e4 hk with rfl|rfl|rfl|rfl <;> rfl
theorem re_to (n:Nd) {k:Nat} (hk:k<4):((tNd.cells n).drop (0+4+k*3+0)).take 2=tPt.cells (qyf n k).to:=by
 rcases e4 hk with rfl|rfl|rfl|rfl <;> rfl
theorem qwi (n:Nd) {k:Nat} (hk:k<4):Nat.ble (0+4+k*3+3) (tNd.cells n).length=true:=Nat.ble_eq_true_of_le (by rw [tNd.len];show _≤16;omega)
theorem re_ble2 (n:Nd) {k:Nat} (hk:k<4):Nat.ble (0+4+k*3+0+2) (tNd.cells n).length=true:=Nat.ble_eq_true_of_le (by rw [tNd.len];show _≤16;omega)
theorem re_set (n:Nd) (r:Re) {k:Nat} (hk:k<4):ovr (tNd.cells n) (0+4+k*3) (tRe.cells r)=tNd.cells (qu1 n k r):=by
 rcases e4 hk with rfl|rfl|rfl|rfl <;> rfl
theorem nld_set {n m:Nd} (h:Nld n m) {k:Nat} (hk:k<4):Nld n (qu1 m k Re.nil):=by
 obtain ⟨a,b,c,d,h0,h1,h2,h3⟩:=h
 rcases e4 hk with rfl|rfl|rfl|rfl
 ·exact ⟨a,b,c,d,.inr rfl,h1,h2,h3⟩
 ·exact ⟨a,b,c,d,h0,.inr rfl,h2,h3⟩
 ·exact ⟨a,b,c,d,h0,h1,.inr rfl,h3⟩
 ·exact ⟨a,b,c,d,h0,h1,h2,.inr rfl⟩
theorem cnt_set {m:Nd} {k:Nat} (hk:k<4) (hr:qyf m k≠Re.nil):qo9 (qu1 m k Re.nil)<qo9 m:=by
 have h1:ql0 (qyf m k)=1:=if_neg hr
 have h0:=qwv
 unfold qo9
 rcases e4 hk with rfl|rfl|rfl|rfl
 ·have h2:ql0 m.r0=1:=h1
  show ql0 Re.nil+ql0 m.r1+ql0 m.r2+ql0 m.r3<_
  omega
 ·have h2:ql0 m.r1=1:=h1
  show ql0 m.r0+ql0 Re.nil+ql0 m.r2+ql0 m.r3<_
  omega
 ·have h2:ql0 m.r2=1:=h1
  show ql0 m.r0+ql0 m.r1+ql0 Re.nil+ql0 m.r3<_
  omega
 ·have h2:ql0 m.r3=1:=h1
  show ql0 m.r0+ql0 m.r1+ql0 m.r2+ql0 Re.nil<_
  omega
theorem qs0 (op:Ep26) (n:Nd) (p:Pg) (o:EO26) (hl:op.list.length≤4) (hp:Ln p):FnF Tryz.prog 145 [qqi op,qsh n,qdw p,IsEO26 o] (fun B=>qek PES fun r=>qow B r):=by
 refine FnF.enter func145 ntmps145 rfl rfl ?_
 intro c hX
 refine t3 ?_
 intro i4
 refine s1 ?_
 intro i5
 refine s1 ?_
 intro i6
 refine s1 ?_
 intro i7
 refine s1 ?_
 intro i8
 refine t9 ?_
 refine qaz [(4,_),(5,_),(6,_),(7,_),(8,_)] [blk i8 _ _,blk i7 _ _,blk i6 _ _,blk i5 _ _,blk i4 _ _] (fun k:Nat=>k≤(op.list).length) (fun k=>[(9,Is (.int .i64 (k:Nat)))]) (fun k=>[]) (fun k=>(op.list).length-k) 0 (Nat.zero_le _) qah qab ?_
 rintro k hk
 refine t10 ?_
 refine cN ?_ ?_ <;> intro h2
 ·have hlt:k<(op.list).length:=by have:=of_decide_eq_true h2;omega
  clear h2
  obtain ⟨z,hz⟩:∃ q,(op.list)[k]?=some q:=⟨_,List.getElem?_eq_getElem hlt⟩
  refine t10 ?_
  refine qaz [(4,_),(5,_),(6,_),(7,_),(8,_),(9,_),(15,_),(16,_),(17,_),(18,_)] [blk i8 _ _,blk i7 _ _,blk i6 _ _,blk i5 _ _,blk i4 _ _] (fun ka:Nat=>ka≤4) (fun ka=>[(10,Is (.int .i64 (ka:Nat)))]) (fun ka=>[]) (fun ka=>4-ka) 0 (Nat.zero_le _) qah qab ?_
  rintro ka hka
  refine t7 ?_
  refine cN ?_ ?_ <;> intro h5
  ·have hlta:ka<4:=by have:=of_decide_eq_true h5;omega
   clear h5
   refine t5 ?_
   refine qa0 rfl (by kernel_rfl) ?_
   refine qag 11 (by kernel_rfl) ?_
   refine t2 ?_
   refine qbc (qan (k:=ka) (sz:=3) (er rfl) (er rfl) rfl rfl rfl hlta) ?_
   refine s1 ?_
   refine qbc (qbs (n:=2) (er rfl) qbp rf rf rf (re_ble2 _ hlta) (re_to _ hlta)) ?_
   refine t5 ?_
   refine qbc (qdc (er rfl) (er rfl)) ?_
   refine ⟨rfl,?_⟩
   refine qat ?_
   refine s1 ?_
   refine cN ?_ ?_ <;> intro h7
   ·refine t2 ?_
    refine kRF call142 (qcv c.w.heap.size _ _) ?_
    refine t13 ?_
    exact rXF (⟨_,_,(⟨_,_,_,_,_⟩:EO26),_,_⟩:ES26) results145 (hp:=by exact ⟨by exact wl0,Nat.zero_le _,by exact Nat.zero_le _⟩)
   refine t8 ?_
   exact qaa (ka+1) (by omega) (by omega) qah qab
  have hkea:ka=4:=by have:=of_decide_eq_false h5;omega
  clear h5
  subst hkea
  refine t11 ?_
  exact qaa (k+1) (by omega) (by omega) qah qab
 have hke:k=(op.list).length:=by have:=of_decide_eq_false h2;omega
 clear h2
 subst hke
 refine t17 ?_
 refine qbq (b:=i5) (As':=tNd.cells n) qae qba ?_
 refine qaz [(4,_),(5,_),(6,_),(7,_),(8,_)] [blk i8 _ _,blk i7 _ _,blk i6 _ _,blk i4 _ _] (fun yb:Nat×Nd×Nat=>yb.1≤4∧(yb.2.2≤yb.1)) (fun yb=>[(11,Is (.int .i64 (yb.2.2:Nat))),(12,Is (.int .i64 (yb.1:Nat)))]) (fun yb=>[blk i5 115 (tNd.cells yb.2.1)]) (fun yb=>4-yb.1) (0,n,0) ?_ qah qab ?_
 ·exact ⟨by exact Nat.zero_le _,Nat.le_refl 0⟩
 rintro ⟨kb,m,at_⟩ ⟨hkb,hIb⟩
 dsimp only at hkb hIb ⊢
 refine t14 ?_
 refine cN ?_ ?_ <;> intro h11
 ·rw [Bool.and_eq_true] at h11
  have hlt4:kb<4:=by have:=of_decide_eq_true h11.1;omega
  have hla:at_<op.list.length:=by have:=of_decide_eq_true h11.2;omega
  obtain ⟨za,hza⟩:∃ q,op.list[at_]?=some q:=⟨_,List.getElem?_eq_getElem hla⟩
  clear h11
  refine t8 ?_
  refine qap rfl (qan (k:=kb) (sz:=3) (er rfl) (er rfl) rfl rfl rfl hlt4) ?_
  refine qap rfl (qbs (n:=3) (er rfl) qbp rf rf rf (qwi _ hlt4) (re_idx _ hlt4)) ?_
  refine s1 ?_
  refine qap rfl (qes (vs:=Re.cells (qyf m kb)) (ws:=Re.cells Re.nil) (er rfl) (er rfl) (qfy _ _ _ (qyf m kb) Re.nil) (qjb (qyf m kb) Re.nil)) ?_
  refine t2 ?_
  refine cN ?_ ?_ <;> intro h13
  ·refine s1 ?_
   refine qa0 rfl (by kernel_rfl) ?_
   refine qag 11 (by kernel_rfl) ?_
   refine t4 ?_
   refine qbc (by exact qau (j:=_) (er rfl) (er rfl) rfl rfl rf hza) ?_
   refine t5 ?_
   refine qbc (qan (k:=kb) (sz:=3) (er rfl) (er rfl) rfl rfl rfl hlt4) ?_
   refine ⟨rfl,?_⟩
   refine qef (by kernel_rfl) rfl (qav (Rs:=tNd.cells (qu1 m kb ⟨za,o.epoch⟩)) (er rfl) (er rfl) qaf qae (re_set _ _ hlt4) rf rf (qwi _ hlt4)) ?_
   refine qat ?_
   refine t13 ?_
   refine qam (b:=i5) (As':=tNd.cells (⟨_,_,_,_,(⟨(⟨_,_⟩:Pt),_⟩:Re),(⟨(⟨_,_⟩:Pt),_⟩:Re),(⟨(⟨_,_⟩:Pt),_⟩:Re),(⟨(⟨_,_⟩:Pt),_⟩:Re)⟩:Nd)) qae qba ?_
   refine qaa (kb+1,(⟨_,_,_,_,(⟨(⟨_,_⟩:Pt),_⟩:Re),(⟨(⟨_,_⟩:Pt),_⟩:Re),(⟨(⟨_,_⟩:Pt),_⟩:Re),(⟨(⟨_,_⟩:Pt),_⟩:Re)⟩:Nd),_) ?_ ?_ qah qab
   ·exact ⟨by omega,by dsimp only;omega⟩
   ·exact (by omega)
  refine t8 ?_
  refine qam (b:=i5) (As':=tNd.cells (⟨_,_,_,_,(⟨(⟨_,_⟩:Pt),_⟩:Re),(⟨(⟨_,_⟩:Pt),_⟩:Re),(⟨(⟨_,_⟩:Pt),_⟩:Re),(⟨(⟨_,_⟩:Pt),_⟩:Re)⟩:Nd)) qae qba ?_
  refine qaa (kb+1,(⟨_,_,_,_,(⟨(⟨_,_⟩:Pt),_⟩:Re),(⟨(⟨_,_⟩:Pt),_⟩:Re),(⟨(⟨_,_⟩:Pt),_⟩:Re),(⟨(⟨_,_⟩:Pt),_⟩:Re)⟩:Nd),_) ?_ ?_ qah qab
  ·exact ⟨by omega,by dsimp only;omega⟩
  ·exact (by omega)
 skip
 refine t15 ?_
 refine cN ?_ ?_ <;> intro h16
 ·refine t2 ?_
  refine kRF call142 (qcv c.w.heap.size _ _) ?_
  refine t5 ?_
  exact rXF (⟨_,_,(⟨_,_,_,_,_⟩:EO26),_,_⟩:ES26) results145 (hp:=by exact ⟨by exact wl0,Nat.zero_le _,by exact Nat.zero_le _⟩)
 refine t6 ?_
 refine kRF call51 (qdp p m) ?_
 refine t4 ?_
 intro i13
 refine t6 ?_
 refine qap rfl (OpP.to (qad (size:=1) (qs:=[(0,_)]) rfl rfl rfl ⟨⟨rfl,_,(er rfl),qaf⟩,trivial⟩ rf rf) (SubL.row1 (T:=tI64) (x:=_) rf rf rf qaj)) ?_
 refine t7 ?_
 refine qap rfl (OpP.fr (qa2 (size:=9) (qs:=[(0,_)]) rfl rfl rfl ⟨⟨rfl,_,(er rfl),qaf⟩,trivial⟩ rf rf) qcf (SubL.row1 (T:=tPg) (x:=(⟨_,_,_,_,_,_,_,_,_⟩:Pg)) rf rf rf qaj)) ?_
 refine t6 ?_
 exact rXF (⟨_,_,(⟨_,_,_,_,_⟩:EO26),_,_⟩:ES26) results145 (hp:=by exact ⟨by exact wl1 (qf9 _ hp),Nat.zero_le _,by (show 1≤10;omega)⟩)
def PCol (n:Nd) (p:Pg) (r:ES26):Prop:=r.over=true→r.out.code=0→∃ m,Nld n m∧qo9 m<qo9 n∧Asc r.writes∧(qdk p m).1∈r.writes
theorem qp5 (op:Ep26) (n:Nd) (p:Pg) (o:EO26) (ks:List Pg) (hks:ks.length≤10000) (ho:o.freed=[]∧o.code=0) (hp:Ln p):FnF Tryz.prog 146 [qqi op,qsh n,qdw p,IsAgg [Is (.int .i64 o.code),Is (.int .u32 (UV o.epoch)),Is (.int .i64 o.blocker),Is (.slice none 0 0),qal tI64 o.check],qal tPg ks] (fun B=>qek (fun r=>PES r∧PCol n p r) fun r=>qow B r):=by
 refine FnF.enter func146 ntmps146 rfl rfl ?_
 intro c hX
 refine t3 ?_
 intro i5
 refine s1 ?_
 intro i6
 refine s1 ?_
 intro i7
 refine s1 ?_
 intro i8
 refine s1 ?_
 intro i10
 refine t9 ?_
 refine qcn 88 tPt ?_
 refine qbq (b:=i6) (As':=tNd.cells n) qae qba ?_
 refine qaz [(4,_),(5,_),(6,_),(7,_),(8,_),(10,_)] [blk i10 _ _,blk i7 _ _,blk i5 _ _] (fun y:Nat×Nd×(List Pt)×(Option Addr×Nat)=>y.1≤4∧(Nld n y.2.1∧(y.2.2.1≠[]→qo9 y.2.1<qo9 n)∧y.2.2.1.length≤2)) (fun y=>[(11,Is (.int .i64 (y.1:Nat)))]) (fun y=>[blk i6 115 (tNd.cells y.2.1),blk i8 199 [Is (.int .i64 o.code),Is (.int .u32 (UV o.epoch)),Is (.int .i64 o.blocker),Is (slV (y.2.2.1).length y.2.2.2),qal tI64 o.check],buf (slV (y.2.2.1).length y.2.2.2) 88 tPt (y.2.2.1)]) (fun y=>4-y.1) (0,n,[],(none,0)) ?_ qah qab ?_
 ·exact ⟨by exact Nat.zero_le _,⟨Nld.rfl' n,fun h=>absurd rfl h,Nat.zero_le _⟩⟩
 rintro ⟨k,m,fr,v_0⟩ ⟨hk,hI⟩
 dsimp only at hk hI ⊢
 refine t13 ?_
 refine cN ?_ ?_ <;> intro h2
 ·rw [Bool.and_eq_true] at h2
  have hlt4:k<4:=by have:=of_decide_eq_true h2.1;omega
  have hf2:fr.length<2:=by have:=of_decide_eq_true h2.2;omega
  clear h2
  obtain ⟨hi1,hi2,hi3⟩:=id hI
  refine t8 ?_
  refine qap rfl (qan (k:=k) (sz:=3) (er rfl) (er rfl) rfl rfl rfl hlt4) ?_
  refine qap rfl (qbs (n:=3) (er rfl) qbp rf rf rf (qwi _ hlt4) (re_idx _ hlt4)) ?_
  refine s1 ?_
  intro i12
  refine t7 ?_
  refine qap rfl (qes (vs:=Re.cells (qyf m k)) (ws:=Re.cells Re.nil) (er rfl) (er rfl) (qfy _ _ _ (qyf m k) Re.nil) (zcf (qyf m k) Re.nil)) ?_
  refine t5 ?_
  (refine qcq rfl rfl rfl (fun hg=>(by have hg0:=hg;(try simp at hg);exact qac call169 (qx0 _ _) ⟨qar,⟨qar,trivial⟩⟩)) ?_)
  refine t3 ?_
  refine cN ?_ ?_ <;> intro h5
  ·rw [Bool.and_eq_true] at h5
   have hne:qyf m k≠Re.nil:=by simpa using h5.1
   have hnew:Nld n (qu1 m k Re.nil)∧(fr++[(qyf m k).to]≠[]→qo9 (qu1 m k Re.nil)<qo9 n)∧(fr++[(qyf m k).to]).length≤2:=⟨nld_set hi1 hlt4,fun _=>Nat.lt_of_lt_of_le (cnt_set hlt4 hne) hi1.le,by simp;omega⟩
   clear h5
   refine t6 ?_
   refine qap rfl (OpP.to (qad (size:=2) (qs:=[(0,_)]) rfl rfl rfl ⟨⟨rfl,_,(er rfl),qaf⟩,trivial⟩ rf rf) (SubL.row1 (T:=tPt) (x:=(⟨_,_⟩:Pt)) rf rf rf qaj)) ?_
   (refine qe6 rfl (qb9 (er rfl) (fun _=>qae) (by exact er rfl) (by exact qep rfl rfl rfl) qbt) ?_;intro i46)
   refine t8 ?_
   refine qap rfl (qan (k:=k) (sz:=3) (er rfl) (er rfl) rfl rfl rfl hlt4) ?_
   refine qk0 (qav (Rs:=tNd.cells (qu1 m k Re.nil)) (er rfl) (er rfl) qaf qae (re_set _ _ hlt4) rf rf (qwi _ hlt4)) ?_
   refine t8 ?_
   refine qam (b:=i6) (As':=tNd.cells (⟨_,_,_,_,(⟨(⟨_,_⟩:Pt),_⟩:Re),(⟨(⟨_,_⟩:Pt),_⟩:Re),(⟨(⟨_,_⟩:Pt),_⟩:Re),(⟨(⟨_,_⟩:Pt),_⟩:Re)⟩:Nd)) qae qba ?_
   refine qaa (k+1,(⟨_,_,_,_,(⟨(⟨_,_⟩:Pt),_⟩:Re),(⟨(⟨_,_⟩:Pt),_⟩:Re),(⟨(⟨_,_⟩:Pt),_⟩:Re),(⟨(⟨_,_⟩:Pt),_⟩:Re)⟩:Nd),_,_) ?_ ?_ qah qab
   ·exact ⟨by omega,by exact hnew⟩
   ·exact (by omega)
  refine t8 ?_
  refine qam (b:=i6) (As':=tNd.cells (⟨_,_,_,_,(⟨(⟨_,_⟩:Pt),_⟩:Re),(⟨(⟨_,_⟩:Pt),_⟩:Re),(⟨(⟨_,_⟩:Pt),_⟩:Re),(⟨(⟨_,_⟩:Pt),_⟩:Re)⟩:Nd)) qae qba ?_
  refine qaa (k+1,(⟨_,_,_,_,(⟨(⟨_,_⟩:Pt),_⟩:Re),(⟨(⟨_,_⟩:Pt),_⟩:Re),(⟨(⟨_,_⟩:Pt),_⟩:Re),(⟨(⟨_,_⟩:Pt),_⟩:Re)⟩:Nd),_,_) ?_ ?_ qah qab
  ·exact ⟨by omega,by exact hI⟩
  ·exact (by omega)
 obtain ⟨hi1,hi2,hi3⟩:=id hI
 clear h2
 refine qa8 hX (v:=slV fr.length v_0) qae ?_
 refine qbq (b:=i8) (As':=tEO26.cells ⟨o.code,o.epoch,o.blocker,fr,o.check⟩) qae qba ?_
 refine t14 ?_
 refine cN ?_ ?_ <;> intro h8
 ·refine t2 ?_
  refine kRF call142 (qcv c.w.heap.size _ _) ?_
  refine t5 ?_
  exact rXF (⟨_,_,(⟨_,_,_,_,_⟩:EO26),_,_⟩:ES26) results146 (hp:=by exact ⟨⟨wl0,by exact Nat.zero_le _,Nat.zero_le _⟩,fun h h0=>by exact absurd (show (16:Int)=0 from h0) (by decide)⟩)
 have hfr:fr≠[]:=by
  intro h;subst h;simp at h8
 have hlt:=hi2 hfr
 have hfl:=freR_len ks op.lines fr (by omega)
 obtain ⟨F,hF⟩:∃ F,freR ks op.lines fr=F:=⟨_,rfl⟩
 have hfw:WL 8 F.writes:=by rw [← hF];exact hfl.1
 have hfn:F.need.length≤8:=by rw [← hF];exact hfl.2
 refine t9 ?_
 refine kRF call29 (FreeR_ok _ _ _ hks) ?_
 refine s1 ?_
 intro i13
 refine t5 ?_
 rw [hF]
 refine t6 ?_
 refine cN ?_ ?_ <;> intro h11
 ·refine t10 ?_
  exact rXF (⟨_,_,(⟨_,_,_,_,_⟩:EO26),_,_⟩:ES26) results146 (hp:=by exact ⟨⟨wl0,by exact Nat.le_trans hfn (by decide),Nat.zero_le _⟩,fun h h0=>by exact (Bool.noConfusion (show false=true from h))⟩)
 refine t10 ?_
 refine qb3 [(6,_),(7,_),(8,_),(10,_),(13,_)] [blk i10 _ _,blk i8 _ _,blk i7 _ _,blk i6 _ _] (fun yc:S19=>yc.writes=F.writes) (fun yc=>[]) (fun yc=>[blk i13 40 (tS19.cells yc)]) qah qab ?_ ?_
 rotate_left
 focus
  refine cN ?_ ?_ <;> intro h13
  ·refine t4 ?_
   refine qam (b:=i13) (As':=tS19.cells (⟨_,_,_,_,_,_⟩:S19)) qae qba ?_
   refine qak (⟨_,_,_,_,_,_⟩:S19) ?_ qah qab
   ·exact (rfl)
  refine s1 ?_
  refine qam (b:=i13) (As':=tS19.cells (⟨_,_,_,_,_,_⟩:S19)) qae qba ?_
  refine qak (⟨_,_,_,_,_,_⟩:S19) ?_ qah qab
  ·exact (rfl)
 rintro F2 hI
 refine t8 ?_
 refine cN ?_ ?_ <;> intro h15
 ·have hc9:F2.code≠0:=by simpa using h15
  refine t4 ?_
  refine kRF call142 (qcv c.w.heap.size _ _) ?_
  refine s1 ?_
  intro i14
  refine t20 ?_
  exact rXF (⟨_,_,(⟨_,_,_,_,_⟩:EO26),_,_⟩:ES26) results146 (hp:=by exact ⟨⟨wl0,by exact Nat.zero_le _,Nat.zero_le _⟩,fun h h0=>by exact absurd h0 hc9⟩)
 have hfw2:WL 8 F2.writes:=by rw [hI];exact hfw
 have hfw3:=hfw2.1
 refine t6 ?_
 refine kRF call51 (qdp p m) ?_
 refine t4 ?_
 intro i15
 refine t6 ?_
 refine qap rfl (OpP.to (qad (size:=1) (qs:=[(0,_)]) rfl rfl rfl ⟨⟨rfl,_,(er rfl),qaf⟩,trivial⟩ rf rf) (SubL.row1 (T:=tI64) (x:=_) rf rf rf qaj)) ?_
 refine t5 ?_
 refine qa0 rfl (by kernel_rfl) ?_
 refine qag 7 (by kernel_rfl) ?_
 refine t3 ?_
 refine qbc (OpP.fr (qa2 (size:=9) (qs:=[(0,_)]) rfl rfl rfl ⟨⟨rfl,_,(er rfl),qaf⟩,trivial⟩ rf rf) qcf (SubL.row1 (T:=tPg) (x:=(⟨_,_,_,_,_,_,_,_,_⟩:Pg)) rf rf rf qaj)) ?_
 refine qbc (by ((refine qaw call52 (qcc _ _ ?_) ⟨qar,⟨qar,trivial⟩⟩);all_goals (first|first|omega|(simp;omega)|(simp;done)))) ?_
 refine t2 ?_
 refine ⟨rfl,?_⟩
 refine qef (by kernel_rfl) rfl (qav (er rfl) (er rfl) qaf qae qbo rf rf rf) ?_
 refine qat ?_
 refine t2 ?_
 exact rXF (⟨_,_,(⟨_,_,_,_,_⟩:EO26),_,_⟩:ES26) results146 (hp:=by exact ⟨⟨qgf hfw2 (wl1 (n:=0) (qf9 _ hp)) (by decide),Nat.zero_le _,by show 1≤10;omega⟩,fun _ _=>⟨m,hi1,hlt,zcs _ _,qys _ _⟩⟩)
end Go.Proofs.YtmgoplaamlignaaGreat
