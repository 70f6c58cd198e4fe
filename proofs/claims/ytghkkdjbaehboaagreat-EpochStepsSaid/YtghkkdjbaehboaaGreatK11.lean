/- Walks of functions and plain laws, laid together. Own work. -/
import Derived.Test.YtghkkdjbaehboaaGreatK9
namespace Go.Proofs.YtghkkdjbaehboaaGreat
open Go.RowKit Tryz
set_option linter.unusedVariables false
set_option linter.unusedSimpArgs false
set_option maxRecDepth 100000
set_option maxHeartbeats 4000000
def Nld (n m:Nd):Prop:=m.pin=n.pin∧m.ep=n.ep∧m.sg=n.sg∧m.inc=n.inc∧(m.r0=n.r0∨m.r0=Re.nil)∧(m.r1=n.r1∨m.r1=Re.nil)∧(m.r2=n.r2∨m.r2=Re.nil)∧(m.r3=n.r3∨m.r3=Re.nil)
theorem Nld.rfl' (n:Nd):Nld n n:=⟨rfl,rfl,rfl,rfl,.inl rfl,.inl rfl,.inl rfl,.inl rfl⟩
def qmc (r:Re):Nat:=if r=Re.nil then 0 else 1
def qo9 (n:Nd):Nat:=qmc n.r0+qmc n.r1+qmc n.r2+qmc n.r3
theorem qx3:qmc Re.nil=0:=if_pos rfl
theorem qq8 {r s:Re} (h:s=r∨s=Re.nil):qmc s≤qmc r:=by
 rcases h with rfl|rfl
 ·exact Nat.le_refl _
 ·rw [qx3];exact Nat.zero_le _
theorem Nld.le {n m:Nd} (h:Nld n m):qo9 m≤qo9 n:=by
 obtain ⟨_,_,_,_,h0,h1,h2,h3⟩:=h
 have:=qq8 h0;have:=qq8 h1;have:=qq8 h2;have:=qq8 h3
 unfold qo9;omega
theorem qni {w:BitVec 64} (h:qkk w=true):rwB (qqw w)=true:=by
 by_cases h0:w=0#64
 ·rw [(qnb h0).1];exact qhs rfl
 ·rw [(qi9 h0).2] at h
  unfold rwB
  rw [(qi9 h0).1,h,Bool.or_true]
theorem qxc {r s:Re} (hr:rwB r=true) (h:s=r∨s=Re.nil):rwB s=true:=by
 rcases h with rfl|rfl
 ·exact hr
 ·exact qhs rfl
theorem zc2 {p:Pg} {m:Nd} (h0:(qc1 p).2=0) (hm:Nld (qc1 p).1 m):(qck p m).2=0:=by
 cases hl:qo5 p.l with
 | false=>rw [qvo hl] at h0;exact absurd h0 (by decide)
 | true =>
  cases hb:qu8 p with
  | true=>rw [qqx hl hb] at h0;exact absurd h0 (by decide)
  | false =>
   cases hk:okN p 4 with
   | false=>unfold qc1 at h0;rw [if_pos hl,hb,hk] at h0;exact absurd (show (14:Int)=0 from h0) (by decide)
   | true =>
    have e:qc1 p=(ndK p 4,0):=by unfold qc1;rw [if_pos hl,hb,hk];rfl
    rw [e] at hm
    obtain ⟨m1,m2,m3,m4,k0,k1,k2,k3⟩:=hm
    obtain ⟨b1,b2,b3⟩:=qwm hb
    have hr:qkk p.d3=true∧qkk p.d4=true∧qkk p.d5=true∧qkk p.d6=true:=by
     unfold okN at hk;simpa [Bool.and_eq_true,and_assoc] using hk
    have hbw:qr5 p m=false:=by
     unfold qr5
     rw [hl,m1,m2,m3,m4]
     have u1:=qbq p.d1
     have u2:=qbq p.d2
     have e1:UV (p.d1.setWidth 32)=UV p.d1:=by
      unfold UV at b2 ⊢
      rw [BitVec.toNat_setWidth]
      omega
     show (!true||((!(qxm p)&&UV (epV p) != 0)||(decide (UV (p.d1.setWidth 32)>511)||(decide (UV p.d2<0)||decide (UV p.d2>59)))))=false
     rw [e1]
     have h3:(!(qxm p)&&UV (epV p) != 0)=false:=by
      unfold qxm epV
      by_cases hp:UV p.d0>0
      ·rw [decide_eq_true hp];rfl
      ·rw [if_neg hp,show UV (0#32)=0 from rfl];simp
     rw [h3,decide_eq_false (by omega),decide_eq_false (by omega),decide_eq_false (by omega)];rfl
    have hor:okR m 4=true:=by
     unfold okR
     have g0:rwB m.r0=true:=qxc (qni hr.1) k0
     have g1:rwB m.r1=true:=qxc (qni hr.2.1) k1
     have g2:rwB m.r2=true:=qxc (qni hr.2.2.1) k2
     have g3:rwB m.r3=true:=qxc (qni hr.2.2.2) k3
     simp [g0,g1,g2,g3]
    unfold qck
    rw [if_neg (by rw [hbw];simp),if_pos hor]
theorem qyo:∀ (W:List Pg) (p:Pg),p∈qhl W p
 | [],p=>List.mem_singleton.2 rfl
 | q :: l,p=>by
  unfold qhl
  split
  ·exact List.mem_cons_of_mem _ (qyo l p)
  ·split <;> exact List.mem_cons_self ..
theorem qz8 (a:List Pg) (q:Pg):q∈qb7 a [q]:=by
 unfold qb7
 rw [List.foldl_append]
 exact qyo _ q
theorem qxf (ks:List Pg) (lines:Int):∀ (l:List Pt) (w:List Pg) (n:Nat),WL n w→WL (n+2*l.length) (qxg ks lines l w).writes∧(qxg ks lines l w).need=[]
 | [],w,n,h=>⟨h,rfl⟩
 | p :: r,w,n,h=>by
  have hm:WL (n+2) (qb7 w [(qvm (qbk ks p.line)).1,qwk (qbk (qb7 ks w) (qau (qdh lines p.line).1)) (qdh lines p.line).2.1]):=qgn h (wl2 (n:=0) (ln_rel _) (show Ln (qwk _ _) from qdl _ (qrk _))) (Nat.le_refl _)
  have ih:=qxf ks lines r _ _ hm
  unfold qxg
  split
  ·exact ⟨wl0,rfl⟩
  ·split
   ·exact ⟨wl0,rfl⟩
   ·split
    ·exact ⟨wl0,rfl⟩
    ·split
     ·exact ⟨wl0,rfl⟩
     ·simp only [List.length_cons]
      exact ⟨ih.1.mono (by omega),ih.2⟩
theorem qrs (ks:List Pg) (lines:Int) (all:List Pt):∀ (r pre:List Pt) (ask:List Int),WL (2*all.length) (frD ks lines all pre r ask).writes∧(frD ks lines all pre r ask).need.length≤ask.length+2*r.length
 | [],pre,ask=>by
  unfold frD frC
  split
  ·exact ⟨wl0,qjf ks ask⟩
  ·have h:=qxf ks lines all [] 0 wl0
   rw [h.2]
   exact ⟨h.1.mono (by omega),Nat.zero_le _⟩
 | p :: r,pre,ask=>by
  have ih:=qrs ks lines all r (pre++[p]) (ask++[p.line,qau (qdh lines p.line).1])
  unfold frD
  split
  ·exact ⟨wl0,Nat.zero_le _⟩
  ·split
   ·exact ⟨wl0,Nat.zero_le _⟩
   ·simp only [List.length_append,List.length_cons,List.length_nil] at ih ⊢
    exact ⟨ih.1,by omega⟩
theorem qyw (ks:List Pg) (lines:Int) (l:List Pt) (hl:l.length≤4):WL 8 (qmn ks lines l).writes∧(qmn ks lines l).need.length≤8:=by
 unfold qmn
 split
 ·exact ⟨wl0,Nat.zero_le _⟩
 ·have h:=qrs ks lines l l [] []
  simp only [List.length_nil] at h
  exact ⟨h.1.mono (by omega),by omega⟩
theorem ql5 (p:Pg):FnP Tryz.prog 34 [qcr p] (VEx fun r:BitVec 32×Int=>qbu [Is (.int .u32 (UV r.1)),Is (.int .i64 r.2)]):=by
 refine FnP.enter func34 ntmps34 rfl rfl ?_
 intro c hX
 refine t3 ?_
 intro i1
 refine t12 ?_
 refine cN ?_ ?_ <;> intro h1
 ·refine t8 ?_
  exact qcj (Bs:=[_,_]) (_,_) rfl results34 eXF (List.nil_sublist _)
 refine t9 ?_
 refine qav [(1,_),(2,_),(3,_)] [blk i1 _ _] (fun k:Nat=>k≤7) (fun k=>[(4,Is (.int .i64 (k:Nat)))]) (fun k=>[]) (fun k=>7-k) 1 (by omega) qaj qab ?_
 rintro k hk
 refine t7 ?_
 refine cN ?_ ?_ <;> intro h4
 ·have hlt:k<7:=by have:=of_decide_eq_true h4;omega
  clear h4
  rcases (show k=0∨k=1∨k=2∨k=3∨k=4∨k=5∨k=6 by omega) with rfl|rfl|rfl|rfl|rfl|rfl|rfl
  all_goals
   refine t8 ?_
   refine qap rfl (qal (k:=_) (sz:=1) (er rfl) (er rfl) rfl rfl qct (by decide)) ?_
   refine t4 ?_
   refine cN ?_ ?_ <;> intro h6
   ·refine t12 ?_
    exact qcj (Bs:=[_,_]) (_,_) rfl results34 eXF (List.nil_sublist _)
   refine t8 ?_
   first|((guard_hyp hlt:(0:Nat)<7);exact qaa (1) (by omega) (by omega) qaj qab)|((guard_hyp hlt:(1:Nat)<7);exact qaa (2) (by omega) (by omega) qaj qab)|((guard_hyp hlt:(2:Nat)<7);exact qaa (3) (by omega) (by omega) qaj qab)|((guard_hyp hlt:(3:Nat)<7);exact qaa (4) (by omega) (by omega) qaj qab)|((guard_hyp hlt:(4:Nat)<7);exact qaa (5) (by omega) (by omega) qaj qab)|((guard_hyp hlt:(5:Nat)<7);exact qaa (6) (by omega) (by omega) qaj qab)|((guard_hyp hlt:(6:Nat)<7);exact qaa (7) (by omega) (by omega) qaj qab)
 have hke:k=7:=by have:=of_decide_eq_false h4;omega
 clear h4
 subst hke
 refine t14 ?_
 refine cN ?_ ?_ <;> intro h8
 ·refine t8 ?_
  exact qcj (Bs:=[_,_]) (_,_) rfl results34 eXF (List.nil_sublist _)
 refine t13 ?_
 exact qcj (Bs:=[_,_]) (_,_) rfl results34 eXF (List.nil_sublist _)
def qqs (g r:BitVec 32):Bool:=decide (UV (g.setWidth 64)≥UV (r.setWidth 64+BitVec.ofInt 64 2))
theorem qzh (g r:BitVec 32):FnP Tryz.prog 70 [Is (.int .u32 (UV g)),Is (.int .u32 (UV r))] (Is (.bool (qqs g r))):=by
 refine FnP.enter func70 ntmps70 rfl rfl ?_
 intro c hX
 refine t17 ?_
 refine qay results70 rfl () (SubL.eq ?_) (List.nil_sublist _)
 rfl
theorem qdf (B:Nat) (e b:Int):FnP Tryz.prog 30 [Is (.int .i64 e),Is (.int .i64 b)] (qhk B ⟨[],[],⟨e,0#32,b,[],[]⟩,true,false⟩):=by
 refine FnP.enter func30 ntmps30 rfl rfl ?_
 intro c hX
 refine t3 ?_
 intro i4
 refine t12 ?_
 exact qan (Bs:=[_]) results30 eRF () SubL.rfl' (List.nil_sublist _)
def EA (op:Ep26):Prop:=(0≤op.client∧op.client<6)∧(op.kind=4→1≤op.list.length∧op.list.length≤4)∧((op.kind=5∨op.kind=6)→0≤op.for_∧op.for_<6)∧(op.kind=5→104≤op.lines∧op.lines≤256)
def PES (r:ES26):Prop:=WL 20 r.writes∧r.need.length≤20∧r.out.check.length≤10
def qfr (n:Nd):Nat→Re
 | 0=>n.r0
 | 1=>n.r1
 | 2=>n.r2
 | _=>n.r3
def qha (n:Nd) (k:Nat) (r:Re):Nd:=match k with
 | 0=>{ n with r0:=r }
 | 1=>{ n with r1:=r }
 | 2=>{ n with r2:=r }
 | _=>{ n with r3:=r }
theorem e4 {k:Nat} (hk:k<4):k=0∨k=1∨k=2∨k=3:=by omega
theorem re_idx (n:Nd) {k:Nat} (hk:k<4):((tNd.cells n).drop (0+4+k*3)).take 3=tRe.cells (qfr n k):=by
 rcases e4 hk with rfl|rfl|rfl|rfl <;> rfl
theorem re_to (n:Nd) {k:Nat} (hk:k<4):((tNd.cells n).drop (0+4+k*3+0)).take 2=tPt.cells (qfr n k).to:=by
 rcases e4 hk with rfl|rfl|rfl|rfl <;> rfl
theorem qpq (n:Nd) {k:Nat} (hk:k<4):Nat.ble (0+4+k*3+3) (tNd.cells n).length=true:=Nat.ble_eq_true_of_le (by rw [tNd.len];show _≤16;omega)
theorem re_ble2 (n:Nd) {k:Nat} (hk:k<4):Nat.ble (0+4+k*3+0+2) (tNd.cells n).length=true:=Nat.ble_eq_true_of_le (by rw [tNd.len];show _≤16;omega)
theorem qxi (n:Nd) (r:Re) {k:Nat} (hk:k<4):ovr (tNd.cells n) (0+4+k*3) (tRe.cells r)=tNd.cells (qha n k r):=by
 rcases e4 hk with rfl|rfl|rfl|rfl <;> rfl
theorem nld_set {n m:Nd} (h:Nld n m) {k:Nat} (hk:k<4):Nld n (qha m k Re.nil):=by
 obtain ⟨a,b,c,d,h0,h1,h2,h3⟩:=h
 rcases e4 hk with rfl|rfl|rfl|rfl
 ·exact ⟨a,b,c,d,.inr rfl,h1,h2,h3⟩
 ·exact ⟨a,b,c,d,h0,.inr rfl,h2,h3⟩
 ·exact ⟨a,b,c,d,h0,h1,.inr rfl,h3⟩
 ·exact ⟨a,b,c,d,h0,h1,h2,.inr rfl⟩
theorem cnt_set {m:Nd} {k:Nat} (hk:k<4) (hr:qfr m k≠Re.nil):qo9 (qha m k Re.nil)<qo9 m:=by
 have h1:qmc (qfr m k)=1:=if_neg hr
 have h0:=qx3
 unfold qo9
 rcases e4 hk with rfl|rfl|rfl|rfl
 ·have h2:qmc m.r0=1:=h1
  show qmc Re.nil+qmc m.r1+qmc m.r2+qmc m.r3<_
  omega
 ·have h2:qmc m.r1=1:=h1
  show qmc m.r0+qmc Re.nil+qmc m.r2+qmc m.r3<_
  omega
 ·have h2:qmc m.r2=1:=h1
  show qmc m.r0+qmc m.r1+qmc Re.nil+qmc m.r3<_
  omega
 ·have h2:qmc m.r3=1:=h1
  show qmc m.r0+qmc m.r1+qmc m.r2+qmc Re.nil<_
  omega
def PCol (n:Nd) (p:Pg) (r:ES26):Prop:=r.over=true→r.out.code=0→∃ m,Nld n m∧qo9 m<qo9 n∧Asc r.writes∧(qck p m).1∈r.writes
def dwd (p:Pg):Nat→BitVec 64
 | 0=>p.d0
 | 1=>p.d1
 | 2=>p.d2
 | 3=>p.d3
 | 4=>p.d4
 | 5=>p.d5
 | _=>p.d6
def qvq (p:Pg):Nat→Nat→BitVec 32×Int
 | 0,_=>if decide (UV p.d0≥4294967296)=true then (0#32,14) else (p.d0.setWidth 32,0)
 | n+1,k=>if (UV (dwd p k) != 0)=true then (0#32,14) else qvq p n (k+1)
def rdE (p:Pg):BitVec 32×Int:=if (p.l != 97)=true then (0#32,1) else qvq p 6 1
theorem qsl (p:Pg):FnP Tryz.prog 34 [qcr p] (qbu [Is (.int .u32 (UV (rdE p).1)),Is (.int .i64 (rdE p).2)]):=by
 obtain ⟨W,hE⟩:∃ W,rdE p=W:=⟨_,rfl⟩
 rw [hE]
 unfold rdE at hE
 refine FnP.enter func34 ntmps34 rfl rfl ?_
 intro c hX
 refine t3 ?_
 intro i1
 refine t12 ?_
 refine cN ?_ ?_ <;> intro h1
 ·replace hE:=qa4 hE h1
  refine t8 ?_
  subst hE
  exact qan (Bs:=[_,_]) results34 eRF () SubL.rfl' (List.nil_sublist _)
 replace hE:=qba hE h1
 refine t9 ?_
 refine qav [(1,_),(2,_),(3,_)] [blk i1 _ _] (fun k:Nat=>k≤7∧qvq p (7-k) k=W) (fun k=>[(4,Is (.int .i64 (k:Nat)))]) (fun k=>[]) (fun k=>7-k) 1 ⟨by omega,hE⟩ qa9 qab ?_
 clear hE
 rintro k ⟨hk,hE⟩
 refine t7 ?_
 refine cN ?_ ?_ <;> intro h4
 ·have hlt:k<7:=by have:=of_decide_eq_true h4;omega
  clear h4
  rw [show 7-k=(7-(k+1))+1 by omega,qvq] at hE
  (try dsimp only at hE)
  rcases (show k=0∨k=1∨k=2∨k=3∨k=4∨k=5∨k=6 by omega) with rfl|rfl|rfl|rfl|rfl|rfl|rfl
  all_goals
   refine t8 ?_
   refine qap rfl (qal (k:=_) (sz:=1) (er rfl) (er rfl) rfl rfl qct (by decide)) ?_
   refine t4 ?_
   refine cN ?_ ?_ <;> intro h6
   ·replace hE:=qa4 hE h6
    refine t12 ?_
    subst hE
    exact qan (Bs:=[_,_]) results34 eRF () SubL.rfl' (List.nil_sublist _)
   replace hE:=qba hE h6
   refine t8 ?_
   first|((guard_hyp hlt:(0:Nat)<7);exact qaa (1) ⟨by omega,hE⟩ (by omega) qa9 qab)|((guard_hyp hlt:(1:Nat)<7);exact qaa (2) ⟨by omega,hE⟩ (by omega) qa9 qab)|((guard_hyp hlt:(2:Nat)<7);exact qaa (3) ⟨by omega,hE⟩ (by omega) qa9 qab)|((guard_hyp hlt:(3:Nat)<7);exact qaa (4) ⟨by omega,hE⟩ (by omega) qa9 qab)|((guard_hyp hlt:(4:Nat)<7);exact qaa (5) ⟨by omega,hE⟩ (by omega) qa9 qab)|((guard_hyp hlt:(5:Nat)<7);exact qaa (6) ⟨by omega,hE⟩ (by omega) qa9 qab)|((guard_hyp hlt:(6:Nat)<7);exact qaa (7) ⟨by omega,hE⟩ (by omega) qa9 qab)
 have hke:k=7:=by have:=of_decide_eq_false h4;omega
 clear h4
 subst hke
 rw [Nat.sub_self,qvq] at hE
 (try dsimp only at hE)
 refine t14 ?_
 refine cN ?_ ?_ <;> intro h8
 ·replace hE:=qa4 hE h8
  refine t8 ?_
  subst hE
  exact qan (Bs:=[_,_]) results34 eRF () SubL.rfl' (List.nil_sublist _)
 replace hE:=qba hE h8
 refine t13 ?_
 subst hE
 exact qan (Bs:=[_,_]) results34 eRF () SubL.rfl' (List.nil_sublist _)
def za6 (p:Pg) (e:BitVec 32):Pg×Int:=if (p.l != 97)=true then (Pg.nil,1) else (⟨p.l,p.h,e.setWidth 64,0#64,0#64,0#64,0#64,0#64,0#64⟩,0)
theorem qpd (p:Pg) (e:BitVec 32):FnP Tryz.prog 69 [qcr p,Is (.int .u32 (UV e))] (qbu [qcr (za6 p e).1,Is (.int .i64 (za6 p e).2)]):=by
 unfold za6
 refine FnP.enter func69 ntmps69 rfl rfl ?_
 intro c hX
 refine t3 ?_
 intro i2
 refine s1 ?_
 intro i4
 refine t11 ?_
 refine cN ?_ ?_ <;> intro h1
 ·rw [ifT h1]
  refine t9 ?_
  exact qan (Bs:=[_,_]) results69 eRF () SubL.rfl' (List.nil_sublist _)
 rw [ifF h1]
 refine t10 ?_
 intro i6
 refine t20 ?_
 exact qan (Bs:=[_,_]) results69 eRF () SubL.rfl' (List.nil_sublist _)
def incB (i:Int):Bool:=decide (i≥1)&&decide (i≤59)
def othB (f:Int):Bool:=decide (f≥0)&&decide (f<6)
def dupR (z:Pt):List Pt→Bool
 | []=>false
 | p :: r=>if decide (p=z)=true then true else dupR z r
def zaa (all:List Pt):List Pt→List Pt→Bool
 | _,[]=>decide ((all.length:Int)≥1)&&decide ((all.length:Int)≤4)
 | pre,p :: r=>if (!qc5 p)=true then false else if dupR p pre=true then false else zaa all (pre++[p]) r
def qi3 (op:Ep26):Bool:=
 if (decide (op.client<0)||decide (op.client≥6))=true then false else
 if (op.kind==1||op.kind==2)=true then incB op.inc else
 if (op.kind==3)=true then true else
 if (op.kind==4)=true then zaa op.list [] op.list else
 if (op.kind==5)=true then (othB op.for_&&decide (op.lines≥104))&&decide (op.lines≤256) else
 if (op.kind==6)=true then othB op.for_&&incB op.inc else false
def qu9 (c b:Int):ES26:=⟨[],[],⟨c,0#32,b,[],[]⟩,true,false⟩
def advC (g:BitVec 32) (ks:List Pg) (ck:List Int):ES26:=
 if (UV g==4294967295)=true then qu9 12 (-1) else ⟨[],[(za6 (qbk ks 97) (g+BitVec.ofInt 32 1)).1],⟨0,g+BitVec.ofInt 32 1,-1,[],ck⟩,true,false⟩
def advL (g:BitVec 32) (ks:List Pg):Nat→List Nd→List Int→ES26
 | _,[],ck=>advC g ks ck
 | k,n :: r,ck=>if (n.pin&&UV n.ep != UV g)=true then qu9 3 k else advL g ks (k+1) r (ck++[98+(k:Int)])
def advR (g:BitVec 32) (ks:List Pg) (nd:List Nd):ES26:=advL g ks 0 nd []
theorem qwq (g:BitVec 32) (nd:List Nd) (ks:List Pg) (hn:nd.length≤10):FnF Tryz.prog 36 [Is (.int .u32 (UV g)),IsSl tNd nd,IsSl tPg ks] (fun B=>qhk B (advR g ks nd)):=by
 obtain ⟨W,hE⟩:∃ W,advR g ks nd=W:=⟨_,rfl⟩
 rw [hE]
 unfold advR at hE
 refine FnF.enter func36 ntmps36 rfl rfl ?_
 intro c hX
 refine t3 ?_
 intro i6
 refine t14 ?_
 refine qcd 3 tI64 ?_
 refine qav [(0,_),(1,_),(2,_),(6,_)] [blk i6 _ _] (fun y:Nat×(List Int)×(Option Addr×Nat)=>y.1≤(nd).length∧(y.2.1.length≤y.1)∧advL g ks y.1 (List.drop y.1 (nd)) y.2.1=W) (fun y=>[(7,Is (slV (y.2.1).length y.2.2)),(8,Is (.int .i64 (y.1:Nat)))]) (fun y=>[buf (slV (y.2.1).length y.2.2) 3 tI64 (y.2.1)]) (fun y=>(nd).length-y.1) (0,[],(none,0)) ⟨by exact Nat.zero_le _,Nat.le_refl 0,hE⟩ qa9 qab ?_
 clear hE
 rintro ⟨k,ck,v_0⟩ ⟨hk,hI,hE⟩
 dsimp only at hk hI hE ⊢
 refine t9 ?_
 refine cN ?_ ?_ <;> intro h3
 ·have hlt:k<(nd).length:=by have:=of_decide_eq_true h3;omega
  clear h3
  obtain ⟨z,hz⟩:∃ q,(nd)[k]?=some q:=⟨_,List.getElem?_eq_getElem hlt⟩
  rw [qeo hz,advL] at hE
  (try dsimp only at hE)
  refine t23 ?_
  refine cN ?_ ?_ <;> intro h5
  ·replace hE:=qa4 hE h5
   refine t3 ?_
   refine kRF call30 (qdf c.w.heap.size _ _) ?_
   refine t10 ?_
   subst hE
   exact qan (Bs:=[_]) results36 eRF () SubL.rfl' (List.nil_sublist _)
  replace hE:=qba hE h5
  refine t6 ?_
  refine qap rfl (OpP.to (qac (size:=1) (qs:=[(0,_)]) rfl rfl rfl ⟨⟨rfl,_,(er rfl),qag⟩,trivial⟩ rf rf) (SubL.row1 (T:=tI64) (x:=_) rf rf rf qak)) ?_
  (refine qew rfl (qb6 (er rfl) (fun _=>qae) (by exact er rfl) (by exact qej rfl rfl rfl) qb8) ?_;intro i39)
  refine t9 ?_
  exact qaa (k+1,_,_) ⟨by omega,by (simp only [List.length_append,List.length_cons,List.length_nil];omega),hE⟩ (by omega) qa9 qab
 have hke:k=(nd).length:=by have:=of_decide_eq_false h3;omega
 clear h3
 subst hke
 rw [List.drop_length,advL] at hE
 (try dsimp only at hE)
 refine qa7 hX (v:=slV ck.length v_0) qae ?_
 refine qb0 7 (IsSl tI64 ck) rfl qgw ?_
 unfold advC at hE
 refine t12 ?_
 refine cN ?_ ?_ <;> intro h8
 ·replace hE:=qa4 hE h8
  refine t2 ?_
  refine kRF call30 (qdf c.w.heap.size _ _) ?_
  refine t5 ?_
  subst hE
  exact qan (Bs:=[_]) results36 eRF () SubL.rfl' (List.nil_sublist _)
 replace hE:=qba hE h8
 refine t5 ?_
 refine kRF call32 (qby _ _) ?_
 refine t4 ?_
 intro i9
 refine t9 ?_
 refine kRF call69 (qpd _ _) ?_
 refine t4 ?_
 intro i11
 refine t7 ?_
 refine qap rfl (OpP.fr (qa3 (size:=9) (qs:=[(0,_)]) rfl rfl rfl ⟨⟨rfl,_,(er rfl),qag⟩,trivial⟩ rf rf) qcq (SubL.row1 (T:=tPg) (x:=(⟨_,_,_,_,_,_,_,_,_⟩:Pg)) rf rf rf qak)) ?_
 refine t9 ?_
 subst hE
 exact qan (Bs:=[_]) results36 eRF () SubL.rfl' (List.nil_sublist _)
theorem qlw (op:Ep26) (hl:op.list.length≤1000):FnP Tryz.prog 29 [qfx op] (Is (.bool (qi3 op))):=by
 obtain ⟨W,hE⟩:∃ W,qi3 op=W:=⟨_,rfl⟩
 rw [hE]
 unfold qi3 at hE
 refine FnP.enter func29 ntmps29 rfl rfl ?_
 intro c hX
 refine t3 ?_
 intro i1
 refine t40 ?_
 refine t2 ?_
 refine cN ?_ ?_ <;> intro h3
 ·replace hE:=qa4 hE h3
  refine t7 ?_
  subst hE
  exact qan (Bs:=[_]) results29 eRF () SubL.rfl' (List.nil_sublist _)
 replace hE:=qba hE h3
 refine t17 ?_
 refine qb1 [(1,_),(2,_),(3,_),(4,_),(32,_)] [blk i1 _ _] (fun yc:Bool=>yc=(op.kind==1||op.kind==2)) (fun yc=>[(33,Is (.bool yc))]) (fun yc=>[]) qa9 qab ?_ ?_
 rotate_left
 focus
  refine cN ?_ ?_ <;> intro h6
  ·skip
   refine s1 ?_
   refine qai _ ?_ qa9 qab
   ·exact (by rw [h6];simp)
  skip
  refine t4 ?_
  refine qai _ ?_ qa9 qab
  ·exact (by rw [h6];simp)
 rintro b hI
 refine cN ?_ ?_ <;> intro h6b
 ·have h6c:(op.kind==1||op.kind==2)=true:=by rw [← hI];exact h6b
  replace hE:=qa4 hE h6c
  refine t9 ?_
  subst hE
  exact qan (Bs:=[_]) results29 eRF () SubL.rfl' (List.nil_sublist _)
 have h6c:(op.kind==1||op.kind==2)=false:=by rw [← hI];exact h6b
 replace hE:=qba hE h6c
 refine t6 ?_
 refine cN ?_ ?_ <;> intro h9
 ·replace hE:=qa4 hE h9
  refine t8 ?_
  subst hE
  exact qan (Bs:=[_]) results29 eRF () SubL.rfl' (List.nil_sublist _)
 replace hE:=qba hE h9
 refine t6 ?_
 refine cN ?_ ?_ <;> intro h11
 ·replace hE:=qa4 hE h11
  refine t7 ?_
  refine qav [(1,_),(2,_)] [blk i1 _ _] (fun k:Nat=>k≤(op.list).length∧zaa op.list (List.take k op.list) (List.drop k (op.list))=W) (fun k=>[(5,Is (.int .i64 (k:Nat)))]) (fun k=>[]) (fun k=>(op.list).length-k) 0 ⟨by exact Nat.zero_le _,hE⟩ qa9 qab ?_
  clear hE
  rintro k ⟨hk,hE⟩
  refine t10 ?_
  refine cN ?_ ?_ <;> intro h13
  ·have hlt:k<(op.list).length:=by have:=of_decide_eq_true h13;omega
   clear h13
   obtain ⟨z,hz⟩:∃ q,(op.list)[k]?=some q:=⟨_,List.getElem?_eq_getElem hlt⟩
   rw [qeo hz,zaa] at hE
   (try dsimp only at hE)
   refine t12 ?_
   refine kRF call65 (qch _) ?_
   refine t3 ?_
   refine cN ?_ ?_ <;> intro h15
   ·replace hE:=qa4 hE h15
    refine t14 ?_
    subst hE
    exact qan (Bs:=[_]) results29 eRF () SubL.rfl' (List.nil_sublist _)
   replace hE:=qba hE h15
   refine t8 ?_
   obtain ⟨n,hn⟩:∃ n,n=k:=⟨_,rfl⟩
   obtain ⟨D,hD⟩:∃ D,dupR z (List.take k op.list)=D:=⟨_,rfl⟩
   rw [hD] at hE
   refine qav [(1,_),(2,_),(5,_),(41,_),(42,_),(43,_),(44,_),(48,_),(49,_),(50,_),(51,_),(52,_),(53,_)] [blk i1 _ _] (fun ka:Nat=>ka≤n∧(dupR z (List.drop ka (List.take k op.list))=D)) (fun ka=>[(6,Is (.int .i64 (ka:Nat)))]) (fun ka=>[]) (fun ka=>n-ka) 0 ⟨by exact Nat.zero_le _,hD⟩ qa9 qab ?_
   rintro ka ⟨hka,hIa⟩
   refine t8 ?_
   refine cN ?_ ?_ <;> intro h18
   ·have hlta:ka<n:=by have:=of_decide_eq_true h18;omega
    clear h18
    obtain ⟨za,hza⟩:∃ q,op.list[ka]?=some q:=⟨_,List.getElem?_eq_getElem (by omega)⟩
    have hzt:(List.take k op.list)[ka]?=some za:=by rw [List.getElem?_take_of_lt (by omega)];exact hza
    rw [qeo hzt] at hIa
    unfold dupR at hIa
    refine t5 ?_
    refine qaz rfl (by kernel_rfl) ?_
    refine qaf 11 (by kernel_rfl) ?_
    refine t3 ?_
    refine qbh (by exact qam (j:=_) (er rfl) (er rfl) rfl rfl rf hza) ?_
    refine t6 ?_
    refine qbh (qdt (er rfl) (er rfl)) ?_
    refine ⟨rfl,?_⟩
    refine qar ?_
    refine s1 ?_
    refine cN ?_ ?_ <;> intro h20
    ·replace hIa:=qa4 hIa h20
     replace hE:=qa4 hE hIa.symm
     refine t17 ?_
     subst hE
     exact qan (Bs:=[_]) results29 eRF () SubL.rfl' (List.nil_sublist _)
    replace hIa:=qba hIa h20
    have hr:=hIa
    refine t8 ?_
    exact qaa (ka+1) ⟨by omega,hr⟩ (by omega) qa9 qab
   have hkea:ka=n:=by have:=of_decide_eq_false h18;omega
   clear h18
   subst hkea
   (try rw [List.take_length])
   (try rw [List.take_length] at hIa)
   rw [hn,List.drop_of_length_le (by rw [List.length_take];omega)] at hIa
   replace hE:=qba hE hIa.symm
   refine t11 ?_
   rw [show List.take k op.list++[z]=List.take (k+1) op.list by rw [List.take_add_one,hz];rfl] at hE
   exact qaa (k+1) ⟨by omega,hE⟩ (by omega) qa9 qab
  have hke:k=(op.list).length:=by have:=of_decide_eq_false h13;omega
  clear h13
  subst hke
  rw [List.drop_length,zaa] at hE
  (try dsimp only at hE)
  refine t23 ?_
  subst hE
  exact qan (Bs:=[_]) results29 eRF () SubL.rfl' (List.nil_sublist _)
 replace hE:=qba hE h11
 refine t6 ?_
 refine cN ?_ ?_ <;> intro h23
 ·replace hE:=qa4 hE h23
  refine t19 ?_
  subst hE
  exact qan (Bs:=[_]) results29 eRF () SubL.rfl' (List.nil_sublist _)
 replace hE:=qba hE h23
 refine t6 ?_
 refine cN ?_ ?_ <;> intro h25
 ·replace hE:=qa4 hE h25
  refine t12 ?_
  subst hE
  exact qan (Bs:=[_]) results29 eRF () SubL.rfl' (List.nil_sublist _)
 replace hE:=qba hE h25
 refine t9 ?_
 subst hE
 exact qan (Bs:=[_]) results29 eRF () SubL.rfl' (List.nil_sublist _)
def zds (n:Nd) (z:Pt):Nat→Nat→Bool
 | 0,_=>false
 | r+1,k=>if decide ((qfr n k).to=z)=true then true else zds n z r (k+1)
def retZ (l:List Pt) (p:Pg) (o:EO26) (m:Nd) (at_:Nat):ES26:=
 if decide ((at_:Int)<(l.length:Int))=true then qu9 12 (-1) else ⟨[],[(qck p m).1],{ o with check:=[97] },true,false⟩
def qpp (l:List Pt) (p:Pg) (o:EO26):Nat→Nat→Nd→Nat→ES26
 | 0,_,m,at_=>retZ l p o m at_
 | r+1,k,m,at_=>if decide ((at_:Int)<(l.length:Int))=true then (if decide (qfr m k=Re.nil)=true then qpp l p o r (k+1) (qha m k ⟨l.getD at_ Pt.nil,o.epoch⟩) (at_+1) else qpp l p o r (k+1) m at_) else retZ l p o m at_
def qqv (l:List Pt) (n:Nd) (p:Pg) (o:EO26):List Pt→ES26
 | []=>qpp l p o 4 0 n 0
 | z :: r=>if zds n z 4 0=true then qu9 17 (-1) else qqv l n p o r
def retR (op:Ep26) (n:Nd) (p:Pg) (o:EO26):ES26:=qqv op.list n p o op.list
theorem qt2 {k:Nat} (h:k<4):4-k=(4-(k+1))+1:=by omega
theorem ret_stop {op:Ep26} {p:Pg} {o:EO26} {m:Nd} {k at_:Nat} (hk:k≤4) (h:(decide ((k:Int)<4)&&decide ((at_:Int)<(op.list.length:Int)))=false):qpp op.list p o (4-k) k m at_=retZ op.list p o m at_:=by
 by_cases h4:k=4
 ·subst h4;rfl
 ·rw [qt2 (by omega),qpp]
  have h1:decide ((k:Int)<4)=true:=decide_eq_true (by omega)
  rw [h1,Bool.true_and] at h
  rw [if_neg (by rw [h];simp)]
theorem qzu (op:Ep26) (n:Nd) (p:Pg) (o:EO26) (hl:op.list.length≤4):FnF Tryz.prog 37 [qfx op,qik n,qcr p,qec o] (fun B=>qhk B (retR op n p o)):=by
 obtain ⟨W,hE⟩:∃ W,retR op n p o=W:=⟨_,rfl⟩
 rw [hE]
 unfold retR at hE
 refine FnF.enter func37 ntmps37 rfl rfl ?_
 intro c hX
 refine t3 ?_
 intro i4
 refine s1 ?_
 intro i5
 refine s1 ?_
 intro i6
 refine s1 ?_
 intro i7
 refine s1 ?_
 intro i8
 refine t9 ?_
 refine qav [(4,_),(5,_),(6,_),(7,_),(8,_)] [blk i8 _ _,blk i7 _ _,blk i6 _ _,blk i5 _ _,blk i4 _ _] (fun k:Nat=>k≤(op.list).length∧qqv op.list n p o (List.drop k (op.list))=W) (fun k=>[(9,Is (.int .i64 (k:Nat)))]) (fun k=>[]) (fun k=>(op.list).length-k) 0 ⟨by exact Nat.zero_le _,hE⟩ qa9 qab ?_
 clear hE
 rintro k ⟨hk,hE⟩
 refine t10 ?_
 refine cN ?_ ?_ <;> intro h2
 ·have hlt:k<(op.list).length:=by have:=of_decide_eq_true h2;omega
  clear h2
  obtain ⟨z,hz⟩:∃ q,(op.list)[k]?=some q:=⟨_,List.getElem?_eq_getElem hlt⟩
  rw [qeo hz,qqv] at hE
  (try dsimp only at hE)
  refine t10 ?_
  obtain ⟨D,hD⟩:∃ D,zds n z 4 0=D:=⟨_,rfl⟩
  rw [hD] at hE
  refine qav [(4,_),(5,_),(6,_),(7,_),(8,_),(9,_),(15,_),(16,_),(17,_),(18,_)] [blk i8 _ _,blk i7 _ _,blk i6 _ _,blk i5 _ _,blk i4 _ _] (fun ka:Nat=>ka≤4∧(zds n z (4-ka) ka=D)) (fun ka=>[(10,Is (.int .i64 (ka:Nat)))]) (fun ka=>[]) (fun ka=>4-ka) 0 ⟨by exact Nat.zero_le _,hD⟩ qa9 qab ?_
  rintro ka ⟨hka,hIa⟩
  refine t7 ?_
  refine cN ?_ ?_ <;> intro h5
  ·have hlta:ka<4:=by have:=of_decide_eq_true h5;omega
   clear h5
   rw [qt2 hlta,zds] at hIa
   refine t5 ?_
   refine qaz rfl (by kernel_rfl) ?_
   refine qaf 11 (by kernel_rfl) ?_
   refine t2 ?_
   refine qbh (qal (k:=ka) (sz:=3) (er rfl) (er rfl) rfl rfl rfl hlta) ?_
   refine s1 ?_
   refine qbh (qbp (n:=2) (er rfl) qbw rf rf rf (re_ble2 _ hlta) (re_to _ hlta)) ?_
   refine t5 ?_
   refine qbh (qdt (er rfl) (er rfl)) ?_
   refine ⟨rfl,?_⟩
   refine qar ?_
   refine s1 ?_
   refine cN ?_ ?_ <;> intro h7
   ·replace hIa:=qa4 hIa h7
    replace hE:=qa4 hE hIa.symm
    refine t2 ?_
    refine kRF call30 (qdf c.w.heap.size _ _) ?_
    refine t13 ?_
    subst hE
    exact qan (Bs:=[_]) results37 eRF () SubL.rfl' (List.nil_sublist _)
   replace hIa:=qba hIa h7
   have hr:=hIa
   refine t8 ?_
   exact qaa (ka+1) ⟨by omega,hr⟩ (by omega) qa9 qab
  have hkea:ka=4:=by have:=of_decide_eq_false h5;omega
  clear h5
  subst hkea
  replace hE:=qba hE hIa.symm
  refine t11 ?_
  exact qaa (k+1) ⟨by omega,hE⟩ (by omega) qa9 qab
 have hke:k=(op.list).length:=by have:=of_decide_eq_false h2;omega
 clear h2
 subst hke
 rw [List.drop_length,qqv] at hE
 (try dsimp only at hE)
 refine t17 ?_
 refine qav [(4,_),(5,_),(6,_),(7,_),(8,_)] [blk i8 _ _,blk i7 _ _,blk i6 _ _,blk i4 _ _] (fun yb:Nat×Nd×Nat=>yb.1≤4∧(yb.2.2≤yb.1∧qpp op.list p o (4-yb.1) yb.1 yb.2.1 yb.2.2=W)) (fun yb=>[(11,Is (.int .i64 (yb.2.2:Nat))),(12,Is (.int .i64 (yb.1:Nat)))]) (fun yb=>[blk i5 110 (tNd.cells yb.2.1)]) (fun yb=>4-yb.1) (0,n,0) ⟨by exact Nat.zero_le _,⟨Nat.le_refl 0,hE⟩⟩ qa9 qab ?_
 rintro ⟨kb,m,at_⟩ ⟨hkb,hIb⟩
 dsimp only at hkb hIb ⊢
 refine t14 ?_
 refine cN ?_ ?_ <;> intro h11
 ·rw [Bool.and_eq_true] at h11
  have hlt4:kb<4:=by have:=of_decide_eq_true h11.1;omega
  have hla:at_<op.list.length:=by have:=of_decide_eq_true h11.2;omega
  obtain ⟨za,hza⟩:∃ q,op.list[at_]?=some q:=⟨_,List.getElem?_eq_getElem hla⟩
  have hzg:op.list.getD at_ Pt.nil=za:=by rw [List.getD_eq_getElem?_getD,hza];rfl
  obtain ⟨hI1,hI2⟩:=hIb
  clear hE
  rw [qt2 hlt4,qpp,if_pos h11.2,hzg] at hI2
  clear h11
  refine t8 ?_
  refine qap rfl (qal (k:=kb) (sz:=3) (er rfl) (er rfl) rfl rfl rfl hlt4) ?_
  refine qap rfl (qbp (n:=3) (er rfl) qbw rf rf rf (qpq _ hlt4) (re_idx _ hlt4)) ?_
  refine s1 ?_
  refine qap rfl (qdu (vs:=Re.cells (qfr m kb)) (ws:=Re.cells Re.nil) (er rfl) (er rfl) (qf4 _ _ _ (qfr m kb) Re.nil) (qjm (qfr m kb) Re.nil)) ?_
  refine t2 ?_
  refine cN ?_ ?_ <;> intro h13
  ·replace hI2:=qa4 hI2 h13
   have hT:True:=trivial
   refine s1 ?_
   refine qaz rfl (by kernel_rfl) ?_
   refine qaf 11 (by kernel_rfl) ?_
   refine t4 ?_
   refine qbh (by exact qam (j:=_) (er rfl) (er rfl) rfl rfl rf hza) ?_
   refine t5 ?_
   refine qbh (qal (k:=kb) (sz:=3) (er rfl) (er rfl) rfl rfl rfl hlt4) ?_
   refine ⟨rfl,?_⟩
   refine qeb (by kernel_rfl) rfl (qas (Rs:=tNd.cells (qha m kb ⟨za,o.epoch⟩)) (er rfl) (er rfl) qag qae (qxi _ _ hlt4) rf rf (qpq _ hlt4)) ?_
   refine qar ?_
   refine t13 ?_
   first
    | (have:=hT;exact qaa (kb+1,qha m kb ⟨za,o.epoch⟩,at_+1) ⟨by omega,by dsimp only;omega,hI2⟩ (by dsimp only;omega) qa9 qab)
    | exact qaa (kb+1,m,at_) ⟨by omega,by dsimp only;omega,hI2⟩ (by dsimp only;omega) qa9 qab
  replace hI2:=qba hI2 h13
  refine t8 ?_
  first
   | (have:=hT;exact qaa (kb+1,qha m kb ⟨za,o.epoch⟩,at_+1) ⟨by omega,by dsimp only;omega,hI2⟩ (by dsimp only;omega) qa9 qab)
   | exact qaa (kb+1,m,at_) ⟨by omega,by dsimp only;omega,hI2⟩ (by dsimp only;omega) qa9 qab
 obtain ⟨hI1,hI2⟩:=hIb
 clear hE
 have hE:=(ret_stop (op:=op) (p:=p) (o:=o) (m:=m) (at_:=at_) hkb h11).symm.trans hI2
 clear h11
 unfold retZ at hE
 refine t15 ?_
 refine cN ?_ ?_ <;> intro h16
 ·replace hE:=qa4 hE h16
  refine t2 ?_
  refine kRF call30 (qdf c.w.heap.size _ _) ?_
  refine t5 ?_
  subst hE
  exact qan (Bs:=[_]) results37 eRF () SubL.rfl' (List.nil_sublist _)
 replace hE:=qba hE h16
 refine t6 ?_
 refine kRF call39 (qep p m) ?_
 refine t4 ?_
 intro i13
 refine t6 ?_
 refine qap rfl (OpP.to (qac (size:=1) (qs:=[(0,_)]) rfl rfl rfl ⟨⟨rfl,_,(er rfl),qag⟩,trivial⟩ rf rf) (SubL.row1 (T:=tI64) (x:=_) rf rf rf qak)) ?_
 refine t7 ?_
 refine qap rfl (OpP.fr (qa3 (size:=9) (qs:=[(0,_)]) rfl rfl rfl ⟨⟨rfl,_,(er rfl),qag⟩,trivial⟩ rf rf) qcq (SubL.row1 (T:=tPg) (x:=(⟨_,_,_,_,_,_,_,_,_⟩:Pg)) rf rf rf qak)) ?_
 refine t6 ?_
 subst hE
 exact qan (Bs:=[_]) results37 eRF () SubL.rfl' (List.nil_sublist _)
def colX (p:Pg) (o:EO26) (m:Nd) (fr:List Pt) (ws:List Pg) (cd:Int):ES26:=
 if (cd != 0)=true then { qu9 cd (-1) with locked:=(cd==3) } else ⟨[],qb7 ws [(qck p m).1],{ o with freed:=fr,check:=[97] },true,false⟩
def zao (F:S19):Int:=if (F.code==1)=true then 14 else F.code
def colY (p:Pg) (o:EO26) (m:Nd) (fr:List Pt) (F:S19):ES26:=
 if (!F.over)=true then ⟨F.need,[],EO26.nil,false,false⟩ else colX p o m fr F.writes (zao F)
def colZ (lines:Int) (p:Pg) (o:EO26) (ks:List Pg) (m:Nd) (fr:List Pt):ES26:=
 if ((fr.length:Int)==0)=true then qu9 16 (-1) else colY p o m fr (qmn ks lines fr)
def qsr (lines:Int) (p:Pg) (o:EO26) (ks:List Pg):Nat→Nat→Nd→List Pt→ES26
 | 0,_,m,fr=>colZ lines p o ks m fr
 | r+1,k,m,fr=>if decide ((fr.length:Int)<2)=true then (if (!decide (qfr m k=Re.nil)&&qqs o.epoch (qfr m k).ep)=true then qsr lines p o ks r (k+1) (qha m k Re.nil) (fr++[(qfr m k).to]) else qsr lines p o ks r (k+1) m fr) else colZ lines p o ks m fr
theorem col_stop {lines:Int} {p:Pg} {o:EO26} {ks:List Pg} {m:Nd} {k:Nat} {fr:List Pt} (hk:k≤4) (h:(decide ((k:Int)<4)&&decide ((fr.length:Int)<2))=false):qsr lines p o ks (4-k) k m fr=colZ lines p o ks m fr:=by
 by_cases h4:k=4
 ·subst h4;rfl
 ·rw [qt2 (by omega),qsr]
  have h1:decide ((k:Int)<4)=true:=decide_eq_true (by omega)
  rw [h1,Bool.true_and] at h
  rw [if_neg (by rw [h];simp)]
theorem qwj (op:Ep26) (n:Nd) (p:Pg) (o:EO26) (ks:List Pg) (hks:ks.length≤10000) (ho:o.freed=[]∧o.code=0):FnF Tryz.prog 38 [qfx op,qik n,qcr p,IsAgg [Is (.int .i64 o.code),Is (.int .u32 (UV o.epoch)),Is (.int .i64 o.blocker),Is (.slice none 0 0),IsSl tI64 o.check],IsSl tPg ks] (fun B=>qhk B (qsr op.lines p o ks 4 0 n [])):=by
 obtain ⟨W,hE⟩:∃ W,qsr op.lines p o ks 4 0 n []=W:=⟨_,rfl⟩
 rw [hE]
 refine FnF.enter func38 ntmps38 rfl rfl ?_
 intro c hX
 refine t3 ?_
 intro i5
 refine s1 ?_
 intro i6
 refine s1 ?_
 intro i7
 refine s1 ?_
 intro i8
 refine s1 ?_
 intro i10
 refine t9 ?_
 refine qcd 55 tPt ?_
 refine qav [(4,_),(5,_),(6,_),(7,_),(8,_),(10,_)] [blk i10 _ _,blk i7 _ _,blk i5 _ _] (fun y:Nat×Nd×(List Pt)×(Option Addr×Nat)=>y.1≤4∧(y.2.2.1.length≤2∧qsr op.lines p o ks (4-y.1) y.1 y.2.1 y.2.2.1=W)) (fun y=>[(11,Is (.int .i64 (y.1:Nat)))]) (fun y=>[blk i6 110 (tNd.cells y.2.1),blk i8 64 [Is (.int .i64 o.code),Is (.int .u32 (UV o.epoch)),Is (.int .i64 o.blocker),Is (slV (y.2.2.1).length y.2.2.2),IsSl tI64 o.check],buf (slV (y.2.2.1).length y.2.2.2) 55 tPt (y.2.2.1)]) (fun y=>4-y.1) (0,n,[],(none,0)) ⟨by exact Nat.zero_le _,⟨Nat.zero_le _,hE⟩⟩ qa9 qab ?_
 rintro ⟨k,m,fr,v_0⟩ ⟨hk,hI⟩
 dsimp only at hk hI ⊢
 refine t13 ?_
 refine cN ?_ ?_ <;> intro h2
 ·have h2':=h2
  rw [Bool.and_eq_true] at h2
  have hlt4:k<4:=by have:=of_decide_eq_true h2.1;omega
  have hf2:fr.length<2:=by have:=of_decide_eq_true h2.2;omega
  obtain ⟨hI1,hI2⟩:=hI
  clear hE h2'
  rw [qt2 hlt4,qsr,if_pos h2.2] at hI2
  clear h2
  refine t8 ?_
  refine qap rfl (qal (k:=k) (sz:=3) (er rfl) (er rfl) rfl rfl rfl hlt4) ?_
  refine qap rfl (qbp (n:=3) (er rfl) qbw rf rf rf (qpq _ hlt4) (re_idx _ hlt4)) ?_
  refine s1 ?_
  intro i12
  refine t7 ?_
  refine qap rfl (qdu (vs:=Re.cells (qfr m k)) (ws:=Re.cells Re.nil) (er rfl) (er rfl) (qf4 _ _ _ (qfr m k) Re.nil) (zd9 (qfr m k) Re.nil)) ?_
  refine t5 ?_
  (refine qcp rfl rfl rfl (fun hg=>(by have hg0:=hg;(try simp at hg);exact qad call70 (qzh _ _) ⟨qaq,⟨qaq,trivial⟩⟩)) ?_)
  refine t3 ?_
  refine cN ?_ ?_ <;> intro h5
  ·replace hI2:=qa4 hI2 h5
   have hT:True:=trivial
   clear h5
   refine t6 ?_
   refine qap rfl (OpP.to (qac (size:=2) (qs:=[(0,_)]) rfl rfl rfl ⟨⟨rfl,_,(er rfl),qag⟩,trivial⟩ rf rf) (SubL.row1 (T:=tPt) (x:=(⟨_,_⟩:Pt)) rf rf rf qak)) ?_
   (refine qew rfl (qb6 (er rfl) (fun _=>qae) (by exact er rfl) (by exact qej rfl rfl rfl) qb8) ?_;intro i46)
   refine t8 ?_
   refine qap rfl (qal (k:=k) (sz:=3) (er rfl) (er rfl) rfl rfl rfl hlt4) ?_
   refine qkl (qas (Rs:=tNd.cells (qha m k Re.nil)) (er rfl) (er rfl) qag qae (qxi _ _ hlt4) rf rf (qpq _ hlt4)) ?_
   refine t8 ?_
   first
    | (have:=hT;exact qaa (k+1,qha m k Re.nil,fr++[(qfr m k).to],_) ⟨by omega,by dsimp only;rw [List.length_append,List.length_singleton];omega,hI2⟩ (by dsimp only;omega) qa9 qab)
    | exact qaa (k+1,m,fr,v_0) ⟨by omega,hI1,hI2⟩ (by dsimp only;omega) qa9 qab
  replace hI2:=qba hI2 h5
  clear h5
  refine t8 ?_
  first
   | (have:=hT;exact qaa (k+1,qha m k Re.nil,fr++[(qfr m k).to],_) ⟨by omega,by dsimp only;rw [List.length_append,List.length_singleton];omega,hI2⟩ (by dsimp only;omega) qa9 qab)
   | exact qaa (k+1,m,fr,v_0) ⟨by omega,hI1,hI2⟩ (by dsimp only;omega) qa9 qab
 obtain ⟨hI1,hI2⟩:=hI
 clear hE
 have hE:=(col_stop (lines:=op.lines) (p:=p) (o:=o) (ks:=ks) (m:=m) (fr:=fr) hk h2).symm.trans hI2
 clear h2
 unfold colZ at hE
 refine qa7 hX (v:=slV fr.length v_0) qae ?_
 refine qbr (b:=i8) (As':=tEO26.cells ⟨o.code,o.epoch,o.blocker,fr,o.check⟩) qae qbf ?_
 refine t14 ?_
 refine cN ?_ ?_ <;> intro h8
 ·replace hE:=qa4 hE h8
  refine t2 ?_
  refine kRF call30 (qdf c.w.heap.size _ _) ?_
  refine t5 ?_
  subst hE
  exact qan (Bs:=[_]) results38 eRF () SubL.rfl' (List.nil_sublist _)
 replace hE:=qba hE h8
 obtain ⟨F,hF⟩:∃ F,qmn ks op.lines fr=F:=⟨_,rfl⟩
 rw [hF] at hE
 unfold colY at hE
 refine t9 ?_
 refine kRF call71 (FreeR_ok _ _ _ hks) ?_
 refine s1 ?_
 intro i13
 refine t5 ?_
 rw [hF]
 refine t6 ?_
 refine cN ?_ ?_ <;> intro h11
 ·replace hE:=qa4 hE h11
  refine t10 ?_
  subst hE
  exact qan (Bs:=[_]) results38 eRF () SubL.rfl' (List.nil_sublist _)
 replace hE:=qba hE h11
 refine t10 ?_
 refine qb1 [(6,_),(7,_),(8,_),(10,_),(13,_)] [blk i10 _ _,blk i8 _ _,blk i7 _ _,blk i6 _ _] (fun yc:S19=>yc.writes=F.writes∧yc.code=zao F) (fun yc=>[]) (fun yc=>[blk i13 129 (tS19.cells yc)]) qa9 qab ?_ ?_
 rotate_left
 focus
  refine cN ?_ ?_ <;> intro h13
  ·skip
   refine t4 ?_
   exact qai ({ F with code:=14 }:S19) ⟨rfl,by unfold zao;rw [if_pos h13]⟩ qa9 qab
  skip
  refine s1 ?_
  exact qai F ⟨rfl,by unfold zao;rw [if_neg (by rw [h13];simp)]⟩ qa9 qab
 rintro F2 ⟨hw2,hc2⟩
 have hw3:F2.writes.length≤8:=by rw [hw2,← hF];exact (qyw ks op.lines fr (by omega)).1.1
 unfold colX at hE
 rw [← hw2,← hc2] at hE
 refine t8 ?_
 refine cN ?_ ?_ <;> intro h15
 ·replace hE:=qa4 hE h15
  refine t4 ?_
  refine kRF call30 (qdf c.w.heap.size _ _) ?_
  refine s1 ?_
  intro i14
  refine t20 ?_
  subst hE
  exact qan (Bs:=[_]) results38 eRF () SubL.rfl' (List.nil_sublist _)
 replace hE:=qba hE h15
 refine t6 ?_
 refine kRF call39 (qep p m) ?_
 refine t4 ?_
 intro i15
 refine t6 ?_
 refine qap rfl (OpP.to (qac (size:=1) (qs:=[(0,_)]) rfl rfl rfl ⟨⟨rfl,_,(er rfl),qag⟩,trivial⟩ rf rf) (SubL.row1 (T:=tI64) (x:=_) rf rf rf qak)) ?_
 refine t5 ?_
 refine qaz rfl (by kernel_rfl) ?_
 refine qaf 7 (by kernel_rfl) ?_
 refine t3 ?_
 refine qbh (OpP.fr (qa3 (size:=9) (qs:=[(0,_)]) rfl rfl rfl ⟨⟨rfl,_,(er rfl),qag⟩,trivial⟩ rf rf) qcq (SubL.row1 (T:=tPg) (x:=(⟨_,_,_,_,_,_,_,_,_⟩:Pg)) rf rf rf qak)) ?_
 refine qbh (by ((refine qaw call72 (qcf _ _ ?_) ⟨qaq,⟨qaq,trivial⟩⟩);all_goals (first|first|omega|(simp;omega)|(simp;done)))) ?_
 refine t2 ?_
 refine ⟨rfl,?_⟩
 refine qeb (by kernel_rfl) rfl (qas (er rfl) (er rfl) qag qae qbm rf rf rf) ?_
 refine qar ?_
 refine t2 ?_
 subst hE
 exact qan (Bs:=[_]) results38 eRF () SubL.rfl' (List.nil_sublist _)
def ndPg (ks:List Pg) (f:Int):Pg:=qbk ks (98+f)
def PEN (op:Ep26) (ks:List Pg) (r:ES26):Prop:=PES r∧(op.kind=5→r.over=true→r.out.code=0→(qc1 (ndPg ks op.for_)).2=0∧∃ m,Nld (qc1 (ndPg ks op.for_)).1 m∧qo9 m<qo9 (qc1 (ndPg ks op.for_)).1∧Asc r.writes∧(qck (ndPg ks op.for_) m).1∈r.writes)
theorem qyh {all:List Pt}:∀ (r pre:List Pt),zaa all pre r=true→1≤all.length∧all.length≤4
 | [],pre,h=>by
  have h':(decide ((all.length:Int)≥1)&&decide ((all.length:Int)≤4))=true:=h
  simp at h'
  omega
 | p :: r,pre,h=>by
  unfold zaa at h
  split at h
  ·cases h
  ·split at h
   ·cases h
   ·exact qyh r _ h
theorem qpx {op:Ep26} (h:qi3 op=true):EA op:=by
 unfold qi3 at h
 by_cases h0:(decide (op.client<0)||decide (op.client≥6))=true
 ·rw [if_pos h0] at h;cases h
 rw [if_neg h0] at h
 have hc:0≤op.client∧op.client<6:=by simp at h0;omega
 by_cases h1:(op.kind==1||op.kind==2)=true
 ·have hk:op.kind=1∨op.kind=2:=by simpa using h1
  exact ⟨hc,fun h=>by omega,fun h=>by omega,fun h=>by omega⟩
 rw [if_neg h1] at h
 by_cases h3:(op.kind==3)=true
 ·have hk:op.kind=3:=by simpa using h3
  exact ⟨hc,fun h=>by omega,fun h=>by omega,fun h=>by omega⟩
 rw [if_neg h3] at h
 by_cases h4:(op.kind==4)=true
 ·rw [if_pos h4] at h
  have hk:op.kind=4:=by simpa using h4
  exact ⟨hc,fun _=>qyh _ _ h,fun h=>by omega,fun h=>by omega⟩
 rw [if_neg h4] at h
 by_cases h5:(op.kind==5)=true
 ·rw [if_pos h5] at h
  have hk:op.kind=5:=by simpa using h5
  unfold othB at h
  simp at h
  exact ⟨hc,fun h=>by omega,fun _=>by omega,fun _=>by omega⟩
 rw [if_neg h5] at h
 by_cases h6:(op.kind==6)=true
 ·rw [if_pos h6] at h
  have hk:op.kind=6:=by simpa using h6
  unfold othB at h
  simp at h
  exact ⟨hc,fun h=>by omega,fun _=>by omega,fun h=>by omega⟩
 rw [if_neg h6] at h;cases h
def qza (op:Ep26):List Int:=if (op.kind != 2&&op.kind != 6)=true then [97] else []
def qu5 (n:Nat):List Int:=(List.range n).map fun i:Nat=>98+(i:Int)
theorem zbu (n:Nat):qu5 (n+1)=qu5 n++[98+(n:Int)]:=by unfold qu5;rw [List.range_succ,List.map_append];rfl
def qe3 (op:Ep26):List Int:=
 if (op.kind==3)=true then qza op++qu5 6 else
 if (op.kind==5||op.kind==6)=true then qza op++[98+op.for_] else qza op++[98+op.client]
theorem qwo {op:Ep26} (h:EA op):(1≤(qe3 op).length∧(qe3 op).length≤7)∧(qe3 op).getLast?≠some 97:=by
 obtain ⟨h1,h2,h3,h4⟩:=h
 have ha:(qza op).length≤1:=by unfold qza;split <;> simp
 unfold qe3
 split
 ·refine ⟨by unfold qu5;simp;omega,?_⟩
  rw [show qu5 6=qu5 5++[103] from rfl,← List.append_assoc,List.getLast?_append]
  simp
 ·split
  ·rename_i h5
   have hk:op.kind=5∨op.kind=6:=by simpa using h5
   have:=h3 hk
   refine ⟨by simp;omega,?_⟩
   rw [List.getLast?_append]
   simp;omega
  ·refine ⟨by simp;omega,?_⟩
   rw [List.getLast?_append]
   simp;omega
theorem qns {op:Ep26} (h:EA op):∀ x,x∈qe3 op→97≤x∧x≤103:=by
 obtain ⟨h1,h2,h3,h4⟩:=h
 have ha:∀ x,x∈qza op→97≤x∧x≤103:=fun x hx=>by
  unfold qza at hx
  split at hx
  ·rw [List.mem_singleton.1 hx];omega
  ·cases hx
 intro x hx
 unfold qe3 at hx
 split at hx
 ·rcases List.mem_append.1 hx with e|e
  ·exact ha x e
  ·unfold qu5 at e
   obtain ⟨i,hi,rfl⟩:=List.mem_map.1 e
   have:=List.mem_range.1 hi
   omega
 ·split at hx
  ·rename_i h5
   have hk:op.kind=5∨op.kind=6:=by simpa using h5
   have:=h3 hk
   rcases List.mem_append.1 hx with e|e
   ·exact ha x e
   ·rw [List.mem_singleton.1 e];omega
  ·rcases List.mem_append.1 hx with e|e
   ·exact ha x e
   ·rw [List.mem_singleton.1 e];omega
theorem FnF.es {f:FuncId} {As:List VP} {s:ES26} (h:FnF Tryz.prog f As (fun B=>qhk B s)):FnF Tryz.prog f As (fun B=>qes (fun r:ES26=>r=s) fun r=>qhk B r):=h.sub fun B φ v k=>⟨s,rfl,k⟩
theorem zaq (g:BitVec 32) (nd:List Nd) (ks:List Pg) (hn:nd.length≤10):FnF Tryz.prog 36 [Is (.int .u32 (UV g)),IsSl tNd nd,IsSl tPg ks] (fun B=>qes (fun r:ES26=>r=advR g ks nd) fun r=>qhk B r):=(qwq g nd ks hn).es
theorem zb0 (op:Ep26) (n:Nd) (p:Pg) (o:EO26) (hl:op.list.length≤4):FnF Tryz.prog 37 [qfx op,qik n,qcr p,qec o] (fun B=>qes (fun r:ES26=>r=retR op n p o) fun r=>qhk B r):=(qzu op n p o hl).es
theorem zan (op:Ep26) (n:Nd) (p:Pg) (o:EO26) (ks:List Pg) (hks:ks.length≤10000) (ho:o.freed=[]∧o.code=0):FnF Tryz.prog 38 [qfx op,qik n,qcr p,IsAgg [Is (.int .i64 o.code),Is (.int .u32 (UV o.epoch)),Is (.int .i64 o.blocker),Is (.slice none 0 0),IsSl tI64 o.check],IsSl tPg ks] (fun B=>qes (fun r:ES26=>r=qsr op.lines p o ks 4 0 n []) fun r=>qhk B r):=(qwj op n p o ks hks ho).es
def lockE (b:Int):ES26:={ qu9 3 b with locked:=true }
def wrT (p:Pg) (n:Nd) (o:EO26):ES26:=⟨[],[(qck p n).1],o,true,false⟩
def enD (op:Ep26) (ks:List Pg) (g:BitVec 32) (p:Pg) (n:Nd) (nd:List Nd):ES26:=
 if (op.kind==1)=true then (if (n.pin&&n.inc==op.inc)=true then qu9 17 (-1) else wrT p { n with pin:=true,ep:=g,inc:=op.inc } ⟨0,g,-1,[],[97]⟩) else
 if (op.kind==2||op.kind==6)=true then (if ((!n.pin||(op.kind==2&&n.inc != op.inc))||decide (n.inc>op.inc))=true then qu9 16 (-1) else wrT p { n with pin:=false,ep:=0#32 } ⟨0,n.ep,-1,[],[]⟩) else
 if (op.kind==3)=true then advR g ks nd else
 if (op.kind==4)=true then retR op n p ⟨0,g,-1,[],[]⟩ else
 if (op.kind==5)=true then qsr op.lines p ⟨0,g,-1,[],[]⟩ ks 4 0 n [] else wrT p n ⟨0,g,-1,[],[]⟩
def enC (op:Ep26) (ks:List Pg) (g:BitVec 32):List Pg→List Nd→ES26
 | p :: _,n :: r=>enD op ks g p n (n :: r)
 | _,_=>ES26.nil
def enB (op:Ep26) (ks:List Pg):List Int→BitVec 32→List Pg→List Nd→ES26
 | [],g,pg,nd=>enC op ks g pg nd
 | z :: r,g,pg,nd =>
  if qef (qbk ks z)=true then (if (op.kind==3&&z != 97)=true then lockE (z-98) else lockE (-1)) else
  if (z==97)=true then (if ((rdE (qbk ks z)).2 != 0)=true then qu9 14 (-1) else enB op ks r (rdE (qbk ks z)).1 pg nd) else
  if ((qc1 (qbk ks z)).2 != 0)=true then qu9 14 (-1) else enB op ks r g (pg++[qbk ks z]) (nd++[(qc1 (qbk ks z)).1])
def enX (op:Ep26) (ks:List Pg):ES26:=
 if (!qi3 op)=true then qu9 1 (-1) else
 if decide (((qc2 ks (qe3 op)).length:Int)>0)=true then ⟨qc2 ks (qe3 op),[],EO26.nil,false,false⟩ else enB op ks (qe3 op) 0#32 [] []
def NJ (n k:Nat) (pg:List Pg) (nd:List Nd):Prop:=pg.length=nd.length∧nd.length≤k∧(k=n→1≤nd.length)
theorem NJ_skip {ask:List Int} {k:Nat} {pg:List Pg} {nd:List Nd} {z:Int} (h:NJ ask.length k pg nd) (hz:ask[k]?=some z) (h97:z=97) (hl:ask.getLast?≠some 97):NJ ask.length (k+1) pg nd:=by
 obtain ⟨h1,h2,h3⟩:=h
 refine ⟨h1,by omega,fun hk=>absurd ?_ hl⟩
 rw [List.getLast?_eq_getElem?,← hk,Nat.add_sub_cancel,hz,h97]
theorem ql9 (op:Ep26) (ks:List Pg) (hks:ks.length≤10000) (hol:op.list.length≤1000):FnF Tryz.prog 12 [qfx op,IsSl tPg ks] (fun B=>qhk B (enX op ks)):=by
 obtain ⟨W,hE⟩:∃ W,enX op ks=W:=⟨_,rfl⟩
 rw [hE]
 unfold enX at hE
 refine FnF.enter func12 ntmps12 rfl rfl ?_
 intro c hX
 refine t3 ?_
 intro i2
 refine s1 ?_
 intro i4
 refine t6 ?_
 refine kRF call29 (qlw op hol) ?_
 refine t3 ?_
 refine cN ?_ ?_ <;> intro h1
 ·replace hE:=qa4 hE h1
  refine t2 ?_
  refine kRF call30 (qdf c.w.heap.size _ _) ?_
  refine t5 ?_
  subst hE
  exact qan (Bs:=[_]) results12 eRF () SubL.rfl' (List.nil_sublist _)
 replace hE:=qba hE h1
 have hea:EA op:=qpx (by simpa using h1)
 have hask:=qwo hea
 obtain ⟨he1,he2,he3,he4⟩:=id hea
 refine t9 ?_
 refine qcd 3 tI64 ?_
 refine t11 ?_
 refine qb1 [(1,_),(2,_),(4,_)] [blk i4 _ _,blk i2 _ _] (fun yc:(List Int)×(Option Addr×Nat)=>yc.1=qza op) (fun yc=>[(5,Is (slV (yc.1).length yc.2))]) (fun yc=>[buf (slV (yc.1).length yc.2) 3 tI64 (yc.1)]) qa9 qab ?_ ?_
 rotate_left
 focus
  refine cN ?_ ?_ <;> intro h4
  ·skip
   refine t2 ?_
   refine qap rfl (OpP.to (qac (size:=1) (qs:=[(0,_)]) rfl rfl rfl ⟨⟨rfl,_,(er rfl),qag⟩,trivial⟩ rf rf) (SubL.row1 (T:=tI64) (x:=_) rf rf rf qak)) ?_
   (refine qew rfl (qb6 (er rfl) (fun _=>qae) (by exact er rfl) (by exact qej rfl rfl rfl) qb8) ?_;intro i38)
   refine t2 ?_
   exact qai ([97],i38) (by unfold qza;rw [if_pos h4]) qa9 qab
  skip
  refine s1 ?_
  exact qai ([],(none,0)) (by unfold qza;rw [if_neg (by rw [h4];simp)]) qa9 qab
 rintro ⟨ask,v⟩ hA
 dsimp only at hA ⊢
 have ha1:ask.length≤1:=by rw [hA];unfold qza;split <;> simp
 refine t7 ?_
 refine qb1 [(1,_),(2,_),(4,_)] [blk i4 _ _,blk i2 _ _] (fun yc:(List Int)×(Option Addr×Nat)=>yc.1=qe3 op) (fun yc=>[(5,Is (slV (yc.1).length yc.2))]) (fun yc=>[buf (slV (yc.1).length yc.2) 3 tI64 (yc.1)]) qa9 qab ?_ ?_
 rotate_left
 focus
  refine t7 ?_
  refine cN ?_ ?_ <;> intro h8
  ·skip
   refine t6 ?_
   refine qav [(1,_),(2,_),(4,_)] [blk i4 _ _,blk i2 _ _] (fun y:Nat×(List Int)×(Option Addr×Nat)=>y.1≤6∧(y.2.1=ask++qu5 y.1)) (fun y=>[(5,Is (slV (y.2.1).length y.2.2)),(6,Is (.int .i64 (y.1:Nat)))]) (fun y=>[buf (slV (y.2.1).length y.2.2) 3 tI64 (y.2.1)]) (fun y=>6-y.1) (0,ask,v) ⟨by exact Nat.zero_le _,(by unfold qu5;simp)⟩ qa9 qab ?_
   rintro ⟨k,a3,v_0⟩ ⟨hk,hI⟩
   dsimp only at hk hI ⊢
   refine t7 ?_
   refine cN ?_ ?_ <;> intro h10
   ·have hlt:k<6:=by have:=of_decide_eq_true h10;omega
    clear h10
    have hI2:=id hI
    have ha3:a3.length≤7:=by rw [hI2];unfold qu5;simp;omega
    refine t8 ?_
    refine qap rfl (OpP.to (qac (size:=1) (qs:=[(0,_)]) rfl rfl rfl ⟨⟨rfl,_,(er rfl),qag⟩,trivial⟩ rf rf) (SubL.row1 (T:=tI64) (x:=_) rf rf rf qak)) ?_
    (refine qew rfl (qb6 (er rfl) (fun _=>qae) (by exact er rfl) (by exact qej rfl rfl rfl) qb8) ?_;intro i57)
    refine t9 ?_
    exact qaa (k+1,a3++[98+(k:Int)],_) ⟨by omega,(by rw [hI2,zbu,List.append_assoc])⟩ (by omega) qa9 qab
   have hke:k=6:=by have:=of_decide_eq_false h10;omega
   clear h10
   subst hke
   refine t5 ?_
   exact qai (a3,v_0) (by unfold qe3;rw [if_pos h8,← hA,hI]) qa9 qab
  skip
  refine t7 ?_
  refine qb1 [(1,_),(2,_),(4,_),(5,_)] [blk i4 _ _,blk i2 _ _,buf _ _ _ _] (fun yc:Bool=>yc=(op.kind==5||op.kind==6)) (fun yc=>[(58,Is (.bool yc))]) (fun yc=>[]) qa9 qab ?_ ?_
  rotate_left
  focus
   refine cN ?_ ?_ <;> intro h13
   ·skip
    refine s1 ?_
    refine qai _ ?_ qa9 qab
    ·exact (by rw [h13];simp)
   skip
   refine t4 ?_
   refine qai _ ?_ qa9 qab
   ·exact (by rw [h13];simp)
  rintro b hIb
  refine cN ?_ ?_ <;> intro h13b
  ·have h13c:(op.kind==5||op.kind==6)=true:=by rw [← hIb];exact h13b
   have hfo:=he3 (by simpa using h13c)
   refine t5 ?_
   refine qap rfl (OpP.to (qac (size:=1) (qs:=[(0,_)]) rfl rfl rfl ⟨⟨rfl,_,(er rfl),qag⟩,trivial⟩ rf rf) (SubL.row1 (T:=tI64) (x:=_) rf rf rf qak)) ?_
   (refine qew rfl (qb6 (er rfl) (fun _=>qae) (by exact er rfl) (by exact qej rfl rfl rfl) qb8) ?_;intro i66)
   refine t3 ?_
   exact qai (ask++[98+op.for_],i66) (by unfold qe3;rw [if_neg (by rw [h8];simp),if_pos h13c,← hA]) qa9 qab
  have h13c:(op.kind==5||op.kind==6)=false:=by rw [← hIb];exact h13b
  refine t5 ?_
  refine qap rfl (OpP.to (qac (size:=1) (qs:=[(0,_)]) rfl rfl rfl ⟨⟨rfl,_,(er rfl),qag⟩,trivial⟩ rf rf) (SubL.row1 (T:=tI64) (x:=_) rf rf rf qak)) ?_
  (refine qew rfl (qb6 (er rfl) (fun _=>qae) (by exact er rfl) (by exact qej rfl rfl rfl) qb8) ?_;intro i46)
  refine t3 ?_
  exact qai (ask++[98+op.client],i46) (by unfold qe3;rw [if_neg (by rw [h8];simp),if_neg (by rw [h13c];simp),← hA]) qa9 qab
 rintro ⟨ask3,v2⟩ hI3
 dsimp only at hI3 ⊢
 rw [← hI3] at hE hask
 obtain ⟨⟨hb1,hb2⟩,hb3⟩:=hask
 refine qa7 hX (v:=slV ask3.length v2) qae ?_
 refine qb0 5 (IsSl tI64 ask3) rfl qgw ?_
 refine t4 ?_
 refine qap rfl (by ((refine qad call31 (qg7 _ ask3 ?_) ⟨qaq,⟨qaq,trivial⟩⟩);all_goals (omega))) ?_
 refine t11 ?_
 refine cN ?_ ?_ <;> intro h17
 ·replace hE:=qa4 hE h17
  refine t9 ?_
  subst hE
  exact qan (Bs:=[_]) results12 eRF () SubL.rfl' (List.nil_sublist _)
 replace hE:=qba hE h17
 refine t24 ?_
 refine qcd 110 tNd ?_
 refine qcd 48 tPg ?_
 refine qav [(1,_),(2,_),(4,_),(5,_)] [blk i4 _ _,blk i2 _ _] (fun y:Nat×(BitVec 32)×(List Pg)×(List Nd)×(Option Addr×Nat)×(Option Addr×Nat)=>y.1≤(ask3).length∧(NJ ask3.length y.1 y.2.2.1 y.2.2.2.1)∧enB op ks (List.drop y.1 (ask3)) y.2.1 y.2.2.1 y.2.2.2.1=W) (fun y=>[(8,Is (.int .u32 (UV y.2.1))),(9,Is (slV (y.2.2.1).length y.2.2.2.2.1)),(10,Is (slV (y.2.2.2.1).length y.2.2.2.2.2)),(11,Is (.int .i64 (y.1:Nat)))]) (fun y=>[buf (slV (y.2.2.1).length y.2.2.2.2.1) 48 tPg (y.2.2.1),buf (slV (y.2.2.2.1).length y.2.2.2.2.2) 110 tNd (y.2.2.2.1)]) (fun y=>(ask3).length-y.1) (0,0#32,[],[],(none,0),(none,0)) ⟨by exact Nat.zero_le _,⟨rfl,Nat.le_refl 0,fun h=>by omega⟩,hE⟩ qa9 qab ?_
 clear hE
 rintro ⟨k,g,pg,nd,v_0,v_1⟩ ⟨hk,hI,hE⟩
 dsimp only at hk hI hE ⊢
 refine t9 ?_
 refine cN ?_ ?_ <;> intro h23
 ·have hlt:k<(ask3).length:=by have:=of_decide_eq_true h23;omega
  clear h23
  obtain ⟨z,hz⟩:∃ q,(ask3)[k]?=some q:=⟨_,List.getElem?_eq_getElem hlt⟩
  rw [qeo hz,enB] at hE
  (try dsimp only at hE)
  obtain ⟨hj1,hj2,hj3⟩:=id hI
  have hzr:=qns hea z (by rw [← hI3];exact List.mem_of_getElem? hz)
  refine t11 ?_
  refine kRF call32 (qby _ _) ?_
  refine t4 ?_
  intro i12
  refine t8 ?_
  refine kRF call33 (qcc _) ?_
  refine t2 ?_
  refine cN ?_ ?_ <;> intro h26
  ·replace hE:=qa4 hE h26
   refine t20 ?_
   refine cN ?_ ?_ <;> intro h28
   ·replace hE:=qa4 hE h28
    refine t12 ?_
    refine kRF call30 (qdf c.w.heap.size _ _) ?_
    refine s1 ?_
    intro i15
    refine t22 ?_
    subst hE
    exact qan (Bs:=[_]) results12 eRF () SubL.rfl' (List.nil_sublist _)
   replace hE:=qba hE h28
   refine t5 ?_
   refine kRF call30 (qdf c.w.heap.size _ _) ?_
   refine s1 ?_
   intro i15
   refine t22 ?_
   subst hE
   exact qan (Bs:=[_]) results12 eRF () SubL.rfl' (List.nil_sublist _)
  replace hE:=qba hE h26
  refine t12 ?_
  refine cN ?_ ?_ <;> intro h33
  ·replace hE:=qa4 hE h33
   have hr:NJ ask3.length (k+1) pg nd:=NJ_skip hI hz (by simpa using h33) hb3
   refine t3 ?_
   refine kRF call34 (qsl _) ?_
   refine t14 ?_
   refine cN ?_ ?_ <;> intro h35
   ·replace hE:=qa4 hE h35
    refine t2 ?_
    refine kRF call30 (qdf c.w.heap.size _ _) ?_
    refine t11 ?_
    subst hE
    exact qan (Bs:=[_]) results12 eRF () SubL.rfl' (List.nil_sublist _)
   replace hE:=qba hE h35
   refine t17 ?_
   exact qaa (k+1,_,_,_,_,_) ⟨by omega,hr,hE⟩ (by omega) qa9 qab
  replace hE:=qba hE h33
  refine t5 ?_
  refine kRF call35 (qm8 _) ?_
  refine t4 ?_
  intro i18
  refine t11 ?_
  refine cN ?_ ?_ <;> intro h39
  ·replace hE:=qa4 hE h39
   refine t2 ?_
   refine kRF call30 (qdf c.w.heap.size _ _) ?_
   refine t10 ?_
   subst hE
   exact qan (Bs:=[_]) results12 eRF () SubL.rfl' (List.nil_sublist _)
  replace hE:=qba hE h39
  have hr:NJ ask3.length (k+1) (pg++[qbk ks z]) (nd++[(qc1 (qbk ks z)).1]):=⟨by simp [hj1],by simp;omega,fun _=>by simp⟩
  refine t6 ?_
  refine qap rfl (OpP.fr (qa3 (size:=9) (qs:=[(0,_)]) rfl rfl rfl ⟨⟨rfl,_,(er rfl),qag⟩,trivial⟩ rf rf) qcq (SubL.row1 (T:=tPg) (x:=(⟨_,_,_,_,_,_,_,_,_⟩:Pg)) rf rf rf qak)) ?_
  (refine qew rfl (qb6 (er rfl) (fun _=>qae) (by exact Ev.sub rfl (by exact qgw)) (by exact qej rfl rfl rfl) qb8) ?_;intro i136)
  refine t6 ?_
  refine qap rfl (OpP.to (qac (size:=16) (qs:=[(0,_)]) rfl rfl rfl ⟨⟨rfl,_,(er rfl),qag⟩,trivial⟩ rf rf) (SubL.row1 (T:=tNd) (x:=(⟨_,_,_,_,(⟨(⟨_,_⟩:Pt),_⟩:Re),(⟨(⟨_,_⟩:Pt),_⟩:Re),(⟨(⟨_,_⟩:Pt),_⟩:Re),(⟨(⟨_,_⟩:Pt),_⟩:Re)⟩:Nd)) rf rf rf qak)) ?_
  (refine qew rfl (qb6 (er rfl) (fun _=>qae) (by exact er rfl) (by exact qej rfl rfl rfl) qb8) ?_;intro i140)
  refine t9 ?_
  exact qaa (k+1,_,_,_,_,_) ⟨by omega,hr,hE⟩ (by omega) qa9 qab
 have hke:k=(ask3).length:=by have:=of_decide_eq_false h23;omega
 clear h23
 subst hke
 rw [List.drop_length,enB] at hE
 (try dsimp only at hE)
 obtain ⟨hn1,hn2,hn3⟩:=hI
 have hn5:=hn3 rfl
 obtain ⟨n0,nr,rfl⟩:∃ a r,nd=a :: r:=by
  cases nd with
  | nil=>simp at hn5
  | cons a r=>exact ⟨a,r,rfl⟩
 obtain ⟨p0,pr,rfl⟩:∃ a r,pg=a :: r:=by
  cases pg with
  | nil=>simp at hn1
  | cons a r=>exact ⟨a,r,rfl⟩
 have hz0:(n0 :: nr)[0]?=some n0:=rfl
 have hp0:(p0 :: pr)[0]?=some p0:=rfl
 unfold enC enD at hE
 refine t10 ?_
 intro i20
 refine t17 ?_
 refine cN ?_ ?_ <;> intro h45
 ·replace hE:=qa4 hE h45
  refine t2 ?_
  refine qaz rfl (by kernel_rfl) ?_
  refine qaf 13 (by kernel_rfl) ?_
  refine s1 ?_
  refine qbh (by exact qax (k:=0) (er rfl) qbw (er rfl) rfl rfl qct qb8) ?_
  refine qbh (by exact qbi (k:=0) (er rfl) qbw qb8 rfl rfl rfl rfl) ?_
  refine qbh (by exact qet (er rfl) qbw hz0 rfl rfl rf) ?_
  refine t2 ?_
  (refine qd2 rfl rfl (fun hg=>(by have hg0:=hg;(try simp at hg);exact qax (k:=0) evG qbw evG rfl rfl qct qb8)) ?_)
  (refine qd2 rfl rfl (fun hg=>(by have hg0:=hg;(try simp at hg);exact qbi (k:=3) evG qbw qb8 rfl rfl rfl rfl)) ?_)
  (refine qd2 rfl rfl (fun hg=>(by have hg0:=hg;(try simp at hg);exact qet evG qbw hz0 rfl rfl rf)) ?_)
  (refine qd2 rfl rfl (fun hg=>(by have hg0:=hg;(try simp at hg);exact qbe (k:=2) evG rfl rfl rfl rfl)) ?_)
  (refine qd2 rfl rfl (fun hg=>(by have hg0:=hg;(try simp at hg);exact qeg evG qbw rf rf rf)) ?_)
  refine t2 ?_
  refine ⟨rfl,?_⟩
  refine qar ?_
  refine s1 ?_
  refine cN ?_ ?_ <;> intro h46
  ·replace hE:=qa4 hE h46
   refine t2 ?_
   refine kRF call30 (qdf c.w.heap.size _ _) ?_
   refine t7 ?_
   subst hE
   exact qan (Bs:=[_]) results12 eRF () SubL.rfl' (List.nil_sublist _)
  replace hE:=qba hE h46
  refine t3 ?_
  refine qd8 (b:=i2) hX qae ?_
  refine qb0 2 (qc4 (tEp26.cells op)) rfl qgw ?_
  refine qaz rfl (by kernel_rfl) ?_
  refine qdm [0,0,0,0,0,0,1,1,2,1,1,2,1,1,2] (by kernel_rfl) (by kernel_rfl) ?_
  refine qc7 (qbb rfl) ?_
  refine qc7 (qbb rfl) ?_
  refine qc7 (qbb rfl) ?_
  refine qc7 (qbb rfl) ?_
  refine qc7 (by exact qa0 (k:=2) (er rfl) rfl rfl rfl rfl qbm) ?_
  refine qc7 (by exact qbx (er rfl) rfl rfl rfl) ?_
  refine qd6 (by exact qax (k:=0) (er rfl) qbw (er rfl) rfl rfl qct qb8) ?_
  refine qd6 (by exact qbi (k:=0) (er rfl) qbw qb8 rfl rfl rfl rfl) ?_
  refine qlb (by exact qce (z':={ n0 with pin:=true }) (er rfl) (er rfl) qag qae hz0 rfl rf rf) ?_
  refine qd6 (by exact qax (k:=0) (er rfl) qbw (er rfl) rfl rfl qct qb8) ?_
  refine qd6 (by exact qbi (k:=1) (er rfl) qbw qb8 rfl rfl rfl rfl) ?_
  refine qlb (by exact qce (z':={ n0 with pin:=true,ep:=g }) (er rfl) (er rfl) qag qae (show ((n0 :: nr).set 0 { n0 with pin:=true })[0]?=some { n0 with pin:=true } from rfl) rfl rf rf) ?_
  refine qd6 (by exact qax (k:=0) (er rfl) qbw (er rfl) rfl rfl qct qb8) ?_
  refine qd6 (by exact qbi (k:=3) (er rfl) qbw qb8 rfl rfl rfl rfl) ?_
  refine qlb (by exact qce (z':={ n0 with pin:=true,ep:=g,inc:=op.inc }) (er rfl) (er rfl) qag qae (show (((n0 :: nr).set 0 { n0 with pin:=true }).set 0 { n0 with pin:=true,ep:=g })[0]?=some { n0 with pin:=true,ep:=g } from rfl) rfl rf rf) ?_
  refine qfl ?_
  refine qar ?_
  refine t2 ?_
  refine qap rfl (OpP.to (qac (size:=1) (qs:=[(0,_)]) rfl rfl rfl ⟨⟨rfl,_,(er rfl),qag⟩,trivial⟩ rf rf) (SubL.row1 (T:=tI64) (x:=_) rf rf rf qak)) ?_
  refine t6 ?_
  refine qaz rfl (by kernel_rfl) ?_
  refine qaf 13 (by kernel_rfl) ?_
  refine s1 ?_
  refine qbh (by exact qax (k:=0) (er rfl) qbw (er rfl) rfl rfl qct qb8) ?_
  refine qbh (by exact qde (er rfl) qbw (by exact hp0) rfl rfl rfl) ?_
  refine s1 ?_
  refine qbh (by exact qax (k:=0) (er rfl) qbw (er rfl) rfl rfl qct qb8) ?_
  refine qbh (by exact qde (er rfl) qbw rf rfl rfl rfl) ?_
  refine qbh (qad call39 (qep p0 (⟨_,_,_,_,(⟨(⟨_,_⟩:Pt),_⟩:Re),(⟨(⟨_,_⟩:Pt),_⟩:Re),(⟨(⟨_,_⟩:Pt),_⟩:Re),(⟨(⟨_,_⟩:Pt),_⟩:Re)⟩:Nd)) ⟨qbc,⟨qbc,trivial⟩⟩) ?_
  refine t3 ?_
  refine qkq (qbl rfl qbm rfl) ?_
  refine qcy rfl rfl rfl (by kernel_rfl) (qca qaq qag rfl rfl rfl qbm) ?_
  refine s1 ?_
  refine ⟨rfl,?_⟩
  intro i22
  refine qar ?_
  refine t4 ?_
  refine qap rfl (OpP.fr (qa3 (size:=9) (qs:=[(0,_)]) rfl rfl rfl ⟨⟨rfl,_,(er rfl),qag⟩,trivial⟩ rf rf) qcq (SubL.row1 (T:=tPg) (x:=(⟨_,_,_,_,_,_,_,_,_⟩:Pg)) rf rf rf qak)) ?_
  refine t6 ?_
  subst hE
  exact qan (Bs:=[_]) results12 eRF () SubL.rfl' (List.nil_sublist _)
 replace hE:=qba hE h45
 refine t7 ?_
 refine qb1 [(1,_),(2,_),(4,_),(8,_),(9,_),(10,_),(20,_),(144,_)] [blk i20 _ _,blk i4 _ _,blk i2 _ _,buf _ _ _ _,buf _ _ _ _] (fun yc:Bool=>yc=(op.kind==2||op.kind==6)) (fun yc=>[(175,Is (.bool yc))]) (fun yc=>[]) qa9 qab ?_ ?_
 rotate_left
 focus
  refine cN ?_ ?_ <;> intro h50
  ·skip
   refine s1 ?_
   refine qai _ ?_ qa9 qab
   ·exact (by rw [h50];simp)
  skip
  refine t4 ?_
  refine qai _ ?_ qa9 qab
  ·exact (by rw [h50];simp)
 rintro b2 hIb
 refine cN ?_ ?_ <;> intro h50b
 ·have h50c:(op.kind==2||op.kind==6)=true:=by rw [← hIb];exact h50b
  replace hE:=qa4 hE h50c
  refine t3 ?_
  refine qap rfl (by exact qax (k:=0) (er rfl) qbw (er rfl) rfl rfl qct qb8) ?_
  refine qap rfl (by exact qde (er rfl) qbw hz0 rfl rfl rfl) ?_
  refine s1 ?_
  intro i21
  refine t30 ?_
  refine cN ?_ ?_ <;> intro h53
  ·replace hE:=qa4 hE h53
   refine t2 ?_
   refine kRF call30 (qdf c.w.heap.size _ _) ?_
   refine t7 ?_
   subst hE
   exact qan (Bs:=[_]) results12 eRF () SubL.rfl' (List.nil_sublist _)
  replace hE:=qba hE h53
  refine t13 ?_
  refine qap rfl (by exact qax (k:=0) (er rfl) qbw (er rfl) rfl rfl qct qb8) ?_
  refine qap rfl (by exact qbi (k:=0) (er rfl) qbw qb8 rfl rfl rfl rfl) ?_
  refine qkl (by exact qce (z':={ n0 with pin:=false }) (er rfl) (er rfl) qag qae hz0 rfl rf rf) ?_
  refine qap rfl (by exact qax (k:=0) (er rfl) qbw (er rfl) rfl rfl qct qb8) ?_
  refine qap rfl (by exact qbi (k:=1) (er rfl) qbw qb8 rfl rfl rfl rfl) ?_
  refine qkl (by exact qce (z':={ n0 with pin:=false,ep:=0#32 }) (er rfl) (er rfl) qag qae (show ((n0 :: nr).set 0 { n0 with pin:=false })[0]?=some { n0 with pin:=false } from rfl) rfl rf rf) ?_
  refine t4 ?_
  refine qaz rfl (by kernel_rfl) ?_
  refine qaf 13 (by kernel_rfl) ?_
  refine s1 ?_
  refine qbh (by exact qax (k:=0) (er rfl) qbw (er rfl) rfl rfl qct qb8) ?_
  refine qbh (by exact qde (er rfl) qbw (by exact hp0) rfl rfl rfl) ?_
  refine s1 ?_
  refine qbh (by exact qax (k:=0) (er rfl) qbw (er rfl) rfl rfl qct qb8) ?_
  refine qbh (by exact qde (er rfl) qbw rf rfl rfl rfl) ?_
  refine qbh (qad call39 (qep p0 (⟨_,_,_,_,(⟨(⟨_,_⟩:Pt),_⟩:Re),(⟨(⟨_,_⟩:Pt),_⟩:Re),(⟨(⟨_,_⟩:Pt),_⟩:Re),(⟨(⟨_,_⟩:Pt),_⟩:Re)⟩:Nd)) ⟨qbc,⟨qbc,trivial⟩⟩) ?_
  refine t3 ?_
  refine qkq (qbl rfl qbm rfl) ?_
  refine qcy rfl rfl rfl (by kernel_rfl) (qca qaq qag rfl rfl rfl qbm) ?_
  refine s1 ?_
  refine ⟨rfl,?_⟩
  intro i22
  refine qar ?_
  refine t4 ?_
  refine qap rfl (OpP.fr (qa3 (size:=9) (qs:=[(0,_)]) rfl rfl rfl ⟨⟨rfl,_,(er rfl),qag⟩,trivial⟩ rf rf) qcq (SubL.row1 (T:=tPg) (x:=(⟨_,_,_,_,_,_,_,_,_⟩:Pg)) rf rf rf qak)) ?_
  refine t6 ?_
  subst hE
  exact qan (Bs:=[_]) results12 eRF () SubL.rfl' (List.nil_sublist _)
 have h50c:(op.kind==2||op.kind==6)=false:=by rw [← hIb];exact h50b
 replace hE:=qba hE h50c
 refine t6 ?_
 refine cN ?_ ?_ <;> intro h57
 ·replace hE:=qa4 hE h57
  refine qa7 hX (v:=slV (n0 :: nr).length v_1) qae ?_
  refine qb0 10 (IsSl tNd (n0 :: nr)) rfl qgw ?_
  have hnl10:(n0 :: nr).length≤10:=by omega
  refine t5 ?_
  refine qap rfl (qaw call36 (zaq _ _ _ hnl10) ⟨qaq,⟨qaq,⟨qaq,trivial⟩⟩⟩) ?_
  (refine qa5 218 rfl ?_;intro x218 hx218)
  refine t6 ?_
  subst hx218
  subst hE
  exact qan (Bs:=[_]) results12 eRF () SubL.rfl' (List.nil_sublist _)
 replace hE:=qba hE h57
 refine t6 ?_
 refine cN ?_ ?_ <;> intro h59
 ·replace hE:=qa4 hE h59
  refine qa7 hX (v:=slV (n0 :: nr).length v_1) qae ?_
  refine qb0 10 (IsSl tNd (n0 :: nr)) rfl qgw ?_
  refine qa7 hX (v:=slV (p0 :: pr).length v_0) qae ?_
  refine qb0 9 (IsSl tPg (p0 :: pr)) rfl qgw ?_
  have hol4:=(he2 (by simpa using h59)).2
  refine s1 ?_
  refine qaz rfl (by kernel_rfl) ?_
  refine qaf 9 (by kernel_rfl) ?_
  refine t2 ?_
  refine qbh (by exact qam (j:=0) (er rfl) (er rfl) rfl rfl rf hz0) ?_
  refine t2 ?_
  refine qbh (by exact qam (j:=0) (er rfl) (er rfl) rfl rfl rf hp0) ?_
  refine t2 ?_
  refine qbh (qaw call37 (zb0 op n0 p0 (⟨_,_,_,_,_⟩:EO26) hol4) ⟨qbc,⟨qbc,⟨qbc,⟨qbc,trivial⟩⟩⟩⟩) ?_
  refine ⟨rfl,?_⟩
  (refine qqj 229 rfl ?_;intro x229 hx229)
  refine qeb (by kernel_rfl) rfl (qas (er rfl) (er rfl) qag qae qbm rf rf rf) ?_
  refine qar ?_
  refine t4 ?_
  subst hx229
  subst hE
  exact qan (Bs:=[_]) results12 eRF () SubL.rfl' (List.nil_sublist _)
 replace hE:=qba hE h59
 refine t6 ?_
 refine cN ?_ ?_ <;> intro h61
 ·replace hE:=qa4 hE h61
  refine qa7 hX (v:=slV (n0 :: nr).length v_1) qae ?_
  refine qb0 10 (IsSl tNd (n0 :: nr)) rfl qgw ?_
  refine qa7 hX (v:=slV (p0 :: pr).length v_0) qae ?_
  refine qb0 9 (IsSl tPg (p0 :: pr)) rfl qgw ?_
  refine s1 ?_
  refine qaz rfl (by kernel_rfl) ?_
  refine qaf 10 (by kernel_rfl) ?_
  refine t2 ?_
  refine qbh (by exact qam (j:=0) (er rfl) (er rfl) rfl rfl rf hz0) ?_
  refine t2 ?_
  refine qbh (by exact qam (j:=0) (er rfl) (er rfl) rfl rfl rf hp0) ?_
  refine t3 ?_
  refine qbh (qaw call38 (zan op n0 p0 (⟨_,_,_,_,_⟩:EO26) ks hks ⟨rfl,rfl⟩) ⟨qbc,⟨qbc,⟨qbc,⟨qbc,⟨qbc,trivial⟩⟩⟩⟩⟩) ?_
  refine ⟨rfl,?_⟩
  (refine qqj 241 rfl ?_;intro x241 hx241)
  refine qeb (by kernel_rfl) rfl (qas (er rfl) (er rfl) qag qae qbm rf rf rf) ?_
  refine qar ?_
  refine t4 ?_
  subst hx241
  subst hE
  exact qan (Bs:=[_]) results12 eRF () SubL.rfl' (List.nil_sublist _)
 replace hE:=qba hE h61
 refine t4 ?_
 refine qaz rfl (by kernel_rfl) ?_
 refine qaf 13 (by kernel_rfl) ?_
 refine s1 ?_
 refine qbh (by exact qax (k:=0) (er rfl) qbw (er rfl) rfl rfl qct qb8) ?_
 refine qbh (by exact qde (er rfl) qbw (by exact hp0) rfl rfl rfl) ?_
 refine s1 ?_
 refine qbh (by exact qax (k:=0) (er rfl) qbw (er rfl) rfl rfl qct qb8) ?_
 refine qbh (by exact qde (er rfl) qbw (by exact hz0) rfl rfl rfl) ?_
 refine qbh (qad call39 (qep p0 (⟨_,_,_,_,(⟨(⟨_,_⟩:Pt),_⟩:Re),(⟨(⟨_,_⟩:Pt),_⟩:Re),(⟨(⟨_,_⟩:Pt),_⟩:Re),(⟨(⟨_,_⟩:Pt),_⟩:Re)⟩:Nd)) ⟨qbc,⟨qbc,trivial⟩⟩) ?_
 refine t3 ?_
 refine qkq (qbl rfl qbm rfl) ?_
 refine qcy rfl rfl rfl (by kernel_rfl) (qca qaq qag rfl rfl rfl qbm) ?_
 refine s1 ?_
 refine ⟨rfl,?_⟩
 intro i22
 refine qar ?_
 refine t4 ?_
 refine qap rfl (OpP.fr (qa3 (size:=9) (qs:=[(0,_)]) rfl rfl rfl ⟨⟨rfl,_,(er rfl),qag⟩,trivial⟩ rf rf) qcq (SubL.row1 (T:=tPg) (x:=(⟨_,_,_,_,_,_,_,_,_⟩:Pg)) rf rf rf qak)) ?_
 refine t6 ?_
 subst hE
 exact qan (Bs:=[_]) results12 eRF () SubL.rfl' (List.nil_sublist _)
theorem qht (c b:Int):PES (qu9 c b):=⟨wl0,Nat.zero_le _,Nat.zero_le _⟩
theorem qn4 {p:Pg} {o:EO26} (hp:Ln p) (ho:o.check.length≤10):PES ⟨[],[p],o,true,false⟩:=⟨(wl1 (n:=0) hp).mono (by omega),Nat.zero_le _,ho⟩
theorem ln_wrEp {p:Pg} {e:BitVec 32} (hp:Ln p):Ln (za6 p e).1:=by
 unfold za6
 split
 ·exact ln0
 ·exact hp
theorem zci {g:BitVec 32} {ks:List Pg}:∀ (nd:List Nd) (k:Nat) (ck:List Int),ck.length+nd.length≤10→PES (advL g ks k nd ck)
 | [],k,ck,h=>by
  show PES (advC g ks ck)
  unfold advC
  split
  ·exact qht _ _
  ·exact qn4 (ln_wrEp (qdl ks ⟨by decide,by decide⟩)) (by simpa using h)
 | n :: r,k,ck,h=>by
  show PES (if (n.pin&&UV n.ep != UV g)=true then qu9 3 k else advL g ks (k+1) r (ck++[98+(k:Int)]))
  split
  ·exact qht _ _
  ·exact zci r _ _ (by simp at h ⊢;omega)
theorem qxs {l:List Pt} {p:Pg} {o:EO26} {m:Nd} {a:Nat} (hp:Ln p):PES (retZ l p o m a):=by
 unfold retZ
 split
 ·exact qht _ _
 ·exact qn4 (qie m hp) (by show 1≤10;omega)
theorem qq4 {l:List Pt} {p:Pg} {o:EO26} (hp:Ln p):∀ (r k:Nat) (m:Nd) (a:Nat),PES (qpp l p o r k m a)
 | 0,k,m,a=>qxs hp
 | r+1,k,m,a=>by
  unfold qpp
  split
  ·split
   ·exact qq4 hp r _ _ _
   ·exact qq4 hp r _ _ _
  ·exact qxs hp
theorem qxt {l:List Pt} {n:Nd} {p:Pg} {o:EO26} (hp:Ln p):∀ r:List Pt,PES (qqv l n p o r)
 | []=>qq4 hp _ _ _ _
 | z :: r=>by
  unfold qqv
  split
  ·exact qht _ _
  ·exact qxt hp r
theorem qxu {lines:Int} {p:Pg} {o:EO26} {ks:List Pg} {n m:Nd} {fr:List Pt} (hp:Ln p) (ho:o.code=0) (h1:Nld n m) (h2:fr≠[]→qo9 m<qo9 n) (h3:fr.length≤2):PES (colZ lines p o ks m fr)∧PCol n p (colZ lines p o ks m fr):=by
 unfold colZ
 split
 ·exact ⟨qht _ _,fun _ h=>absurd (show (16:Int)=0 from h) (by decide)⟩
 ·rename_i h8
  have hfr:fr≠[]:=by
   intro h;subst h;simp at h8
  have hfl:=qyw ks lines fr (by omega)
  generalize qmn ks lines fr=F at hfl
  obtain ⟨hfw,hfn⟩:=hfl
  unfold colY
  split
  ·exact ⟨⟨wl0,Nat.le_trans hfn (by decide),Nat.zero_le _⟩,fun h=>Bool.noConfusion (show false=true from h)⟩
  ·unfold colX
   split
   ·rename_i hc
    have hc':zao F≠0:=by simpa using hc
    exact ⟨⟨wl0,Nat.zero_le _,Nat.zero_le _⟩,fun _ h=>absurd (show zao F=0 from h) hc'⟩
   ·exact ⟨⟨qgn hfw (wl1 (n:=0) (qie m hp)) (by decide),Nat.zero_le _,by show 1≤10;omega⟩,fun _ _=>⟨m,h1,h2 hfr,qop _ _,qz8 _ _⟩⟩
theorem qq5 {lines:Int} {p:Pg} {o:EO26} {ks:List Pg} {n:Nd} (hp:Ln p) (ho:o.code=0):∀ (r k:Nat) (m:Nd) (fr:List Pt),r+k=4→Nld n m→(fr≠[]→qo9 m<qo9 n)→fr.length≤2→PES (qsr lines p o ks r k m fr)∧PCol n p (qsr lines p o ks r k m fr)
 | 0,k,m,fr,_,h1,h2,h3=>qxu hp ho h1 h2 h3
 | r+1,k,m,fr,hk,h1,h2,h3=>by
  unfold qsr
  split
  ·rename_i hf
   have hf':fr.length<2:=by have:=of_decide_eq_true hf;omega
   split
   ·rename_i hg
    rw [Bool.and_eq_true] at hg
    have hne:qfr m k≠Re.nil:=by simpa using hg.1
    exact qq5 hp ho r (k+1) _ _ (by omega) (nld_set h1 (by omega)) (fun _=>Nat.lt_of_lt_of_le (cnt_set (by omega) hne) h1.le) (by simp;omega)
   ·exact qq5 hp ho r (k+1) _ _ (by omega) h1 h2 h3
  ·exact qxu hp ho h1 h2 h3
theorem zch {op:Ep26} {ks:List Pg} {g:BitVec 32} {p:Pg} {n:Nd} {nd:List Nd} (hp:Ln p) (hn:nd.length≤10):PES (enD op ks g p n nd)∧(op.kind=5→PCol n p (enD op ks g p n nd)):=by
 unfold enD
 by_cases k1:(op.kind==1)=true
 ·have hk:op.kind=1:=by simpa using k1
  rw [if_pos k1]
  refine ⟨?_,fun h=>by omega⟩
  split
  ·exact qht _ _
  ·exact qn4 (qie _ hp) (by show 1≤10;omega)
 rw [if_neg k1]
 by_cases k2:(op.kind==2||op.kind==6)=true
 ·have hk:op.kind=2∨op.kind=6:=by simpa using k2
  rw [if_pos k2]
  refine ⟨?_,fun h=>by omega⟩
  split
  ·exact qht _ _
  ·exact qn4 (qie _ hp) (Nat.zero_le _)
 rw [if_neg k2]
 by_cases k3:(op.kind==3)=true
 ·have hk:op.kind=3:=by simpa using k3
  rw [if_pos k3]
  exact ⟨zci _ _ _ (by simpa using hn),fun h=>by omega⟩
 rw [if_neg k3]
 by_cases k4:(op.kind==4)=true
 ·have hk:op.kind=4:=by simpa using k4
  rw [if_pos k4]
  exact ⟨qxt hp _,fun h=>by omega⟩
 rw [if_neg k4]
 by_cases k5:(op.kind==5)=true
 ·rw [if_pos k5]
  have h:=qq5 (lines:=op.lines) (p:=p) (o:=⟨0,g,-1,[],[]⟩) (ks:=ks) (n:=n) hp rfl 4 0 n [] rfl (Nld.rfl' n) (fun h=>absurd rfl h) (Nat.zero_le _)
  exact ⟨h.1,fun _=>h.2⟩
 ·have hk:op.kind≠5:=by simpa using k5
  rw [if_neg k5]
  exact ⟨qn4 (qie _ hp) (Nat.zero_le _),fun h=>absurd h hk⟩
theorem qvt {op:Ep26} {ks:List Pg}:∀ (ls:List Int) (g:BitVec 32) (pg:List Pg) (nd:List Nd),(∀ p,p∈pg→Ln p)→nd.length+ls.length≤10→PES (enB op ks ls g pg nd)
 | [],g,pg,nd,h1,h2=>by
  show PES (enC op ks g pg nd)
  match pg,nd with
  | p :: _,n :: r=>exact (zch (h1 p (List.mem_cons_self ..)) (by simpa using h2)).1
  | [],_=>exact ⟨wl0,Nat.zero_le _,Nat.zero_le _⟩
  | _ :: _,[]=>exact ⟨wl0,Nat.zero_le _,Nat.zero_le _⟩
 | z :: r,g,pg,nd,h1,h2=>by
  unfold enB
  split
  ·split
   ·exact ⟨wl0,Nat.zero_le _,Nat.zero_le _⟩
   ·exact ⟨wl0,Nat.zero_le _,Nat.zero_le _⟩
  ·split
   ·split
    ·exact qht _ _
    ·exact qvt r _ _ _ h1 (by simp at h2 ⊢;omega)
   ·split
    ·exact qht _ _
    ·rename_i h0
     exact qvt r _ _ _ (qyi h1 (qyj (by simpa using h0))) (by simp at h2 ⊢;omega)
theorem pen_enX {op:Ep26} {ks:List Pg}:PEN op ks (enX op ks):=by
 unfold enX
 by_cases h1:(!qi3 op)=true
 ·rw [if_pos h1]
  exact ⟨qht _ _,fun _ _ h=>absurd (show (1:Int)=0 from h) (by decide)⟩
 rw [if_neg h1]
 have hea:EA op:=qpx (by simpa using h1)
 have hask:=qwo hea
 by_cases h2:decide (((qc2 ks (qe3 op)).length:Int)>0)=true
 ·rw [if_pos h2]
  have hml:=qjf ks (qe3 op)
  exact ⟨⟨wl0,by show (qc2 ks (qe3 op)).length≤20;omega,Nat.zero_le _⟩,fun _ h=>Bool.noConfusion (show false=true from h)⟩
 rw [if_neg h2]
 refine ⟨qvt _ _ _ _ (fun p hp=>by cases hp) (by simp;omega),fun hk=>?_⟩
 obtain ⟨_,_,hf,_⟩:=hea
 have hfo:=hf (.inl hk)
 have ha:qe3 op=[97,98+op.for_]:=by
  unfold qe3 qza
  rw [if_neg (by rw [hk];decide),if_pos (by rw [hk];decide),if_pos (by rw [hk];decide)]
  rfl
 rw [ha]
 unfold enB
 split
 ·exact fun _ h=>(by
   exfalso
   revert h
   split
   ·exact fun h=>absurd (show (3:Int)=0 from h) (by decide)
   ·exact fun h=>absurd (show (3:Int)=0 from h) (by decide))
 ·rw [if_pos (show ((97:Int)==97)=true from rfl)]
  split
  ·exact fun _ h=>absurd (show (14:Int)=0 from h) (by decide)
  ·unfold enB
   split
   ·exact fun _ h=>(by
     exfalso
     revert h
     split
     ·exact fun h=>absurd (show (3:Int)=0 from h) (by decide)
     ·exact fun h=>absurd (show (3:Int)=0 from h) (by decide))
   ·rw [if_neg (show ¬ ((98+op.for_:Int)==97)=true by simp;omega)]
    split
    ·exact fun _ h=>absurd (show (14:Int)=0 from h) (by decide)
    ·rename_i h0
     have h0':(qc1 (ndPg ks op.for_)).2=0:=show (qc1 (qbk ks (98+op.for_))).2=0 by simpa using h0
     intro hov hcd
     exact ⟨h0',(zch (op:=op) (ks:=ks) (g:=(rdE (qbk ks 97)).1) (p:=ndPg ks op.for_) (n:=(qc1 (ndPg ks op.for_)).1) (nd:=[(qc1 (ndPg ks op.for_)).1]) (qyj h0') (by simp)).2 hk hov hcd⟩
theorem qfa (op:Ep26) (ks:List Pg) (hks:ks.length≤10000) (hol:op.list.length≤1000):FnF Tryz.prog 12 [qfx op,IsSl tPg ks] (fun B=>qes (PEN op ks) fun r=>qhk B r):=
 (ql9 op ks hks hol).sub fun B φ v k=>⟨_,pen_enX,k⟩
end Go.Proofs.YtghkkdjbaehboaaGreat
