/- Walks of functions and plain laws, laid together. Own work. -/
import Derived.Test.YtghkkdjbaehboaaGreatK13
namespace Go.Proofs.YtghkkdjbaehboaaGreat
open Go.RowKit Tryz
set_option linter.unusedVariables false
set_option linter.unusedSimpArgs false
set_option maxRecDepth 100000
set_option maxHeartbeats 4000000
def zdt (o:Ep26):Bool:=o.kind != 2&&o.kind != 6
def qbn (o:Ep26):List Int:=if (o.kind==6||o.kind==5)=true then [o.for_] else if (o.kind==3)=true then qkj 6 else [o.client]
def qfc (o:Ep26):List Int:=(if zdt o=true then [97] else [])++(qbn o).map (fun c=>98+c)
theorem qiu (o:Ep26):qfc o=qe3 o:=by
 unfold qfc qe3 qza qbn
 show (if (o.kind != 2&&o.kind != 6)=true then [97] else [])++_=_
 by_cases h3:o.kind=3
 ·rw [h3];rfl
 ·have h3':¬ (o.kind==3)=true:=by simpa using h3
  rw [if_neg h3',if_neg h3']
  rw [Bool.or_comm (o.kind==6)]
  by_cases h5:(o.kind==5||o.kind==6)=true
  ·rw [if_pos h5,if_pos h5]
   rfl
  ·rw [if_neg h5,if_neg h5]
   rfl
theorem qj8 {o:Ep26} (h:EA o):∀ c,c∈qbn o→0≤c∧c<6:=by
 obtain ⟨h1,h2,h3,h4⟩:=h
 intro c hc
 unfold qbn at hc
 split at hc
 ·rename_i hk
  rw [List.mem_singleton.1 hc]
  exact h3 (by simp at hk;omega)
 ·split at hc
  ·obtain ⟨i,hi,rfl⟩:=List.mem_map.1 hc
   have:=List.mem_range.1 hi
   omega
  ·rw [List.mem_singleton.1 hc];exact h1
theorem qpy (o:Ep26):1≤(qbn o).length∧(qbn o).length≤6:=by
 unfold qbn
 split
 ·simp
 ·split
  ·decide
  ·simp
theorem linV_len (o:Ep26):(qfc o).length≤7:=by
 have:=qpy o
 unfold qfc
 rw [List.length_append,List.length_map]
 split <;> simp <;> omega
structure RW where
 pg:Pg
 ep:BitVec 32
 mp:List (Int×Pg)
 mn:List (Int×Nd)
def RW.nil:RW:=⟨Pg.nil,0#32,[],[]⟩
def rdT (ks:List Pg) (x:Int) (s:RW):RW:=if (x==97)=true then { s with pg:=qbk ks x,ep:=(rdE (qbk ks x)).1 } else { s with mp:=qhm s.mp (x-98) (qbk ks x),mn:=qhm s.mn (x-98) (qc1 (qbk ks x)).1 }
def rdC (ks:List Pg) (x:Int):Int:=if (x==97)=true then (rdE (qbk ks x)).2 else (qc1 (qbk ks x)).2
def rdW (op:Ep26) (ks:List Pg):List Int→RW→RW×Int×Int
 | [],s=>(s,-1,0)
 | x :: r,s=>if qef (qbk ks x)=true then (s,(if (x==97||op.kind != 3)=true then -1 else x-98),3) else if (rdC ks x != 0)=true then (rdT ks x s,-1,rdC ks x) else rdW op ks r (rdT ks x s)
def rdA (op:Ep26) (ks:List Pg):List Int×RW×Int×Int:=
 if decide (((neL ks (qfc op)).length:Int)>0)=true then (neL ks (qfc op),RW.nil,-1,0) else ([],rdW op ks (qfc op) RW.nil)
theorem qq0 {op:Ep26} {ks:List Pg} {x:Int×Int}:∀ (ls:List Int) (s:RW),qlk op ks ls=some x→(rdW op ks ls s).2=x
 | [],s,h=>by cases h
 | l :: r,s,h=>by
  unfold qlk at h
  unfold rdW rdC rdT
  by_cases h1:qef (qbk ks l)=true
  ·rw [if_pos h1] at h ⊢
   exact Option.some.inj h
  rw [if_neg h1] at h ⊢
  by_cases h2:(l==97)=true
  ·rw [if_pos h2] at h
   rw [if_pos h2,if_pos h2]
   by_cases h3:((rdE (qbk ks l)).2 != 0)=true
   ·rw [if_pos h3] at h ⊢
    exact Option.some.inj h
   ·rw [if_neg h3] at h ⊢
    exact qq0 r _ h
  ·rw [if_neg h2] at h
   rw [if_neg h2,if_neg h2]
   by_cases h3:((qc1 (qbk ks l)).2 != 0)=true
   ·rw [if_pos h3] at h ⊢
    exact Option.some.inj h
   ·rw [if_neg h3] at h ⊢
    exact qq0 r _ h
theorem zb3 {op:Ep26} {ks:List Pg}:∀ (ls:List Int) (s:RW),qlk op ks ls=none→rdW op ks ls s=(ls.foldl (fun s x=>rdT ks x s) s,-1,0)
 | [],s,h=>rfl
 | l :: r,s,h=>by
  unfold qlk at h
  unfold rdW
  rw [List.foldl_cons]
  by_cases h1:qef (qbk ks l)=true
  ·rw [if_pos h1] at h;cases h
  rw [if_neg h1] at h ⊢
  have hc:¬ (rdC ks l != 0)=true∧qlk op ks r=none:=by
   unfold rdC
   by_cases h2:(l==97)=true
   ·rw [if_pos h2] at h ⊢
    by_cases h3:((rdE (qbk ks l)).2 != 0)=true
    ·rw [if_pos h3] at h;cases h
    ·rw [if_neg h3] at h;exact ⟨h3,h⟩
   ·rw [if_neg h2] at h ⊢
    by_cases h3:((qc1 (qbk ks l)).2 != 0)=true
    ·rw [if_pos h3] at h;cases h
    ·rw [if_neg h3] at h;exact ⟨h3,h⟩
  rw [if_neg hc.1]
  exact zb3 r _ hc.2
theorem qyf {α:Type} (v:α) (k c:Int):∀ m:List (Int×α),qfy (qhm m k v) c=if k=c then some v else qfy m c
 | []=>by
  by_cases h:k=c
  ·simp [qhm,qfy,h]
  ·simp [qhm,qfy,h]
 | (a,x) :: m=>by
  have ih:=qyf v k c m
  by_cases h:k=c
  ·subst h
   by_cases h2:a=k
   ·simp [qhm,qfy,h2]
   ·simp only [qhm,if_neg h2,qfy,ih]
  ·by_cases h2:a=k
   ·subst h2
    simp [qhm,qfy,h]
   ·simp only [qhm,if_neg h2,qfy,ih,if_neg h]
def nP (ks:List Pg) (c:Int):Pg:=qbk ks (98+c)
def nN (ks:List Pg) (c:Int):Nd:=(qc1 (qbk ks (98+c))).1
theorem zb4 {ks:List Pg}:∀ (l:List Int) (s:RW),(∀ c,c∈l→0≤c)→∃ s',(l.map fun c=>98+c).foldl (fun s x=>rdT ks x s) s=s'∧s'.pg=s.pg∧s'.ep=s.ep ∧
  (∀ c,(qfy s'.mp c=some (nP ks c)∧qfy s'.mn c=some (nN ks c))∨(c ∉ l∧qfy s'.mp c=qfy s.mp c∧qfy s'.mn c=qfy s.mn c))
 | [],s,_=>⟨s,rfl,rfl,rfl,fun c=>.inr ⟨List.not_mem_nil,rfl,rfl⟩⟩
 | c0 :: r,s,h=>by
  have h0:=h c0 (List.mem_cons_self ..)
  obtain ⟨s',e1,e2,e3,e4⟩:=zb4 (ks:=ks) r (rdT ks (98+c0) s) (fun c hc=>h c (List.mem_cons_of_mem _ hc))
  have hn:¬ ((98+c0==97)=true):=by simp;omega
  have ht:rdT ks (98+c0) s={ s with mp:=qhm s.mp c0 (nP ks c0),mn:=qhm s.mn c0 (nN ks c0) }:=by
   unfold rdT
   rw [if_neg hn,show 98+c0-98=c0 by omega]
   rfl
  rw [ht] at e2 e3 e4
  refine ⟨s',by rw [List.map_cons,List.foldl_cons];exact e1,e2,e3,fun c=>?_⟩
  rcases e4 c with e|⟨e,e5,e6⟩
  ·exact .inl e
  ·dsimp only at e5 e6
   rw [qyf] at e5 e6
   by_cases hc:c0=c
   ·subst hc
    rw [if_pos rfl] at e5 e6
    exact .inl ⟨e5,e6⟩
   ·rw [if_neg hc] at e5 e6
    exact .inr ⟨fun hm=>by
     rcases List.mem_cons.1 hm with q|q
     ·exact hc q.symm
     ·exact e q,e5,e6⟩
def epO (o:Ep26) (ks:List Pg):BitVec 32:=if zdt o=true then (rdE (qbk ks 97)).1 else 0#32
structure RdOk (op:Ep26) (ks:List Pg) (s:RW):Prop where
 pg:zdt op=true→s.pg=qbk ks 97
 ep:s.ep=epO op ks
 mp:∀ c,c∈qbn op→qfy s.mp c=some (nP ks c)
 mn:∀ c,c∈qbn op→qfy s.mn c=some (nN ks c)
theorem rd_ok {op:Ep26} {ks:List Pg} (ha:EA op) (h:qlk op ks (qfc op)=none):∃ s,rdW op ks (qfc op) RW.nil=(s,-1,0)∧RdOk op ks s:=by
 have hr:=qj8 ha
 rw [zb3 _ _ h]
 unfold qfc
 rw [List.foldl_append]
 have h0:∃ s0:RW,(if zdt op=true then [97] else []).foldl (fun s x=>rdT ks x s) RW.nil=s0∧(zdt op=true→s0.pg=qbk ks 97)∧s0.ep=epO op ks:=by
  unfold epO
  by_cases g:zdt op=true
  ·rw [if_pos g,if_pos g]
   exact ⟨_,rfl,fun _=>rfl,rfl⟩
  ·rw [if_neg g,if_neg g]
   exact ⟨_,rfl,fun e=>absurd e g,rfl⟩
 obtain ⟨s0,e1,e2,e3⟩:=h0
 obtain ⟨s',f1,f2,f3,f4⟩:=zb4 (ks:=ks) (qbn op) s0 (fun c hc=>(hr c hc).1)
 rw [e1,f1]
 refine ⟨s',rfl,⟨fun g=>by rw [f2];exact e2 g,by rw [f3];exact e3,fun c hc=>?_,fun c hc=>?_⟩⟩
 ·rcases f4 c with e|e
  ·exact e.1
  ·exact absurd hc e.1
 ·rcases f4 c with e|e
  ·exact e.2
  ·exact absurd hc e.1
def pnP (n:Nd) (p:Pg) (g:BitVec 32) (inc:Int):List Pg×EO26:=if (n.pin&&n.inc==inc)=true then ([],outZ 17) else ([(qck p { n with pin:=true,ep:=g,inc:=inc }).1],⟨0,g,0,[],[97]⟩)
def unP (n:Nd) (p:Pg) (held:Bool):List Pg×EO26:=if (!n.pin || !held)=true then ([],outZ 16) else ([(qck p { n with pin:=false,ep:=0#32 }).1],⟨0,n.ep,0,[],[]⟩)
def w4 (z:List Pg×EO26):P4:=([],z.1,z.2,true)
def kdP (op:Ep26) (ks:List Pg) (g:BitVec 32):P4:=
 if (op.kind==1)=true then w4 (pnP (nN ks op.client) (nP ks op.client) g op.inc) else
 if (op.kind==2)=true then w4 (unP (nN ks op.client) (nP ks op.client) ((nN ks op.client).inc==op.inc)) else
 if (op.kind==6)=true then w4 (unP (nN ks op.for_) (nP ks op.for_) (decide ((nN ks op.for_).inc≤op.inc))) else
 if (op.kind==3)=true then w4 (adL (nN ks) (qbk ks 97) g (qkj 6)) else
 if (op.kind==4)=true then w4 (rtA op.list (nP ks op.client) g (nN ks op.client) 4 0 0) else
 if (op.kind==5)=true then clZ op.lines (nP ks op.for_) g ks (clL g (nN ks op.for_) 4 0 (nN ks op.for_) []) else ([],[],EO26.nil,true)
def zd4 (op:Ep26) (z:P4):P4:=(z.1,z.2.1,(if (z.2.2.2 && !(op.kind==3&&z.2.2.1.code==3))=true then blkZ z.2.2.1 else z.2.2.1),z.2.2.2)
def nxP (op:Ep26) (ks:List Pg):P4:=
 if (!qtn op)=true then ([],[],⟨1,0#32,-1,[],[]⟩,true) else
 if decide (((rdA op ks).1.length:Int)>0)=true then ((rdA op ks).1,[],EO26.nil,false) else
 if ((rdA op ks).2.2.2 != 0)=true then ([],[],⟨(rdA op ks).2.2.2,0#32,(rdA op ks).2.2.1,[],[]⟩,true) else zd4 op (kdP op ks (epO op ks))
theorem fin_w {op:Ep26} (h:op.kind≠3) (z:List Pg×EO26):zd4 op (w4 z)=([],z.1,blkZ z.2,true):=by
 unfold zd4 w4
 dsimp only
 rw [show (op.kind==3)=false by simpa using h]
 rfl
theorem filt97 {l:List Int} (h:∀ c,c∈l→0≤c):(l.map fun c=>98+c).filter (fun x=>x != 97)=l.map fun c=>98+c:=
 List.filter_eq_self.2 fun x hx=>by
  obtain ⟨c,hc,rfl⟩:=List.mem_map.1 hx
  have:=h c hc
  simp;omega
theorem filt_lin {op:Ep26} (h:EA op):(qfc op).filter (fun x=>x != 97)=(qbn op).map fun c=>98+c:=by
 unfold qfc
 rw [List.filter_append,filt97 fun c hc=>(qj8 h c hc).1]
 split <;> rfl
theorem epG_lin {op:Ep26} {ks:List Pg} (h:EA op):epG ks (qfc op) 0#32=epO op ks:=by
 have h1:∀ (l:List Int) (g:BitVec 32),(∀ c,c∈l→0≤c)→epG ks (l.map fun c=>98+c) g=g:=by
  intro l
  induction l with
  | nil=>intro g _;rfl
  | cons c l ih =>
   intro g hc
   have:=hc c (List.mem_cons_self ..)
   rw [List.map_cons]
   unfold epG
   rw [if_neg (by simp;omega)]
   exact ih g fun c' hc'=>hc c' (List.mem_cons_of_mem _ hc')
 have h2:=fun g=>h1 (qbn op) g fun c hc=>(qj8 h c hc).1
 unfold qfc epO
 split
 ·rw [List.singleton_append]
  unfold epG
  rw [if_pos (by decide)]
  exact h2 _
 ·rw [List.nil_append];exact h2 _
def zE (p:Pg):Bool:=decide (p.d1=0#64)&&(decide (p.d2=0#64)&&(decide (p.d3=0#64)&&(decide (p.d4=0#64)&&(decide (p.d5=0#64)&&decide (p.d6=0#64)))))
def qE (p:Pg):Pg:={ Pg.nil with d0:=p.d0 }
theorem data_z (p:Pg):qry p (qE p)=zE p:=by
 unfold qry zE qE Pg.nil
 simp only [beq_self_eq_true,Bool.true_and]
 simp only [BEq.beq]
theorem qzl {d:BitVec 64}:(UV d != 0) = !decide (d=0#64):=by
 by_cases h:d=0#64
 ·subst h;rfl
 ·rw [decide_eq_false h]
  have:UV d≠0:=fun e=>h (by
   apply BitVec.eq_of_toNat_eq
   have e':((d.toNat:Nat):Int)=0:=e
   simp;omega)
  simpa using this
theorem rdE_z (p:Pg):rdE p=if (p.l != 97)=true then (0#32,1) else if (!zE p)=true then (0#32,14) else if decide (UV p.d0>4294967295)=true then (0#32,14) else (p.d0.setWidth 32,0):=by
 have hd:decide (UV p.d0>4294967295)=decide (UV p.d0≥4294967296):=decide_eq_decide.2 (by omega)
 rw [hd]
 unfold rdE
 split
 ·rfl
 ·unfold zE
  have e:∀ k,dwd p k=dwd p k:=fun _=>rfl
  unfold qvq
  show (if (UV p.d1 != 0)=true then _ else _)=_
  rw [qzl]
  by_cases h1:p.d1=0#64
  ·rw [if_neg (by rw [decide_eq_true h1];decide),decide_eq_true h1,Bool.true_and]
   unfold qvq
   show (if (UV p.d2 != 0)=true then _ else _)=_
   rw [qzl]
   by_cases h2:p.d2=0#64
   ·rw [if_neg (by rw [decide_eq_true h2];decide),decide_eq_true h2,Bool.true_and]
    unfold qvq
    show (if (UV p.d3 != 0)=true then _ else _)=_
    rw [qzl]
    by_cases h3:p.d3=0#64
    ·rw [if_neg (by rw [decide_eq_true h3];decide),decide_eq_true h3,Bool.true_and]
     unfold qvq
     show (if (UV p.d4 != 0)=true then _ else _)=_
     rw [qzl]
     by_cases h4:p.d4=0#64
     ·rw [if_neg (by rw [decide_eq_true h4];decide),decide_eq_true h4,Bool.true_and]
      unfold qvq
      show (if (UV p.d5 != 0)=true then _ else _)=_
      rw [qzl]
      by_cases h5:p.d5=0#64
      ·rw [if_neg (by rw [decide_eq_true h5];decide),decide_eq_true h5,Bool.true_and]
       unfold qvq
       show (if (UV p.d6 != 0)=true then _ else _)=_
       rw [qzl]
       by_cases h6:p.d6=0#64
       ·rw [if_neg (by rw [decide_eq_true h6];decide),decide_eq_true h6]
        rfl
       ·rw [if_pos (by rw [decide_eq_false h6];decide),decide_eq_false h6];rfl
      ·rw [if_pos (by rw [decide_eq_false h5];decide),decide_eq_false h5,Bool.false_and];rfl
     ·rw [if_pos (by rw [decide_eq_false h4];decide),decide_eq_false h4,Bool.false_and];rfl
    ·rw [if_pos (by rw [decide_eq_false h3];decide),decide_eq_false h3,Bool.false_and];rfl
   ·rw [if_pos (by rw [decide_eq_false h2];decide),decide_eq_false h2,Bool.false_and];rfl
  ·rw [if_pos (by rw [decide_eq_false h1];decide),decide_eq_false h1,Bool.false_and];rfl
abbrev WA:=Option Addr×Nat
theorem qjj (c:Int):FnP Tryz.prog 49 [Is (.int .i64 c)] (Is (.bool (qk4 c))):=by
 refine FnP.enter func49 ntmps49 rfl rfl ?_
 intro c hX
 refine t17 ?_
 refine qay results49 rfl () (SubL.eq ?_) (List.nil_sublist _)
 rfl
theorem zbv {k:Nat} (h:k<6):(qkj 6).take (k+1)=(qkj 6).take k++[(k:Int)]:=by
 match k,h with
 | 0,_|1,_|2,_|3,_|4,_|5,_=>rfl
theorem qyd (o:Ep26):FnP Tryz.prog 57 [qfx o] (IsSl tI64 (qbn o)):=by
 refine FnP.enter func57 ntmps57 rfl rfl ?_
 intro c hX
 refine t3 ?_
 intro i1
 refine t18 ?_
 refine qgs (fun _:Unit=>True) (fun _=>[(1,Is (.pointer (some ⟨i1,0,none⟩))),(6,Is (.int .i64 o.kind)),(7,Is (.bool (o.kind==6||o.kind==5)))]) (fun _=>[blk i1 45 (tEp26.cells o)]) ?_ ?_
 rotate_left
 focus
  refine cN ?_ ?_ <;> intro h2
  ·have g:o.kind=6:=by simpa using h2
   refine s1 ?_
   exact qai () trivial (by rw [show (o.kind==6||o.kind==5)=true by simp [g]];rw [h2];exact qbz) qab
  have g:¬ o.kind=6:=by simpa using h2
  refine t4 ?_
  exact qai () trivial (by rw [show (o.kind==6||o.kind==5)=(o.kind==5) by simp [g]];exact qbz) qab
 rintro _ _
 refine cN ?_ ?_ <;> intro h2b
 ·have e:qbn o=[o.for_]:=by unfold qbn;rw [if_pos h2b]
  rw [e]
  refine t4 ?_
  refine qap rfl (qac (size:=1) (qs:=[(0,_)]) rfl rfl rfl ⟨⟨rfl,_,(er rfl),qa6⟩,trivial⟩ rf rf) ?_
  refine t6 ?_
  exact qay results57 rfl () (SubL.row (xs:=[o.for_]) rf rf qg9) (List.nil_sublist _)
 have g:¬ (o.kind==6||o.kind==5)=true:=by rw [h2b];simp
 refine t6 ?_
 refine cN ?_ ?_ <;> intro h5
 ·have e:qbn o=qkj 6:=by unfold qbn;rw [if_neg g,if_pos h5]
  rw [e]
  refine t7 ?_
  refine qcd 3 tI64 ?_
  refine t5 ?_
  refine qbg (fun z:Nat×WA=>z.1≤6) (fun z=>[(1,Is (.pointer (some ⟨i1,0,none⟩))),(3,Is (slV ((qkj 6).take z.1).length z.2)),(15,Is (.int .i64 (z.1:Nat)))]) (fun z=>[buf (slV ((qkj 6).take z.1).length z.2) 3 tI64 ((qkj 6).take z.1)]) (fun z=>6-z.1) (0,(none,0)) (by decide) qbz qab ?_
  rintro ⟨k,a⟩ hk
  dsimp only at hk ⊢
  have hkl:((qkj 6).take k).length=k:=by rw [List.length_take];show min k 6=k;omega
  refine t6 ?_
  refine cN ?_ ?_ <;> intro h8
  ·have hk6:k<6:=by have:=of_decide_eq_true h8;omega
   clear h8
   refine t13 ?_
   refine qap rfl (qac (size:=1) (qs:=[(0,_)]) rfl rfl rfl ⟨⟨rfl,_,(er rfl),qa6⟩,trivial⟩ rf rf) ?_
   (refine qew rfl (qb6 (er rfl) (fun _=>qae) (by exact Ev.sub rfl (by exact SubL.row (xs:=[(k:Int)]) rf rf qg9)) (by exact qej rfl rfl rfl) qb8) ?_;intro i21)
   refine t8 ?_
   rw [← zbv hk6]
   exact qaa (k+1,i21) (by dsimp only;omega) (by dsimp only;omega) qbz qab
  have hke:k=6:=by have:=of_decide_eq_false h8;omega
  clear h8
  subst hke
  refine qa7 hX (v:=slV ((qkj 6).take 6).length a) (T:=tI64) (xs:=qkj 6) qae ?_
  refine qb0 3 (IsSl tI64 (qkj 6)) rfl (SubL.fact qbw) ?_
  refine t14 ?_
  refine qay results57 rfl () (SubL.eq ?_) (List.nil_sublist _)
  rfl
 have e:qbn o=[o.client]:=by unfold qbn;rw [if_neg g,if_neg (by rw [h5];simp)]
 rw [e]
 refine t7 ?_
 refine qap rfl (qac (size:=1) (qs:=[(0,_)]) rfl rfl rfl ⟨⟨rfl,_,(er rfl),qa6⟩,trivial⟩ rf rf) ?_
 refine t4 ?_
 exact qay results57 rfl () (SubL.row (xs:=[o.client]) rf rf qg9) (List.nil_sublist _)
theorem qrj (o:Ep26) (hr:∀ c,c∈qbn o→0≤c∧c<6):FnP Tryz.prog 51 [qfx o] (IsSl tI64 (qfc o)):=by
 obtain ⟨P,hP⟩:∃ P:List Int,P=if zdt o=true then [97] else []:=⟨_,rfl⟩
 have hlin:qfc o=P++(qbn o).map (fun c=>98+c):=by unfold qfc;rw [hP]
 have hPl:P.length≤1:=by rw [hP];split <;> simp
 have hnl:=(qpy o).2
 rw [hlin]
 refine FnP.enter func51 ntmps51 rfl rfl ?_
 intro c hX
 refine t3 ?_
 intro i1
 refine t10 ?_
 refine qcd 3 tI64 ?_
 refine t11 ?_
 refine qgs (fun _:WA=>True) (fun a=>[(1,Is (.pointer (some ⟨i1,0,none⟩))),(3,Is (slV P.length a))]) (fun a=>[blk i1 45 (tEp26.cells o),buf (slV P.length a) 3 tI64 P]) ?_ ?_
 rotate_left
 focus
  refine cN ?_ ?_ <;> intro h2
  ·have e:P=[97]:=by rw [hP,if_pos];unfold zdt;simpa using h2
   rw [e]
   refine t2 ?_
   refine qap rfl (qac (size:=1) (qs:=[(0,_)]) rfl rfl rfl ⟨⟨rfl,_,(er rfl),qa6⟩,trivial⟩ rf rf) ?_
   (refine qew rfl (qb6 (er rfl) (fun _=>qae) (by exact Ev.sub rfl (by exact SubL.row (xs:=[(97:Int)]) rf rf qg9)) (by exact qej rfl rfl rfl) qb8) ?_;intro i16)
   refine t2 ?_
   exact qai i16 trivial qbz qab
  have e:P=[]:=by rw [hP,if_neg];unfold zdt;rw [h2];simp
  rw [e]
  refine s1 ?_
  exact qai (none,0) trivial qbz qab
 rintro a _
 refine t4 ?_
 refine kR call57 (qyd _) ?_
 refine t5 ?_
 refine qbg (fun z:Nat×WA=>z.1≤(qbn o).length) (fun z=>[(3,Is (slV (P++((qbn o).map (fun c=>98+c)).take z.1).length z.2)),(18,IsSl tI64 (qbn o)),(19,Is (.int .i64 ((qbn o).length:Nat))),(20,Is (.int .i64 (z.1:Nat)))]) (fun z=>[buf (slV (P++((qbn o).map (fun c=>98+c)).take z.1).length z.2) 3 tI64 (P++((qbn o).map (fun c=>98+c)).take z.1)]) (fun z=>(qbn o).length-z.1) (0,a) (Nat.zero_le _) (by rw [List.take_zero,List.append_nil];exact qbz) (by rw [List.take_zero,List.append_nil];exact qab) ?_
 rintro ⟨k,a2⟩ hk
 dsimp only at hk ⊢
 have hkl:(P++((qbn o).map (fun c=>98+c)).take k).length≤7:=by rw [List.length_append,List.length_take];omega
 refine t6 ?_
 refine cN ?_ ?_ <;> intro h5
 ·have hlt:k<(qbn o).length:=by have:=of_decide_eq_true h5;omega
  clear h5
  obtain ⟨x,hx⟩:∃ x,(qbn o)[k]?=some x:=⟨_,List.getElem?_eq_getElem hlt⟩
  have hxr:=hr x (List.mem_of_getElem? hx)
  have hstep:P++((qbn o).map (fun c=>98+c)).take (k+1)=(P++((qbn o).map (fun c=>98+c)).take k)++[98+x]:=by
   rw [List.take_add_one,List.getElem?_map,hx,List.append_assoc];rfl
  refine t6 ?_
  refine qap rfl (by exact qam (j:=k) (er rfl) (er rfl) rfl rfl rf hx) ?_
  refine t8 ?_
  refine qap rfl (qac (size:=1) (qs:=[(0,_)]) rfl rfl rfl ⟨⟨rfl,_,(er rfl),qa6⟩,trivial⟩ rf rf) ?_
  (refine qew rfl (qb6 (er rfl) (fun _=>qae) (by exact Ev.sub rfl (by exact SubL.row (xs:=[(98+x)]) rf rf qg9)) (by exact qej rfl rfl rfl) qb8) ?_;intro i28)
  refine t8 ?_
  rw [← hstep]
  exact qaa (k+1,i28) (by dsimp only;omega) (by dsimp only;omega) qbz qab
 have hke:k=(qbn o).length:=by have:=of_decide_eq_false h5;omega
 clear h5
 subst hke
 rw [List.take_of_length_le (by rw [List.length_map];exact Nat.le_refl _)]
 refine qa7 hX (v:=slV (P++(qbn o).map (fun c=>98+c)).length a2) (T:=tI64) qae ?_
 refine qb0 3 (IsSl tI64 (P++(qbn o).map (fun c=>98+c))) rfl (SubL.fact qbw) ?_
 refine t12 ?_
 refine qay results51 rfl () (SubL.eq ?_) (List.nil_sublist _)
 rfl
theorem qsi (g r:BitVec 32):FnP Tryz.prog 40 [Is (.int .u32 (UV g)),Is (.int .u32 (UV r))] (Is (.bool (qqs g r))):=by
 refine FnP.enter func40 ntmps40 rfl rfl ?_
 intro c hX
 refine t17 ?_
 refine qay results40 rfl () (SubL.eq ?_) (List.nil_sublist _)
 rfl
theorem qsm (p:Pg):FnP Tryz.prog 54 [qcr p] (qbu [Is (.int .u32 (UV (rdE p).1)),Is (.int .i64 (rdE p).2)]):=by
 have hz:=rdE_z p
 obtain ⟨W,hE⟩:∃ W,rdE p=W:=⟨_,rfl⟩
 rw [hE] at hz ⊢
 refine FnP.enter func54 ntmps54 rfl rfl ?_
 intro c hX
 refine t3 ?_
 intro i1
 refine t12 ?_
 refine cN ?_ ?_ <;> intro h1
 ·rw [ifT h1] at hz
  subst hz
  refine t8 ?_
  refine qan (Bs:=[_,_]) results54 eR () ?_ (List.nil_sublist _)
  exact SubL.rfl'
 rw [ifF h1] at hz
 refine t10 ?_
 refine qap rfl (qdo (size:=1) (qs:=[(0,_)]) rfl rfl rfl rfl ⟨⟨rfl,_,(er rfl),qa6⟩,trivial⟩ rf qbm) ?_
 refine qap rfl (qdu (vs:=qnd p) (ws:=qnd (qE p)) (er rfl) evR (qoj _ _ _ p (qE p)) (qwf p (qE p))) ?_
 refine t8 ?_
 refine cN ?_ ?_ <;> intro h3
 ·rw [data_z] at h3
  have e:W=(0#32,14):=by
   rw [hz]
   split
   ·rfl
   ·rename_i h4
    rw [if_pos]
    revert h3 h4
    cases zE p <;> simp
  subst e
  refine t8 ?_
  refine qan (Bs:=[_,_]) results54 eR () ?_ (List.nil_sublist _)
  exact SubL.rfl'
 rw [data_z] at h3
 have e:W=(p.d0.setWidth 32,0):=by
  rw [hz,if_neg,if_neg]
  ·revert h3;cases zE p <;> simp
  ·revert h3;cases zE p <;> simp
 subst e
 refine t13 ?_
 refine qan (Bs:=[_,_]) results54 eR () ?_ (List.nil_sublist _)
 exact SubL.rfl'
theorem qpe (p:Pg) (e:BitVec 32):FnP Tryz.prog 58 [qcr p,Is (.int .u32 (UV e))] (qbu [qcr (za6 p e).1,Is (.int .i64 (za6 p e).2)]):=by
 unfold za6
 refine FnP.enter func58 ntmps58 rfl rfl ?_
 intro c hX
 refine t3 ?_
 intro i2
 refine s1 ?_
 intro i4
 refine t11 ?_
 refine cN ?_ ?_ <;> intro h1
 ·rw [ifT h1]
  refine t9 ?_
  exact qan (Bs:=[qcr Pg.nil,Is (.int .i64 1)]) results58 eR () SubL.rfl' (List.nil_sublist _)
 rw [ifF h1]
 refine t6 ?_
 refine qap rfl (qdo (size:=1) (qs:=[(0,_)]) rfl rfl rfl rfl ⟨⟨rfl,_,(er rfl),qa6⟩,trivial⟩ rf qbm) ?_
 refine t12 ?_
 exact qan (Bs:=[qcr ⟨p.l,p.h,e.setWidth 64,0#64,0#64,0#64,0#64,0#64,0#64⟩,Is (.int .i64 0)]) results58 eR () SubL.rfl' (List.nil_sublist _)
def idxV (xs:List Pt) (p:Pt):Int:=if p∈xs then ((xs.idxOf p:Nat):Int) else -1
theorem idxV_hit {xs:List Pt} {p:Pt} {k:Nat} (h:xs[k]?=some p) (hn:p ∉ xs.take k):idxV xs p=(k:Int):=by
 have hm:p∈xs:=List.mem_of_getElem? h
 unfold idxV
 rw [if_pos hm]
 have hk:=(List.getElem?_eq_some_iff.1 h).1
 have e:xs=xs.take k++(p :: xs.drop (k+1)):=by
  conv=>lhs;rw [← List.take_append_drop k xs]
  rw [List.drop_eq_getElem_cons hk,(List.getElem?_eq_some_iff.1 h).2]
 have e2:xs.idxOf p=k:=by
  rw [e,List.idxOf_append,if_neg hn,List.idxOf_cons_self,List.length_take]
  omega
 rw [e2]
theorem idxV_no {xs:List Pt} {p:Pt} (hn:p ∉ xs):idxV xs p = -1:=by
 unfold idxV
 rw [if_neg hn]
theorem idxV_ge (xs:List Pt) (p:Pt):decide (idxV xs p≥0)=decide (p∈xs):=by
 unfold idxV
 by_cases h:p∈xs
 ·rw [if_pos h,decide_eq_true h]
  exact decide_eq_true (Int.natCast_nonneg _)
 ·rw [if_neg h,decide_eq_false h]
  rfl
theorem za0 (xs:List Pt) (p:Pt) (hn:xs.length≤1048576):FnP Tryz.prog 88 [IsSl tPt xs,qks p] (Is (.int .i64 (idxV xs p))):=by
 refine FnP.enter func88 ntmps88 rfl rfl ?_
 intro c hX
 refine t3 ?_
 intro i3
 refine t12 ?_
 refine qbg (fun k:Nat=>k≤xs.length∧p ∉ xs.take k) (fun k=>[(0,IsSl tPt xs),(3,Is (.pointer (some ⟨i3,0,none⟩))),(7,Is (.int .i64 (xs.length:Nat))),(8,Is (.int .i64 (k:Nat)))]) (fun _=>[blk i3 51 (tPt.cells p)]) (fun k=>xs.length-k) 0 ⟨Nat.zero_le _,by simp⟩ qbz qab ?_
 rintro k ⟨hk,hno⟩
 refine t6 ?_
 refine cN ?_ ?_ <;> intro h2
 ·have hlt:k<xs.length:=by have:=of_decide_eq_true h2;omega
  clear h2
  obtain ⟨x,hx⟩:∃ x,xs[k]?=some x:=⟨_,List.getElem?_eq_getElem hlt⟩
  refine t11 ?_
  refine qaz rfl (by kernel_rfl) ?_
  refine qaf 6 (by kernel_rfl) ?_
  refine t3 ?_
  refine qbh (by exact qam (j:=_) (er rfl) (er rfl) rfl rfl rf hx) ?_
  refine s1 ?_
  refine qbh (qdu (vs:=p.cells) (ws:=x.cells) (er rfl) (er rfl) (zah _ _ _ p x) (eqPt_eql p x)) ?_
  refine ⟨rfl,?_⟩
  refine qar ?_
  refine s1 ?_
  refine cN ?_ ?_ <;> intro h4
  ·have e:p=x:=of_decide_eq_true h4
   subst e
   rw [← idxV_hit hx hno]
   refine t12 ?_
   refine qay results88 rfl () (SubL.eq ?_) (List.nil_sublist _)
   rfl
  have e:¬ p=x:=of_decide_eq_false h4
  refine t7 ?_
  exact qaa (k+1) ⟨by omega,fun hm=>by
   rw [List.take_add_one,hx] at hm
   rcases List.mem_append.1 hm with hm|hm
   ·exact hno hm
   ·simp at hm;exact e hm⟩ (by omega) qbz qab
 have hke:k=xs.length:=by have:=of_decide_eq_false h2;omega
 subst hke
 rw [List.take_length] at hno
 have en:=idxV_no hno
 refine t11 ?_
 refine qay results88 rfl () (SubL.eq ?_) (List.nil_sublist _)
 rw [en]
theorem qma (xs:List Pt) (p:Pt) (hn:xs.length≤1048576):FnP Tryz.prog 59 [IsSl tPt xs,qks p] (Is (.bool (decide (p∈xs)))):=by
 rw [← idxV_ge]
 refine FnP.enter func59 ntmps59 rfl rfl ?_
 intro c hX
 refine t3 ?_
 intro i3
 refine t7 ?_
 refine kR call88 (za0 _ _ hn) ?_
 refine t5 ?_
 refine qay results59 rfl () (SubL.eq ?_) (List.nil_sublist _)
 rfl
theorem zdi (l:List Pt):FnP Tryz.prog 50 [IsSl tPt l] (Is (.bool (lsP l))):=by
 obtain ⟨W,hE⟩:∃ W,lsP l=W:=⟨_,rfl⟩
 rw [hE]
 unfold lsP at hE
 refine FnP.enter func50 ntmps50 rfl rfl ?_
 intro c hX
 refine t18 ?_
 refine cN ?_ ?_ <;> intro h1
 ·replace hE:=qa4 hE h1
  refine t7 ?_
  subst hE
  exact qan (Bs:=[_]) results50 eR () SubL.rfl' (List.nil_sublist _)
 have hl4:l.length≤4:=by simp at h1;omega
 replace hE:=qba hE h1
 refine t11 ?_
 refine qav [(0,_),(2,_),(13,_),(14,_)] [] (fun k:Nat=>k≤(l).length∧lsG (List.take k l) (List.drop k (l))=W) (fun k=>[(15,Is (.int .i64 (k:Nat)))]) (fun k=>[]) (fun k=>(l).length-k) 0 ⟨by exact Nat.zero_le _,hE⟩ qbz qab ?_
 clear hE
 rintro k ⟨hk,hE⟩
 refine t6 ?_
 refine cN ?_ ?_ <;> intro h4
 ·have hlt:k<(l).length:=by have:=of_decide_eq_true h4;omega
  clear h4
  obtain ⟨z,hz⟩:∃ q,(l)[k]?=some q:=⟨_,List.getElem?_eq_getElem hlt⟩
  rw [qeo hz,lsG] at hE
  (try dsimp only at hE)
  have htl:(List.take k l).length≤1048576:=by rw [List.length_take];omega
  refine t10 ?_
  intro i4
  refine t5 ?_
  refine qaz rfl (by kernel_rfl) ?_
  refine qaf 10 (by kernel_rfl) ?_
  refine s1 ?_
  refine qbh (qad call84 (qjt _) ⟨evR,trivial⟩) ?_
  refine t4 ?_
  (refine qd2 rfl rfl (fun hg=>(by have hg0:=hg;(try simp at hg);exact qcx evG rfl rfl rfl ⟨_,_,evG,(show _=((k:Nat):Int) by rfl)⟩ (by omega) (by omega))) ?_)
  refine s1 ?_
  (refine qd2 rfl rfl (fun hg=>(by have hg0:=hg;(try simp at hg);exact qad call59 (qma _ _ htl) ⟨evR,⟨evR,trivial⟩⟩)) ?_)
  refine s1 ?_
  refine ⟨rfl,?_⟩
  refine qar ?_
  refine s1 ?_
  refine cN ?_ ?_ <;> intro h6
  ·replace hE:=qa4 hE h6
   refine t11 ?_
   subst hE
   exact qan (Bs:=[_]) results50 eR () SubL.rfl' (List.nil_sublist _)
  replace hE:=qba hE h6
  refine t7 ?_
  rw [show List.take k l++[z]=List.take (k+1) l by rw [List.take_add_one,hz];rfl] at hE
  exact qaa (k+1) ⟨by omega,hE⟩ (by omega) qbz qab
 have hke:k=(l).length:=by have:=of_decide_eq_false h4;omega
 clear h4
 subst hke
 rw [List.drop_length,lsG] at hE
 (try dsimp only at hE)
 refine t11 ?_
 subst hE
 exact qan (Bs:=[_]) results50 eR () SubL.rfl' (List.nil_sublist _)
theorem qv9 (o:Ep26):FnP Tryz.prog 19 [qfx o] (Is (.bool (qtn o))):=by
 obtain ⟨W,hE⟩:∃ W,qtn o=W:=⟨_,rfl⟩
 rw [hE]
 unfold qtn at hE
 refine FnP.enter func19 ntmps19 rfl rfl ?_
 intro c hX
 refine t3 ?_
 intro i1
 refine t8 ?_
 refine kR call49 (qjj _) ?_
 refine t3 ?_
 refine cN ?_ ?_ <;> intro h1
 ·replace hE:=qa4 hE h1
  refine t7 ?_
  subst hE
  exact qan (Bs:=[_]) results19 eR () SubL.rfl' (List.nil_sublist _)
 replace hE:=qba hE h1
 refine t30 ?_
 refine qb1 [(1,_),(2,_),(3,_),(17,_)] [blk i1 _ _] (fun yc:Bool=>yc=(o.kind==1||o.kind==2)) (fun yc=>[(18,Is (.bool yc))]) (fun yc=>[]) qbz qab ?_ ?_
 rotate_left
 focus
  refine cN ?_ ?_ <;> intro h5
  ·skip
   refine s1 ?_
   refine qai _ ?_ qbz qab
   ·exact (by rw [h5];simp)
  skip
  refine t4 ?_
  refine qai _ ?_ qbz qab
  ·exact (by rw [h5];simp)
 rintro b hI
 refine cN ?_ ?_ <;> intro h5b
 ·have h5c:(o.kind==1||o.kind==2)=true:=by rw [← hI];exact h5b
  replace hE:=qa4 hE h5c
  refine t9 ?_
  subst hE
  exact qan (Bs:=[_]) results19 eR () SubL.rfl' (List.nil_sublist _)
 have h5c:(o.kind==1||o.kind==2)=false:=by rw [← hI];exact h5b
 replace hE:=qba hE h5c
 refine t6 ?_
 refine cN ?_ ?_ <;> intro h8
 ·replace hE:=qa4 hE h8
  refine t6 ?_
  (refine qcp rfl rfl rfl (fun hg=>(by have hg0:=hg;(try simp at hg);exact qad call49 (qjj _) ⟨evR,trivial⟩)) ?_)
  refine t7 ?_
  subst hE
  exact qan (Bs:=[_]) results19 eR () SubL.rfl' (List.nil_sublist _)
 replace hE:=qba hE h8
 refine t6 ?_
 refine cN ?_ ?_ <;> intro h10
 ·replace hE:=qa4 hE h10
  refine t4 ?_
  refine kR call49 (qjj _) ?_
  refine t16 ?_
  subst hE
  exact qan (Bs:=[_]) results19 eR () SubL.rfl' (List.nil_sublist _)
 replace hE:=qba hE h10
 refine t6 ?_
 refine cN ?_ ?_ <;> intro h12
 ·replace hE:=qa4 hE h12
  refine t4 ?_
  refine kR call50 (zdi _) ?_
  refine t6 ?_
  subst hE
  exact qan (Bs:=[_]) results19 eR () SubL.rfl' (List.nil_sublist _)
 replace hE:=qba hE h12
 refine t12 ?_
 subst hE
 exact qan (Bs:=[_]) results19 eR () SubL.rfl' (List.nil_sublist _)
theorem ncmp_ok (p q:Pg):FnP Tryz.prog 27 [qcr p,qcr q] (Is (.int .i64 (zeg p.l q.l))):=by
 refine FnP.enter func27 ntmps27 rfl rfl ?_
 intro c hX
 refine t3 ?_
 intro i2
 refine s1 ?_
 intro i3
 refine t9 ?_
 refine kS call28 (qqm _ _) ?_
 refine t4 ?_
 refine qay results27 rfl () (SubL.eq ?_) (List.nil_sublist _)
 rfl
@[reducible] def fNx:Value:=.func (.func 27) #[] #[]
theorem asc_at {ws:List Pg} (h:Asc ws) {j k:Nat} {x y:Pg} (hx:ws[j]?=some x) (hy:ws[k]?=some y) (hjk:j<k):x.l<y.l:=by
 obtain ⟨h1,rfl⟩:=List.getElem?_eq_some_iff.1 hx
 obtain ⟨h2,rfl⟩:=List.getElem?_eq_some_iff.1 hy
 exact List.pairwise_iff_getElem.1 h j k h1 h2 hjk
theorem insN_ok (xs:List Pg) (h:Asc xs) (hn:xs.length≤5):FnP Tryz.prog 101 [IsSl tPg xs,Is (.int .i64 0),Is (.int .i64 (xs.length:Nat)),Is fNx] (qbu []):=by
 refine FnP.enter func101 ntmps101 rfl rfl ?_
 intro c hX
 refine t8 ?_
 refine qbg (fun q:Nat=>1≤q) (fun q=>[(0,IsSl tPg xs),(1,Is (.int .i64 0)),(2,Is (.int .i64 (xs.length:Nat))),(3,Is fNx),(8,Is (.int .i64 (q:Nat)))]) (fun _=>[]) (fun q=>5-q) 1 (Nat.le_refl _) qbt qab ?_
 intro q hq
 refine t8 ?_
 refine cN ?_ ?_ <;> intro h1
 ·have hlt:q<xs.length:=by have:=of_decide_eq_true h1;omega
  clear h1
  obtain ⟨x,hx⟩:∃ x,xs[q]?=some x:=⟨_,List.getElem?_eq_getElem hlt⟩
  obtain ⟨y,hy⟩:∃ y,xs[q-1]?=some y:=⟨_,List.getElem?_eq_getElem (by omega)⟩
  have hyx:=asc_at h hy hx (by omega)
  refine t11 ?_
  refine qbg (fun _:Unit=>True) (fun _=>[(0,IsSl tPg xs),(1,Is (.int .i64 0)),(2,Is (.int .i64 (xs.length:Nat))),(3,Is fNx),(8,Is (.int .i64 (q:Nat))),(9,Is (.int .i64 (q:Nat)))]) (fun _=>[]) (fun _=>0) () trivial qbt qab ?_
  rintro _ _
  refine t2 ?_
  refine qaz rfl (by kernel_rfl) ?_
  refine qaf 17 (by kernel_rfl) ?_
  refine t7 ?_
  (refine qd2 rfl rfl (fun hg=>(by have hg0:=hg;(try simp at hg);exact qam (j:=q) evG evG rfl rfl rf hx)) ?_)
  (refine qd2 rfl rfl (fun hg=>(by have hg0:=hg;(try simp at hg);exact qb2 (n:=9) evG rfl rfl rfl rf qbm)) ?_)
  refine t3 ?_
  (refine qd2 rfl rfl (fun hg=>(by have hg0:=hg;(try simp at hg);exact qam (j:=q-1) evG evG rfl rfl (by omega) hy)) ?_)
  (refine qd2 rfl rfl (fun hg=>(by have hg0:=hg;(try simp at hg);exact qb2 (n:=9) evG rfl rfl rfl rf qbm)) ?_)
  (refine qd2 rfl rfl (fun hg=>(by have hg0:=hg;(try simp at hg);exact qn7 evG call27 (ncmp_ok _ _) ⟨evS,⟨evS,trivial⟩⟩)) ?_)
  refine t2 ?_
  refine ⟨rfl,?_⟩
  refine qar ?_
  refine s1 ?_
  refine cN ?_ ?_ <;> intro h4
  ·exact absurd h4 (by rw [qrz];simp;omega)
  clear h4
  refine t11 ?_
  exact qaa (q+1) (by omega) (by omega) qbt qab
 refine t5 ?_
 exact qbv (Bs:=[]) results101 trivial () SubL.rfl' qab
theorem pdqN_ok (xs:List Pg) (h:Asc xs) (hn:xs.length≤5):FnP Tryz.prog 62 [IsSl tPg xs,Is (.int .i64 0),Is (.int .i64 (xs.length:Nat)),Top,Is fNx] (qbu []):=by
 refine FnP.enter func62 ntmps62 rfl rfl ?_
 intro c hX
 refine t11 ?_
 refine qbg (fun _:Unit=>True) (fun _=>[(0,IsSl tPg xs),(1,Is (.int .i64 0)),(2,Is (.int .i64 (xs.length:Nat))),(4,Is fNx)]) (fun _=>[]) (fun _=>0) () trivial qbt qab ?_
 rintro _ _
 refine t16 ?_
 refine cN ?_ ?_ <;> intro h3
 ·refine t6 ?_
  refine kS call101 (insN_ok xs h hn) ?_
  refine t7 ?_
  exact qbv (Bs:=[]) results62 trivial () SubL.rfl' qab
 exact absurd (of_decide_eq_false h3) (by omega)
theorem Len64_2:FnP Tryz.prog 110 [Is (.int .u64 2)] (Is (.int .i64 2)):=by
 refine FnP.enter func110 ntmps110 rfl rfl ?_
 intro c hX
 refine t12 ?_
 refine cN ?_ ?_ <;> intro h1
 ·exact absurd (of_decide_eq_true h1) (by omega)
 refine t9 ?_
 refine cN ?_ ?_ <;> intro h4
 ·exact absurd (of_decide_eq_true h4) (by omega)
 refine t9 ?_
 refine cN ?_ ?_ <;> intro h7
 ·exact absurd (of_decide_eq_true h7) (by omega)
 refine t7 ?_
 refine qap rfl (qf2 (k:=2) (b:=2) rfl (er rfl) rfl rfl) ?_
 refine t6 ?_
 refine qay results110 rfl () (SubL.eq ?_) (List.nil_sublist _)
 rfl
theorem Len_2:FnP Tryz.prog 63 [Is (.int .u64 2)] (Is (.int .i64 2)):=by
 refine FnP.enter func63 ntmps63 rfl rfl ?_
 intro c hX
 refine t6 ?_
 refine cN ?_ ?_ <;> intro h0
 ·exact absurd h0 (by simp)
 refine t5 ?_
 refine kS call110 (Len64_2) ?_
 refine t4 ?_
 refine qay results63 rfl () (SubL.eq ?_) (List.nil_sublist _)
 rfl
theorem Len64_3:FnP Tryz.prog 110 [Is (.int .u64 3)] (Is (.int .i64 2)):=by
 refine FnP.enter func110 ntmps110 rfl rfl ?_
 intro c hX
 refine t12 ?_
 refine cN ?_ ?_ <;> intro h1
 ·exact absurd (of_decide_eq_true h1) (by omega)
 refine t9 ?_
 refine cN ?_ ?_ <;> intro h4
 ·exact absurd (of_decide_eq_true h4) (by omega)
 refine t9 ?_
 refine cN ?_ ?_ <;> intro h7
 ·exact absurd (of_decide_eq_true h7) (by omega)
 refine t7 ?_
 refine qap rfl (qf2 (k:=3) (b:=2) rfl (er rfl) rfl rfl) ?_
 refine t6 ?_
 refine qay results110 rfl () (SubL.eq ?_) (List.nil_sublist _)
 rfl
theorem Len_3:FnP Tryz.prog 63 [Is (.int .u64 3)] (Is (.int .i64 2)):=by
 refine FnP.enter func63 ntmps63 rfl rfl ?_
 intro c hX
 refine t6 ?_
 refine cN ?_ ?_ <;> intro h0
 ·exact absurd h0 (by simp)
 refine t5 ?_
 refine kS call110 (Len64_3) ?_
 refine t4 ?_
 refine qay results63 rfl () (SubL.eq ?_) (List.nil_sublist _)
 rfl
theorem Len64_4:FnP Tryz.prog 110 [Is (.int .u64 4)] (Is (.int .i64 3)):=by
 refine FnP.enter func110 ntmps110 rfl rfl ?_
 intro c hX
 refine t12 ?_
 refine cN ?_ ?_ <;> intro h1
 ·exact absurd (of_decide_eq_true h1) (by omega)
 refine t9 ?_
 refine cN ?_ ?_ <;> intro h4
 ·exact absurd (of_decide_eq_true h4) (by omega)
 refine t9 ?_
 refine cN ?_ ?_ <;> intro h7
 ·exact absurd (of_decide_eq_true h7) (by omega)
 refine t7 ?_
 refine qap rfl (qf2 (k:=4) (b:=3) rfl (er rfl) rfl rfl) ?_
 refine t6 ?_
 refine qay results110 rfl () (SubL.eq ?_) (List.nil_sublist _)
 rfl
theorem Len_4:FnP Tryz.prog 63 [Is (.int .u64 4)] (Is (.int .i64 3)):=by
 refine FnP.enter func63 ntmps63 rfl rfl ?_
 intro c hX
 refine t6 ?_
 refine cN ?_ ?_ <;> intro h0
 ·exact absurd h0 (by simp)
 refine t5 ?_
 refine kS call110 (Len64_4) ?_
 refine t4 ?_
 refine qay results63 rfl () (SubL.eq ?_) (List.nil_sublist _)
 rfl
theorem Len64_5:FnP Tryz.prog 110 [Is (.int .u64 5)] (Is (.int .i64 3)):=by
 refine FnP.enter func110 ntmps110 rfl rfl ?_
 intro c hX
 refine t12 ?_
 refine cN ?_ ?_ <;> intro h1
 ·exact absurd (of_decide_eq_true h1) (by omega)
 refine t9 ?_
 refine cN ?_ ?_ <;> intro h4
 ·exact absurd (of_decide_eq_true h4) (by omega)
 refine t9 ?_
 refine cN ?_ ?_ <;> intro h7
 ·exact absurd (of_decide_eq_true h7) (by omega)
 refine t7 ?_
 refine qap rfl (qf2 (k:=5) (b:=3) rfl (er rfl) rfl rfl) ?_
 refine t6 ?_
 refine qay results110 rfl () (SubL.eq ?_) (List.nil_sublist _)
 rfl
theorem Len_5:FnP Tryz.prog 63 [Is (.int .u64 5)] (Is (.int .i64 3)):=by
 refine FnP.enter func63 ntmps63 rfl rfl ?_
 intro c hX
 refine t6 ?_
 refine cN ?_ ?_ <;> intro h0
 ·exact absurd h0 (by simp)
 refine t5 ?_
 refine kS call110 (Len64_5) ?_
 refine t4 ?_
 refine qay results63 rfl () (SubL.eq ?_) (List.nil_sublist _)
 rfl
def lenV:Nat→Int
 | 0=>0
 | 1=>1
 | 2=>2
 | 3=>2
 | _=>3
theorem ze6:∀ n:Nat,n≤5→FnP Tryz.prog 63 [Is (.int .u64 (n:Nat))] (Is (.int .i64 (lenV n)))
 | 0,_=>Len_0
 | 1,_=>Len_1
 | 2,_=>Len_2
 | 3,_=>Len_3
 | 4,_=>Len_4
 | 5,_=>Len_5
 | n+6,h=>absurd h (by omega)
theorem qox (xs:List Pg) (h:Asc xs) (hn:xs.length≤5):FnP Tryz.prog 26 [IsSl tPg xs,Is fNx] (qbu []):=by
 have hL:=ze6 xs.length hn
 refine FnP.enter func26 ntmps26 rfl rfl ?_
 intro c hX
 refine t11 ?_
 refine qap rfl (qfg (er rfl) rfl rfl (wU64 (by omega))) ?_
 refine kS call63 (hL) ?_
 refine s1 ?_
 refine kS call62 (pdqN_ok xs h hn) ?_
 refine t2 ?_
 exact qbv (Bs:=[]) results26 trivial () SubL.rfl' qab
structure Est where
 pg:Pg
 ep:BitVec 32
 b1:Nat
 b2:Nat
def tEst:Ty Est:=⟨12,fun s=>[Is (.int .i64 s.pg.l),Is (.int .u64 (UV s.pg.h)),Is (.int .u64 (UV s.pg.d0)),Is (.int .u64 (UV s.pg.d1)),Is (.int .u64 (UV s.pg.d2)),Is (.int .u64 (UV s.pg.d3)),Is (.int .u64 (UV s.pg.d4)),Is (.int .u64 (UV s.pg.d5)),Is (.int .u64 (UV s.pg.d6)),Is (.int .u32 (UV s.ep)),Is (.map (some s.b1)),Is (.map (some s.b2))],fun _=>rfl⟩
@[reducible] def ql7 (s:Est):VP:=IsAgg (tEst.cells s)
theorem neL_snoc {ks:List Pg} {l:List Int} {k:Nat} {x:Int} (h:l[k]?=some x):neL ks (l.take (k+1))=neL ks (l.take k)++if (!qhh ks x)=true then [x] else []:=by
 unfold neL
 rw [List.take_add_one,h,List.filter_append]
 congr 1
 simp only [Option.toList,List.filter_cons,List.filter_nil]
theorem neL_len (ks:List Pg) (l:List Int):(neL ks l).length≤l.length:=List.length_filter_le _ _
theorem readW_ok (o:Ep26) (ks:List Pg) (hr:∀ c,c∈qbn o→0≤c∧c<6):Fn Tryz.prog 20 [qfx o,IsSl tPg ks] []
  (fun b:Nat×Nat=>qbu [ql7 ⟨(rdA o ks).2.1.pg,(rdA o ks).2.1.ep,b.1,b.2⟩,IsSl tI64 (rdA o ks).1,Is (.int .i64 (rdA o ks).2.2.1),Is (.int .i64 (rdA o ks).2.2.2)])
  (fun b=>[mp b.1 qcr (rdA o ks).2.1.mp,mp b.2 qik (rdA o ks).2.1.mn]):=by
 obtain ⟨W,hE⟩:∃ W,rdA o ks=W:=⟨_,rfl⟩
 rw [hE]
 unfold rdA at hE
 have hlen:=linV_len o
 have hlr:∀ x,x∈qfc o→x=97∨(98≤x∧x≤103):=fun x hx=>by
  unfold qfc at hx
  rcases List.mem_append.1 hx with e|e
  ·left
   split at e
   ·exact List.mem_singleton.1 e
   ·cases e
  ·right
   obtain ⟨c,hc,rfl⟩:=List.mem_map.1 e
   have:=hr c hc
   omega
 refine Fn.enterN func20 ntmps20 rfl rfl ?_
 intro c hX
 refine t3 ?_
 intro i2
 refine s1 ?_
 intro i4
 refine t7 ?_
 (refine qwx rfl (qh9 qcr) ?_;intro i17)
 (refine qwx rfl (qh9 qik) ?_;intro i18)
 refine t8 ?_
 refine kR call51 (qrj o hr) ?_
 refine t5 ?_
 refine qcd 3 tI64 ?_
 refine qbg (fun z:Nat×WA=>z.1≤(qfc o).length) (fun z=>[(1,IsSl tPg ks),(2,Is (.pointer (some ⟨i2,0,none⟩))),(4,Is (.pointer (some ⟨i4,0,none⟩))),(5,Is (slV (neL ks ((qfc o).take z.1)).length z.2)),(21,IsSl tI64 (qfc o)),(22,Is (.int .i64 ((qfc o).length:Nat))),(23,Is (.int .i64 (z.1:Nat)))]) (fun z=>[blk i2 45 (tEp26.cells o),blk i4 84 (tEst.cells ⟨Pg.nil,0#32,i17,i18⟩),mp i17 qcr [],mp i18 qik [],buf (slV (neL ks ((qfc o).take z.1)).length z.2) 3 tI64 (neL ks ((qfc o).take z.1))]) (fun z=>(qfc o).length-z.1) (0,(none,0)) (Nat.zero_le _) qbz qab ?_
 rintro ⟨k,a⟩ hk
 dsimp only at hk ⊢
 refine t6 ?_
 refine cN ?_ ?_ <;> intro h3
 ·have hlt:k<(qfc o).length:=by have:=of_decide_eq_true h3;omega
  clear h3
  obtain ⟨x,hx⟩:∃ x,(qfc o)[k]?=some x:=⟨_,List.getElem?_eq_getElem hlt⟩
  have hnl:(neL ks ((qfc o).take k)).length≤7:=by have:=neL_len ks ((qfc o).take k);rw [List.length_take] at this;omega
  have hns:=neL_snoc (ks:=ks) hx
  refine t6 ?_
  refine qap rfl (by exact qam (j:=k) (er rfl) (er rfl) rfl rfl rf hx) ?_
  refine t8 ?_
  refine kR call52 (qmw ks x) ?_
  refine t4 ?_
  intro i10
  refine t10 ?_
  refine cN ?_ ?_ <;> intro h6
  ·rw [if_pos h6] at hns
   have hT:True:=trivial
   refine t3 ?_
   refine qap rfl (qac (size:=1) (qs:=[(0,_)]) rfl rfl rfl ⟨⟨rfl,_,(er rfl),qa6⟩,trivial⟩ rf rf) ?_
   (refine qew rfl (qb6 (er rfl) (fun _=>qae) (by exact Ev.sub rfl (by exact SubL.row (xs:=[x]) rf rf qg9)) (by exact qej rfl rfl rfl) qb8) ?_;intro i38)
   refine t8 ?_
   first
   | (have:=hT;exact qaa (k+1,_) (by dsimp only;omega) (by dsimp only;omega) (by dsimp only;rw [hns];exact qbz) (by dsimp only;rw [hns];exact qab))
   | exact qaa (k+1,a) (by dsimp only;omega) (by dsimp only;omega) (by dsimp only;rw [hns];exact qbz) (by dsimp only;rw [hns];exact qab)
  rw [if_neg (by rw [h6];simp),List.append_nil] at hns
  refine t7 ?_
  first
  | (have:=hT;exact qaa (k+1,_) (by dsimp only;omega) (by dsimp only;omega) (by dsimp only;rw [hns];exact qbz) (by dsimp only;rw [hns];exact qab))
  | exact qaa (k+1,a) (by dsimp only;omega) (by dsimp only;omega) (by dsimp only;rw [hns];exact qbz) (by dsimp only;rw [hns];exact qab)
 have hke:k=(qfc o).length:=by have:=of_decide_eq_false h3;omega
 clear h3
 subst hke
 rw [List.take_length]
 refine qa7 hX (v:=slV (neL ks (qfc o)).length a) (T:=tI64) (xs:=neL ks (qfc o)) qae ?_
 refine qb0 5 (IsSl tI64 (neL ks (qfc o))) rfl (SubL.fact qbw) ?_
 refine t13 ?_
 refine cN ?_ ?_ <;> intro h9
 ·rw [ifT h9] at hE
  subst hE
  refine t12 ?_
  exact qbv (Bs:=[ql7 ⟨Pg.nil,0#32,i17,i18⟩,IsSl tI64 (neL ks (qfc o)),Is (.int .i64 (-1)),Is (.int .i64 0)]) results20 eR (i17,i18) SubL.rfl' qab
 rw [ifF h9] at hE
 clear h9
 obtain ⟨V,hV⟩:∃ V,rdW o ks (qfc o) RW.nil=V:=⟨_,rfl⟩
 rw [hV] at hE
 subst hE
 dsimp only
 refine t6 ?_
 refine kR call51 (qrj o hr) ?_
 refine t5 ?_
 refine qbg (fun z:Nat×RW=>z.1≤(qfc o).length∧rdW o ks ((qfc o).drop z.1) z.2=V) (fun z=>[(1,IsSl tPg ks),(2,Is (.pointer (some ⟨i2,0,none⟩))),(4,Is (.pointer (some ⟨i4,0,none⟩))),(46,IsSl tI64 (qfc o)),(47,Is (.int .i64 ((qfc o).length:Nat))),(48,Is (.int .i64 (z.1:Nat)))]) (fun z=>[blk i2 45 (tEp26.cells o),blk i4 84 (tEst.cells ⟨z.2.pg,z.2.ep,i17,i18⟩),mp i17 qcr z.2.mp,mp i18 qik z.2.mn]) (fun z=>(qfc o).length-z.1) (0,RW.nil) ⟨Nat.zero_le _,hV⟩ qbz qab ?_
 rintro ⟨k,s⟩ ⟨hk,hs⟩
 dsimp only at hk hs ⊢
 clear hV
 refine t6 ?_
 refine cN ?_ ?_ <;> intro h12
 ·have hlt:k<(qfc o).length:=by have:=of_decide_eq_true h12;omega
  clear h12
  obtain ⟨x,hx⟩:∃ x,(qfc o)[k]?=some x:=⟨_,List.getElem?_eq_getElem hlt⟩
  have hxr:=hlr x (List.mem_of_getElem? hx)
  rw [qeo hx] at hs
  unfold rdW at hs
  refine t6 ?_
  refine qap rfl (by exact qam (j:=k) (er rfl) (er rfl) rfl rfl rf hx) ?_
  refine t8 ?_
  refine kR call52 (qmw ks x) ?_
  refine t4 ?_
  intro i14
  refine t15 ?_
  refine kR call53 (qqh _) ?_
  refine t2 ?_
  refine cN ?_ ?_ <;> intro h16
  ·rw [if_pos h16] at hs
   subst hs
   refine t12 ?_
   refine cN ?_ ?_ <;> intro h17
   ·have e:(if (x==97||o.kind != 3)=true then (-1:Int) else x-98) = -1:=if_pos h17
    rw [e]
    have hT:True:=trivial
    refine t21 ?_
    first
    | (have:=hT;exact qbv (Bs:=[ql7 ⟨s.pg,s.ep,i17,i18⟩,IsSl tI64 [],Is (.int .i64 (-1)),Is (.int .i64 3)]) results20 eR (i17,i18) SubL.rfl' qab)
    | exact qbv (Bs:=[ql7 ⟨s.pg,s.ep,i17,i18⟩,IsSl tI64 [],Is (.int .i64 (x-98)),Is (.int .i64 3)]) results20 eR (i17,i18) SubL.rfl' qab
   have e:(if (x==97||o.kind != 3)=true then (-1:Int) else x-98)=x-98:=if_neg (by rw [h17];simp)
   rw [e]
   refine t19 ?_
   first
   | (have:=hT;exact qbv (Bs:=[ql7 ⟨s.pg,s.ep,i17,i18⟩,IsSl tI64 [],Is (.int .i64 (-1)),Is (.int .i64 3)]) results20 eR (i17,i18) SubL.rfl' qab)
   | exact qbv (Bs:=[ql7 ⟨s.pg,s.ep,i17,i18⟩,IsSl tI64 [],Is (.int .i64 (x-98)),Is (.int .i64 3)]) results20 eR (i17,i18) SubL.rfl' qab
  rw [if_neg (by rw [h16];simp)] at hs
  clear h16
  refine t9 ?_
  refine qgs (fun _:Unit=>True) (fun _=>[(1,IsSl tPg ks),(2,Is (.pointer (some ⟨i2,0,none⟩))),(4,Is (.pointer (some ⟨i4,0,none⟩))),(7,Is (.int .i64 (rdC ks x))),(46,IsSl tI64 (qfc o)),(47,Is (.int .i64 ((qfc o).length:Nat))),(48,Is (.int .i64 (k:Nat)))]) (fun _=>[blk i2 45 (tEp26.cells o),blk i4 84 (tEst.cells ⟨(rdT ks x s).pg,(rdT ks x s).ep,i17,i18⟩),mp i17 qcr (rdT ks x s).mp,mp i18 qik (rdT ks x s).mn]) ?_ ?_
  rotate_left
  focus
   refine cN ?_ ?_ <;> intro h20
   ·have e1:rdT ks x s={ s with pg:=qbk ks x,ep:=(rdE (qbk ks x)).1 }:=by unfold rdT;rw [if_pos h20]
    have e2:rdC ks x=(rdE (qbk ks x)).2:=by unfold rdC;rw [if_pos h20]
    rw [e1,e2]
    refine t9 ?_
    refine kR call54 (qsm _) ?_
    refine t7 ?_
    exact qai () trivial qbz qab
   have e1:rdT ks x s={ s with mp:=qhm s.mp (x-98) (qbk ks x),mn:=qhm s.mn (x-98) (qc1 (qbk ks x)).1 }:=by unfold rdT;rw [if_neg (by rw [h20];simp)]
   have e2:rdC ks x=(qc1 (qbk ks x)).2:=by unfold rdC;rw [if_neg (by rw [h20];simp)]
   rw [e1,e2]
   refine t6 ?_
   refine qkl (qjc (V:=qcr) (v:=(qbk ks x)) (er rfl) (er rfl) evR qae rfl rfl) ?_
   refine t2 ?_
   refine qaz rfl (by kernel_rfl) ?_
   refine qc0 (it:=mp i18 qik _) (by repeat (first|exact Drop1.here _ _|apply Drop1.next)) ?_
   refine qc3 (its:=[_]) 10 (by kernel_rfl) ?_
   refine t4 ?_
   refine qbh (qad call55 (qwu _) ⟨evR,trivial⟩) ?_
   refine t3 ?_
   refine qcz (s:=99) rfl rfl rfl (by kernel_rfl) (fun c'=>by exact qjc (V:=qik) (v:=(qc1 (qbk ks x)).1) (er rfl) (er rfl) evR qae rfl rfl) ?_
   refine s1 ?_
   refine ⟨rfl,?_⟩
   intro _
   refine qar ?_
   exact qai () trivial qbz qab
  rintro _ _
  refine t6 ?_
  refine cN ?_ ?_ <;> intro h25
  ·rw [if_pos h25] at hs
   subst hs
   refine t16 ?_
   exact qbv (Bs:=[ql7 ⟨(rdT ks x s).pg,(rdT ks x s).ep,i17,i18⟩,IsSl tI64 [],Is (.int .i64 (-1)),Is (.int .i64 (rdC ks x))]) results20 eR (i17,i18) SubL.rfl' qab
  rw [if_neg (by rw [h25];simp)] at hs
  clear h25
  refine t7 ?_
  exact qaa (k+1,rdT ks x s) ⟨by dsimp only;omega,hs⟩ (by dsimp only;omega) qbz qab
 have hke:k=(qfc o).length:=by have:=of_decide_eq_false h12;omega
 clear h12
 subst hke
 rw [List.drop_length] at hs
 have hs':(s,(-1:Int),(0:Int))=V:=hs
 subst hs'
 refine t15 ?_
 exact qbv (Bs:=[ql7 ⟨s.pg,s.ep,i17,i18⟩,IsSl tI64 [],Is (.int .i64 (-1)),Is (.int .i64 0)]) results20 eR (i17,i18) SubL.rfl' qab
theorem qld (s:Est) (n:Nd) (l:List (Int×Pg)) (c0:Int) (p:Pg) (hmg:qfy l c0=some p):Fn Tryz.prog 56 [ql7 s,Is (.int .i64 c0),qik n] [mp s.b1 qcr l] (fun _:Unit=>IsSl tPg [(qck p n).1]) (fun _=>[mp s.b1 qcr l]):=by
 refine Fn.enterN func56 ntmps56 rfl rfl ?_
 intro c hX
 refine t3 ?_
 intro i3
 refine s1 ?_
 intro i5
 refine t8 ?_
 refine qap rfl (qe7 hmg (er rfl) qbw (er rfl) rfl rfl rfl) ?_
 refine s1 ?_
 refine kR call87 (qur _ _) ?_
 refine t4 ?_
 intro i7
 refine t7 ?_
 refine qap rfl (qac (size:=9) (qs:=[(0,_)]) rfl rfl rfl ⟨⟨rfl,_,(er rfl),qa6⟩,trivial⟩ rf rf) ?_
 refine t4 ?_
 exact qay results56 rfl () (SubL.row (xs:=[(qck p n).1]) rf rf qg9) (by repeat (first|exact List.Sublist.refl _|apply List.Sublist.cons))
theorem row97:∀ φ v,(qeu 1 1 [Is (.int .i64 97)]).ok φ v→(IsSl tI64 [97]).ok φ v:=fun φ v h=>SubL.row (L:=[]) (T:=tI64) (xs:=[(97:Int)]) (As:=[Is (.int .i64 97)]) rf rf (show SubLs [] [Is (.int .i64 97)] [Is (.int .i64 97)] from ⟨SubL.rfl',trivial⟩) φ v (fun _ hx=>nomatch hx) h
theorem pin_ok (s:Est) (o:Ep26) (l:List (Int×Pg)) (ln:List (Int×Nd)) (n:Nd) (p:Pg) (hmp:qfy l o.client=some p) (hmn:qfy ln o.client=some n):Fn Tryz.prog 21 [ql7 s,qfx o] [mp s.b1 qcr l,mp s.b2 qik ln]
  (fun _:Unit=>qbu [IsSl tPg (pnP n p s.ep o.inc).1,qec (pnP n p s.ep o.inc).2]) (fun _=>[mp s.b1 qcr l,mp s.b2 qik ln]):=by
 refine Fn.enterN func21 ntmps21 rfl rfl ?_
 intro c hX
 refine t3 ?_
 intro i2
 refine s1 ?_
 intro i3
 refine t2 ?_
 intro i5
 refine t8 ?_
 refine qap rfl (qe7 hmn (er rfl) qbw (er rfl) rfl rfl rfl) ?_
 refine s1 ?_
 intro i6
 refine t17 ?_
 refine cN ?_ ?_ <;> intro h2
 ·have e:pnP n p s.ep o.inc=([],⟨17,0#32,0,[],[]⟩):=by unfold pnP;rw [if_pos h2];rfl
  rw [e]
  refine t9 ?_
  exact qbv (Bs:=[IsSl tPg [],qec ⟨17,0#32,0,[],[]⟩]) results21 eR () SubL.rfl' qab
 have e:pnP n p s.ep o.inc=([(qck p ({ n with pin:=true,ep:=s.ep,inc:=o.inc })).1],⟨0,s.ep,0,[],[97]⟩):=by unfold pnP;rw [if_neg (by rw [h2];simp)]
 rw [e]
 refine t3 ?_
 refine qaz rfl (by kernel_rfl) ?_
 refine qc0 (it:=blk i6 94 _) (by repeat (exact Drop1.here _ _)) ?_
 refine qfi (its:=[_]) ?_
 refine f1 0 ?_
 refine f1 1 ?_
 refine f1 2 ?_
 refine f1 3 ?_
 refine f1 4 ?_
 refine JF_g (s:=38) 5 rfl (by kernel_rfl) rfl (by kernel_rfl) (fun c'=>by exact qa2 (er rfl) (er rfl) qa6 qae rf rf rf) ?_
 refine f1 6 ?_
 refine JF_g (s:=38) 7 rfl (by kernel_rfl) rfl (by kernel_rfl) (fun c'=>by exact qa2 (er rfl) (er rfl) qa6 qae rf rf rf) ?_
 refine f1 8 ?_
 refine JF_g (s:=38) 9 rfl (by kernel_rfl) rfl (by kernel_rfl) (fun c'=>by exact qa2 (er rfl) (er rfl) qa6 qae rf rf rf) ?_
 refine qd0 (by kernel_rfl) rfl ?_
 intro _
 show JQ _ _ _ _ _ _
 refine t2 ?_
 refine qer (b:=i2) qae (qko hX) ?_
 refine qb0 2 (qc4 (tEst.cells s)) rfl (SubL.fact qbw) ?_
 refine qaz rfl (by kernel_rfl) ?_
 refine qfi (its:=[]) ?_
 refine f1 0 ?_
 refine f1 1 ?_
 refine f1 2 ?_
 refine f1 3 ?_
 refine qfz 5 rfl (by kernel_rfl) (fun _=>(qa0 (k:=9) (Rs:=[Is (.int .u32 (UV s.ep)),Is (.map (some s.b1)),Is (.map (some s.b2))]) (er rfl) rfl rfl rfl rfl rfl)) ?_
 refine qfz 6 rfl (by kernel_rfl) (fun _=>(qbx (B:=Is (.int .u32 (UV s.ep))) (er rfl) rfl rfl rfl)) ?_
 refine qfz 7 rfl (by kernel_rfl) (fun _=>(OpP.sub (qcm (Rs:=[Is (.int .i64 97)]) (size:=1) (qs:=[(0,[Is (.int .i64 97)])]) rfl rfl rfl ⟨⟨rfl,_,(er rfl),qa6⟩,trivial⟩ rf rf) row97)) ?_
 refine qfz 8 rfl (by kernel_rfl) (fun _=>(qib (qs:=[(1,[Is (.int .u32 (UV s.ep))]),(4,[IsSl tI64 [97]])]) rfl rfl rfl rfl ⟨⟨rfl,_,(er rfl),qa6⟩,⟨⟨rfl,_,(er rfl),qa6⟩,trivial⟩⟩ rf qbm)) ?_
 (refine JF_b 4 [0,1,2,3,4] rfl (by kernel_rfl) (fun c'=>by exact qf7 (Drops.cons qhi (Drops.nil _)) call56 (qld s ({ n with pin:=true,ep:=s.ep,inc:=o.inc }) l o.client p hmp) ⟨evR,⟨evR,⟨evR,trivial⟩⟩⟩) ?_;intro i33)
 refine f1 9 ?_
 refine qe6 10 [0,1,2,3,4,5,6,7,8,9,10] rfl (by kernel_rfl) (fun c'=>by exact qa2 (er rfl) (er rfl) qa6 qae rf rf rf) ?_
 refine qd0 (by kernel_rfl) rfl ?_
 show JQ _ _ _ _ _ _
 refine t2 ?_
 exact qbv (Bs:=[IsSl tPg [(qck p ({ n with pin:=true,ep:=s.ep,inc:=o.inc })).1],qec ⟨0,s.ep,0,[],[97]⟩]) results21 eR () SubL.rfl' qab
theorem qw5 (s:Est) (c0:Int) (same:Bool) (l:List (Int×Pg)) (ln:List (Int×Nd)) (n:Nd) (p:Pg) (hmp:qfy l c0=some p) (hmn:qfy ln c0=some n):Fn Tryz.prog 22 [ql7 s,Is (.int .i64 c0),Is (.bool same)] [mp s.b1 qcr l,mp s.b2 qik ln]
  (fun _:Unit=>qbu [IsSl tPg (unP n p same).1,qec (unP n p same).2]) (fun _=>[mp s.b1 qcr l,mp s.b2 qik ln]):=by
 refine Fn.enterN func22 ntmps22 rfl rfl ?_
 intro c hX
 refine t3 ?_
 intro i3
 refine t2 ?_
 intro i7
 refine t7 ?_
 refine qap rfl (qe7 hmn (er rfl) qbw (er rfl) rfl rfl rfl) ?_
 refine s1 ?_
 intro i8
 refine t15 ?_
 refine cN ?_ ?_ <;> intro h2
 ·have e:unP n p same=([],⟨16,0#32,0,[],[]⟩):=by unfold unP;rw [if_pos h2];rfl
  rw [e]
  refine t9 ?_
  exact qbv (Bs:=[IsSl tPg [],qec ⟨16,0#32,0,[],[]⟩]) results22 eR () SubL.rfl' qab
 have e:unP n p same=([(qck p ({ n with pin:=false,ep:=0#32 })).1],⟨0,n.ep,0,[],[]⟩):=by unfold unP;rw [if_neg (by rw [h2];simp)]
 rw [e]
 refine t8 ?_
 intro i9
 refine t12 ?_
 refine qer (b:=i9) qae (qko hX) ?_
 refine qb0 9 (qc4 [Is (.int .i64 0),Is (.int .u32 (UV n.ep)),Is (.int .i64 0),Is (.slice none 0 0),Is (.slice none 0 0)]) rfl (SubL.fact qbw) ?_
 refine qaz rfl (by kernel_rfl) ?_
 refine qfi (its:=[]) ?_
 refine f1 0 ?_
 refine f1 1 ?_
 refine f1 2 ?_
 refine qfz 4 rfl (by kernel_rfl) (fun _=>(by exact qb2 (n:=5) (er rfl) rfl rfl rfl rf qbm)) ?_
 (refine JF_b 3 [0,1,2,3] rfl (by kernel_rfl) (fun c'=>by exact qf7 (Drops.cons qhi (Drops.nil _)) call56 (qld s ({ n with pin:=false,ep:=0#32 }) l c0 p hmp) ⟨evR,⟨evR,⟨evR,trivial⟩⟩⟩) ?_;intro i30)
 refine f1 5 ?_
 refine qe6 6 [0,1,2,3,4,5,6] rfl (by kernel_rfl) (fun c'=>by exact qa2 (er rfl) (er rfl) qa6 qae rf rf rf) ?_
 refine qd0 (by kernel_rfl) rfl ?_
 show JQ _ _ _ _ _ _
 refine t2 ?_
 exact qbv (Bs:=[IsSl tPg [(qck p ({ n with pin:=false,ep:=0#32 })).1],qec ⟨0,n.ep,0,[],[]⟩]) results22 eR () SubL.rfl' qab
theorem wadd1 {e:BitVec 32} (h:¬ UV e=4294967295):IntKind.u32.wrap (UV e+1)=UV (e+1#32):=by
 have h1:=UV_lt e
 have h2:=qbq e
 rw [wU32 ⟨by omega,by omega⟩]
 unfold UV at *
 rw [BitVec.toNat_add]
 simp at *
 omega
theorem six0_at {k:Nat} (h:k<6):(qkj 6)[k]?=some (k:Int):=by
 match k,h with
 | 0,_|1,_|2,_|3,_|4,_|5,_=>rfl
theorem qwr (s:Est) (o:Ep26) (N:Int→Nd) (ln:List (Int×Nd)) (hk3:o.kind=3) (hmn:∀ c,c∈qkj 6→qfy ln c=some (N c)):Fn Tryz.prog 23 [ql7 s,qfx o] [mp s.b2 qik ln]
  (fun _:Unit=>qbu [IsSl tPg (adL N s.pg s.ep (qkj 6)).1,qec (adL N s.pg s.ep (qkj 6)).2]) (fun _=>[mp s.b2 qik ln]):=by
 obtain ⟨W,hE⟩:∃ W,adL N s.pg s.ep (qkj 6)=W:=⟨_,rfl⟩
 rw [hE]
 have hnv:qbn o=qkj 6:=by unfold qbn;rw [hk3];rfl
 have hlv:qfc o=97 :: qu5 6:=by unfold qfc zdt;rw [hnv,hk3];rfl
 have hns:=qyd o
 rw [hnv] at hns
 have hls:=qrj o (fun c hc=>by
  rw [hnv] at hc
  obtain ⟨i,hi,rfl⟩:=List.mem_map.1 hc
  have:=List.mem_range.1 hi
  omega)
 rw [hlv] at hls
 refine Fn.enterN func23 ntmps23 rfl rfl ?_
 intro c hX
 refine t3 ?_
 intro i2
 refine s1 ?_
 intro i3
 refine t2 ?_
 intro i5
 refine t6 ?_
 refine kR call57 (hns) ?_
 refine t5 ?_
 refine qbg (fun k:Nat=>k≤6∧adL N s.pg s.ep ((qkj 6).drop k)=W) (fun k=>[(2,Is (.pointer (some ⟨i2,0,none⟩))),(3,Is (.pointer (some ⟨i3,0,none⟩))),(5,Is (.pointer (some ⟨i5,0,none⟩))),(12,IsSl tI64 (qkj 6)),(13,Is (.int .i64 (6:Nat))),(14,Is (.int .i64 (k:Nat)))]) (fun k=>[blk i2 84 (tEst.cells s),blk i3 45 (tEp26.cells o),blk i5 60 [Is (.int .i64 0),Is (.int .u32 0),Is (.int .i64 0),Is (.slice none 0 0),Is (.slice none 0 0)],mp s.b2 qik ln]) (fun k=>6-k) 0 ⟨Nat.zero_le _,hE⟩ qbz qab ?_
 rintro k ⟨hk,hs⟩
 refine t6 ?_
 refine cN ?_ ?_ <;> intro h2
 ·have hlt:k<6:=by have:=of_decide_eq_true h2;omega
  clear h2
  have hx:=six0_at hlt
  have hmk:=hmn _ (List.mem_of_getElem? hx)
  rw [qeo hx] at hs
  unfold adL at hs
  refine t6 ?_
  refine qap rfl (by exact qam (j:=k) (er rfl) (er rfl) rfl rfl rf hx) ?_
  refine t9 ?_
  refine qap rfl (qe7 hmk (er rfl) qbw (er rfl) rfl rfl rfl) ?_
  refine s1 ?_
  intro i8
  refine t16 ?_
  refine cN ?_ ?_ <;> intro h5
  ·have hb:((N (k:Int)).pin&&UV (N (k:Int)).ep != UV s.ep)=true:=h5
   rw [if_pos hb] at hs
   subst hs
   refine t14 ?_
   exact qbv (Bs:=[IsSl tPg [],qec ⟨3,0#32,(k:Int),[],[]⟩]) results23 eR () SubL.rfl' qab
  have hb:((N (k:Int)).pin&&UV (N (k:Int)).ep != UV s.ep)=false:=h5
  rw [if_neg (by rw [hb];simp)] at hs
  refine t7 ?_
  exact qaa (k+1) ⟨by omega,hs⟩ (by omega) qbz qab
 have hke:k=6:=by have:=of_decide_eq_false h2;omega
 clear h2
 subst hke
 have hs':adF s.pg s.ep=W:=hs
 clear hs
 unfold adF at hs'
 refine t13 ?_
 refine cN ?_ ?_ <;> intro h8
 ·rw [if_pos h8] at hs'
  subst hs'
  refine t9 ?_
  exact qbv (Bs:=[IsSl tPg [],qec ⟨12,0#32,0,[],[]⟩]) results23 eR () SubL.rfl' qab
 rw [if_neg (by rw [h8];simp)] at hs'
 subst hs'
 have hwa:=wadd1 (e:=s.ep) (by simpa using h8)
 refine t8 ?_
 refine qap rfl (qjd (er rfl) (er rfl) hwa) ?_
 refine kR call58 (qpe _ _) ?_
 refine t4 ?_
 intro i9
 refine t5 ?_
 refine qaz rfl (by kernel_rfl) ?_
 refine qaf 10 (by kernel_rfl) ?_
 refine s1 ?_
 refine qbh (qac (size:=9) (qs:=[(0,_)]) rfl rfl rfl ⟨⟨rfl,_,(er rfl),qa6⟩,trivial⟩ rf rf) ?_
 refine t2 ?_
 refine qbh (qjd (er rfl) (er rfl) hwa) ?_
 refine s1 ?_
 refine qbh (qad call51 (hls) ⟨evR,trivial⟩) ?_
 refine qbh (qcx (er rfl) rfl rfl ⟨_,_,(er rfl),(show _=((1:Nat):Int) from rfl)⟩ rfl (by simp) (by exact Nat.le_refl _)) ?_
 refine t2 ?_
 refine ⟨rfl,?_⟩
 refine qeb (by kernel_rfl) rfl (qas (er rfl) (er rfl) qa6 qae qbm rf rf rf) ?_
 refine qar ?_
 refine t2 ?_
 exact qbv (Bs:=[IsSl tPg [(za6 s.pg (s.ep+1#32)).1],qec ⟨0,s.ep+1#32,0,[],qu5 6⟩]) results23 eR () SubL.rfl' qab
theorem zdl (n:Nd) {k:Nat} (hk:k<4):(((tNd.cells n).drop 4).drop (k*3)).take 3=tRe.cells (qfr n k):=by
 rcases e4 hk with rfl|rfl|rfl|rfl <;> rfl
theorem qzt (s:Est) (o:Ep26) (l:List (Int×Pg)) (ln:List (Int×Nd)) (n:Nd) (pg:Pg) (hol:o.list.length≤4) (hmp:qfy l o.client=some pg) (hmn:qfy ln o.client=some n) :
  Fn Tryz.prog 24 [ql7 s,qfx o] [mp s.b1 qcr l,mp s.b2 qik ln]
  (fun _:Unit=>qbu [IsSl tPg (rtA o.list pg s.ep n 4 0 0).1,qec (rtA o.list pg s.ep n 4 0 0).2]) (fun _=>[mp s.b1 qcr l,mp s.b2 qik ln]):=by
 obtain ⟨W,hE⟩:∃ W,rtA o.list pg s.ep n 4 0 0=W:=⟨_,rfl⟩
 rw [hE]
 refine Fn.enterN func24 ntmps24 rfl rfl ?_
 intro c hX
 refine t3 ?_
 intro i2
 refine s1 ?_
 intro i3
 refine t2 ?_
 intro i5
 refine t8 ?_
 refine qap rfl (qe7 hmn (er rfl) qbw (er rfl) rfl rfl rfl) ?_
 refine s1 ?_
 intro i6
 refine t17 ?_
 refine qbg (fun z:Nat×Nat=>z.1≤4∧z.2≤z.1∧rtA o.list pg s.ep n (4-z.1) z.1 z.2=W) (fun z=>[(2,Is (.pointer (some ⟨i2,0,none⟩))),(3,Is (.pointer (some ⟨i3,0,none⟩))),(5,Is (.pointer (some ⟨i5,0,none⟩))),(6,Is (.pointer (some ⟨i6,0,none⟩))),(7,Is (.int .i64 (z.2:Nat))),(19,IsAgg ((tNd.cells n).drop 4)),(20,Is (.int .i64 (z.1:Nat)))]) (fun _=>[blk i2 84 (tEst.cells s),blk i3 45 (tEp26.cells o),blk i5 60 [Is (.int .i64 0),Is (.int .u32 0),Is (.int .i64 0),Is (.slice none 0 0),Is (.slice none 0 0)],blk i6 94 (tNd.cells n),mp s.b1 qcr l,mp s.b2 qik ln]) (fun z=>4-z.1) (0,0) ⟨Nat.zero_le _,Nat.le_refl _,hE⟩ qbz qab ?_
 rintro ⟨k,fr⟩ ⟨hk,hfr,hs⟩
 dsimp only at hk hfr hs ⊢
 clear hE
 refine t6 ?_
 refine cN ?_ ?_ <;> intro h4
 ·have hk4:k<4:=by have:=of_decide_eq_true h4;omega
  clear h4
  rw [qt2 hk4] at hs
  unfold rtA at hs
  refine t6 ?_
  refine qap rfl (qhc (k:=k) (sz:=3) (er rfl) (er rfl) rfl rfl rfl rfl rfl hk4 (zdl n hk4)) ?_
  refine s1 ?_
  intro i9
  refine t8 ?_
  refine qap rfl (qdu (vs:=Re.cells (qfr n k)) (ws:=Re.cells Re.nil) (er rfl) evR (qf3 _ _ _ (qfr n k) Re.nil) (qkg (qfr n k) Re.nil)) ?_
  refine t3 ?_
  refine cN ?_ ?_ <;> intro h6
  ·rw [if_pos h6] at hs
   have hT:True:=trivial
   refine t12 ?_
   first
   | (have:=hT;exact qaa (k+1,fr+1) ⟨by dsimp only;omega,by dsimp only;omega,hs⟩ (by dsimp only;omega) qbz qab)
   | exact qaa (k+1,fr) ⟨by dsimp only;omega,by dsimp only;omega,hs⟩ (by dsimp only;omega) qbz qab
  rw [if_neg (by rw [h6];simp)] at hs
  refine t6 ?_
  refine qap rfl (by ((refine qad call59 (qma o.list _ ?_) ⟨evR,⟨evR,trivial⟩⟩);all_goals (omega))) ?_
  refine t3 ?_
  refine cN ?_ ?_ <;> intro h8
  ·rw [if_pos h8] at hs
   subst hs
   refine t14 ?_
   exact qbv (Bs:=[IsSl tPg [],qec ⟨17,0#32,0,[],[]⟩]) results24 eR () SubL.rfl' qab
  rw [if_neg (by rw [h8];simp)] at hs
  clear h8
  refine t8 ?_
  first
  | (have:=hT;exact qaa (k+1,fr+1) ⟨by dsimp only;omega,by dsimp only;omega,hs⟩ (by dsimp only;omega) qbz qab)
  | exact qaa (k+1,fr) ⟨by dsimp only;omega,by dsimp only;omega,hs⟩ (by dsimp only;omega) qbz qab
 have hke:k=4:=by have:=of_decide_eq_false h4;omega
 clear h4
 subst hke
 have hs':(if decide ((fr:Int)<(o.list.length:Int))=true then (([],outZ 12):List Pg×EO26) else rtF pg s.ep n 4 0 n o.list)=W:=hs
 clear hs
 refine t15 ?_
 refine cN ?_ ?_ <;> intro h11
 ·rw [if_pos h11] at hs'
  subst hs'
  refine t9 ?_
  exact qbv (Bs:=[IsSl tPg [],qec ⟨12,0#32,0,[],[]⟩]) results24 eR () SubL.rfl' qab
 rw [if_neg (by rw [h11];simp)] at hs'
 clear h11
 refine t18 ?_
 refine qbg (fun z:Nat×Nd×List Pt=>z.1≤4∧z.2.2.length≤4∧rtF pg s.ep n (4-z.1) z.1 z.2.1 z.2.2=W) (fun z=>[(2,Is (.pointer (some ⟨i2,0,none⟩))),(3,Is (.pointer (some ⟨i3,0,none⟩))),(5,Is (.pointer (some ⟨i5,0,none⟩))),(6,Is (.pointer (some ⟨i6,0,none⟩))),(10,IsSl tPt z.2.2),(46,IsAgg ((tNd.cells n).drop 4)),(47,Is (.int .i64 (z.1:Nat)))]) (fun z=>[blk i2 84 (tEst.cells s),blk i3 45 (tEp26.cells o),blk i5 60 [Is (.int .i64 0),Is (.int .u32 0),Is (.int .i64 0),Is (.slice none 0 0),Is (.slice none 0 0)],blk i6 94 (tNd.cells z.2.1),mp s.b1 qcr l,mp s.b2 qik ln]) (fun z=>4-z.1) (0,n,o.list) ⟨Nat.zero_le _,hol,hs'⟩ qbz qab ?_
 rintro ⟨k,m,rs⟩ ⟨hk,hrl,hs⟩
 dsimp only at hk hrl hs ⊢
 clear hs'
 refine t6 ?_
 refine cN ?_ ?_ <;> intro h15
 ·have hk4:k<4:=by have:=of_decide_eq_true h15;omega
  clear h15
  rw [qt2 hk4] at hs
  unfold rtF at hs
  refine t7 ?_
  refine qap rfl (qhc (k:=k) (sz:=3) (er rfl) (er rfl) rfl rfl rfl rfl rfl hk4 (zdl n hk4)) ?_
  refine s1 ?_
  intro i12
  refine t8 ?_
  refine qap rfl (qdu (vs:=Re.cells (qfr n k)) (ws:=Re.cells Re.nil) (er rfl) evR (qf3 _ _ _ (qfr n k) Re.nil) (qkg (qfr n k) Re.nil)) ?_
  refine t7 ?_
  refine cN ?_ ?_ <;> intro h17
  ·rw [if_pos h17] at hs
   obtain ⟨q,rs',hq⟩:∃ q rs',rs=q :: rs':=by
    match rs,h17 with
    | [],h=>simp at h
    | q :: rs',_=>exact ⟨q,rs',rfl⟩
   subst hq
   have hp0:(q :: rs')[0]?=some q:=rfl
   have hrl':rs'.length≤4:=by simp at hrl;omega
   have hT:True:=trivial
   clear h17
   refine s1 ?_
   refine qaz rfl (by kernel_rfl) ?_
   refine qaf 9 (by kernel_rfl) ?_
   refine t2 ?_
   refine qbh (by exact qam (j:=0) (er rfl) (er rfl) rfl rfl rf hp0) ?_
   refine t5 ?_
   refine qbh (qal (k:=k) (sz:=3) (er rfl) (er rfl) rfl rfl rfl hk4) ?_
   refine ⟨rfl,?_⟩
   refine qeb (by kernel_rfl) rfl (qas (Rs:=tNd.cells (qha m k ⟨q,s.ep⟩)) (er rfl) (er rfl) qa6 qae (qxi m ⟨q,s.ep⟩ hk4) rf rf (qpq m hk4)) ?_
   refine qar ?_
   refine t3 ?_
   refine qap rfl (qcx (er rfl) rfl rfl ⟨_,_,(er rfl),(show _=((1:Nat):Int) from rfl)⟩ rfl (by simp) (by exact Nat.le_refl _)) ?_
   refine t4 ?_
   rw [show List.drop 1 (List.take (q :: rs').length (q :: rs'))=rs' by rw [List.take_length];rfl]
   refine t4 ?_
   first
   | (have:=hT;exact qaa (k+1,qha m k ⟨q,s.ep⟩,rs') ⟨by dsimp only;omega,hrl',hs⟩ (by dsimp only;omega) qbz qab)
   | exact qaa (k+1,m,rs) ⟨by dsimp only;omega,hrl,hs⟩ (by dsimp only;omega) qbz qab
  rw [if_neg (by rw [h17];simp)] at hs
  refine t7 ?_
  first
  | (have:=hT;exact qaa (k+1,qha m k ⟨q,s.ep⟩,rs') ⟨by dsimp only;omega,hrl',hs⟩ (by dsimp only;omega) qbz qab)
  | exact qaa (k+1,m,rs) ⟨by dsimp only;omega,hrl,hs⟩ (by dsimp only;omega) qbz qab
 have hke:k=4:=by have:=of_decide_eq_false h15;omega
 clear h15
 subst hke
 have hs2:([(qck pg m).1],(⟨0,s.ep,0,[],[97]⟩:EO26))=W:=hs
 subst hs2
 refine qer (b:=i2) qae (qko hX) ?_
 refine qb0 2 (qc4 (tEst.cells s)) rfl (SubL.fact qbw) ?_
 refine t6 ?_
 refine qaz rfl (by kernel_rfl) ?_
 refine qfi (its:=[]) ?_
 refine f1 0 ?_
 refine f1 1 ?_
 refine f1 2 ?_
 refine f1 3 ?_
 refine qfz 5 rfl (by kernel_rfl) (fun _=>(qa0 (k:=9) (Rs:=[Is (.int .u32 (UV s.ep)),Is (.map (some s.b1)),Is (.map (some s.b2))]) (er rfl) rfl rfl rfl rfl rfl)) ?_
 refine qfz 6 rfl (by kernel_rfl) (fun _=>(qbx (B:=Is (.int .u32 (UV s.ep))) (er rfl) rfl rfl rfl)) ?_
 refine qfz 7 rfl (by kernel_rfl) (fun _=>(OpP.sub (qcm (Rs:=[Is (.int .i64 97)]) (size:=1) (qs:=[(0,[Is (.int .i64 97)])]) rfl rfl rfl ⟨⟨rfl,_,(er rfl),qa6⟩,trivial⟩ rf rf) row97)) ?_
 refine qfz 8 rfl (by kernel_rfl) (fun _=>(qib (qs:=[(1,[Is (.int .u32 (UV s.ep))]),(4,[IsSl tI64 [97]])]) rfl rfl rfl rfl ⟨⟨rfl,_,(er rfl),qa6⟩,⟨⟨rfl,_,(er rfl),qa6⟩,trivial⟩⟩ rf qbm)) ?_
 (refine JF_b 4 [0,1,2,3,4] rfl (by kernel_rfl) (fun c'=>by exact qf7 (Drops.cons qhi (Drops.nil _)) call56 (qld s m l o.client pg hmp) ⟨evR,⟨evR,⟨evR,trivial⟩⟩⟩) ?_;intro i75)
 refine f1 9 ?_
 refine qe6 10 [0,1,2,3,4,5,6,7,8,9,10] rfl (by kernel_rfl) (fun c'=>by exact qa2 (er rfl) (er rfl) qa6 qae rf rf rf) ?_
 refine qd0 (by kernel_rfl) rfl ?_
 show JQ _ _ _ _ _ _
 refine t2 ?_
 exact qbv (Bs:=[IsSl tPg [(qck pg m).1],qec ⟨0,s.ep,0,[],[97]⟩]) results24 eR () SubL.rfl' qab
theorem zdy (ks:List Pg) (lines:Int) {l:List Pt} (hl:l.length≤2):(qmn ks lines l).writes.length≤4:=by
 unfold qmn
 split
 ·exact Nat.zero_le _
 ·have h:=qrs ks lines l l [] []
  have:=h.1.1
  omega
theorem qwi (s:Est) (o:Ep26) (ks:List Pg) (l:List (Int×Pg)) (ln:List (Int×Nd)) (n:Nd) (pg:Pg) (hmp:qfy l o.for_=some pg) (hmn:qfy ln o.for_=some n) :
  Fn Tryz.prog 25 [ql7 s,qfx o,IsSl tPg ks] [mp s.b1 qcr l,mp s.b2 qik ln]
  (fun _:Unit=>qbu [IsSl tI64 (clZ o.lines pg s.ep ks (clL s.ep n 4 0 n [])).1,IsSl tPg (clZ o.lines pg s.ep ks (clL s.ep n 4 0 n [])).2.1,qec (clZ o.lines pg s.ep ks (clL s.ep n 4 0 n [])).2.2.1,Is (.bool (clZ o.lines pg s.ep ks (clL s.ep n 4 0 n [])).2.2.2)]) (fun _=>[mp s.b1 qcr l,mp s.b2 qik ln]):=by
 obtain ⟨V,hV⟩:∃ V,clL s.ep n 4 0 n []=V:=⟨_,rfl⟩
 rw [hV]
 obtain ⟨W,hE⟩:∃ W,clZ o.lines pg s.ep ks V=W:=⟨_,rfl⟩
 rw [hE]
 refine Fn.enterN func25 ntmps25 rfl rfl ?_
 intro c hX
 refine t3 ?_
 intro i3
 refine s1 ?_
 intro i4
 refine t3 ?_
 intro i8
 refine t9 ?_
 refine qap rfl (qe7 hmn (er rfl) qbw (er rfl) rfl rfl rfl) ?_
 refine s1 ?_
 intro i10
 refine t10 ?_
 refine qcd 51 tPt ?_
 refine t7 ?_
 refine qbg (fun z:(Nat×Nd×List Pt)×WA=>z.1.1≤4∧z.1.2.2.length≤2∧clL s.ep n (4-z.1.1) z.1.1 z.1.2.1 z.1.2.2=V) (fun z=>[(2,IsSl tPg ks),(3,Is (.pointer (some ⟨i3,0,none⟩))),(4,Is (.pointer (some ⟨i4,0,none⟩))),(8,Is (.pointer (some ⟨i8,0,none⟩))),(10,Is (.pointer (some ⟨i10,0,none⟩))),(11,Is (slV z.1.2.2.length z.2)),(21,IsAgg ((tNd.cells n).drop 4)),(22,Is (.int .i64 (z.1.1:Nat)))]) (fun z=>[blk i3 84 (tEst.cells s),blk i4 45 (tEp26.cells o),blk i8 60 [Is (.int .i64 0),Is (.int .u32 0),Is (.int .i64 0),Is (.slice none 0 0),Is (.slice none 0 0)],blk i10 94 (tNd.cells z.1.2.1),buf (slV z.1.2.2.length z.2) 51 tPt z.1.2.2,mp s.b1 qcr l,mp s.b2 qik ln]) (fun z=>4-z.1.1) ((0,n,[]),(none,0)) ⟨Nat.zero_le _,Nat.zero_le _,hV⟩ qbz qab ?_
 rintro ⟨⟨k,m,fr⟩,a⟩ ⟨hk,hfl,hs⟩
 dsimp only at hk hfl hs ⊢
 clear hV
 refine t6 ?_
 refine cN ?_ ?_ <;> intro h4
 ·have hk4:k<4:=by have:=of_decide_eq_true h4;omega
  clear h4
  rw [qt2 hk4] at hs
  unfold clL takC at hs
  refine t7 ?_
  refine qap rfl (qhc (k:=k) (sz:=3) (er rfl) (er rfl) rfl rfl rfl rfl rfl hk4 (zdl n hk4)) ?_
  refine s1 ?_
  intro i13
  refine t8 ?_
  refine qap rfl (qdu (vs:=Re.cells (qfr n k)) (ws:=Re.cells Re.nil) (er rfl) evR (qf3 _ _ _ (qfr n k) Re.nil) (eqRe_neq (qfr n k) Re.nil)) ?_
  refine t5 ?_
  (refine qcp rfl rfl rfl (fun hg=>(by have hg0:=hg;(try simp at hg);exact qad call40 (qsi _ _) ⟨evR,⟨evR,trivial⟩⟩)) ?_)
  refine t8 ?_
  refine cN ?_ ?_ <;> intro h6
  ·have hh:((!decide (qfr n k=Re.nil)&&qqs s.ep (qfr n k).ep)&&decide ((fr.length:Int)<2))=true:=h6
   have hf2:fr.length<2:=by have:=of_decide_eq_true (Bool.and_eq_true_iff.1 hh).2;omega
   rw [if_pos hh] at hs
   have hT:True:=trivial
   clear h6
   refine t5 ?_
   refine qap rfl (qac (size:=2) (qs:=[(0,_)]) rfl rfl rfl ⟨⟨rfl,_,(er rfl),qa6⟩,trivial⟩ rf rf) ?_
   (refine qew rfl (qb6 (er rfl) (fun _=>qae) (by exact Ev.sub rfl (by exact SubL.row (xs:=[(qfr n k).to]) rf rf qg9)) (by exact qej rfl rfl rfl) qb8) ?_;intro i45)
   refine t7 ?_
   refine qap rfl (qal (k:=k) (sz:=3) (er rfl) (er rfl) rfl rfl rfl hk4) ?_
   refine qkl (qas (Rs:=tNd.cells (qha m k Re.nil)) (er rfl) (er rfl) qa6 qae (qxi m Re.nil hk4) rf rf (qpq m hk4)) ?_
   refine t7 ?_
   first
   | (have:=hT;exact qaa ((k+1,qha m k Re.nil,fr++[(qfr n k).to]),i45) ⟨by dsimp only;omega,by dsimp only;rw [List.length_append,List.length_singleton];omega,hs⟩ (by dsimp only;omega) qbz qab)
   | exact qaa ((k+1,m,fr),a) ⟨by dsimp only;omega,hfl,hs⟩ (by dsimp only;omega) qbz qab
  have hh:((!decide (qfr n k=Re.nil)&&qqs s.ep (qfr n k).ep)&&decide ((fr.length:Int)<2))=false:=h6
  rw [if_neg (by rw [hh];simp)] at hs
  clear h6
  refine t7 ?_
  first
  | (have:=hT;exact qaa ((k+1,qha m k Re.nil,fr++[(qfr n k).to]),i45) ⟨by dsimp only;omega,by dsimp only;rw [List.length_append,List.length_singleton];omega,hs⟩ (by dsimp only;omega) qbz qab)
  | exact qaa ((k+1,m,fr),a) ⟨by dsimp only;omega,hfl,hs⟩ (by dsimp only;omega) qbz qab
 have hke:k=4:=by have:=of_decide_eq_false h4;omega
 clear h4
 subst hke
 have hs':(m,fr)=V:=hs
 subst hs'
 clear hs
 unfold clZ at hE
 dsimp only at hE
 refine t13 ?_
 refine cN ?_ ?_ <;> intro h10
 ·rw [ifT h10] at hE
  subst hE
  refine t11 ?_
  exact qbv (Bs:=[IsSl tI64 [],IsSl tPg [],qec ⟨16,0#32,0,[],[]⟩,Is (.bool true)]) results25 eR () SubL.rfl' qab
 rw [ifF h10] at hE
 refine zaz (v:=slV fr.length a) (T:=tPt) (xs:=fr) qae (qko hX) ?_
 refine qb0 11 (IsSl tPt fr) rfl (SubL.fact qbw) ?_
 refine t8 ?_
 refine kR call60 (FreeP_ok ks _ fr) ?_
 refine t12 ?_
 obtain ⟨F,hF⟩:∃ F,qmn ks o.lines fr=F:=⟨_,rfl⟩
 have hwl:F.writes.length+([(qck pg m).1]:List Pg).length≤19:=by
  have:=zdy ks o.lines hfl
  rw [hF] at this
  simp;omega
 rw [hF] at hE ⊢
 unfold clY at hE
 refine qb1 [(3,_),(4,_),(6,_),(7,_),(8,_),(9,_),(10,_),(11,_)] [blk i10 _ _,blk i8 _ _,blk i4 _ _,blk i3 _ _] (fun yc:Int=>yc=zao F∧F.over=true) (fun yc=>[(14,Is (.int .i64 yc))]) (fun yc=>[mp s.b1 qcr l,mp s.b2 qik ln]) qbz qab ?_ ?_
 rotate_left
 focus
  refine t8 ?_
  refine cN ?_ ?_ <;> intro h13
  ·rw [ifT h13] at hE
   subst hE
   refine t13 ?_
   exact qbv (Bs:=[IsSl tI64 F.need,IsSl tPg [],qec ⟨0,0#32,0,[],[]⟩,Is (.bool false)]) results25 eR () SubL.rfl' qab
  refine t7 ?_
  refine cN ?_ ?_ <;> intro h15
  ·refine t4 ?_
   exact qai (14:Int) ⟨by unfold zao;rw [if_pos h15],by simpa using h13⟩ qbz qab
  refine t2 ?_
  exact qai F.code ⟨by unfold zao;rw [if_neg (by rw [h15];simp)],by simpa using h13⟩ qbz qab
 rintro cd ⟨hI,hov⟩
 subst hI
 rw [ifF (show (!F.over)=false by rw [hov];rfl)] at hE
 refine t7 ?_
 refine cN ?_ ?_ <;> intro h17
 ·rw [ifT h17] at hE
  subst hE
  refine t12 ?_
  exact qbv (Bs:=[IsSl tI64 [],IsSl tPg [],qec ⟨zao F,0#32,0,[],[]⟩,Is (.bool true)]) results25 eR () SubL.rfl' qab
 rw [ifF h17] at hE
 subst hE
 refine t9 ?_
 (refine qew rfl (qf7 (Drops.cons qhi (Drops.nil _)) call56 (qld s m l o.for_ pg hmp) ⟨evR,⟨evR,⟨evR,trivial⟩⟩⟩) ?_;intro i82)
 refine qap rfl (by ((refine qad call61 (Merge_ok F.writes [(qck pg m).1] (Nat.le_trans hwl ?_)) ⟨evR,⟨evR,trivial⟩⟩);all_goals (decide))) ?_
 refine t4 ?_
 refine qaz rfl (by kernel_rfl) ?_
 refine qaf 8 (by kernel_rfl) ?_
 refine t4 ?_
 refine qbh (OpP.sub (qcm (Rs:=[Is (.int .i64 97)]) (size:=1) (qs:=[(0,[Is (.int .i64 97)])]) rfl rfl rfl ⟨⟨rfl,_,(er rfl),qa6⟩,trivial⟩ rf rf) row97) ?_
 refine t3 ?_
 refine ⟨rfl,?_⟩
 refine qeb (by kernel_rfl) rfl (qas (er rfl) (er rfl) qa6 qae qbm rf rf rf) ?_
 refine JD_1 (by kernel_rfl) rfl rfl (qei rfl) ?_
 refine qar ?_
 refine t2 ?_
 exact qbv (Bs:=[IsSl tI64 [],IsSl tPg (qb7 F.writes [(qck pg m).1]),qec ⟨0,s.ep,0,fr,[97]⟩,Is (.bool true)]) results25 eR () SubL.rfl' qab
end Go.Proofs.YtghkkdjbaehboaaGreat
