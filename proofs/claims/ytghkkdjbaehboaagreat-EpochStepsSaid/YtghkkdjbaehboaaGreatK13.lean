/- Walks of functions and plain laws, laid together. Own work. -/
import Derived.Test.YtghkkdjbaehboaaGreatK12
namespace Go.Proofs.YtghkkdjbaehboaaGreat
open Go.RowKit Tryz
set_option linter.unusedVariables false
set_option linter.unusedSimpArgs false
set_option maxRecDepth 100000
set_option maxHeartbeats 4000000
theorem freeX_ok (a b:Pt):FnP Tryz.prog 92 [qks a,qc4 (tPt.cells b)] (Is (.bool (a.line==b.line))):=by
 refine FnP.enter func92 ntmps92 rfl rfl ?_
 intro c hX
 refine t3 ?_
 intro i2
 refine t14 ?_
 refine qay results92 rfl () (SubL.eq ?_) (List.nil_sublist _)
 rfl
def ixV (f:Pt→Bool):List Pt→Nat→Int
 | [],_=>-1
 | x :: r,k=>if f x=true then (k:Int) else ixV f r (k+1)
theorem zdg (f:Pt→Bool):∀ (xs:List Pt) (k:Nat),decide (ixV f xs k≥0)=xs.any f
 | [],_=>rfl
 | x :: r,k=>by
  unfold ixV
  rw [List.any_cons]
  cases h:f x with
  | true=>rw [if_pos rfl,decide_eq_true (by omega)];rfl
  | false=>rw [if_neg (by simp),zdg f r (k+1)];rfl
theorem zfk (xs:List Pt) (p:Pt) (hl:xs.length≤4):FnP Tryz.prog 137 [IsSl tPt xs,IsFn 92 [qc4 (tPt.cells p)]] (Is (.int .i64 (ixV (fun q=>q.line==p.line) xs 0))):=by
 obtain ⟨R,hR⟩:∃ R,ixV (fun q=>q.line==p.line) xs 0=R:=⟨_,rfl⟩
 rw [hR]
 refine FnP.enter func137 ntmps137 rfl rfl ?_
 intro c hX
 refine t14 ?_
 refine qbg (fun k:Nat=>k≤xs.length∧ixV (fun q=>q.line==p.line) (xs.drop k) k=R) (fun k=>[(0,IsSl tPt xs),(1,IsFn 92 [qc4 (tPt.cells p)]),(7,Is (.int .i64 (xs.length:Nat))),(8,Is (.int .i64 (k:Nat)))]) (fun _=>[]) (fun k=>xs.length-k) 0 ⟨Nat.zero_le _,hR⟩ qbt qab ?_
 rintro k ⟨hk,hs⟩
 refine t6 ?_
 refine cN ?_ ?_ <;> intro h2
 ·have hlt:k<xs.length:=by have:=of_decide_eq_true h2;omega
  clear h2
  obtain ⟨x,hx⟩:∃ x,xs[k]?=some x:=⟨_,List.getElem?_eq_getElem hlt⟩
  rw [qeo hx] at hs
  unfold ixV at hs
  refine t15 ?_
  refine qap rfl (by exact qam (j:=k) (er rfl) (er rfl) rfl rfl rf hx) ?_
  refine s1 ?_
  refine qap rfl (zcx (As:=[qks x]) (er rfl) call92 (freeX_ok x p) ⟨evS,trivial⟩) ?_
  refine t2 ?_
  refine cN ?_ ?_ <;> intro h4
  ·rw [if_pos h4] at hs
   subst hs
   refine t12 ?_
   refine qay results137 rfl () (SubL.eq ?_) (List.nil_sublist _)
   rfl
  rw [if_neg (by rw [h4];simp)] at hs
  clear h4
  refine t7 ?_
  exact qaa (k+1) ⟨by omega,hs⟩ (by omega) qbt qab
 have hke:k=xs.length:=by have:=of_decide_eq_false h2;omega
 subst hke
 rw [List.drop_length] at hs
 have hs':(-1:Int)=R:=hs
 subst hs'
 refine t11 ?_
 refine qay results137 rfl () (SubL.eq ?_) (List.nil_sublist _)
 rfl
theorem qu1 (xs:List Pt) (p:Pt) (hl:xs.length≤4):FnP Tryz.prog 91 [IsSl tPt xs,IsFn 92 [qc4 (tPt.cells p)]] (Is (.bool (xs.any fun q=>q.line==p.line))):=by
 rw [← zdg _ xs 0]
 refine FnP.enter func91 ntmps91 rfl rfl ?_
 intro c hX
 refine t9 ?_
 refine kS call137 (zfk xs p hl) ?_
 refine t5 ?_
 refine qay results91 rfl () (SubL.eq ?_) (List.nil_sublist _)
 rfl
def qss (lines:Int) (l:List Pt):List Int:=l.flatMap fun p=>[p.line,qau (qdh lines p.line).1]
theorem zeq (lines:Int) {l:List Pt} {k:Nat} {p:Pt} (h:l[k]?=some p):qss lines (l.take (k+1))=qss lines (l.take k)++[p.line,qau (qdh lines p.line).1]:=by
 unfold qss
 rw [List.take_add_one,h,List.flatMap_append]
 simp
theorem qr6 (lines:Int):∀ l:List Pt,(qss lines l).length=2*l.length
 | []=>rfl
 | p :: l=>by
  have:=qr6 lines l
  unfold qss at this ⊢
  rw [List.flatMap_cons,List.length_append,this,List.length_cons];simp;omega
def pgsF (ks:List Pg) (hs:List (Int×Hd)):List (Int×Pg):=hs.map fun e=>(e.1,(qd5 ks e.1).1)
theorem zca (ks:List Pg) (s:Int) (h:Hd):∀ hs:List (Int×Hd),qhm (pgsF ks hs) s (qd5 ks s).1=pgsF ks (qhm hs s h)
 | []=>rfl
 | (j,x) :: hs=>by
  have ih:=zca ks s h hs
  unfold pgsF at ih ⊢
  rw [List.map_cons]
  unfold qhm
  dsimp only
  by_cases e:j=s
  ·subst e;rw [if_pos rfl,if_pos rfl];rfl
  ·rw [if_neg e,if_neg e,List.map_cons,ih]
theorem zcb (ks:List Pg) {s:Int}:∀ {hs:List (Int×Hd)},s∈hs.map Prod.fst→qfy (pgsF ks hs) s=some (qd5 ks s).1
 | [],h=>by cases h
 | (j,x) :: hs,h=>by
  unfold pgsF
  rw [List.map_cons]
  unfold qfy
  dsimp only
  by_cases e:j=s
  ·subst e;rw [if_pos rfl]
  ·rw [if_neg e]
   exact zcb ks (by
    rcases List.mem_cons.1 h with g|g
    ·exact absurd g.symm e
    ·exact g)
def wrM (ks:List Pg) (hs:List (Int×Hd)):List (Int×Pg):=hs.map fun e=>(e.1,wrE ks e)
theorem wrM_at {ks:List Pg} {hs:List (Int×Hd)} {j:Nat} {e:Int×Hd} (h:hs[j]?=some e):(wrM ks hs)[j]?=some (e.1,wrE ks e):=by unfold wrM;rw [List.getElem?_map,h];rfl
theorem fr0 (lines:Int) (n:Nat):((!clB 0 lines||decide ((n:Int)<1))||decide ((n:Int)>3))=(((!qvg lines)||decide ((n:Int)<1))||decide ((n:Int)>3)):=by
 unfold clB qvg
 rfl
theorem any_line {l:List Pt} {x:Int}:l.any (fun q=>q.line==x)=false↔x ∉ l.map Pt.line:=by
 rw [List.any_eq_false]
 constructor
 ·intro h hm
  obtain ⟨q,hq,e⟩:=List.mem_map.1 hm
  exact h q hq (by simpa using e)
 ·intro h q hq e
  exact h (List.mem_map.2 ⟨q,hq,by simpa using e⟩)
theorem stF_size {ks:List Pg} {lines:Int} (st:FrS) (p:Pt):(qs1 ks lines st p).1.length=st.1.length+1∧(qs1 ks lines st p).2.length≤st.2.length+1:=⟨by unfold qs1;simp,qrh _ _ _⟩
theorem FreeP_ok (ks:List Pg) (lines:Int) (l:List Pt) :
  FnP Tryz.prog 60 [Is (.int .i64 lines),IsSl tPt l,IsSl tPg ks] (qbu [IsSl tI64 (qmn ks lines l).need,IsSl tPg (qmn ks lines l).writes,Is (.int .i64 (qmn ks lines l).code),Is (.bool (qmn ks lines l).over)]):=by
 obtain ⟨W,hE⟩:∃ W,qmn ks lines l=W:=⟨_,rfl⟩
 rw [hE]
 unfold qmn at hE
 rw [fr0] at hE
 have hcn:=qe2 lines
 refine FnP.enter func60 ntmps60 rfl rfl ?_
 intro c hX
 refine t12 ?_
 refine kS call89 (qtw _) ?_
 refine t13 ?_
 refine cN ?_ ?_ <;> intro h1
 ·replace hE:=qa4 hE h1
  refine t10 ?_
  subst hE
  exact qan (Bs:=[_,_,_,_]) results60 eT () SubL.rfl' (List.nil_sublist _)
 rw [ifF h1] at hE
 have hcl:(104≤lines∧lines≤256)∧1≤l.length∧l.length≤3:=by unfold qvg at h1;simp at h1;omega
 obtain ⟨hli,hll1,hll3⟩:=hcl
 clear h1
 refine t16 ?_
 refine qcd 3 tI64 ?_
 refine qbg (fun z:Nat×(Option Addr×Nat)=>z.1≤l.length∧frD ks lines l (l.take z.1) (l.drop z.1) (qss lines (l.take z.1))=W∧(∀ p,p∈l.take z.1→(qdh lines p.line).2.2=true)∧((l.take z.1).map Pt.line).Nodup) (fun z=>[(0,Is (.int .i64 lines)),(1,IsSl tPt l),(2,IsSl tPg ks),(7,Is (.slice none 0 0)),(10,Is (slV (qss lines (l.take z.1)).length z.2)),(50,IsSl tPt l),(51,Is (.int .i64 (l.length:Nat))),(52,Is (.int .i64 (z.1:Nat)))]) (fun z=>[buf (slV (qss lines (l.take z.1)).length z.2) 3 tI64 (qss lines (l.take z.1))]) (fun z=>l.length-z.1) (0,(none,0)) ⟨Nat.zero_le _,hE,fun p hp=>(by cases hp),List.nodup_nil⟩ qbt qab ?_
 rintro ⟨k,a1⟩ ⟨hk,hs,hlc,hnd⟩
 dsimp only at hk hs hlc hnd ⊢
 clear hE
 refine t6 ?_
 refine cN ?_ ?_ <;> intro h5
 ·have hlt:k<l.length:=by have:=of_decide_eq_true h5;omega
  clear h5
  obtain ⟨p,hz⟩:∃ p,l[k]?=some p:=⟨_,List.getElem?_eq_getElem hlt⟩
  have hlocate:=quv lines p.line
  have htl:(l.take k).length≤4:=by rw [List.length_take];omega
  have hfl:(qss lines (l.take k)).length≤6:=by rw [qr6,List.length_take];omega
  rw [qeo hz] at hs
  unfold frD at hs
  have has:=zeq lines hz
  refine t7 ?_
  refine qap rfl (by exact qam (j:=k) (er rfl) (er rfl) rfl rfl rf hz) ?_
  refine t2 ?_
  intro i12
  refine t5 ?_
  refine qd8 (b:=i12) hX qae ?_
  refine qb0 12 (qc4 (tPt.cells p)) rfl (SubL.fact qbw) ?_
  refine t4 ?_
  refine kS call90 (hlocate) ?_
  refine t13 ?_
  refine qap rfl (qcx (er rfl) rfl rfl rfl ⟨_,_,(er rfl),(show _=((k:Nat):Int) by rfl)⟩ (by omega) (by omega)) ?_
  refine qap rfl (qvz (Cs:=[qc4 (tPt.cells p)]) ⟨evS,trivial⟩) ?_
  refine kS call91 (qu1 _ p htl) ?_
  refine t7 ?_
  refine kS call84 (qjt _) ?_
  refine t10 ?_
  refine cN ?_ ?_ <;> intro h9
  ·have hbad:W=qfu 1:=by
    rw [← hs]
    by_cases g1:(!(qdh lines p.line).2.2 || !qc5 p)=true
    ·rw [if_pos g1]
    ·rw [if_neg g1,if_pos]
     revert g1 h9
     cases (qdh lines p.line).2.2 <;> cases qc5 p <;> simp
   subst hbad
   refine t15 ?_
   exact qan (Bs:=[IsSl tI64 [],IsSl tPg [],Is (.int .i64 1),Is (.bool true)]) results60 eT () SubL.rfl' (List.nil_sublist _)
  have hgood:(qdh lines p.line).2.2=true∧qc5 p=true∧(l.take k).any (fun q=>q.line==p.line)=false:=by
   revert h9
   cases (qdh lines p.line).2.2 <;> cases qc5 p <;> cases (l.take k).any (fun q=>q.line==p.line) <;> simp
  obtain ⟨g1,g2,g3⟩:=hgood
  rw [if_neg (by rw [g1,g2];decide),if_neg (by rw [g3];decide),← has] at hs
  have htk:l.take k++[p]=l.take (k+1):=by rw [List.take_add_one,hz];rfl
  rw [htk] at hs
  have hlc':∀ q,q∈l.take (k+1)→(qdh lines q.line).2.2=true:=fun q hq=>by
   rw [← htk] at hq
   rcases List.mem_append.1 hq with e|e
   ·exact hlc q e
   ·rw [List.mem_singleton.1 e];exact g1
  have hnd':((l.take (k+1)).map Pt.line).Nodup:=by
   rw [← htk,List.map_append]
   refine List.nodup_append.2 ⟨hnd,by simp,fun a ha b hb e=>any_line.1 g3 ?_⟩
   rw [List.mem_singleton.1 hb] at e
   rw [← e];exact ha
  clear h9
  refine t2 ?_
  refine qaz rfl (by kernel_rfl) ?_
  refine qaf 6 (by kernel_rfl) ?_
  refine t4 ?_
  refine qbh (qad call93 (ql8 _) ⟨evS,trivial⟩) ?_
  refine qbh (qcm (size:=1) (qs:=[(0,_),(1,_)]) rfl rfl rfl ⟨⟨rfl,_,(er rfl),qa6⟩,⟨⟨rfl,_,(er rfl),qa6⟩,trivial⟩⟩ rf rf) ?_
  refine ⟨rfl,?_⟩
  (refine JD_s (by kernel_rfl) rfl rfl (qb6 (er rfl) (fun _=>qae) (by exact Ev.sub rfl (by exact SubL.row (xs:=[p.line,qau (qdh lines p.line).1]) rf rf qex)) (by exact qej rfl rfl rfl) qb8) ?_;intro i86)
  refine JD_1 (by kernel_rfl) rfl rfl (qei rfl) ?_
  refine qar ?_
  refine t2 ?_
  rw [← has]
  refine t4 ?_
  exact qaa (k+1,i86) ⟨by dsimp only;omega,hs,hlc',hnd'⟩ (by dsimp only;omega) qbt qab
 have hk1:k=l.length:=by have:=of_decide_eq_false h5;omega
 subst hk1
 clear h5
 rw [List.take_length] at hs hlc hnd ⊢
 rw [List.drop_length] at hs
 have hE:frC ks lines l (qss lines l)=W:=hs
 clear hs
 unfold frC at hE
 have hal:(qss lines l).length≤1000000:=by rw [qr6];omega
 refine qa7 hX (v:=slV (qss lines l).length a1) qae ?_
 refine qb0 10 (IsSl tI64 (qss lines l)) rfl (SubL.fact qbw) ?_
 refine t10 ?_
 refine kS call94 (qv6 _ (qss lines l) hal) ?_
 refine t10 ?_
 refine cN ?_ ?_ <;> intro h14
 ·rw [ifT h14] at hE
  subst hE
  refine t11 ?_
  exact qan (Bs:=[IsSl tI64 (qc2 ks (qss lines l)),IsSl tPg [],Is (.int .i64 0),Is (.bool false)]) results60 eT () SubL.rfl' (List.nil_sublist _)
 rw [ifF h14] at hE
 have hkn:∀ x,x∈qss lines l→qhh ks x=true:=fun x hx=>qri (of_decide_eq_false h14) hx
 have hnil:qc2 ks (qss lines l)=[]:=List.eq_nil_of_length_eq_zero (by have:=of_decide_eq_false h14;omega)
 have hok:∀ p,p∈l→(qdh lines p.line).2.2=true∧qhh ks p.line=true∧qhh ks (qau (qdh lines p.line).1)=true:=fun p hp=>⟨hlc p hp,hkn _ (List.mem_flatMap.2 ⟨p,hp,by simp⟩),hkn _ (List.mem_flatMap.2 ⟨p,hp,by simp⟩)⟩
 have hrel:=zb2 l [] ([],[]) [] (FInv.start ks lines) hok (by simpa using hnd)
 rw [hE] at hrel
 obtain ⟨R,hR⟩:∃ R,stF ks lines l ([],[])=R:=⟨_,rfl⟩
 rw [hR] at hrel
 clear h14 hE
 refine t4 ?_
 (refine qwx rfl (qh9 qcr) ?_;intro i95)
 (refine qwx rfl (qh9 qpg) ?_;intro i96)
 refine t13 ?_
 refine qcd 48 tPg ?_
 refine qbg (fun z:(Nat×FrS)×(Option Addr×Nat)=>z.1.1≤l.length∧stF ks lines (l.drop z.1.1) z.1.2=R∧z.1.2.1.length=z.1.1∧z.1.2.2.length≤z.1.1) (fun z=>[(0,Is (.int .i64 lines)),(1,IsSl tPt l),(2,IsSl tPg ks),(7,Is (slV z.1.2.1.length z.2)),(17,Is (.map (some i95))),(18,Is (.map (some i96))),(97,IsSl tPt l),(98,Is (.int .i64 (l.length:Nat))),(99,Is (.int .i64 (z.1.1:Nat)))]) (fun z=>[mp i95 qcr (pgsF ks z.1.2.2),mp i96 qpg z.1.2.2,buf (slV z.1.2.1.length z.2) 48 tPg z.1.2.1]) (fun z=>l.length-z.1.1) ((0,([],[])),(none,0)) ⟨Nat.zero_le _,hR,rfl,Nat.le_refl _⟩ qbt qab ?_
 rintro ⟨⟨k,st⟩,a1⟩ ⟨hk,hs,hz1,hz2⟩
 dsimp only at hk hs hz1 hz2 ⊢
 refine t6 ?_
 refine cN ?_ ?_ <;> intro h18
 ·have hlt:k<l.length:=by have:=of_decide_eq_true h18;omega
  clear h18
  obtain ⟨p,hz⟩:∃ p,l[k]?=some p:=⟨_,List.getElem?_eq_getElem hlt⟩
  obtain ⟨hp1,hp2,hp3⟩:=hok p (List.mem_of_getElem? hz)
  obtain ⟨q1,q2,q3⟩:=qoa hp1
  have hlocate:=quv lines p.line
  obtain ⟨s,i,hloc⟩:∃ (s i:Nat),qdh lines p.line=((s:Int),(i:Int),true):=⟨(qdh lines p.line).1.toNat,(qdh lines p.line).2.1.toNat,Prod.ext (show (qdh lines p.line).1=(((qdh lines p.line).1.toNat:Nat):Int) by omega) (Prod.ext (show (qdh lines p.line).2.1=(((qdh lines p.line).2.1.toNat:Nat):Int) by omega) hp1)⟩
  rw [qeo hz] at hs
  have hsz:=stF_size (ks:=ks) (lines:=lines) st p
  unfold stF errF at hs
  rw [hloc] at hlocate hs q1 q2
  dsimp only at hlocate hs q1 q2
  rw [Int.toNat_natCast] at hs
  have hpp:=zca ks (s:Int) (zap (hS ks st (s:Int)) i) st.2
  have hst:qs1 ks lines st p=(st.1++[(qu6 (qbk ks p.line)).1],qhm st.2 (s:Int) (zap (hS ks st (s:Int)) i)):=by unfold qs1;rw [hloc];dsimp only;rw [Int.toNat_natCast]
  rw [hst] at hs hsz
  refine t6 ?_
  refine qap rfl (by exact qam (j:=k) (er rfl) (er rfl) rfl rfl rf hz) ?_
  refine t2 ?_
  intro i20
  refine t8 ?_
  refine kS call90 (hlocate) ?_
  refine t14 ?_
  refine kS call52 (qmw _ _) ?_
  refine t4 ?_
  intro i24
  refine t9 ?_
  refine kS call95 (qm6 _) ?_
  refine s1 ?_
  intro i26
  refine t7 ?_
  refine kS call53 (qqh _) ?_
  refine t2 ?_
  refine cN ?_ ?_ <;> intro h23
  ·rw [if_pos h23] at hs
   have e:W=qfu 3:=by rw [← hs] at hrel;exact hrel
   subst e
   refine t15 ?_
   exact qan (Bs:=[IsSl tI64 [],IsSl tPg [],Is (.int .i64 3),Is (.bool true)]) results60 eT () SubL.rfl' (List.nil_sublist _)
  rw [if_neg (by rw [h23];simp)] at hs
  clear h23
  refine t17 ?_
  refine cN ?_ ?_ <;> intro h25
  ·have g:(qhx (qbk ks p.line).d0==0||qlt (qbk ks p.line).d0 != p.gen)=true:=h25
   rw [if_pos g] at hs
   have e:W=qfu 11:=by rw [← hs] at hrel;exact hrel
   subst e
   refine t15 ?_
   exact qan (Bs:=[IsSl tI64 [],IsSl tPg [],Is (.int .i64 11),Is (.bool true)]) results60 eT () SubL.rfl' (List.nil_sublist _)
  have g:(qhx (qbk ks p.line).d0==0||qlt (qbk ks p.line).d0 != p.gen)=false:=h25
  rw [if_neg (by rw [g];simp)] at hs
  clear h25
  refine t6 ?_
  refine kS call96 (zdq _ _) ?_
  refine t6 ?_
  intro i27
  refine s1 ?_
  intro i28
  refine t13 ?_
  refine cN ?_ ?_ <;> intro h28
  ·rw [if_pos h28] at hs
   have e:W=qfu (qd5 ks (s:Int)).2.2.2:=by rw [← hs] at hrel;exact hrel
   subst e
   refine t16 ?_
   exact qan (Bs:=[IsSl tI64 [],IsSl tPg [],Is (.int .i64 (qd5 ks (s:Int)).2.2.2),Is (.bool true)]) results60 eT () SubL.rfl' (List.nil_sublist _)
  rw [if_neg (by rw [h28];simp)] at hs
  clear h28
  refine t9 ?_
  refine qap rfl (by exact qfs (k:=i) qmq (er rfl) (by omega) qct) ?_
  refine t4 ?_
  refine cN ?_ ?_ <;> intro h30
  ·rw [if_pos h30] at hs
   have e:W=qfu 14:=by rw [← hs] at hrel;exact hrel
   subst e
   refine t15 ?_
   exact qan (Bs:=[IsSl tI64 [],IsSl tPg [],Is (.int .i64 14),Is (.bool true)]) results60 eT () SubL.rfl' (List.nil_sublist _)
  rw [if_neg (by rw [h30];simp)] at hs
  clear h30
  refine t7 ?_
  refine qap rfl (qv0 Hd.nil hd_zero (er rfl) qbw (er rfl) rfl rfl rfl) ?_
  refine t4 ?_
  intro i31
  refine t9 ?_
  refine qgs (fun _:Unit=>True) (fun _=>[(0,Is (.int .i64 lines)),(1,IsSl tPt l),(2,IsSl tPg ks),(7,Is (slV st.1.length a1)),(17,Is (.map (some i95))),(18,Is (.map (some i96))),(20,Is (.pointer (some ⟨i20,0,none⟩))),(21,Is (.int .i64 (s:Nat))),(22,Is (.int .i64 (i:Nat))),(24,Is (.pointer (some ⟨i24,0,none⟩))),(27,Is (.pointer (some ⟨i27,0,none⟩))),(28,Is (.pointer (some ⟨i28,0,none⟩))),(97,IsSl tPt l),(98,Is (.int .i64 (l.length:Nat))),(99,Is (.int .i64 (k:Nat)))]) (fun _=>[mp i95 qcr (pgsF ks st.2),mp i96 qpg st.2,buf (slV st.1.length a1) 48 tPg st.1,blk i24 48 (tPg.cells (qbk ks p.line)),blk i27 48 (tPg.cells (qd5 ks (s:Int)).1),blk i28 188 [Is (.int .i64 (hS ks st (s:Int)).owner),Is (.int .u32 (UV (hS ks st (s:Int)).used))]]) ?_ ?_
  rotate_left
  focus
   refine cN ?_ ?_ <;> intro h33
   ·have hg:hS ks st (s:Int)=(qfy st.2 (s:Int)).getD Hd.nil:=by
     unfold hS
     cases hm:qfy st.2 (s:Int) with
     | none=>rw [hm] at h33;cases h33
     | some h=>rfl
    refine t4 ?_
    rw [hg]
    exact qai () trivial qbt qab
   have hg:hS ks st (s:Int)=(qd5 ks (s:Int)).2.1:=by
    unfold hS
    cases hm:qfy st.2 (s:Int) with
    | none=>rfl
    | some h=>rw [hm] at h33;cases h33
   refine s1 ?_
   rw [hg]
   exact qai () trivial qbt qab
  rintro _ _
  refine t6 ?_
  refine qap rfl (by exact qgf (k:=i) qmq (er rfl) (by omega) qct) ?_
  refine qap rfl (by exact qeh qmq qmq (by simp) (qqb _ _)) ?_
  refine t5 ?_
  refine qaz rfl (by kernel_rfl) ?_
  refine qc0 (it:=mp i96 qpg _) (by repeat (first|exact Drop1.here _ _|apply Drop1.next)) ?_
  refine qc0 (it:=mp i95 qcr _) (by repeat (first|exact Drop1.here _ _|apply Drop1.next)) ?_
  refine qc3 (its:=[_,_]) 8 (by kernel_rfl) ?_
  refine t6 ?_
  refine qcz (s:=204) rfl rfl rfl (by kernel_rfl) (fun c'=>by exact qjc (V:=qcr) (v:=(qd5 ks (s:Int)).1) (er rfl) (er rfl) evS qae rfl rfl) ?_
  refine qcz (s:=205) rfl rfl rfl (by kernel_rfl) (fun c'=>by exact qjc (V:=qpg) (v:=zap (hS ks st (s:Int)) i) (er rfl) (er rfl) evS qae rfl rfl) ?_
  refine ⟨rfl,?_⟩
  intro _ _
  refine qar ?_
  refine t2 ?_
  rw [hpp]
  refine t2 ?_
  refine kS call97 (zat _) ?_
  refine t9 ?_
  refine qap rfl (qcm (size:=9) (qs:=[(0,_)]) rfl rfl rfl ⟨⟨rfl,_,(er rfl),qa6⟩,trivial⟩ rf rf) ?_
  (refine qew rfl (qb6 (er rfl) (fun _=>qae) (by exact Ev.sub rfl (by exact SubL.row (xs:=[(qu6 (qbk ks p.line)).1]) rf rf qex)) (by exact qej rfl rfl rfl) qb8) ?_;intro i181)
  refine t8 ?_
  exact qaa ((k+1,(st.1++[(qu6 (qbk ks p.line)).1],qhm st.2 (s:Int) (zap (hS ks st (s:Int)) i))),i181) ⟨by dsimp only;omega,hs,by dsimp only;rw [List.length_append,List.length_singleton];omega,by have:=hsz.2;dsimp only at this ⊢;omega⟩ (by dsimp only;omega) qbt qab
 have hk1:k=l.length:=by have:=of_decide_eq_false h18;omega
 subst hk1
 clear h18
 rw [List.drop_length] at hs
 have hs':Except.ok st=R:=hs
 rw [← hs'] at hrel
 obtain ⟨w,e,hF⟩:=hrel
 rw [List.nil_append] at hF
 subst e
 have hwm:(wrM ks st.2).length=st.2.length:=by unfold wrM;rw [List.length_map]
 refine t9 ?_
 (refine qew rfl (qxy (er rfl) (fun _ _=>qae) rfl) ?_;intro i184)
 refine t3 ?_
 refine qbg (fun z:List Nat×(Option Addr×Nat)=>z.1.Nodup∧∀ j,j∈z.1→j<(wrM ks st.2).length) (fun z=>[(7,Is (slV (st.1++qf1 (wrM ks st.2) z.1).length z.2)),(17,Is (.map (some i95))),(184,Is (.pointer (some ⟨i184.1,0,none⟩)))]) (fun z=>[mp i95 qcr (pgsF ks st.2),buf (slV (st.1++qf1 (wrM ks st.2) z.1).length z.2) 48 tPg (st.1++qf1 (wrM ks st.2) z.1),itr i184.1 i96 i184.2.1 i184.2.2 z.1,mpr i96 qpg st.2 i184.2.1 i184.2.2]) (fun z=>(wrM ks st.2).length-z.1.length) ([],a1) ⟨List.nodup_nil,fun j hj=>by cases hj⟩ (by dsimp only;rw [show qf1 (wrM ks st.2) []=[] from rfl,List.append_nil];exact qbt) (by dsimp only;rw [show qf1 (wrM ks st.2) []=[] from rfl,List.append_nil];exact qab) ?_
 rintro ⟨S,z2⟩ ⟨hnd',hS⟩
 dsimp only at hnd' hS ⊢
 have hpl:=qs9 hS
 have hsl:=qic _ hnd' hS
 have hwl:(st.1++qf1 (wrM ks st.2) S).length≤6:=by rw [List.length_append];omega
 have hS2:∀ j,j∈S→j<st.2.length:=fun j hj=>by have:=hS j hj;omega
 refine t2 ?_
 (refine qew rfl (zcu (er rfl) qbw (fun _=>qae) (by assumption)) ?_;intro i185)
 refine qap rfl (by exact qmz (er rfl)) ?_
 refine t3 ?_
 obtain ⟨⟨more,Sf⟩,hst⟩:=i185
 dsimp only
 refine cN ?_ ?_ <;> intro h41
 ·subst h41
  obtain ⟨j,e1,hj,hjn⟩:∃ j,Sf=S++[j]∧j<st.2.length∧j ∉ S:=hst
  subst e1
  obtain ⟨⟨kj,xj⟩,hej⟩:∃ e,st.2[j]?=some e:=⟨st.2[j],List.getElem?_eq_getElem hj⟩
  have hewj:=wrM_at (ks:=ks) hej
  have hnd2:(S++[j]).Nodup:=List.nodup_append.2 ⟨hnd',by simp,fun x hx y hy=>by rw [List.mem_singleton] at hy;subst hy;exact fun e=>hjn (e ▸ hx)⟩
  have hSj:∀ i,i∈S++[j]→i<(wrM ks st.2).length:=fun i hi=>by
   rcases List.mem_append.1 hi with hi|hi
   ·exact hS i hi
   ·rw [List.mem_singleton] at hi;subst hi;omega
  have hsl':=qic _ hnd2 hSj
  rw [List.length_append,List.length_singleton] at hsl'
  have hmg:=zcb ks (s:=kj) (hs:=st.2) (List.mem_map.2 ⟨_,List.mem_of_getElem? hej,rfl⟩)
  refine t5 ?_
  refine qap rfl (qx1 (er rfl) qbw qbw hej) ?_
  refine t3 ?_
  intro i34
  refine t8 ?_
  refine qap rfl (qe7 hmg (er rfl) qbw (er rfl) rfl rfl rfl) ?_
  refine s1 ?_
  refine kS call98 (qpc _ _) ?_
  refine t4 ?_
  intro i35
  refine t4 ?_
  rw [show (qfn (qd5 ks kj).1 xj).1=wrE ks (kj,xj) from rfl]
  refine t3 ?_
  refine qap rfl (qcm (size:=9) (qs:=[(0,_)]) rfl rfl rfl ⟨⟨rfl,_,(er rfl),qa6⟩,trivial⟩ rf rf) ?_
  (refine qew rfl (qb6 (er rfl) (fun _=>qae) (by exact Ev.sub rfl (by exact SubL.row (xs:=[wrE ks (kj,xj)]) rf rf qex)) (by exact qej rfl rfl rfl) qb8) ?_;intro i201)
  refine t3 ?_
  rw [List.append_assoc,← qtb hewj]
  exact qaa (S++[j],i201) ⟨hnd2,hSj⟩ (by dsimp only;rw [List.length_append,List.length_singleton];omega) qbt qab
 subst h41
 obtain ⟨e1,hall⟩:Sf=S∧∀ j,j<st.2.length→j∈S:=hst
 subst e1
 have hpl2:(st.1++qf1 (wrM ks st.2) Sf).length≤1048576:=by omega
 have hpl3:(st.1++qf1 (wrM ks st.2) Sf).length≤19:=by omega
 have hpm:(st.1++qf1 (wrM ks st.2) Sf).Perm (st.1++st.2.map (wrE ks)):=by
  refine List.Perm.append_left _ ?_
  have h1:Sf.Perm (List.range (wrM ks st.2).length):=qkz _ hnd' fun j=>⟨hS j,fun h=>hall j (by omega)⟩
  have h2:(wrM ks st.2).map Prod.snd=st.2.map (wrE ks):=by unfold wrM;rw [List.map_map];rfl
  rw [← h2,← qta]
  exact h1.filterMap _
 refine t8 ?_
 (refine qew rfl (by ((refine qhq qbs call99 (qm3 (st.1++qf1 (wrM ks st.2) Sf) (st.1++qf1 (wrM ks st.2) Sf).length z2 rfl ?_) ⟨evS,trivial⟩);all_goals (assumption))) ?_;intro i203)
 refine t7 ?_
 obtain ⟨ys,hy1,hy2⟩:=i203
 dsimp only
 have hym:ys=w:=hF.fin hnd (hy2.perm.trans hpm) (by rw [hy2.len];exact hy1)
 have hyl:(st.1++qf1 (wrM ks st.2) Sf).length=w.length:=by rw [← hym];exact hy2.len.symm
 rw [hyl,hym]
 refine qgl hX (v:=slV w.length z2) qae ?_
 exact qan (Bs:=[IsSl tI64 [],IsSl tPg w,Is (.int .i64 0),Is (.bool true)]) results60 eT () SubL.rfl' (List.nil_sublist _)
end Go.Proofs.YtghkkdjbaehboaaGreat
