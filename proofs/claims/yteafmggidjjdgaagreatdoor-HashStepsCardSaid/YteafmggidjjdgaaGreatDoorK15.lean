/- Walks of functions and plain laws, laid together. Own work. -/
import Derived.Test.YteafmggidjjdgaaGreatDoorK14
import Derived.Test.YteafmggidjjdgaaGreatDoorK13
namespace Go.Proofs.YteafmggidjjdgaaGreatDoor
open Go.RowKit Tryz
set_option linter.unusedVariables false
set_option linter.unusedSimpArgs false
set_option maxRecDepth 100000
set_option maxHeartbeats 4000000
theorem KnownH_ok (H:List Pg) (mask:BitVec 64) (hH:H.length<=10000):FnP prog 9 [qad tPg H,Iw mask] (qfc (fun r:List Pg=>r.length<=H.length) fun r=>qad tPg r):=by
 refine FnP.enter func9 ntmps9 rfl rfl ?_;intro c hX;refine qjp (t:=0) rfl (fun hlen=>?_);refine t17 ?_;refine Z62 ?_;refine qax [(0,_),(1,_),(4,_)] [] (fun y:Nat×(List Pg)×(Option Addr×Nat)=>y.1<=(H).length∧(y.2.1.length<=y.1)) (fun y=>[(5,Is (slV (y.2.1).length y.2.2)),(6,Ii (y.1:Nat))]) (fun y=>[buf (slV (y.2.1).length y.2.2) 50 tPg (y.2.1)]) (fun y=>(H).length-y.1) (0,[],(none,0)) ?_ qag qab ?_
 ·exact ⟨by exact nZ _,Nat.le_refl 0⟩
 rintro ⟨k,ws,v_0⟩ ⟨hk,hI⟩;dsimp only at hk hI ⊢;refine t9 ?_;refine cN ?_ ?_<;>intro h3
 ·have hlt:k<(H).length:=by have:=of_decide_eq_true h3;omega
  clear h3;obtain ⟨z,hz⟩:∃ q,(H)[k]?=some q:=⟨_,gE hlt⟩
  refine t15 ?_;refine cN ?_ ?_<;>intro h5
  ·refine t6 ?_;refine Z86 ?_;(refine qc6 rfl (qca (er rfl) (fun _=>qaf) (by exact Ev.sub rfl (by exact SubL.row (xs:=[z]) rf rf qyt)) (by exact qfz rfl rfl rfl) qcn) ?_;intro i26);refine t9 ?_;refine qaa (k+1,_,i26) ?_ ?_ qag qab
   ·exact ⟨om,by (simp;omega)⟩
   ·omega
  refine t8 ?_;refine qaa (k+1,_,v_0) ?_ ?_ qag qab
  ·exact ⟨om,by (simp;omega)⟩
  ·omega
 have hke:k=(H).length:=by have:=of_decide_eq_false h3;omega
 clear h3;subst hke;refine qa7 hX (v:=slV ws.length v_0) qaf ?_;refine qbl 5 (qad tPg ws) rfl (SubL.fact qba) ?_;refine t12 ?_;exact rXF _ results9 (hp:=by exact hI) (hD0:=hX.2)
def pgF (H:List Pg) (x:Int):Pg:=if x-96<(H.length:Int) then (H[(x-96).toNat]?).getD Pg.nil else ⟨x,256#64,0#64,0#64,0#64,0#64,0#64,0#64,0#64⟩
theorem pgF_in {H:List Pg} {x:Int} {p:Pg} (h:x-96<(H.length:Int)) (hp:H[(x-96).toNat]?=some p):pgF H x=p:=by unfold pgF;rw [if_pos h,hp];rfl
theorem zdv {H:List Pg} {x:Int} (h:¬ x-96<(H.length:Int)):pgF H x=⟨x,256#64,0#64,0#64,0#64,0#64,0#64,0#64,0#64⟩:=if_neg h
theorem zes {H:List Pg} {ls:List Int} {k:Nat} {z:Int} (h:ls[k]?=some z):(ls.take (k+1)).map (pgF H)=(ls.take k).map (pgF H)++[pgF H z]:=by
 rw [List.take_add_one,h,List.map_append];rfl
theorem FetchH_ok (ks H:List Pg) (nd:List Int) (hkl:ks.length<=10000) (hnl:nd.length<=10000) (hg:∀ x,x∈nd->qjt ks x=false∧96<=x∧x<=300) (ha:nd.Pairwise (· < ·)):FnP prog 17 [qad tPg ks,qad tPg H,qad qaw nd] (qbs [qad tPg (ks++nd.map (pgF H)),Ib (decide ((nd.length:Int)>0))]):=by
 refine FnP.enter func17 ntmps17 rfl rfl ?_;intro c hX;refine qjp (t:=1) rfl (fun hlen=>?_);refine t8 ?_;(refine JL_n rfl (qb4 tPg rfl rfl) ?_;intro i14);refine s1 ?_;(refine qc6 rfl (qca (er rfl) (fun _=>qaf) qap (by exact qfz rfl rfl rfl) qcn) ?_;intro i16);refine t5 ?_;rw [show ([]++ks:List Pg)=ks++(nd.take 0).map (pgF H) by simp];refine t5 ?_;refine qax [(0,_),(1,_),(2,_),(6,_),(7,_)] [] (fun y:Nat×(Option Addr×Nat)=>y.1<=(nd).length) (fun y=>[(8,Is (slV (ks++(nd.take y.1).map (pgF H)).length y.2)),(9,Ii (y.1:Nat))]) (fun y=>[buf (slV (ks++(nd.take y.1).map (pgF H)).length y.2) 50 tPg (ks++(nd.take y.1).map (pgF H))]) (fun y=>(nd).length-y.1) (0,i16) (nZ _) qbu qab ?_;rintro ⟨k,v_0⟩ hk;dsimp only at hk ⊢;refine t9 ?_;refine cN ?_ ?_<;>intro h3
 ·have hlt:k<(nd).length:=by have:=of_decide_eq_true h3;omega
  clear h3;obtain ⟨z,hz⟩:∃ q,(nd)[k]?=some q:=⟨_,gE hlt⟩
  have hmt:(ks++(nd.take k).map (pgF H))++[pgF H z]=ks++(nd.take (k+1)).map (pgF H):=by rw [zes hz,List.append_assoc]
  obtain ⟨hg1,hg2,hg3⟩:=hg z (List.mem_of_getElem? hz);obtain ⟨q,hq0⟩:=xE (nd.getD (k-1) 0);have hq:0<k->nd[k-1]?=some q:=fun h=>by rw [<- hq0,List.getD_eq_getElem?_getD,gE om];rfl
  have hqz:0<k->q<z:=fun h=>by
   have h1:=List.pairwise_iff_getElem.1 ha (k-1) k om om om;have h2:=(List.getElem?_eq_some_iff.1 (hq h)).2;have h3:=(List.getElem?_eq_some_iff.1 hz).2;rw [h2,h3] at h1;exact h1
  have hml:(ks++(nd.take k).map (pgF H)).length<=20000:=by simp;omega
  refine t22 ?_;refine Z27 ?_;intro i11;refine Z70 ?_;refine qaj 21 kr ?_;refine t8 ?_;(refine zgr rfl rfl (fun hp hg=>(by have hpg:=Bool.and_eq_true_iff.2 ⟨hp,hg⟩;have hg0:=hg;(try simp at hg);exact qak (j:=k-1) evG evG rfl rfl om (hq om))) ?_);refine t12 ?_;refine ⟨rfl,?_⟩;refine Z20 ?_;refine cN ?_ ?_<;>intro h7
  ·exact absurd h7 (by
    rw [hg1,Bool.false_or,decide_eq_false (show ¬ z-96<0 by omega),Bool.or_false];by_cases hk0:0<k
    ·rw [decide_eq_false (show ¬ q>=z by have:=hqz hk0;omega),Bool.and_false];decide
    ·rw [decide_eq_false (show ¬ (k:Int)>0 by omega),Bool.false_and];decide)
  refine t10 ?_;intro i13;refine t12 ?_;refine qbw [(0,_),(1,_),(2,_),(6,_),(7,_),(8,_),(9,_),(10,_),(11,_),(12,_),(13,_),(17,_),(18,_),(19,_),(23,_),(24,_),(25,_),(26,_),(27,_),(28,_),(29,_),(30,_),(31,_),(32,_),(33,_),(34,_),(35,_),(36,_),(37,_),(38,_),(39,_),(40,_),(41,_),(42,_),(43,_),(44,_),(45,_),(46,_),(47,_),(48,_),(49,_),(50,_),(51,_),(52,_),(53,_),(54,_),(55,_),(56,_),(58,_),(59,_),(60,_),(61,_),(62,_),(63,_),(64,_),(65,_)] [blk i11 _ _,buf _ _ _ _] (fun yc:Pg=>yc=pgF H z) (fun yc=>[]) (fun yc=>[blk i13 50 (tPg.cells yc)]) qbu qab ?_ ?_
  rotate_left
  focus
   refine cN ?_ ?_<;>intro h10
   ·obtain ⟨p0,hzp⟩:∃ q,H[(z-96).toNat]?=some q:=⟨_,gE (by have:=of_decide_eq_true h10;omega)⟩
    have hpa:=(pgF_in (of_decide_eq_true h10) hzp).symm;refine t3 ?_;refine qao rfl (by exact qak (j:=(z-96).toNat) (er rfl) (er rfl) rfl rfl om hzp) ?_;refine t3 ?_;refine qan (b:=i13) (As':=tPg.cells p0) qaf qbo ?_;refine qal p0 ?_ qbu qab
    ·exact hpa
   have hpb:=(zdv (of_decide_eq_false h10)).symm;refine s1 ?_;refine qan (b:=i13) (As':=tPg.cells (⟨z,256#64,0#64,0#64,0#64,0#64,0#64,0#64,0#64⟩:Pg)) qaf qbo ?_;refine qal (⟨z,256#64,0#64,0#64,0#64,0#64,0#64,0#64,0#64⟩:Pg) ?_ qbu qab
   ·exact hpb
  rintro p rfl;refine t3 ?_;refine Z86 ?_;(refine qc6 rfl (qca (er rfl) (fun _=>qaf) (by exact Ev.sub rfl (by exact SubL.row (xs:=[pgF H z]) rf rf qyt)) (by exact qfz rfl rfl rfl) qcn) ?_;intro i74);refine t9 ?_;rw [hmt];exact qaa (k+1,i74) om om qbu qab
 have hke:k=(nd).length:=by have:=of_decide_eq_false h3;omega
 clear h3;subst hke;(try rw [List.take_length]);refine qa7 hX (v:=slV _ v_0) qaf ?_;refine t16 ?_;exact qbq (Bs:=[qad tPg (ks++nd.map (pgF H)),Ib (decide ((nd.length:Int)>0))]) results17 eRF () SubL.rfl' (List.nil_sublist _)
structure Hs where
 pages:List Pg
 seq:Int
 table:List Rw
 cur:Cu
def LnI (H:List Pg):Prop:=∀ (i:Nat) p,H[i]?=some p->p.l=96+(i:Int)
theorem lat_ix {H:List Pg} (h:LnI H) {i:Nat} {p:Pg} (hi:H[i]?=some p):qb9 H (96+(i:Int))=p:=by
 have hp:=h i p hi;unfold qb9 qq4;cases hq:(H.filter fun p=>decide (p.l=96+(i:Int))).getLast? with
 | none =>
  have h1:=List.getLast?_eq_none_iff.1 hq;have h2:p∈H.filter fun p=>decide (p.l=96+(i:Int)):=List.mem_filter.2 ⟨List.mem_of_getElem? hi,decide_eq_true hp⟩;rw [h1] at h2;exact absurd h2 List.not_mem_nil
 | some q =>
  have h1:=List.mem_filter.1 (List.mem_of_getLast? hq);obtain ⟨j,hj⟩:=List.mem_iff_getElem?.1 h1.1;have h2:=h j q hj;have h3:=of_decide_eq_true h1.2;have:j=i:=om;subst this;rw [hj] at hi;cases hi;rfl
theorem comP_ix {H:List Pg} {w:Pg} {i:Nat} {p:Pg} (h:(qo1 H w)[i]?=some p):H[i]?=some p∨((i:Int)=w.l-96∧∃ x,p={ w with h:=x }):=by
 unfold qo1 at h;split at h
 ·rename_i hr;rw [List.getElem?_set] at h;split at h
  ·rename_i he;split at h
   ·injection h with h
    exact .inr ⟨om,_,h.symm⟩
   ·cases h
  ·exact .inl h
 ·exact .inl h
theorem comP_ln {H:List Pg} {w:Pg} (h:LnI H):LnI (qo1 H w):=fun i p hp=>by
 rcases comP_ix hp with hp|⟨h1,x,rfl⟩
 ·exact h i p hp
 ·show w.l=_;omega
theorem qp5:∀ (ws:List Pg) {H:List Pg},LnI H->LnI (ws.foldl qo1 H)
 | [],_,h=>h
 | w::ws,_,h=>qp5 ws (comP_ln h)
theorem qvq:∀ (ws:List Pg) {H:List Pg} {i:Nat},(∀ v,v∈ws->v.l≠96+(i:Int))->(ws.foldl qo1 H)[i]?=H[i]?
 | [],H,i,_=>rfl
 | w::ws,H,i,h=>by
  rw [List.foldl_cons,qvq ws fun v hv=>h v (List.mem_cons_of_mem _ hv)]
  have hw:=h w (List.mem_cons_self ..);unfold qo1;split
  ·rw [List.getElem?_set,if_neg om]
  ·rfl
theorem com_at:∀ (ws:List Pg) {H:List Pg} {w:Pg} {i:Nat},Asc ws->w∈ws->w.l=96+(i:Int)->i<H.length->∃ x,(ws.foldl qo1 H)[i]?=some { w with h:=x }
 | v::ws,H,w,i,ha,hm,hl,hi=>by
  obtain ⟨h1,h2⟩:=List.pairwise_cons.1 ha;rw [List.foldl_cons];rcases List.mem_cons.1 hm with rfl|hm
  ·rw [qvq ws fun u hu=>by have:=h1 u hu;omega]
   refine ⟨za7 (H.getD (w.l-96).toNat Pg.nil).h,?_⟩;unfold qo1;rw [if_pos om,List.getElem?_set,if_pos om,if_pos om]
  ·exact com_at ws h2 hm hl (by rw [qz9];exact hi)
theorem zbn {H ws:List Pg} {f:Int} {m:Nd} (h:LnI H) (hf:0<=f∧f<6) (hn:8<=H.length) (h0:(qeo (qb9 H (98+f))).2=0) (hm:Nld (qeo (qb9 H (98+f))).1 m) (hlt:qq7 m<qq7 (qeo (qb9 H (98+f))).1) (ha:Asc ws) (hw:(qfa (qb9 H (98+f)) m).1∈ws) :
  qq7 (qeo (qb9 (ws.foldl qo1 H) (98+f))).1<qq7 (qeo (qb9 H (98+f))).1:=by
 obtain ⟨j,hj⟩:∃ j:Nat,f=(j:Int):=⟨f.toNat,om⟩
 subst hj;have e1:(98:Int)+(j:Int)=96+((2+j:Nat):Int):=om;obtain ⟨p,hp⟩:∃ p,H[2+j]?=some p:=⟨_,gE om⟩
 have e2:=lat_ix h hp;rw [<- e1] at e2;rw [e2] at h0 hm hlt hw ⊢;have hpl:=h _ _ hp;obtain ⟨b1,b2,b3⟩:=zf9 (zek h0 hm);obtain ⟨x,hx⟩:=com_at ws (H:=H) (i:=2+j) ha hw (by rw [b2];exact hpl) om;have e3:=lat_ix (qp5 ws h) hx;rw [<- e1] at e3;rw [e3];have e4:∀ (q:Pg) (y:BitVec 64),qeo { q with h:=y }=qeo q:=fun q y=>rfl;rw [e4,b1];exact hlt
theorem qi6 (b n:Nat) (s:Option Addr×Nat) (C1 C2 C3 C4 C5 C6:VP) (H ws:List Pg) (hH:H.length=n) (hn:n<=200) (hlo:∀ w,w∈ws->Ln w) :
  Fn prog 49 [Is (.pointer (some ⟨b,0,none⟩)),qad tPg ws] [blk b 41 [Is (slV n s),C1,C2,C3,C4,C5,C6],buf (slV n s) 50 tPg H] (fun _:Unit=>qbs []) (fun _=>[blk b 41 [Is (slV n s),C1,C2,C3,C4,C5,C6],buf (slV n s) 50 tPg (ws.foldl qo1 H)]):=by
 refine Fn.enterN func49 ntmps49 rfl rfl ?_;intro c hX;refine qjp (t:=1) rfl (fun hlen=>?_);refine t6 ?_;refine qbm (fun k:Nat=>k<=ws.length) (fun k=>[(0,Is (.pointer (some ⟨b,0,none⟩))),(1,qad tPg ws),(4,Ii (k:Nat))]) (fun k=>[blk b 41 [Is (slV n s),C1,C2,C3,C4,C5,C6],buf (slV n s) 50 tPg ((ws.take k).foldl qo1 H)]) (fun k=>ws.length-k) 0 (nZ _) qbu qab ?_;rintro k hk;refine t9 ?_;refine cN ?_ ?_<;>intro h1
 ·have hlt:k<ws.length:=by have:=of_decide_eq_true h1;omega
  clear h1;obtain ⟨w,hz⟩:∃ z,ws[k]?=some z:=⟨ws[k],gE hlt⟩
  have hct:=com_take (H:=H) hz;have hwl0:=hlo w (List.mem_of_getElem? hz);have hwl:-1<=w.l∧w.l<=255:=hwl0;obtain ⟨G,hG⟩:=xE ((ws.take k).foldl qo1 H);have hGl:G.length=n:=by rw [<- hG,ql1,hH]
  rw [hG] at hct;rw [hG];refine t9 ?_;refine qao rfl (by exact qa0 (k:=0) (er rfl) rfl rfl rfl rfl qbx) ?_;refine qao rfl (by exact qcj (er rfl) rfl rfl rfl) ?_;refine t11 ?_;(refine qcg rfl rfl rfl (fun hg=>(by have hg0:=hg;(try simp at hg);exact qeh evG)) ?_);(refine qcg rfl rfl rfl (fun hg=>(by have hg0:=hg;(try simp at hg);exact qbe (k:=0) evG rfl rfl rfl rfl)) ?_);(refine qcg rfl rfl rfl (fun hg=>(by have hg0:=hg;(try simp at hg);exact qc8 evG qba rf rf rf)) ?_);refine t5 ?_;refine cN ?_ ?_<;>intro h4
  ·have g:96<=w.l∧w.l<96+(n:Int):=by simp at h4;omega
   obtain ⟨j,hj⟩:∃ j:Nat,w.l-96=(j:Int):=⟨(w.l-96).toNat,om⟩
   have hjn:j<G.length:=om;obtain ⟨q,hq⟩:∃ q,G[j]?=some q:=⟨G[j],gE hjn⟩
   have hcv:qo1 G w=G.set j { w with h:=za7 q.h }:=by
    unfold qo1;rw [if_pos om,hj,Int.toNat_natCast,List.getD_eq_getElem?_getD,hq];rfl
   rw [hcv] at hct;clear h4;rw [hj];refine t7 ?_;intro i6;refine t6 ?_;refine qao rfl (by exact qeh (er rfl)) ?_;refine qao rfl (by exact qbe (k:=0) (er rfl) rfl rfl rfl rfl) ?_;refine qao rfl (by exact qc8 (er rfl) qba rf rf rf) ?_;refine s1 ?_;refine qao rfl (by exact qay (k:=j) (er rfl) qba (er rfl) rfl rfl qdh qcn) ?_;refine qao rfl (by exact qcr (k:=1) (er rfl) qba qcn rfl rfl rfl rfl) ?_;refine qao rfl (by exact qep (er rfl) qba hq rfl rfl rf) ?_;refine t3 ?_;refine qao rfl (by exact qbe (k:=1) (er rfl) rfl rfl rfl rfl) ?_;refine qln 44 (Iw (za7 q.h)) rfl (SubL.eq (congrArg Is (congrArg (Value.int .u64) (nextH_eq q.h)))) ?_;refine Z32 ?_;refine qdn [0,1,1,1,0,1,1,2] kr kr ?_;refine qhc (qeq rfl) ?_;refine qfq (by exact qeh (er rfl)) ?_;refine qfq (by exact qbe (k:=0) (er rfl) rfl rfl rfl rfl) ?_;refine qfq (by exact qc8 (er rfl) qba rf rf rf) ?_;refine qhc (qeq rfl) ?_;refine qfq (by exact qa3 (n:=9) (er rfl) qba rf rf rf rf qbx) ?_;refine qfq (by exact qay (k:=j) (er rfl) qba (er rfl) rfl rfl qdh qcn) ?_;refine qwj (by exact qgn (z':={ w with h:=za7 q.h }) (er rfl) (er rfl) qas qaf hq rfl rf rf) ?_;refine qjn ?_;refine Z74 ?_;(rw [<- hct];exact qaa (k+1) om om qbu qab)
  have hcv:qo1 G w=G:=by
   unfold qo1;rw [if_neg];simp at h4;omega
  rw [hcv] at hct;rw [<- hct];clear h4;refine t8 ?_;exact qaa (k+1) om om qbu qab
 have hke:k=ws.length:=by have:=of_decide_eq_false h1;omega
 subst hke;clear h1;rw [List.take_length];refine t5 ?_;exact qbp (Bs:=[]) results49 trivial () SubL.rfl' qab
@[reducible] def zg4 (B:Nat) (r:ES26):VP:=IsAgg [Top,qa9 B (qad tPg r.writes),Ii r.out.code,Top,Top,Top,Top,Ib r.over,Top]
@[reducible] def zgy (B:Nat) (r:SS26):VP:=IsAgg [Top,qa9 B (qad tPg r.writes),Ii r.out.code,Ii r.out.next.phase,Ii r.out.next.level,Is (.int .u32 (UV r.out.next.key)),Top,Top,Top]
theorem zg7 (op:Ep26) (ks:List Pg) (hks:ks.length<=10000) (hol:op.list.length<=1000):FnF prog 101 [qr8 op,qad tPg ks] (fun B=>qfc (PEN op ks) fun r=>zg4 B r):=
 (qfx op ks hks hol).sub fun B φ v ⟨r,hp,vs,e,k,o⟩=>⟨r,hp,vs,e,Subs.alls (show Subs ((zc2 B).cells r) [Top,qa9 B (qad tPg r.writes),Ii r.out.code,Top,Top,Top,Top,Ib r.over,Top] from ⟨qf0,Sub.rfl',Sub.rfl',qf0,qf0,qf0,qf0,Sub.rfl',qf0,trivial⟩) k,o⟩
theorem zgk (cu:Cu) (cl lines:Int) (ks:List Pg) (hks:ks.length<=5000):FnF prog 100 [IsCu cu,Ii cl,Ii lines,qad tPg ks] (fun B=>qfc PSS fun r=>zgy B r):=
 (Sweep_ok cu cl lines ks hks).sub fun B φ v ⟨r,hp,vs,e,k,o⟩=>⟨r,hp,vs,e,Subs.alls (show Subs ((zc1 B).cells r) [Top,qa9 B (qad tPg r.writes),Ii r.out.code,Ii r.out.next.phase,Ii r.out.next.level,Is (.int .u32 (UV r.out.next.key)),Top,Top,Top] from ⟨qf0,Sub.rfl',Sub.rfl',Sub.rfl',Sub.rfl',Sub.rfl',qf0,qf0,qf0,trivial⟩) k,o⟩
theorem zfe {p:ES26->Prop}:qkj fun B=>qfc p (fun r=>zg4 B r):=qk2 fun r =>
 qk3 [fun _=>Top,fun B=>qa9 B (qad tPg r.writes),fun _=>Ii r.out.code,fun _=>Top,fun _=>Top,fun _=>Top,fun _=>Top,fun _=>Ib r.over,fun _=>Top] ⟨qa4 qcm,qer,qa4 qcp,qa4 qcm,qa4 qcm,qa4 qcm,qa4 qcm,qa4 qcp,qa4 qcm,trivial⟩
theorem zfd {p:SS26->Prop}:qkj fun B=>qfc p (fun r=>zgy B r):=qk2 fun r =>
 qk3 [fun _=>Top,fun B=>qa9 B (qad tPg r.writes),fun _=>Ii r.out.code,fun _=>Ii r.out.next.phase,fun _=>Ii r.out.next.level,fun _=>Is (.int .u32 (UV r.out.next.key)),fun _=>Top,fun _=>Top,fun _=>Top] ⟨qa4 qcm,qer,qa4 qcp,qa4 qcp,qa4 qcp,qa4 qcp,qa4 qcm,qa4 qcm,qa4 qcm,trivial⟩
theorem qkk (b n:Nat) (s:Option Addr×Nat) (lines:Int) (x:Hs) (op:Ep26) (hop:op.list=[]) (hfor:op.kind=5->0<=op.for_∧op.for_<6) (hn:8<=n∧n<=200) (hH:x.pages.length=n) (hln:LnI x.pages):FnX prog 46 [Is (.pointer (some ⟨b,0,none⟩)),qr8 op] [blk b 41 [Is (slV n s),Ii lines,Ii x.seq,qad tRw x.table,Ii x.cur.phase,Ii x.cur.level,Is (.int .u32 (UV x.cur.key))],buf (slV n s) 50 tPg x.pages]
  (fun i:List Pg×Bool=>i.1.length=n∧LnI i.1∧(i.2=true->op.kind=5->qq7 (qeo (qb9 i.1 (98+op.for_))).1<qq7 (qeo (qb9 x.pages (98+op.for_))).1)) (fun i=>Ib i.2) (fun i=>[blk b 41 [Is (slV n s),Ii lines,Ii x.seq,qad tRw x.table,Ii x.cur.phase,Ii x.cur.level,Is (.int .u32 (UV x.cur.key))],buf (slV n s) 50 tPg (i.1)]):=by
 refine Fn.enterB func46 ntmps46 rfl rfl ?_;intro c hX hbelow;refine t3 ?_;intro i3;refine t4 ?_;refine Z6 ?_;refine f1 4 ?_;refine qnh 6 rfl kr (fun _=>(qcc rfl qbx rfl)) ?_;(refine zb8 5 [0,1,2,3,4,5] rfl kr (by ((refine qc4 qe1 call101 (zg7 op x.pages ?_ ?_) ⟨qap,⟨qap,trivial⟩⟩ (zfe));all_goals (first|omega|rw [hop];decide))) ?_;intro x11 hx11);(refine qe4 5 6 kr rfl rfl ?_;intro i5);refine qdw 7 [0,1,2,3,4,5,6,7] rfl kr (fun c'=>by exact qat (er rfl) (er rfl) qas qaf rf rf rf) ?_;refine Z36 ?_;show JQ _ _ _ _ _ _;refine t3 ?_;obtain ⟨⟨hw,hnd,hck⟩,h5⟩:=hx11;refine t12 ?_;refine cN ?_ ?_<;>intro h2
 ·refine t7 ?_;refine qai (Bs:=[_]) (_,_) ?_ rfl results46 eXF qab (hD0:=hX.2);exact ⟨hH,hln,fun h=>Bool.noConfusion h⟩
 rw [Bool.or_eq_false_iff] at h2;have hov:x11.over=true:=by simpa using h2.1
 have hcd:x11.out.code=0:=by simpa using h2.2
 refine t7 ?_;(refine qc6 rfl (qb3 qam qam call49 (qi6 b n s _ _ _ _ _ _ x.pages x11.writes hH hn.2 hw.2) ⟨qap,⟨qap,trivial⟩⟩) ?_;intro i24);refine t8 ?_;refine qai (Bs:=[_]) (_,_) ?_ rfl results46 eXF qab (hD0:=hX.2);exact ⟨by rw [ql1];exact hH,qp5 _ hln,fun _ hk=>by
 obtain ⟨h0,m,hm,hlt,ha,hmem⟩:=h5 hk hov hcd
 exact zbn hln (hfor hk) om h0 hm hlt ha hmem⟩
theorem qqm (b n:Nat) (s:Option Addr×Nat) (lines:Int) (x:Hs) (cl:Int) (hcl:0<=cl∧cl<6) (hn:8<=n∧n<=200) (hH:x.pages.length=n) (hln:LnI x.pages):FnX prog 47 [Is (.pointer (some ⟨b,0,none⟩)),Ii cl] [blk b 41 [Is (slV n s),Ii lines,Ii x.seq,qad tRw x.table,Ii x.cur.phase,Ii x.cur.level,Is (.int .u32 (UV x.cur.key))],buf (slV n s) 50 tPg x.pages]
  (fun i:List Pg=>i.length=n∧LnI i) (fun i=>qbs []) (fun i=>[blk b 41 [Is (slV n s),Ii lines,Ii x.seq,qad tRw x.table,Ii x.cur.phase,Ii x.cur.level,Is (.int .u32 (UV x.cur.key))],buf (slV n s) 50 tPg (i)]):=by
 refine Fn.enterB func47 ntmps47 rfl rfl ?_;intro c hX hbelow;refine t4 ?_;(refine qd5 rfl (by ((refine qds qam qam call46 (qkk b n s lines x (⟨3,_,_,_,_,[]⟩:Ep26) rfl (fun h=>absurd (show (3:Int)=5 from h) ?_) hn hH hln) ⟨qap,⟨qap,trivial⟩⟩);all_goals (decide))) ?_;intro x6 hx6);refine t3 ?_;obtain ⟨he1,he2,_⟩:=hx6;refine t3 ?_;(refine qd5 rfl (by ((refine qds qam qam call46 (qkk b n s lines ⟨x6.1,x.seq,x.table,x.cur⟩ (⟨3,_,_,_,_,[]⟩:Ep26) rfl (fun h=>absurd (show (3:Int)=5 from h) ?_) hn he1 he2) ⟨qap,⟨qap,trivial⟩⟩);all_goals (decide))) ?_;intro x9 hx9);refine t3 ?_;obtain ⟨he3,he4,_⟩:=hx9;refine qax [(0,_),(1,_)] [] (fun y:(List Pg)=>y.length=n∧LnI y) (fun y=>[]) (fun y=>[blk b 41 [Is (slV n s),Ii lines,Ii x.seq,qad tRw x.table,Ii x.cur.phase,Ii x.cur.level,Is (.int .u32 (UV x.cur.key))],buf (slV n s) 50 tPg (y)]) (fun y=>qq7 (qeo (qb9 y (98+cl))).1) _ ?_ qag qab ?_
 ·exact (⟨he3,he4⟩)
 rintro H hI;refine t10 ?_;(refine qd5 rfl (qds qam qam call46 (qkk b n s lines ⟨H,x.seq,x.table,x.cur⟩ (⟨5,_,_,_,cl,[]⟩:Ep26) rfl (fun _=>hcl) hn hI.1 hI.2) ⟨qap,⟨qap,trivial⟩⟩) ?_;intro x17 hx17);refine t2 ?_;refine cN ?_ ?_<;>intro h2
 ·refine t5 ?_;refine qaa _ ?_ ?_ qag qab
  ·exact ⟨hx17.1,hx17.2.1⟩
  ·exact hx17.2.2 h2 rfl
 refine t5 ?_;refine qai (Bs:=[]) _ ?_ rfl results47 trivial qab (hD0:=hX.2);exact ⟨hx17.1,hx17.2.1⟩
theorem qw3 {ks:List Pg} {o:Int} (h:0<=o∧o<6):Ln (qij ks o).1:=by
 unfold qij
 repeat' split
 all_goals exact qfb ks ⟨om,om⟩
theorem acW_wl {ks:List Pg} {o inc s:Int} {nd:Pg×Nd×Int} {wr:List Pg} {n:Nat} (hnd:Ln nd.1) (hwr:WL n wr):WL (n+2) (acW ks o inc s nd wr).writes:=
 qgw hwr (wl2 (n:=0) (qgq _ hnd) (show Ln (hdA _ _) from qfb ks (qsy s))) (Nat.le_refl _)
theorem acT_wl {ks:List Pg} {o inc fr s:Int} {nd ot:Pg×Nd×Int} (hnd:Ln nd.1) (hot:Ln ot.1):WL 3 (acT ks o inc fr nd ot s).writes:=by
 unfold acT
 repeat' split
 all_goals first|exact wl0|exact acW_wl hnd (wl1 (n:=0) (show Ln (clrU _ _) from hot))
theorem acU_wl {ks:List Pg} {o inc s:Int} {nd:Pg×Nd×Int} (hnd:Ln nd.1):WL 3 (acU ks o inc nd s).writes:=by
 unfold acU;split
 ·exact wl0
 ·exact acW_wl (n:=1) hnd wl0
theorem acR_wl (ks:List Pg) (o inc lines fr:Int):WL 3 (acR ks o inc lines fr).writes:=by
 unfold acR;split
 ·exact wl0
 ·rename_i h1;have hr:(0<=o∧o<6)∧fr<6:=by unfold clB at h1;simp at h1;omega
  split
  ·exact wl0
  ·split
   ·exact wl0
   ·split
    ·rename_i h2;have h3:=of_decide_eq_true h2;split
     ·exact wl0
     ·exact acT_wl (qw3 hr.1) (qw3 ⟨h3,hr.2⟩)
    ·split
     ·exact wl0
     ·exact acU_wl (qw3 hr.1)
@[reducible] def IsS19T (B:Nat) (r:S19):VP:=IsAgg [Top,Top,qa9 B (qad tPg r.writes),Top,Ii r.code,Top]
theorem zg9 (ks:List Pg) (cl inc lines fr:Int) (hks:ks.length<=10000):FnF prog 48 [Ii cl,Ii inc,Ii lines,Ii fr,qad tPg ks] (fun B=>qfc (fun r:S19=>WL 3 r.writes) (IsS19T B)):=
 (qyi ks cl inc lines fr hks).sub fun B φ v ⟨vs,e,k,o⟩=>⟨acR ks cl inc lines fr,acR_wl ks cl inc lines fr,vs,e,Subs.alls (show Subs ((tS19F B).cells (acR ks cl inc lines fr)) [Top,Top,qa9 B (qad tPg (acR ks cl inc lines fr).writes),Top,Ii ((acR ks cl inc lines fr).code),Top] from ⟨qf0,qf0,Sub.rfl',qf0,Sub.rfl',qf0,trivial⟩) k,o⟩
theorem qvg {p:S19->Prop}:qkj fun B=>qfc p (IsS19T B):=qk2 fun r =>
 qk3 [fun _=>Top,fun _=>Top,fun B=>qa9 B (qad tPg r.writes),fun _=>Top,fun _=>Ii r.code,fun _=>Top] ⟨qa4 qcm,qa4 qcm,qer,qa4 qcm,qa4 qcp,qa4 qcm,trivial⟩
theorem zan (b n:Nat) (s:Option Addr×Nat) (lines:Int) (x:Hs) (cl:Int) (hcl:0<=cl∧cl<6) (hn:8<=n∧n<=200) (hH:x.pages.length=n) (hln:LnI x.pages):FnX prog 44 [Is (.pointer (some ⟨b,0,none⟩)),Ii cl] [blk b 41 [Is (slV n s),Ii lines,Ii x.seq,qad tRw x.table,Ii x.cur.phase,Ii x.cur.level,Is (.int .u32 (UV x.cur.key))],buf (slV n s) 50 tPg x.pages]
  (fun i:List Pg=>i.length=n∧LnI i) (fun i=>qbs []) (fun i=>[blk b 41 [Is (slV n s),Ii lines,Ii x.seq,qad tRw x.table,Ii x.cur.phase,Ii x.cur.level,Is (.int .u32 (UV x.cur.key))],buf (slV n s) 50 tPg (i)]):=by
 refine Fn.enterB func44 ntmps44 rfl rfl ?_;intro c hX hbelow;refine s1 ?_;refine Z6 ?_;refine Z18 ?_;refine f1 8 ?_;refine qnh 10 rfl kr (fun _=>(qcc rfl qbx rfl)) ?_;(refine zb8 9 [0,1,2,3,4,5,6,7,8,9] rfl kr (by ((refine qc4 qe1 call48 (zg9 x.pages _ _ _ _ ?_) ⟨qap,⟨qap,⟨qap,⟨qap,⟨qap,trivial⟩⟩⟩⟩⟩ (qvg));all_goals (first|omega|(simp;done)|(simp;omega)|(refine nT (qae _ _) ?_;omega)|(refine nT (qae _ _) (nT (Nat.add_le_add_right (qae _ _) _) ?_);omega)))) ?_;intro x14 hx14);(refine qe4 4 10 kr rfl rfl ?_;intro i4);refine qdw 11 [0,1,2,3,4,5,6,7,8,9,10,11] rfl kr (fun c'=>by exact qat (er rfl) (er rfl) qas qaf rf rf rf) ?_;refine Z36 ?_;show JQ _ _ _ _ _ _;refine t9 ?_;refine qbw [(0,_),(1,_)] [] (fun yc:(List Pg)=>yc.length=n∧LnI yc) (fun yc=>[]) (fun yc=>[blk b 41 [Is (slV n s),Ii lines,Ii x.seq,qad tRw x.table,Ii x.cur.phase,Ii x.cur.level,Is (.int .u32 (UV x.cur.key))],buf (slV n s) 50 tPg (yc)]) qag qab ?_ ?_
 rotate_left
 focus
  refine cN ?_ ?_<;>intro h1
  ·refine t4 ?_;(refine qc6 rfl (qb3 qam qam call49 (qi6 b n s _ _ _ _ _ _ x.pages x14.writes hH hn.2 hx14.2) ⟨qap,⟨qap,trivial⟩⟩) ?_;intro i21);refine s1 ?_;refine qal _ ?_ qag qab
   ·exact (by exact ⟨by rw [ql1];exact hH,qp5 _ hln⟩)
  refine s1 ?_;refine qal _ ?_ qag qab
  ·exact (by exact ⟨hH,hln⟩)
 rintro H hI;refine t3 ?_;(refine qd5 rfl (qds qam qam call47 (qqm b n s lines ⟨H,x.seq,x.table,x.cur⟩ cl hcl hn hI.1 hI.2) ⟨qap,⟨qap,trivial⟩⟩) ?_;intro x24 hx24);refine t2 ?_;refine qai (Bs:=[]) _ ?_ rfl results44 trivial qab (hD0:=hX.2);exact hx24
theorem zgl (b n:Nat) (s:Option Addr×Nat) (lines:Int) (x:Hs) (cl:Int) (hcl:0<=cl∧cl<6) (hn:8<=n∧n<=200) (hH:x.pages.length=n) (hln:LnI x.pages):FnX prog 45 [Is (.pointer (some ⟨b,0,none⟩)),Ii cl] [blk b 41 [Is (slV n s),Ii lines,Ii x.seq,qad tRw x.table,Ii x.cur.phase,Ii x.cur.level,Is (.int .u32 (UV x.cur.key))],buf (slV n s) 50 tPg x.pages]
  (fun i:List Pg×Cu=>i.1.length=n∧LnI i.1) (fun i=>qbs []) (fun i=>[blk b 41 [Is (slV n s),Ii lines,Ii x.seq,qad tRw x.table,Ii ((i.2).phase),Ii ((i.2).level),Is (.int .u32 (UV (i.2).key))],buf (slV n s) 50 tPg (i.1)]):=by
 refine Fn.enterB func45 ntmps45 rfl rfl ?_;intro c hX hbelow;refine s1 ?_;refine Z65 ?_;refine f1 10 ?_;refine f1 11 ?_;refine f1 12 ?_;refine qnh 14 rfl kr (fun _=>(qcc rfl qbx rfl)) ?_;(refine zb8 13 [0,1,2,3,4,5,6,7,8,9,10,11,12,13] rfl kr (by ((refine qc4 qe1 call100 (zgk (⟨_,_,_⟩:Cu) _ _ x.pages ?_) ⟨qbg,⟨qbg,⟨qbg,⟨qbg,trivial⟩⟩⟩⟩ (zfd));all_goals (first|omega|(simp;done)|(simp;omega)|(refine nT (qae _ _) ?_;omega)|(refine nT (qae _ _) (nT (Nat.add_le_add_right (qae _ _) _) ?_);omega)))) ?_;intro x18 hx18);(refine qe4 4 14 kr rfl rfl ?_;intro i4);refine qdw 15 [0,1,2,3,4,5,6,7,8,9,10,11,12,13,14,15] rfl kr (fun c'=>by exact qat (er rfl) (er rfl) qas qaf rf rf rf) ?_;refine Z36 ?_;show JQ _ _ _ _ _ _;refine t10 ?_;refine cN ?_ ?_<;>intro h1
 ·refine t4 ?_;(refine qd5 rfl (qds qam qam call44 (zan b n s lines x cl hcl hn hH hln) ⟨qap,⟨qap,trivial⟩⟩) ?_;intro x25 hx25);refine t13 ?_;refine qan (b:=b) (As':=[Is (slV n s),Ii lines,Ii x.seq,qad tRw x.table,Ii _,Ii _,Is (.int .u32 (UV _))]) qaf qbo ?_;refine qai (Bs:=[]) (_,(⟨_,_,_⟩:Cu)) ?_ rfl results45 trivial qab (hD0:=hX.2);exact by exact hx25
 refine t18 ?_;refine cN ?_ ?_<;>intro h4
 ·refine t11 ?_;refine qan (b:=b) (As':=[Is (slV n s),Ii lines,Ii x.seq,qad tRw x.table,Ii _,Ii _,Is (.int .u32 (UV _))]) qaf qbo ?_;refine qai (Bs:=[]) (_,(⟨_,_,_⟩:Cu)) ?_ rfl results45 trivial qab (hD0:=hX.2);exact by exact ⟨hH,hln⟩
 refine t7 ?_;(refine qc6 rfl (qb3 qam qam call49 (qi6 b n s _ _ _ _ _ _ x.pages x18.writes hH hn.2 hx18.2) ⟨qap,⟨qap,trivial⟩⟩) ?_;intro i48);refine t12 ?_;refine qan (b:=b) (As':=[Is (slV n s),Ii lines,Ii x.seq,qad tRw x.table,Ii _,Ii _,Is (.int .u32 (UV _))]) qaf qbo ?_;refine qai (Bs:=[]) (_,(⟨_,_,_⟩:Cu)) ?_ rfl results45 trivial qab (hD0:=hX.2);exact by exact ⟨by rw [ql1];exact hH,qp5 _ hln⟩
def stpB (nd:List Int) (cd:Int):Bool:=decide ((nd.length:Int)>0)||(cd != 0)
def stp (r:Run31):Bool:=stpB r.need r.code
def RI (n:Nat) (r:Run31):Prop:=r.job.snapshot=false∧r.known.length<=300∧WL n r.w∧r.c.length<=n
theorem RI.mono {n m:Nat} {r:Run31} (h:RI n r) (k:n<=m):RI m r:=⟨h.1,h.2.1,h.2.2.1.mono k,nT h.2.2.2 k⟩
theorem RI.vw {n:Nat} {r:Run31} (h:RI n r):r.known.length+r.w.length<=300+n:=by
 have h1:=h.2.1;have h2:=h.2.2.1.1;omega
theorem qt4 {nd:List Int} {cd:Int} (h:stpB nd cd=false):nd=[]∧cd=0:=by
 unfold stpB at h;rw [Bool.or_eq_false_iff] at h;have h1:=of_decide_eq_false h.1;exact ⟨List.eq_nil_of_length_eq_zero om,by simpa using h.2⟩
theorem qx4 (j:J31):FnP prog 145 [IsJ31 j] (qfc (fun r:Bool=>r=true->vP j.program=true∧j.access.length=j.program.length) fun r=>Ib r):=by
 refine FnP.enter func145 ntmps145 rfl rfl ?_;intro c hX;refine t3 ?_;intro i1;refine t36 ?_;refine cN ?_ ?_<;>intro h1
 ·refine t7 ?_;exact rXF _ results145 (hp:=by exact fun h=>Bool.noConfusion h)
 refine t7 ?_;refine kRF call151 (qkc _) ?_;refine t12 ?_;refine cN ?_ ?_<;>intro h3
 ·refine t7 ?_;exact rXF _ results145 (hp:=by exact fun h=>Bool.noConfusion h)
 rw [Bool.or_eq_false_iff] at h3;have hvp:vP j.program=true:=by simpa using h3.1
 have hac:j.access.length=j.program.length:=by
  have h9:=h3.2;simp at h9;omega
 obtain ⟨hl8,_⟩:=zcm hvp;clear h3;refine t9 ?_;refine qax [(1,_),(2,_)] [blk i1 _ _] (fun k:Nat=>k<=(j.program).length) (fun k=>[(3,Ii (k:Nat))]) (fun k=>[]) (fun k=>(j.program).length-k) 0 (nZ _) qag qab ?_;rintro k hk;refine t10 ?_;refine cN ?_ ?_<;>intro h6
 ·have hlt:k<(j.program).length:=by have:=of_decide_eq_true h6;omega
  clear h6;obtain ⟨z,hz⟩:∃ q,(j.program)[k]?=some q:=⟨_,gE hlt⟩
  obtain ⟨za,hza⟩:∃ q,j.access[k]?=some q:=⟨_,gE om⟩
  refine t12 ?_;intro i4;refine t22 ?_;refine qao rfl (by exact qak (j:=_) (er rfl) (er rfl) rfl rfl rf hza) ?_;refine t7 ?_;(refine qcg rfl rfl rfl (fun hg=>(by have hg0:=hg;(try simp at hg);exact qak (j:=_) evG evG rfl rfl rf hza)) ?_);refine t7 ?_;(refine qcg rfl rfl rfl (fun hg=>(by have hg0:=hg;(try simp at hg);exact qak (j:=_) evG evG rfl rfl rf hza)) ?_);refine t8 ?_;(refine zgs rfl rfl rfl (fun hp hg=>(by have hpg:=Bool.and_eq_true_iff.2 ⟨hp,hg⟩;have hg0:=hg;(try simp at hg);exact qac call188 (zbr z) ⟨qap,trivial⟩)) ?_);refine t4 ?_;refine cN ?_ ?_<;>intro h10
  ·refine t11 ?_;exact rXF _ results145 (hp:=by exact fun h=>Bool.noConfusion h)
  refine t8 ?_;exact qaa (k+1) om om qag qab
 have hke:k=(j.program).length:=by have:=of_decide_eq_false h6;omega
 clear h6;subst hke;refine t11 ?_;exact rXF _ results145 (hp:=by exact fun _=>⟨hvp,hac⟩)
theorem qim (B0:Nat) {G0 G1 G2 G3 G4 G5 G6 G7 G8 G9 G10 G11 G14 G15 G16 G17 G18 G19 G20 G21 G22 G23 G24 G25:VP} {ks w:List Pg} (h:ks.length+w.length<=400000):FnF prog 189 [IsRef [G0,G1,G2,G3,G4,G5,G6,G7,G8,G9,G10,G11,qad tPg (ks),qa9 B0 (qad tPg (w)),G14,G15,G16,G17,G18,G19,G20,G21,G22,G23,G24,G25]] (fun B=>qa9 B (qad tPg (qck ks w))):=by
 refine FnF.enter func189 ntmps189 rfl rfl ?_;intro c hX;refine t6 ?_;refine Z5 ?_;refine Z82 ?_;refine t8 ?_;refine qbc (qau call88 (qb8 _ _ h) ⟨qap,⟨qap,trivial⟩⟩) ?_;refine s1 ?_;refine ⟨rfl,?_⟩;refine Z33 ?_;exact rA (Bs:=[_]) results189 eRF
theorem qn6 {G0 G1 G2 G3 G4 G5 G6 G7 G8 G9 G10 G11 G12 G13 G14 G17 G18 G19 G20 G21 G22 G23 G24 G25:VP} (nd:List Int) (cd:Int):FnP prog 192 [IsRef [G0,G1,G2,G3,G4,G5,G6,G7,G8,G9,G10,G11,G12,G13,G14,qad qaw (nd),Ii (cd),G17,G18,G19,G20,G21,G22,G23,G24,G25]] (Ib (stpB nd cd)):=by
 refine FnP.enter func192 ntmps192 rfl rfl ?_;intro c hX;refine t24 ?_;refine rB results192 rfl ?_;rfl
theorem ql5 (b:Nat) {G0 G1 G2 G3 G4 G6 G7 G8 G9 G10 G11 G12 G13 G15 G16 G17 G18 G19 G20 G21 G22 G23 G24 G25:VP} {sn:Bool} {cs:List Int} (ls:List Int) (hs:sn=false) (hl:cs.length+ls.length<=100000):FnX prog 210 [Is (.pointer (some ⟨b,0,none⟩)),qad qaw ls] [blk b 260 [G0,G1,G2,G3,G4,Ib (sn),G6,G7,G8,G9,G10,G11,G12,G13,qad qaw (cs),G15,G16,G17,G18,G19,G20,G21,G22,G23,G24,G25]] (fun cc:List Int=>cc.length<=cs.length+ls.length) (fun _=>qbs []) (fun cc=>[blk b 260 [G0,G1,G2,G3,G4,Ib (sn),G6,G7,G8,G9,G10,G11,G12,G13,qad qaw (cc),G15,G16,G17,G18,G19,G20,G21,G22,G23,G24,G25]]):=by
 refine Fn.enterB func210 ntmps210 rfl rfl ?_;intro c hX hbelow;refine t6 ?_;refine qax [(0,_),(1,_)] [] (fun y:Nat×(List Int)=>y.1<=(ls).length∧(y.2.length<=cs.length+y.1)) (fun y=>[(4,Ii (y.1:Nat))]) (fun y=>[blk b 260 [G0,G1,G2,G3,G4,Ib (sn),G6,G7,G8,G9,G10,G11,G12,G13,qad qaw (y.2),G15,G16,G17,G18,G19,G20,G21,G22,G23,G24,G25]]) (fun y=>(ls).length-y.1) (0,cs) ?_ qag qab ?_
 ·exact ⟨by exact nZ _,Nat.le_refl _⟩
 rintro ⟨k,cc⟩ ⟨hk,hI⟩;dsimp only at hk hI ⊢;refine t17 ?_;refine cN ?_ ?_<;>intro h1
 ·rw [Bool.and_eq_true] at h1;have hlt:k<ls.length:=by have:=of_decide_eq_true h1.1;omega
  obtain ⟨z,hz⟩:∃ q,ls[k]?=some q:=⟨_,gE hlt⟩
  clear h1;refine Z38 ?_;refine zaj ?_;refine t9 ?_;refine qbc (by ((refine qac call169 (qjj cc z ?_) ⟨qap,⟨qap,trivial⟩⟩);all_goals (omega))) ?_;refine t2 ?_;refine ⟨rfl,?_⟩;refine Z3 ?_;refine t7 ?_;refine qaa (k+1,_) ?_ ?_ qag qab
  ·exact ⟨om,nT (qhv _ _) om⟩
  ·omega
 have hke:k=ls.length:=by
  rw [hs] at h1;have:¬ (k:Int)<ls.length:=by simpa using h1
  omega
 clear h1;subst hke;refine t5 ?_;refine qai (Bs:=[]) _ ?_ rfl results210 trivial qab;exact hI
theorem PageR_ok (B0 b:Nat) {G0 G1 G2 G3 G4 G5 G6 G7 G8 G9 G10 G11 G14 G16 G17 G18 G19 G20 G21 G22 G23 G24 G25:VP} {ks w:List Pg} {nd:List Int} (line:Int) (hr:ks.length+w.length<=400000) (hn:nd.length<=1000) (hl:-1<=line∧line<=255):FnX prog 146 [Is (.pointer (some ⟨b,0,none⟩)),Ii line] [blk b 260 [G0,G1,G2,G3,G4,G5,G6,G7,G8,G9,G10,G11,qad tPg (ks),qa9 B0 (qad tPg (w)),G14,qad qaw (nd),G16,G17,G18,G19,G20,G21,G22,G23,G24,G25]] (fun i:List Int×Pg=>i.1.length<=nd.length+1∧Ln i.2) (fun i=>qcv i.2) (fun i=>[blk b 260 [G0,G1,G2,G3,G4,G5,G6,G7,G8,G9,G10,G11,qad tPg (ks),qa9 B0 (qad tPg (w)),G14,qad qaw (i.1),G16,G17,G18,G19,G20,G21,G22,G23,G24,G25]]):=by
 refine Fn.enterB func146 ntmps146 rfl rfl ?_;intro c hX hbelow;refine t3 ?_;intro i4;refine t5 ?_;refine qao rfl (by ((refine qc4 qe1 call189 (qim B0 hr) ⟨qap,trivial⟩ (qer)))) ?_;refine s1 ?_;refine Z27 ?_;intro i5;refine t11 ?_;refine cN ?_ ?_<;>intro h2
 ·refine t7 ?_;refine qao rfl (by ((refine qac call169 (qjj nd line ?_) ⟨qap,⟨qap,trivial⟩⟩);all_goals (omega))) ?_;refine t12 ?_;refine qai (Bs:=[_]) (_,(⟨_,_,_,_,_,_,_,_,_⟩:Pg)) ?_ rfl results146 eXF qab;exact ⟨by exact qhv _ _,qfb _ hl⟩
 refine t9 ?_;refine qai (Bs:=[_]) (_,(⟨_,_,_,_,_,_,_,_,_⟩:Pg)) ?_ rfl results146 eXF qab;exact ⟨by exact Nat.le_succ _,qfb _ hl⟩
theorem qr5 (B0 b:Nat) {G0 G1 G2 G3 G4 G6 G7 G8 G9 G10 G11 G17 G18 G19 G20 G21 G22 G23 G24 G25:VP} {sn:Bool} {ks w:List Pg} {cs nd:List Int} {cd:Int} (to:Pt) (key:BitVec 32) (hs:sn=false) (hr:ks.length+w.length<=400000) (hc:cs.length<=10000):FnX prog 213 [Is (.pointer (some ⟨b,0,none⟩)),qh6 to,Is (.int .u32 (UV key))] [blk b 260 [G0,G1,G2,G3,G4,Ib (sn),G6,G7,G8,G9,G10,G11,qad tPg (ks),qa9 B0 (qad tPg (w)),qad qaw (cs),qad qaw (nd),Ii (cd),G17,G18,G19,G20,G21,G22,G23,G24,G25]]
  (fun i:Int×List Int×List Int×Pg×Vs=>i.2.2.1.length<=cs.length+1∧Ln i.2.2.2.1) (fun i=>qbs [qcv i.2.2.2.1,IsVs i.2.2.2.2]) (fun i=>[blk b 260 [G0,G1,G2,G3,G4,Ib (sn),G6,G7,G8,G9,G10,G11,qad tPg (ks),qa9 B0 (qad tPg (w)),qad qaw (i.2.2.1),qad qaw (i.2.1),Ii (i.1),G17,G18,G19,G20,G21,G22,G23,G24,G25]]):=by
 refine Fn.enterB func213 ntmps213 rfl rfl ?_;intro c hX hbelow;refine t3 ?_;intro i4;refine s1 ?_;intro i6;refine s1 ?_;intro i7;refine Z32 ?_;refine zaj ?_;refine s1 ?_;refine qbc (by ((refine qc4 qe1 call189 (qim B0 hr) ⟨qap,trivial⟩ (qer)))) ?_;refine s1 ?_;refine qbc (qac call81 (zgo _ to 1 true) ⟨qap,⟨qap,⟨qap,⟨qap,trivial⟩⟩⟩⟩) ?_;refine t4 ?_;refine Z4 ?_;refine t2 ?_;refine ⟨rfl,?_⟩;intro i8;refine qda ?_;refine t8 ?_;refine cN ?_ ?_<;>intro h2
 ·refine t19 ?_;refine qai (Bs:=[_,_]) (_,_,_,(⟨_,_,_,_,_,_,_,_,_⟩:Pg),(⟨(⟨_,_,_,_⟩:Rw),_,_,_,(⟨_,_⟩:Pt)⟩:Vs)) ?_ rfl results213 eXF qab;exact ⟨by exact Nat.le_succ _,qhu _ _ _ _⟩
 refine t9 ?_;refine cN ?_ ?_<;>intro h5
 ·refine t5 ?_;refine Z1 ?_;refine t15 ?_;refine qai (Bs:=[_,_]) (_,_,_,(⟨_,_,_,_,_,_,_,_,_⟩:Pg),(⟨(⟨_,_,_,_⟩:Rw),_,_,_,(⟨_,_⟩:Pt)⟩:Vs)) ?_ rfl results213 eXF qab;exact ⟨by exact Nat.le_succ _,qhu _ _ _ _⟩
 refine t5 ?_;refine kRF call202 (qin _) ?_;(refine qh0 41 rfl ?_;intro x41);refine t4 ?_;intro i11;refine t18 ?_;refine cN ?_ ?_<;>intro h9
 ·refine t18 ?_;refine qai (Bs:=[_,_]) (_,_,_,(⟨_,_,_,_,_,_,_,_,_⟩:Pg),(⟨(⟨_,_,_,_⟩:Rw),_,_,_,(⟨_,_⟩:Pt)⟩:Vs)) ?_ rfl results213 eXF qab;exact ⟨by exact Nat.le_succ _,qhu _ _ _ _⟩
 refine t7 ?_;refine Z1 ?_;(refine qd5 rfl (by ((refine qcb qam call210 (ql5 b [to.line] hs ?_) ⟨qap,⟨qap,trivial⟩⟩);all_goals (simp;omega))) ?_;intro x62 hx62);refine Z32 ?_;refine qc1 (it:=blk i7 _ _) (by repeat (first|exact Drop1.here _ _|apply Drop1.next)) ?_;refine qc1 (it:=blk i6 _ _) (by repeat (first|exact Drop1.here _ _|apply Drop1.next)) ?_;refine qcz (its:=[_,_]) 4 kr ?_;refine t2 ?_;refine qdm (s:=65) rfl rfl rfl kr (fun c'=>by exact qat (er rfl) (er rfl) qas qaf rf rf rf) ?_;refine qdm (s:=66) rfl rfl rfl kr (fun c'=>by exact qat (er rfl) (er rfl) qas qaf rf rf rf) ?_;refine ⟨rfl,?_⟩;intro _ _;refine Z33 ?_;refine qai (Bs:=[_,_]) (_,_,_,(⟨_,_,_,_,_,_,_,_,_⟩:Pg),(⟨(⟨_,_,_,_⟩:Rw),_,_,_,(⟨_,_⟩:Pt)⟩:Vs)) ?_ rfl results213 eXF qab;exact ⟨by exact hx62,qhu _ _ _ _⟩
theorem qni (B0 b:Nat) {G1 G3 G4 G5 G6 G7 G8 G9 G10 G11 G14 G17 G18 G20 G21 G22 G23 G24 G25:VP} {ocl oln owt cd:Int} {ks w:List Pg} {nd:List Int} (cnt:Int) (n:Nat) (hB:B0<=b) (hr:ks.length+w.length<=9000) (hw:WL n w) (hst:stpB nd cd=false):FnX prog 216 [Is (.pointer (some ⟨b,0,none⟩)),Ii cnt] [blk b 260 [Ii (ocl),G1,Ii (oln),G3,G4,G5,G6,G7,G8,G9,G10,G11,qad tPg (ks),qa9 B0 (qad tPg (w)),G14,qad qaw (nd),Ii (cd),G17,G18,Ii (owt),G20,G21,G22,G23,G24,G25]]
  (fun i:List Int×Int×List Pg×Int×List Pg=>WL (n+12) i.2.2.1∧(stpB i.1 i.2.1=false->(i.2.2.2.2.length:Int)=cnt)) (fun i=>qad tPg i.2.2.2.2) (fun i=>[blk b 260 [Ii (ocl),G1,Ii (oln),G3,G4,G5,G6,G7,G8,G9,G10,G11,qad tPg (ks),qa9 B0 (qad tPg (i.2.2.1)),G14,qad qaw (i.1),Ii (i.2.1),G17,G18,Ii (i.2.2.2.1),G20,G21,G22,G23,G24,G25]]):=by
 obtain ⟨hn0,hc0⟩:=qt4 hst;have hvl:=qae ks w;refine Fn.enterB func216 ntmps216 rfl rfl ?_;intro c hX hbelow;have hBw:B0<=c.w.heap.size:=by
  have:=hbelow b (mem_names.2 ⟨_,List.mem_cons_self ..,rfl⟩);omega
 refine t6 ?_;refine Z65 ?_;refine f1 10 ?_;refine f1 11 ?_;refine qes 12 rfl kr (by ((refine qc4 qe1 call189 (qim B0 ?_) ⟨qap,trivial⟩ (qer));all_goals (omega))) ?_;refine qnh 14 rfl kr (fun _=>(qcc rfl qbx rfl)) ?_;(refine zb8 13 [0,1,2,3,4,5,6,7,8,9,10,11,12,13] rfl kr (by ((refine qac call204 (qkl (qck ks w) _ _ cnt ?_) ⟨qap,⟨qap,⟨qap,⟨qap,trivial⟩⟩⟩⟩);all_goals (omega))) ?_;intro x19 hx19);(refine qe4 5 14 kr rfl rfl ?_;intro i5);refine qdw 15 [0,1,2,3,4,5,6,7,8,9,10,11,12,13,14,15] rfl kr (fun c'=>by exact qat (er rfl) (er rfl) qas qaf rf rf rf) ?_;refine Z36 ?_;show JQ _ _ _ _ _ _;refine t3 ?_;obtain ⟨ha1,ha2,ha3,ha4⟩:=hx19;have ha5:=ha1.1;have hw1:=hw.1;refine t6 ?_;refine cN ?_ ?_<;>intro h2
 ·have hov:x19.over=false:=by simpa using h2
  have hne:=ha3 hov;refine t17 ?_;refine qan (b:=b) (As':=[Ii (_),G1,Ii (_),G3,G4,G5,G6,G7,G8,G9,G10,G11,qad tPg (_),qa9 B0 (qad tPg (_)),G14,qad qaw (_),Ii (_),G17,G18,Ii (_),G20,G21,G22,G23,G24,G25]) qaf qbo ?_;refine qai (Bs:=[_]) (_,_,_,_,_) ?_ rfl results216 eXF qab;exact ⟨hw.mono om,fun h=>by
 have h8:=qt4 h
 first
 | exact absurd h8.1 hne
 | exact absurd h8.2 hce⟩
 have hov:x19.over=true:=by simpa using h2
 refine t10 ?_;refine cN ?_ ?_<;>intro h5
 ·have hce:x19.code≠0:=by simpa using h5
  refine t18 ?_;refine cN ?_ ?_<;>intro h7
  ·refine t15 ?_;refine qan (b:=b) (As':=[Ii (_),G1,Ii (_),G3,G4,G5,G6,G7,G8,G9,G10,G11,qad tPg (_),qa9 B0 (qad tPg (_)),G14,qad qaw (_),Ii (_),G17,G18,Ii (_),G20,G21,G22,G23,G24,G25]) qaf qbo ?_;refine qai (Bs:=[_]) (_,_,_,_,_) ?_ rfl results216 eXF qab;exact ⟨hw.mono om,fun h=>by
 have h8:=qt4 h
 first
 | exact absurd h8.1 hne
 | exact absurd h8.2 hce⟩
  refine t9 ?_;refine qan (b:=b) (As':=[Ii (_),G1,Ii (_),G3,G4,G5,G6,G7,G8,G9,G10,G11,qad tPg (_),qa9 B0 (qad tPg (_)),G14,qad qaw (_),Ii (_),G17,G18,Ii (_),G20,G21,G22,G23,G24,G25]) qaf qbo ?_;refine qai (Bs:=[_]) (_,_,_,_,_) ?_ rfl results216 eXF qab;exact ⟨hw.mono om,fun h=>by
 have h8:=qt4 h
 first
 | exact absurd h8.1 hne
 | exact absurd h8.2 hce⟩
 have hce:x19.code=0:=by simpa using h5
 refine Z32 ?_;refine Z82 ?_;refine t7 ?_;refine qbc (by ((refine qau call88 (qb8 _ _ ?_) ⟨qap,⟨qap,trivial⟩⟩);all_goals (omega))) ?_;refine t2 ?_;refine ⟨rfl,?_⟩;refine Z3 ?_;refine t9 ?_;refine qan (b:=b) (As':=[Ii (_),G1,Ii (_),G3,G4,G5,G6,G7,G8,G9,G10,G11,qad tPg (_),qa9 B0 (qad tPg (_)),G14,qad qaw (_),Ii (_),G17,G18,Ii (_),G20,G21,G22,G23,G24,G25]) qaf qbo ?_;refine qai (Bs:=[_]) (_,_,_,_,_) ?_ rfl results216 eXF qab;exact ⟨qgw hw ha1 (Nat.le_refl _),fun _=>ha2 hov hce⟩
theorem Z34 {A B:Prop} (h:A) (f:Bx A→B:=by intro z;refine qao rfl (by ((refine qdz (by (try simp only [List.append_eq,List.nil_append,List.cons_append]);exact qe1) call192 (qn6 _ _) ⟨qap,trivial⟩ qla))) ?_;exact z.out):B:=f ⟨h⟩
theorem Z51 {A B:Prop} (h:A) (f:Bx A→B:=by intro z;refine t2 ?_;refine qao rfl (by ((refine qdz qe1 call192 (qn6 _ _) ⟨qap,trivial⟩ qla))) ?_;refine t2 ?_;exact z.out):B:=f ⟨h⟩
theorem LocR_ok (B0 b:Nat) (r:Run31) (key:BitVec 32) (acc:Int) (n:Nat) (hn:n<=5000) (hr:RI n r):FnX prog 191 [Is (.pointer (some ⟨b,0,none⟩)),Is (.int .u32 (UV key)),Ii acc] [blk b 260 [Ii r.job.client,Ii r.job.seq,Ii r.job.lines,qad tSt29 r.job.program,qad qaw r.job.access,Ib r.job.snapshot,Iw r.job.vector0,Iw r.job.vector1,Iw r.job.vector2,Iw r.job.vector3,Iw r.job.vector4,Iw r.job.vector5,qad tPg r.known,qa9 B0 (qad tPg r.w),qad qaw r.c,qad qaw r.need,Ii r.code,Ii r.out.code,Ii r.out.statement,Ii r.out.want,qad tRs29 r.out.results,Is (.slice none 0 0),Ib r.out.hint,Ib r.out.deep,Ib r.out.unposted,Ib r.out.dead]]
  (fun i:Run31×Fd31=>RI (n+302) i.1∧Ln i.2.page) (fun i=>IsFd31 i.2) (fun i=>[blk b 260 [Ii i.1.job.client,Ii i.1.job.seq,Ii i.1.job.lines,qad tSt29 i.1.job.program,qad qaw i.1.job.access,Ib i.1.job.snapshot,Iw i.1.job.vector0,Iw i.1.job.vector1,Iw i.1.job.vector2,Iw i.1.job.vector3,Iw i.1.job.vector4,Iw i.1.job.vector5,qad tPg i.1.known,qa9 B0 (qad tPg i.1.w),qad qaw i.1.c,qad qaw i.1.need,Ii i.1.code,Ii i.1.out.code,Ii i.1.out.statement,Ii i.1.out.want,qad tRs29 i.1.out.results,Is (.slice none 0 0),Ib i.1.out.hint,Ib i.1.out.deep,Ib i.1.out.unposted,Ib i.1.out.dead]]):=by
 have hvw:=hr.vw;obtain ⟨hs,hks,hw,hc⟩:=hr;have hwl:=hw.1;have hvv:r.known.length+r.w.length<=400000:=om;refine Fn.enterB func191 ntmps191 rfl rfl ?_;intro c hX hbelow;refine t3 ?_;intro i6;refine t6 ?_;intro i7;refine t6 ?_;intro i8;refine t9 ?_;refine cN ?_ ?_<;>intro h3
 ·refine t5 ?_;refine qao rfl (by ((refine qc4 qe1 call189 (qim B0 hvv) ⟨qap,trivial⟩ (qer)))) ?_;refine Z48 ?_;(refine qbj 18 rfl ?_;intro x18 hx18);refine s1 ?_;intro i9;refine t5 ?_;obtain ⟨hp1,hp2,hp3⟩:=hx18;have hcc:r.c.length+x18.out.check.length<=100000:=om;refine t6 ?_;refine cN ?_ ?_<;>intro h5
  ·refine t19 ?_;refine qcx (B0:=B0) (b:=b) ?_;refine qai (Bs:=[_]) ((⟨⟨_,_,_,_,_,_,_,_,_,_,_,_⟩,_,_,_,_,_,⟨_,_,_,_,[],_,_,_,_⟩⟩:Run31),(⟨_,(⟨_,_,_,_,_,_,_,_,_⟩:Pg),(⟨(⟨_,_,_,_⟩:Rw),_,_,_,(⟨_,_⟩:Pt)⟩:Vs),_⟩:Fd31)) ?_ rfl results191 eXF qab (hD0:=hX.2);exact ⟨⟨hs,hks,hw.mono om,by exact nT hc om⟩,by exact ln0⟩
  refine t11 ?_;refine cN ?_ ?_<;>intro h8
  ·refine t20 ?_;refine qcx (B0:=B0) (b:=b) ?_;refine qai (Bs:=[_]) ((⟨⟨_,_,_,_,_,_,_,_,_,_,_,_⟩,_,_,_,_,_,⟨_,_,_,_,[],_,_,_,_⟩⟩:Run31),(⟨_,(⟨_,_,_,_,_,_,_,_,_⟩:Pg),(⟨(⟨_,_,_,_⟩:Rw),_,_,_,(⟨_,_⟩:Pt)⟩:Vs),_⟩:Fd31)) ?_ rfl results191 eXF qab (hD0:=hX.2);exact ⟨⟨hs,hks,hw.mono om,by exact nT hc om⟩,by exact ln0⟩
  refine t3 ?_;refine qdd (b:=i9) qaf (qgp hX) ?_;refine qbl 9 (IsRef ((qqu c.w.heap.size).cells x18)) rfl (SubL.fact qba) ?_;refine Z23 ?_;refine f1 0 ?_;refine qd6 1 rfl kr (fun _=>(qeq rfl)) ?_;refine Z68 ?_;refine Z18 ?_;(refine qd7 8 rfl kr rfl rfl (fun hg=>(by have hg0:=hg;(try simp at hg);exact qa0 (k:=2) evG rfl rfl rfl rfl qbx)) ?_);(refine qd7 9 rfl kr rfl rfl (fun hg=>(by have hg0:=hg;(try simp at hg);exact qa0 (k:=4) evG rfl rfl rfl rfl qbx)) ?_);(refine qd7 10 rfl kr rfl rfl (fun hg=>(by have hg0:=hg;(try simp at hg);exact qcj evG rfl rfl rfl)) ?_);refine qes 11 rfl kr (qqy (er rfl) rfl (fun h=>by exact SubL.iteT (by (rw [h];rfl)) SubL.rfl')) ?_;refine Z67 ?_;(refine qjo 18 rfl kr rfl rfl (fun _ hg=>(by have hg0:=hg;(try simp at hg);exact qa0 (k:=2) evG rfl rfl rfl rfl qbx)) ?_);(refine qjo 19 rfl kr rfl rfl (fun _ hg=>(by have hg0:=hg;(try simp at hg);exact qa0 (k:=5) evG rfl rfl rfl rfl qbx)) ?_);(refine qjo 20 rfl kr rfl rfl (fun _ hg=>(by have hg0:=hg;(try simp at hg);exact qcj evG rfl rfl rfl)) ?_);refine qd6 21 rfl kr (fun _=>(qqy (er rfl) rfl (fun h=>by exact SubL.iteT (by (rw [h];rfl)) SubL.rfl'))) ?_;refine f1 22 ?_;refine f1 23 ?_;refine f1 24 ?_;refine qdw 25 [0,2,3,4,5,6,7,8,9,10,11,12,13,14,15,16,17,22,23,24,25] rfl kr (fun c'=>by exact qat (er rfl) (er rfl) qas qaf rf rf rf) ?_;refine f1 26 ?_;refine f1 27 ?_;refine f1 28 ?_;refine qdw 29 [0,1,2,3,4,5,6,7,8,9,10,11,12,13,14,15,16,17,18,19,20,21,22,23,24,25,26,27,28,29] rfl kr (fun c'=>by exact qat (er rfl) (er rfl) qas qaf rf rf rf) ?_;refine Z36 ?_;show JQ _ _ _ _ _ _;refine t7 ?_;(refine qd5 rfl (qcb qam call210 (ql5 b _ hs hcc) ⟨qap,⟨qap,trivial⟩⟩) ?_;intro x71 hx71);refine t2 ?_;have hc2:x71.length<=n+301:=nT hx71 (show r.c.length+x18.out.check.length<=n+301 by omega);have hc3:x71.length<=10000:=om;refine Z5 ?_;refine qc1 (it:=blk i8 _ _) (by repeat (first|exact Drop1.here _ _|apply Drop1.next)) ?_;refine qc1 (it:=blk i7 _ _) (by repeat (first|exact Drop1.here _ _|apply Drop1.next)) ?_;refine qcz (its:=[_,_]) 9 kr ?_;refine t7 ?_;refine qdm (s:=178) rfl rfl rfl kr (fun c'=>by exact qat (er rfl) (er rfl) qas qaf rf rf rf) ?_;refine qdm (s:=179) rfl rfl rfl kr (fun c'=>by exact qat (er rfl) (er rfl) qas qaf rf rf rf) ?_;refine ⟨rfl,?_⟩;intro _ _;refine qda ?_;refine t9 ?_;refine cN ?_ ?_<;>intro h24
  ·refine t8 ?_;refine qcx (B0:=B0) (b:=b) ?_;refine qai (Bs:=[_]) ((⟨⟨_,_,_,_,_,_,_,_,_,_,_,_⟩,_,_,_,_,_,⟨_,_,_,_,[],_,_,_,_⟩⟩:Run31),(⟨_,(⟨_,_,_,_,_,_,_,_,_⟩:Pg),(⟨(⟨_,_,_,_⟩:Rw),_,_,_,(⟨_,_⟩:Pt)⟩:Vs),_⟩:Fd31)) ?_ rfl results191 eXF qab (hD0:=hX.2);exact ⟨⟨hs,hks,hw.mono om,by exact nT hc2 om⟩,by exact ln0⟩
  refine t12 ?_;refine cN ?_ ?_<;>intro h26
  ·exact absurd h26 (by rw [hs];decide)
  refine t7 ?_;(refine qd5 rfl (qcb qam call213 (qr5 B0 b (⟨_,_⟩:Pt) _ hs hvv hc3) ⟨qbg,⟨qbg,⟨qbg,trivial⟩⟩⟩) ?_;intro x167 hx167);refine t10 ?_;obtain ⟨hq1,hq2⟩:=hx167;have hc4:x167.2.2.1.length<=n+302:=nT hq1 (Nat.succ_le_succ hc2);refine t16 ?_;refine qcx (B0:=B0) (b:=b) ?_;refine qai (Bs:=[_]) ((⟨⟨_,_,_,_,_,_,_,_,_,_,_,_⟩,_,_,_,_,_,⟨_,_,_,_,[],_,_,_,_⟩⟩:Run31),(⟨_,(⟨_,_,_,_,_,_,_,_,_⟩:Pg),(⟨(⟨_,_,_,_⟩:Rw),_,_,_,(⟨_,_⟩:Pt)⟩:Vs),_⟩:Fd31)) ?_ rfl results191 eXF qab (hD0:=hX.2);exact ⟨⟨hs,hks,hw.mono om,by exact hc4⟩,by exact hq2⟩
 refine t5 ?_;refine qao rfl (by ((refine qc4 qe1 call189 (qim B0 hvv) ⟨qap,trivial⟩ (qer)))) ?_;refine Z40 ?_;(refine qbj 83 rfl ?_;intro x83 hx83);refine s1 ?_;intro i10;refine t5 ?_;obtain ⟨hp1,hp2,hp3⟩:=hx83;have hcc:r.c.length+x83.out.check.length<=100000:=om;refine t6 ?_;refine cN ?_ ?_<;>intro h15
 ·refine t19 ?_;refine qcx (B0:=B0) (b:=b) ?_;refine qai (Bs:=[_]) ((⟨⟨_,_,_,_,_,_,_,_,_,_,_,_⟩,_,_,_,_,_,⟨_,_,_,_,[],_,_,_,_⟩⟩:Run31),(⟨_,(⟨_,_,_,_,_,_,_,_,_⟩:Pg),(⟨(⟨_,_,_,_⟩:Rw),_,_,_,(⟨_,_⟩:Pt)⟩:Vs),_⟩:Fd31)) ?_ rfl results191 eXF qab (hD0:=hX.2);exact ⟨⟨hs,hks,hw.mono om,by exact nT hc om⟩,by exact ln0⟩
 refine t11 ?_;refine cN ?_ ?_<;>intro h18
 ·refine t20 ?_;refine qcx (B0:=B0) (b:=b) ?_;refine qai (Bs:=[_]) ((⟨⟨_,_,_,_,_,_,_,_,_,_,_,_⟩,_,_,_,_,_,⟨_,_,_,_,[],_,_,_,_⟩⟩:Run31),(⟨_,(⟨_,_,_,_,_,_,_,_,_⟩:Pg),(⟨(⟨_,_,_,_⟩:Rw),_,_,_,(⟨_,_⟩:Pt)⟩:Vs),_⟩:Fd31)) ?_ rfl results191 eXF qab (hD0:=hX.2);exact ⟨⟨hs,hks,hw.mono om,by exact nT hc om⟩,by exact ln0⟩
 refine t3 ?_;refine qdd (b:=i10) qaf (qgp hX) ?_;refine qbl 10 (IsRef ((qt1 c.w.heap.size).cells x83)) rfl (SubL.fact qba) ?_;refine Z23 ?_;refine f1 0 ?_;refine qd6 1 rfl kr (fun _=>(qeq rfl)) ?_;refine Z68 ?_;refine Z18 ?_;(refine qd7 8 rfl kr rfl rfl (fun hg=>(by have hg0:=hg;(try simp at hg);exact qa0 (k:=2) evG rfl rfl rfl rfl qbx)) ?_);(refine qd7 9 rfl kr rfl rfl (fun hg=>(by have hg0:=hg;(try simp at hg);exact qa0 (k:=4) evG rfl rfl rfl rfl qbx)) ?_);(refine qd7 10 rfl kr rfl rfl (fun hg=>(by have hg0:=hg;(try simp at hg);exact qcj evG rfl rfl rfl)) ?_);refine qes 11 rfl kr (qqy (er rfl) rfl (fun h=>by exact SubL.iteT (by (rw [h];rfl)) SubL.rfl')) ?_;refine Z67 ?_;(refine qjo 18 rfl kr rfl rfl (fun _ hg=>(by have hg0:=hg;(try simp at hg);exact qa0 (k:=2) evG rfl rfl rfl rfl qbx)) ?_);(refine qjo 19 rfl kr rfl rfl (fun _ hg=>(by have hg0:=hg;(try simp at hg);exact qa0 (k:=5) evG rfl rfl rfl rfl qbx)) ?_);(refine qjo 20 rfl kr rfl rfl (fun _ hg=>(by have hg0:=hg;(try simp at hg);exact qcj evG rfl rfl rfl)) ?_);refine qd6 21 rfl kr (fun _=>(qqy (er rfl) rfl (fun h=>by exact SubL.iteT (by (rw [h];rfl)) SubL.rfl'))) ?_;refine f1 22 ?_;refine f1 23 ?_;refine f1 24 ?_;refine qdw 25 [0,2,3,4,5,6,7,8,9,10,11,12,13,14,15,16,17,22,23,24,25] rfl kr (fun c'=>by exact qat (er rfl) (er rfl) qas qaf rf rf rf) ?_;refine f1 26 ?_;refine f1 27 ?_;refine f1 28 ?_;refine qdw 29 [0,1,2,3,4,5,6,7,8,9,10,11,12,13,14,15,16,17,18,19,20,21,22,23,24,25,26,27,28,29] rfl kr (fun c'=>by exact qat (er rfl) (er rfl) qas qaf rf rf rf) ?_;refine Z36 ?_;show JQ _ _ _ _ _ _;refine t7 ?_;(refine qd5 rfl (qcb qam call210 (ql5 b _ hs hcc) ⟨qap,⟨qap,trivial⟩⟩) ?_;intro x136 hx136);refine t2 ?_;have hc2:x136.length<=n+301:=nT hx136 (show r.c.length+x83.out.check.length<=n+301 by omega);have hc3:x136.length<=10000:=om;refine Z5 ?_;refine qc1 (it:=blk i8 _ _) (by repeat (first|exact Drop1.here _ _|apply Drop1.next)) ?_;refine qc1 (it:=blk i7 _ _) (by repeat (first|exact Drop1.here _ _|apply Drop1.next)) ?_;refine qcz (its:=[_,_]) 9 kr ?_;refine t7 ?_;refine qdm (s:=178) rfl rfl rfl kr (fun c'=>by exact qat (er rfl) (er rfl) qas qaf rf rf rf) ?_;refine qdm (s:=179) rfl rfl rfl kr (fun c'=>by exact qat (er rfl) (er rfl) qas qaf rf rf rf) ?_;refine ⟨rfl,?_⟩;intro _ _;refine qda ?_;refine t9 ?_;refine cN ?_ ?_<;>intro h24
 ·refine t8 ?_;refine qcx (B0:=B0) (b:=b) ?_;refine qai (Bs:=[_]) ((⟨⟨_,_,_,_,_,_,_,_,_,_,_,_⟩,_,_,_,_,_,⟨_,_,_,_,[],_,_,_,_⟩⟩:Run31),(⟨_,(⟨_,_,_,_,_,_,_,_,_⟩:Pg),(⟨(⟨_,_,_,_⟩:Rw),_,_,_,(⟨_,_⟩:Pt)⟩:Vs),_⟩:Fd31)) ?_ rfl results191 eXF qab (hD0:=hX.2);exact ⟨⟨hs,hks,hw.mono om,by exact nT hc2 om⟩,by exact ln0⟩
 refine t12 ?_;refine cN ?_ ?_<;>intro h26
 ·exact absurd h26 (by rw [hs];decide)
 refine t7 ?_;(refine qd5 rfl (qcb qam call213 (qr5 B0 b (⟨_,_⟩:Pt) _ hs hvv hc3) ⟨qbg,⟨qbg,⟨qbg,trivial⟩⟩⟩) ?_;intro x167 hx167);refine t10 ?_;obtain ⟨hq1,hq2⟩:=hx167;have hc4:x167.2.2.1.length<=n+302:=nT hq1 (Nat.succ_le_succ hc2);refine t16 ?_;refine qcx (B0:=B0) (b:=b) ?_;refine qai (Bs:=[_]) ((⟨⟨_,_,_,_,_,_,_,_,_,_,_,_⟩,_,_,_,_,_,⟨_,_,_,_,[],_,_,_,_⟩⟩:Run31),(⟨_,(⟨_,_,_,_,_,_,_,_,_⟩:Pg),(⟨(⟨_,_,_,_⟩:Rw),_,_,_,(⟨_,_⟩:Pt)⟩:Vs),_⟩:Fd31)) ?_ rfl results191 eXF qab (hD0:=hX.2);exact ⟨⟨hs,hks,hw.mono om,by exact hc4⟩,by exact hq2⟩
theorem zby (B0 b:Nat) (r:Run31) (key:BitVec 32) (to:Pt) (n:Nat) (hB:B0<=b) (hn:n<=5000) (hr:RI n r) (hst:stp r=false):FnX prog 218 [Is (.pointer (some ⟨b,0,none⟩)),Is (.int .u32 (UV key)),qh6 to] [blk b 260 [Ii r.job.client,Ii r.job.seq,Ii r.job.lines,qad tSt29 r.job.program,qad qaw r.job.access,Ib r.job.snapshot,Iw r.job.vector0,Iw r.job.vector1,Iw r.job.vector2,Iw r.job.vector3,Iw r.job.vector4,Iw r.job.vector5,qad tPg r.known,qa9 B0 (qad tPg r.w),qad qaw r.c,qad qaw r.need,Ii r.code,Ii r.out.code,Ii r.out.statement,Ii r.out.want,qad tRs29 r.out.results,Is (.slice none 0 0),Ib r.out.hint,Ib r.out.deep,Ib r.out.unposted,Ib r.out.dead]]
  (fun i:Run31×Bool=>RI (n+16) i.1) (fun i=>Ib i.2) (fun i=>[blk b 260 [Ii i.1.job.client,Ii i.1.job.seq,Ii i.1.job.lines,qad tSt29 i.1.job.program,qad qaw i.1.job.access,Ib i.1.job.snapshot,Iw i.1.job.vector0,Iw i.1.job.vector1,Iw i.1.job.vector2,Iw i.1.job.vector3,Iw i.1.job.vector4,Iw i.1.job.vector5,qad tPg i.1.known,qa9 B0 (qad tPg i.1.w),qad qaw i.1.c,qad qaw i.1.need,Ii i.1.code,Ii i.1.out.code,Ii i.1.out.statement,Ii i.1.out.want,qad tRs29 i.1.out.results,Is (.slice none 0 0),Ib i.1.out.hint,Ib i.1.out.deep,Ib i.1.out.unposted,Ib i.1.out.dead]]):=by
 have hvw:=hr.vw;obtain ⟨hs,hks,hw,hc⟩:=hr;have hwl:=hw.1;have hvv:r.known.length+r.w.length<=400000:=om;have hv9:r.known.length+r.w.length<=9000:=om;refine Fn.enterB func218 ntmps218 rfl rfl ?_;intro c hX hbelow;have hBw:B0<=c.w.heap.size:=by
  have:=hbelow b (mem_names.2 ⟨_,List.mem_cons_self ..,rfl⟩);omega
 refine t3 ?_;intro i5;refine t4 ?_;refine Z61 ?_;refine f1 2 ?_;refine qes 3 rfl kr (by ((refine qc4 qe1 call189 (qim B0 hvv) ⟨qap,trivial⟩ (qer)))) ?_;refine qnh 5 rfl kr (fun _=>(qcc rfl qbx rfl)) ?_;(refine zb8 4 [0,1,2,3,4] rfl kr (qau call11 (qnf _ _ (⟨_,_⟩:Pt) _ _) ⟨qbg,⟨qbg,⟨qbg,⟨qbg,⟨qbg,trivial⟩⟩⟩⟩⟩) ?_;intro x13 hx13);(refine qe4 7 5 kr rfl rfl ?_;intro i7);refine qdw 6 [0,1,2,3,4,5,6] rfl kr (fun c'=>by exact qat (er rfl) (er rfl) qas qaf rf rf rf) ?_;refine Z36 ?_;show JQ _ _ _ _ _ _;refine t3 ?_;refine qbv (b:=i7) (As':=(qqu c.w.heap.size).cells x13) qaf qbo ?_;have hp0:qx8 x13:=hx13;refine t11 ?_;refine qbw [(0,_),(6,_),(7,_)] [] (fun yc:Run31×S23=>(yc.1.job.snapshot=false∧yc.1.known.length<=300∧WL (n+12) yc.1.w∧yc.1.c.length<=n)∧qx8 yc.2) (fun yc=>[]) (fun yc=>[blk b 260 [Ii yc.1.job.client,Ii yc.1.job.seq,Ii yc.1.job.lines,qad tSt29 yc.1.job.program,qad qaw yc.1.job.access,Ib yc.1.job.snapshot,Iw yc.1.job.vector0,Iw yc.1.job.vector1,Iw yc.1.job.vector2,Iw yc.1.job.vector3,Iw yc.1.job.vector4,Iw yc.1.job.vector5,qad tPg yc.1.known,qa9 B0 (qad tPg yc.1.w),qad qaw yc.1.c,qad qaw yc.1.need,Ii yc.1.code,Ii yc.1.out.code,Ii yc.1.out.statement,Ii yc.1.out.want,qad tRs29 yc.1.out.results,Is (.slice none 0 0),Ib yc.1.out.hint,Ib yc.1.out.deep,Ib yc.1.out.unposted,Ib yc.1.out.dead],blk i7 61 ((qqu c.w.heap.size).cells yc.2)]) qag qab ?_ ?_
 rotate_left
 focus
  refine cN ?_ ?_<;>intro h2
  ·refine t6 ?_;(refine qd5 rfl (qcb qam call216 (qni B0 b _ n hB hv9 hw hst) ⟨qap,⟨qap,trivial⟩⟩) ?_;intro x26 hx26);refine t5 ?_;obtain ⟨ha1,ha2⟩:=hx26;have ha3:=ha1.1;have hvv2:r.known.length+x26.2.2.1.length<=400000:=om;refine Z51 ?_;refine cN ?_ ?_<;>intro h4
   ·refine t8 ?_;refine qcx (B0:=B0) (b:=b) ?_;refine qai (Bs:=[_]) ((⟨⟨_,_,_,_,_,_,_,_,_,_,_,_⟩,_,_,_,_,_,⟨_,_,_,_,[],_,_,_,_⟩⟩:Run31),_) ?_ rfl results218 eXF qab (hD0:=hX.2);exact by exact ⟨hs,hks,ha1.mono om,nT hc om⟩
   refine t2 ?_;refine Z6 ?_;refine qes 4 rfl kr (by ((refine qc4 qe1 call189 (qim B0 hvv2) ⟨qap,trivial⟩ (qer)))) ?_;(refine zb8 5 [0,1,2,3,4,5] rfl kr (qau call11 (qnf _ _ (⟨_,_⟩:Pt) _ _) ⟨qbg,⟨qbg,⟨qbg,⟨qbg,⟨qbg,trivial⟩⟩⟩⟩⟩) ?_;intro x34 hx34);refine qdw 6 [0,1,2,3,4,5,6] rfl kr (fun c'=>by exact qat (er rfl) (er rfl) qas qaf rf rf rf) ?_;refine Z36 ?_;show JQ _ _ _ _ _ _;refine qan (b:=i7) (As':=(qqu c.w.heap.size).cells x34) qaf qbo ?_;refine qcx (B0:=B0) (b:=b) ?_;refine qal ((⟨⟨_,_,_,_,_,_,_,_,_,_,_,_⟩,_,_,_,_,_,⟨_,_,_,_,[],_,_,_,_⟩⟩:Run31),x34) ?_ qag qab
   ·exact ⟨⟨hs,hks,ha1,hc⟩,hx34⟩
  refine s1 ?_;refine qcx (B0:=B0) (b:=b) ?_;refine qal ((⟨⟨_,_,_,_,_,_,_,_,_,_,_,_⟩,_,_,_,_,_,⟨_,_,_,_,[],_,_,_,_⟩⟩:Run31),x13) ?_ qag qab
  ·exact ⟨⟨hs,hks,hw.mono om,hc⟩,hp0⟩
 rintro ⟨q,s⟩ hI;dsimp only at hI ⊢;obtain ⟨⟨hs2,hks2,hw2,hc2⟩,hp1,hp2,hp3⟩:=hI;have hw2l:=hw2.1;have hp1l:=hp1.1;have hcc:q.c.length+s.out.check.length<=100000:=om;refine t8 ?_;refine cN ?_ ?_<;>intro h7
 ·refine t17 ?_;refine qcx (B0:=B0) (b:=b) ?_;refine qai (Bs:=[_]) ((⟨⟨_,_,_,_,_,_,_,_,_,_,_,_⟩,_,_,_,_,_,⟨_,_,_,_,[],_,_,_,_⟩⟩:Run31),_) ?_ rfl results218 eXF qab (hD0:=hX.2);exact by exact ⟨hs2,hks2,hw2.mono om,nT hc2 om⟩
 refine t11 ?_;refine cN ?_ ?_<;>intro h10
 ·refine t21 ?_;refine cN ?_ ?_<;>intro h12
  ·refine t14 ?_;refine qcx (B0:=B0) (b:=b) ?_;refine qai (Bs:=[_]) ((⟨⟨_,_,_,_,_,_,_,_,_,_,_,_⟩,_,_,_,_,_,⟨_,_,_,_,[],_,_,_,_⟩⟩:Run31),_) ?_ rfl results218 eXF qab (hD0:=hX.2);exact by exact ⟨hs2,hks2,hw2.mono om,nT hc2 om⟩
  refine t9 ?_;refine qcx (B0:=B0) (b:=b) ?_;refine qai (Bs:=[_]) ((⟨⟨_,_,_,_,_,_,_,_,_,_,_,_⟩,_,_,_,_,_,⟨_,_,_,_,[],_,_,_,_⟩⟩:Run31),_) ?_ rfl results218 eXF qab (hD0:=hX.2);exact by exact ⟨hs2,hks2,hw2.mono om,nT hc2 om⟩
 refine Z32 ?_;refine Z82 ?_;refine t7 ?_;refine qbc (by ((refine qau call88 (qb8 _ _ ?_) ⟨qap,⟨qap,trivial⟩⟩);all_goals (omega))) ?_;refine t2 ?_;refine ⟨rfl,?_⟩;refine Z3 ?_;refine t7 ?_;(refine qd5 rfl (qcb qam call210 (ql5 b _ hs2 hcc) ⟨qap,⟨qap,trivial⟩⟩) ?_;intro x75 hx75);refine t3 ?_;have hc3:x75.length<=n+1:=nT hx75 (show q.c.length+s.out.check.length<=n+1 by omega);refine qdd (b:=i7) qaf (qgp hX) ?_;refine qbl 7 (IsRef ((qqu c.w.heap.size).cells s)) rfl (SubL.fact qba) ?_;refine Z23 ?_;refine f1 0 ?_;refine qd6 1 rfl kr (fun _=>(qeq rfl)) ?_;refine Z68 ?_;refine Z18 ?_;(refine qd7 8 rfl kr rfl rfl (fun hg=>(by have hg0:=hg;(try simp at hg);exact qa0 (k:=2) evG rfl rfl rfl rfl qbx)) ?_);(refine qd7 9 rfl kr rfl rfl (fun hg=>(by have hg0:=hg;(try simp at hg);exact qa0 (k:=4) evG rfl rfl rfl rfl qbx)) ?_);(refine qd7 10 rfl kr rfl rfl (fun hg=>(by have hg0:=hg;(try simp at hg);exact qcj evG rfl rfl rfl)) ?_);refine qes 11 rfl kr (qqy (er rfl) rfl (fun h=>by exact SubL.iteT (by (rw [h];rfl)) SubL.rfl')) ?_;refine Z67 ?_;(refine qjo 18 rfl kr rfl rfl (fun _ hg=>(by have hg0:=hg;(try simp at hg);exact qa0 (k:=2) evG rfl rfl rfl rfl qbx)) ?_);(refine qjo 19 rfl kr rfl rfl (fun _ hg=>(by have hg0:=hg;(try simp at hg);exact qa0 (k:=5) evG rfl rfl rfl rfl qbx)) ?_);(refine qjo 20 rfl kr rfl rfl (fun _ hg=>(by have hg0:=hg;(try simp at hg);exact qcj evG rfl rfl rfl)) ?_);refine qd6 21 rfl kr (fun _=>(qqy (er rfl) rfl (fun h=>by exact SubL.iteT (by (rw [h];rfl)) SubL.rfl'))) ?_;refine f1 22 ?_;refine f1 23 ?_;refine f1 24 ?_;refine qdw 25 [0,2,3,4,5,6,7,8,9,10,11,12,13,14,15,16,17,22,23,24,25] rfl kr (fun c'=>by exact qat (er rfl) (er rfl) qas qaf rf rf rf) ?_;refine f1 26 ?_;refine f1 27 ?_;refine f1 28 ?_;refine qdw 29 [0,1,2,3,4,5,6,7,8,9,10,11,12,13,14,15,16,17,18,19,20,21,22,23,24,25,26,27,28,29] rfl kr (fun c'=>by exact qat (er rfl) (er rfl) qas qaf rf rf rf) ?_;refine Z36 ?_;show JQ _ _ _ _ _ _;refine t10 ?_;refine qcx (B0:=B0) (b:=b) ?_;refine qai (Bs:=[_]) ((⟨⟨_,_,_,_,_,_,_,_,_,_,_,_⟩,_,_,_,_,_,⟨_,_,_,_,[],_,_,_,_⟩⟩:Run31),_) ?_ rfl results218 eXF qab (hD0:=hX.2);exact by exact ⟨hs2,hks2,qgw hw2 hp1 om,nT hc3 om⟩
theorem qt3 {L:List Item}:∀ {A:List VP},SubLs L A A
 | []=>trivial
 | _::_=>⟨SubL.rfl',qt3⟩
theorem subs_ovr {L:List Item} {A B:List VP} (h:B.length=A.length):SubLs L (ovr A 0 B) B:=by
 rw [qpp B A 0 om,Nat.zero_add,h,List.drop_length,List.take_zero,List.nil_append,List.append_nil];exact qt3
theorem qr4 (B0 b:Nat) (r:Run31) (key:BitVec 32) (to:Pt) (n:Nat) (hB:B0<=b) (hn:n<=5000) (hr:RI n r) (hst:stp r=false):FnX prog 219 [Is (.pointer (some ⟨b,0,none⟩)),Is (.int .u32 (UV key)),qh6 to] [blk b 260 [Ii r.job.client,Ii r.job.seq,Ii r.job.lines,qad tSt29 r.job.program,qad qaw r.job.access,Ib r.job.snapshot,Iw r.job.vector0,Iw r.job.vector1,Iw r.job.vector2,Iw r.job.vector3,Iw r.job.vector4,Iw r.job.vector5,qad tPg r.known,qa9 B0 (qad tPg r.w),qad qaw r.c,qad qaw r.need,Ii r.code,Ii r.out.code,Ii r.out.statement,Ii r.out.want,qad tRs29 r.out.results,Is (.slice none 0 0),Ib r.out.hint,Ib r.out.deep,Ib r.out.unposted,Ib r.out.dead]]
  (fun i:Run31=>RI (n+320) i) (fun i=>qbs []) (fun i=>[blk b 260 [Ii i.job.client,Ii i.job.seq,Ii i.job.lines,qad tSt29 i.job.program,qad qaw i.job.access,Ib i.job.snapshot,Iw i.job.vector0,Iw i.job.vector1,Iw i.job.vector2,Iw i.job.vector3,Iw i.job.vector4,Iw i.job.vector5,qad tPg i.known,qa9 B0 (qad tPg i.w),qad qaw i.c,qad qaw i.need,Ii i.code,Ii i.out.code,Ii i.out.statement,Ii i.out.want,qad tRs29 i.out.results,Is (.slice none 0 0),Ib i.out.hint,Ib i.out.deep,Ib i.out.unposted,Ib i.out.dead]]):=by
 have hvw:=hr.vw;obtain ⟨hs,hks,hw,hc⟩:=hr;have hwl:=hw.1;have hvv:r.known.length+r.w.length<=400000:=om;have hv9:r.known.length+r.w.length<=9000:=om;refine Fn.enterB func219 ntmps219 rfl rfl ?_;intro c hX hbelow;have hBw:B0<=c.w.heap.size:=by
  have:=hbelow b (mem_names.2 ⟨_,List.mem_cons_self ..,rfl⟩);omega
 refine t3 ?_;intro i5;refine t8 ?_;intro i6;refine t4 ?_;refine Z61 ?_;refine qes 2 rfl kr (by ((refine qc4 qe1 call189 (qim B0 hvv) ⟨qap,trivial⟩ (qer)))) ?_;refine qnh 4 rfl kr (fun _=>(qcc rfl qbx rfl)) ?_;(refine zb8 3 [0,1,2,3] rfl kr (qau call201 (qne (⟨_,_,_,(⟨_,_⟩:Pt),_,_,_⟩:Op24) _) ⟨qbg,⟨qbg,trivial⟩⟩) ?_;intro x14 hx14);(refine qe4 7 4 kr rfl rfl ?_;intro i7);refine qdw 5 [0,1,2,3,4,5] rfl kr (fun c'=>by exact qat (er rfl) (er rfl) qas qaf rf rf rf) ?_;refine Z36 ?_;show JQ _ _ _ _ _ _;refine t3 ?_;refine qbv (b:=i7) (As':=(qt1 c.w.heap.size).cells x14) qaf qbo ?_;have hp0:zao x14:=hx14;refine t11 ?_;refine qbw [(0,_),(7,_)] [] (fun yc:Run31×S24=>(yc.1.job.snapshot=false∧yc.1.known.length<=300∧WL (n+12) yc.1.w∧yc.1.c.length<=n)∧zao yc.2) (fun yc=>[]) (fun yc=>[blk b 260 [Ii yc.1.job.client,Ii yc.1.job.seq,Ii yc.1.job.lines,qad tSt29 yc.1.job.program,qad qaw yc.1.job.access,Ib yc.1.job.snapshot,Iw yc.1.job.vector0,Iw yc.1.job.vector1,Iw yc.1.job.vector2,Iw yc.1.job.vector3,Iw yc.1.job.vector4,Iw yc.1.job.vector5,qad tPg yc.1.known,qa9 B0 (qad tPg yc.1.w),qad qaw yc.1.c,qad qaw yc.1.need,Ii yc.1.code,Ii yc.1.out.code,Ii yc.1.out.statement,Ii yc.1.out.want,qad tRs29 yc.1.out.results,Is (.slice none 0 0),Ib yc.1.out.hint,Ib yc.1.out.deep,Ib yc.1.out.unposted,Ib yc.1.out.dead],blk i7 328 ((qt1 c.w.heap.size).cells yc.2)]) qag qab ?_ ?_
 rotate_left
 focus
  refine cN ?_ ?_<;>intro h3
  ·refine t6 ?_;(refine qd5 rfl (qcb qam call216 (qni B0 b _ n hB hv9 hw hst) ⟨qap,⟨qap,trivial⟩⟩) ?_;intro x27 hx27);refine t6 ?_;obtain ⟨ha1,ha2⟩:=hx27;have ha3:=ha1.1;have hvv2:r.known.length+x27.2.2.1.length<=400000:=om;refine Z51 ?_;refine cN ?_ ?_<;>intro h5
   ·refine t3 ?_;refine qcx (B0:=B0) (b:=b) ?_;refine qai (Bs:=[]) (⟨⟨_,_,_,_,_,_,_,_,_,_,_,_⟩,_,_,_,_,_,⟨_,_,_,_,[],_,_,_,_⟩⟩:Run31) ?_ rfl results219 trivial qab (hD0:=hX.2);exact by exact ⟨hs,hks,ha1.mono om,nT hc om⟩
   refine t2 ?_;refine Z61 ?_;refine qes 2 rfl kr (by ((refine qc4 qe1 call189 (qim B0 hvv2) ⟨qap,trivial⟩ (qer)))) ?_;(refine zb8 3 [0,1,2,3] rfl kr (qau call201 (qne (⟨_,_,_,(⟨_,_⟩:Pt),_,_,_⟩:Op24) _) ⟨qbg,⟨qbg,trivial⟩⟩) ?_;intro x34 hx34);refine qdw 4 [0,1,2,3,4] rfl kr (fun c'=>by exact qat (er rfl) (er rfl) qas qaf rf rf rf) ?_;refine Z36 ?_;show JQ _ _ _ _ _ _;refine qan (b:=i7) (As':=(qt1 c.w.heap.size).cells x34) qaf (subs_ovr (A:=(qt1 c.w.heap.size).cells x14) rfl) ?_;refine qcx (B0:=B0) (b:=b) ?_;refine qal ((⟨⟨_,_,_,_,_,_,_,_,_,_,_,_⟩,_,_,_,_,_,⟨_,_,_,_,[],_,_,_,_⟩⟩:Run31),x34) ?_ qag qab
   ·exact ⟨⟨hs,hks,ha1,hc⟩,hx34⟩
  refine s1 ?_;refine qcx (B0:=B0) (b:=b) ?_;refine qal ((⟨⟨_,_,_,_,_,_,_,_,_,_,_,_⟩,_,_,_,_,_,⟨_,_,_,_,[],_,_,_,_⟩⟩:Run31),x14) ?_ qag qab
  ·exact ⟨⟨hs,hks,hw.mono om,hc⟩,hp0⟩
 rintro ⟨q,s⟩ hI;dsimp only at hI ⊢;obtain ⟨⟨hs2,hks2,hw2,hc2⟩,hp1,hp2,hp3⟩:=hI;have hw2l:=hw2.1;have hp1l:=hp1.1;have hcc:q.c.length+s.out.check.length<=100000:=om;refine t8 ?_;refine cN ?_ ?_<;>intro h7
 ·refine t12 ?_;refine qcx (B0:=B0) (b:=b) ?_;refine qai (Bs:=[]) (⟨⟨_,_,_,_,_,_,_,_,_,_,_,_⟩,_,_,_,_,_,⟨_,_,_,_,[],_,_,_,_⟩⟩:Run31) ?_ rfl results219 trivial qab (hD0:=hX.2);exact by exact ⟨hs2,hks2,hw2.mono om,nT hc2 om⟩
 refine t11 ?_;refine cN ?_ ?_<;>intro h9
 ·refine t21 ?_;refine cN ?_ ?_<;>intro h11
  ·refine t9 ?_;refine qcx (B0:=B0) (b:=b) ?_;refine qai (Bs:=[]) (⟨⟨_,_,_,_,_,_,_,_,_,_,_,_⟩,_,_,_,_,_,⟨_,_,_,_,[],_,_,_,_⟩⟩:Run31) ?_ rfl results219 trivial qab (hD0:=hX.2);exact by exact ⟨hs2,hks2,hw2.mono om,nT hc2 om⟩
  refine t4 ?_;refine qcx (B0:=B0) (b:=b) ?_;refine qai (Bs:=[]) (⟨⟨_,_,_,_,_,_,_,_,_,_,_,_⟩,_,_,_,_,_,⟨_,_,_,_,[],_,_,_,_⟩⟩:Run31) ?_ rfl results219 trivial qab (hD0:=hX.2);exact by exact ⟨hs2,hks2,hw2.mono om,nT hc2 om⟩
 refine Z32 ?_;refine Z82 ?_;refine t7 ?_;refine qbc (by ((refine qau call88 (qb8 _ _ ?_) ⟨qap,⟨qap,trivial⟩⟩);all_goals (omega))) ?_;refine t2 ?_;refine ⟨rfl,?_⟩;refine Z3 ?_;refine t7 ?_;(refine qd5 rfl (qcb qam call210 (ql5 b _ hs2 hcc) ⟨qap,⟨qap,trivial⟩⟩) ?_;intro x75 hx75);refine t2 ?_;have hc3:x75.length<=n+300:=nT hx75 (show q.c.length+s.out.check.length<=n+300 by omega);refine qdd (b:=i7) qaf (qgp hX) ?_;refine qbl 7 (IsRef ((qt1 c.w.heap.size).cells s)) rfl (SubL.fact qba) ?_;refine Z23 ?_;refine f1 0 ?_;refine qd6 1 rfl kr (fun _=>(qeq rfl)) ?_;refine Z68 ?_;refine Z18 ?_;(refine qd7 8 rfl kr rfl rfl (fun hg=>(by have hg0:=hg;(try simp at hg);exact qa0 (k:=2) evG rfl rfl rfl rfl qbx)) ?_);(refine qd7 9 rfl kr rfl rfl (fun hg=>(by have hg0:=hg;(try simp at hg);exact qa0 (k:=4) evG rfl rfl rfl rfl qbx)) ?_);(refine qd7 10 rfl kr rfl rfl (fun hg=>(by have hg0:=hg;(try simp at hg);exact qcj evG rfl rfl rfl)) ?_);refine qes 11 rfl kr (qqy (er rfl) rfl (fun h=>by exact SubL.iteT (by (rw [h];rfl)) SubL.rfl')) ?_;refine Z67 ?_;(refine qjo 18 rfl kr rfl rfl (fun _ hg=>(by have hg0:=hg;(try simp at hg);exact qa0 (k:=2) evG rfl rfl rfl rfl qbx)) ?_);(refine qjo 19 rfl kr rfl rfl (fun _ hg=>(by have hg0:=hg;(try simp at hg);exact qa0 (k:=5) evG rfl rfl rfl rfl qbx)) ?_);(refine qjo 20 rfl kr rfl rfl (fun _ hg=>(by have hg0:=hg;(try simp at hg);exact qcj evG rfl rfl rfl)) ?_);refine qd6 21 rfl kr (fun _=>(qqy (er rfl) rfl (fun h=>by exact SubL.iteT (by (rw [h];rfl)) SubL.rfl'))) ?_;refine f1 22 ?_;refine f1 23 ?_;refine f1 24 ?_;refine qdw 25 [0,2,3,4,5,6,7,8,9,10,11,12,13,14,15,16,17,22,23,24,25] rfl kr (fun c'=>by exact qat (er rfl) (er rfl) qas qaf rf rf rf) ?_;refine f1 26 ?_;refine f1 27 ?_;refine f1 28 ?_;refine qdw 29 [0,1,2,3,4,5,6,7,8,9,10,11,12,13,14,15,16,17,18,19,20,21,22,23,24,25,26,27,28,29] rfl kr (fun c'=>by exact qat (er rfl) (er rfl) qas qaf rf rf rf) ?_;refine Z36 ?_;show JQ _ _ _ _ _ _;refine s1 ?_;refine qcx (B0:=B0) (b:=b) ?_;refine qai (Bs:=[]) (⟨⟨_,_,_,_,_,_,_,_,_,_,_,_⟩,_,_,_,_,_,⟨_,_,_,_,[],_,_,_,_⟩⟩:Run31) ?_ rfl results219 trivial qab (hD0:=hX.2);exact by exact ⟨hs2,hks2,qgw hw2 hp1 om,nT hc3 om⟩
theorem qtr (B0 b:Nat) (r:Run31) (f:Fd31) (row:Rw) (del:Bool) (n:Nat) (hB:B0<=b) (hn:n<=5000) (hr:RI n r) (hst:stp r=false) (hf:Ln f.page):FnX prog 193 [Is (.pointer (some ⟨b,0,none⟩)),IsFd31 f,IsRw row,Ib del] [blk b 260 [Ii r.job.client,Ii r.job.seq,Ii r.job.lines,qad tSt29 r.job.program,qad qaw r.job.access,Ib r.job.snapshot,Iw r.job.vector0,Iw r.job.vector1,Iw r.job.vector2,Iw r.job.vector3,Iw r.job.vector4,Iw r.job.vector5,qad tPg r.known,qa9 B0 (qad tPg r.w),qad qaw r.c,qad qaw r.need,Ii r.code,Ii r.out.code,Ii r.out.statement,Ii r.out.want,qad tRs29 r.out.results,Is (.slice none 0 0),Ib r.out.hint,Ib r.out.deep,Ib r.out.unposted,Ib r.out.dead]]
  (fun i:Run31=>RI (n+50) i) (fun i=>qbs []) (fun i=>[blk b 260 [Ii i.job.client,Ii i.job.seq,Ii i.job.lines,qad tSt29 i.job.program,qad qaw i.job.access,Ib i.job.snapshot,Iw i.job.vector0,Iw i.job.vector1,Iw i.job.vector2,Iw i.job.vector3,Iw i.job.vector4,Iw i.job.vector5,qad tPg i.known,qa9 B0 (qad tPg i.w),qad qaw i.c,qad qaw i.need,Ii i.code,Ii i.out.code,Ii i.out.statement,Ii i.out.want,qad tRs29 i.out.results,Is (.slice none 0 0),Ib i.out.hint,Ib i.out.deep,Ib i.out.unposted,Ib i.out.dead]]):=by
 have hvw:=hr.vw;obtain ⟨hs,hks,hw,hc⟩:=hr;obtain ⟨hn0,hc0⟩:=qt4 hst;have hwl:=hw.1;have hv9:r.known.length+r.w.length<=9000:=om;have hv10:r.known.length+r.w.length<=400000:=om;refine Fn.enterB func193 ntmps193 rfl rfl ?_;intro c hX hbelow;have hBw:B0<=c.w.heap.size:=by
  have:=hbelow b (mem_names.2 ⟨_,List.mem_cons_self ..,rfl⟩);omega
 refine t3 ?_;intro i5;refine s1 ?_;intro i6;refine t3 ?_;refine Z65 ?_;(refine JF_xe 10 [0,1,2,3,4,5,6,7,8,9,10] rfl kr (qac call214 (qqe _ _) ⟨qap,⟨qap,trivial⟩⟩) ?_;intro x31);refine f1 11 ?_;refine Z36 ?_;show JQ _ _ _ _ _ _;refine t8 ?_;intro i9;refine t9 ?_;refine qbw [(0,_),(3,_),(5,_),(8,_),(9,_)] [blk i5 _ _,blk b _ _] (fun yc:Vs=>True) (fun yc=>[]) (fun yc=>[blk i9 309 (tVs.cells yc)]) qag qab ?_ ?_
 rotate_left
 focus
  refine cN ?_ ?_<;>intro h3
  ·refine s1 ?_;refine Z87 ?_;refine t4 ?_;refine qan (b:=i9) (As':=tVs.cells (⟨(⟨_,_,_,_⟩:Rw),_,_,_,(⟨_,_⟩:Pt)⟩:Vs)) qaf qbo ?_;exact Z79
  refine s1 ?_;refine qan (b:=i9) (As':=tVs.cells (⟨(⟨_,_,_,_⟩:Rw),_,_,_,(⟨_,_⟩:Pt)⟩:Vs)) qaf qbo ?_;exact Z79
 rintro v _;refine t10 ?_;refine cN ?_ ?_<;>intro h5
 ·refine t15 ?_;refine qbw [(0,_),(3,_),(5,_),(9,_)] [blk i5 _ _] (fun yc:Vs×Run31=>RI (n+2) yc.2) (fun yc=>[]) (fun yc=>[blk i9 309 (tVs.cells yc.1),blk b 260 [Ii yc.2.job.client,Ii yc.2.job.seq,Ii yc.2.job.lines,qad tSt29 yc.2.job.program,qad qaw yc.2.job.access,Ib yc.2.job.snapshot,Iw yc.2.job.vector0,Iw yc.2.job.vector1,Iw yc.2.job.vector2,Iw yc.2.job.vector3,Iw yc.2.job.vector4,Iw yc.2.job.vector5,qad tPg yc.2.known,qa9 B0 (qad tPg yc.2.w),qad qaw yc.2.c,qad qaw yc.2.need,Ii yc.2.code,Ii yc.2.out.code,Ii yc.2.out.statement,Ii yc.2.out.want,qad tRs29 yc.2.out.results,Is (.slice none 0 0),Ib yc.2.out.hint,Ib yc.2.out.deep,Ib yc.2.out.unposted,Ib yc.2.out.dead]]) qag qab ?_ ?_
  rotate_left
  focus
   refine cN ?_ ?_<;>intro h7
   ·refine t3 ?_;(refine qd5 rfl (by ((refine qcb qam call146 (PageR_ok B0 b 97 hv10 ?_ ⟨de,de⟩) ⟨qap,⟨qap,trivial⟩⟩);all_goals (rw [hn0];decide))) ?_;intro x51 hx51);refine s1 ?_;intro i10;refine t5 ?_;obtain ⟨hg1,hg2⟩:=hx51;have hcc:r.c.length+1<=100000:=om;refine Z51 ?_;refine cN ?_ ?_<;>intro h9
    ·refine t4 ?_;refine qcx (B0:=B0) (b:=b) ?_;refine qai (Bs:=[]) (⟨⟨_,_,_,_,_,_,_,_,_,_,_,_⟩,_,_,_,_,_,⟨_,_,_,_,[],_,_,_,_⟩⟩:Run31) ?_ rfl results193 trivial qab (hD0:=hX.2);exact by exact ⟨hs,hks,hw.mono om,nT hc om⟩
    refine t6 ?_;refine Z43 ?_;refine cN ?_ ?_<;>intro h10
    ·refine t12 ?_;refine qcx (B0:=B0) (b:=b) ?_;refine qai (Bs:=[]) (⟨⟨_,_,_,_,_,_,_,_,_,_,_,_⟩,_,_,_,_,_,⟨_,_,_,_,[],_,_,_,_⟩⟩:Run31) ?_ rfl results193 trivial qab (hD0:=hX.2);exact by exact ⟨hs,hks,hw.mono om,nT hc om⟩
    refine t5 ?_;refine kRF call165 (qjh _) ?_;(refine qh0 61 rfl ?_;intro x61);refine t14 ?_;refine cN ?_ ?_<;>intro h13
    ·refine t12 ?_;refine qcx (B0:=B0) (b:=b) ?_;refine qai (Bs:=[]) (⟨⟨_,_,_,_,_,_,_,_,_,_,_,_⟩,_,_,_,_,_,⟨_,_,_,_,[],_,_,_,_⟩⟩:Run31) ?_ rfl results193 trivial qab (hD0:=hX.2);exact by exact ⟨hs,hks,hw.mono om,nT hc om⟩
    refine t5 ?_;refine Z1 ?_;(refine qd5 rfl (qcb qam call210 (ql5 b [97] hs hcc) ⟨qap,⟨qap,trivial⟩⟩) ?_;intro x71 hx71);refine t2 ?_;have hc5:x71.length<=n+1:=nT hx71 (show r.c.length+1<=n+1 by omega);refine t5 ?_;refine qan (b:=i9) (As':=tVs.cells (⟨(⟨_,_,_,_⟩:Rw),_,_,_,(⟨_,_⟩:Pt)⟩:Vs)) qaf qbo ?_;refine qcx (B0:=B0) (b:=b) ?_;refine qal ((⟨(⟨_,_,_,_⟩:Rw),_,_,_,(⟨_,_⟩:Pt)⟩:Vs),(⟨⟨_,_,_,_,_,_,_,_,_,_,_,_⟩,_,_,_,_,_,⟨_,_,_,_,[],_,_,_,_⟩⟩:Run31)) ?_ qag qab
    ·exact (by exact ⟨hs,hks,hw.mono om,nT hc5 om⟩)
   refine s1 ?_;refine qan (b:=i9) (As':=tVs.cells (⟨(⟨_,_,_,_⟩:Rw),_,_,_,(⟨_,_⟩:Pt)⟩:Vs)) qaf qbo ?_;refine qcx (B0:=B0) (b:=b) ?_;refine qal ((⟨(⟨_,_,_,_⟩:Rw),_,_,_,(⟨_,_⟩:Pt)⟩:Vs),(⟨⟨_,_,_,_,_,_,_,_,_,_,_,_⟩,_,_,_,_,_,⟨_,_,_,_,[],_,_,_,_⟩⟩:Run31)) ?_ qag qab
   ·exact (by exact ⟨hs,hks,hw.mono om,nT hc om⟩)
  rintro ⟨v2,q⟩ hI;dsimp only at hI ⊢;obtain ⟨hs2,hks2,hw2,hc2⟩:=hI;have hw2l:=hw2.1;refine t5 ?_;refine qao rfl (by ((refine qac call215 (qf8 _ (⟨(⟨_,_,_,_⟩:Rw),_,_,_,(⟨_,_⟩:Pt)⟩:Vs) ?_) ⟨qbg,⟨qbg,trivial⟩⟩);all_goals (exact hf))) ?_;refine t4 ?_;intro i13;refine t5 ?_;refine qfe (b:=i13) (fun _=>qaf) ?_;intro p13 hln13;refine Z5 ?_;refine Z82 ?_;refine t6 ?_;refine Z45 ?_;refine qbc (by ((refine qau call88 (qb8 _ _ ?_) ⟨qap,⟨qap,trivial⟩⟩);all_goals (simp;omega))) ?_;refine t2 ?_;refine ⟨rfl,?_⟩;refine Z3 ?_;refine t3 ?_;refine qcx (B0:=B0) (b:=b) ?_;refine qai (Bs:=[]) (⟨⟨_,_,_,_,_,_,_,_,_,_,_,_⟩,_,_,_,_,_,⟨_,_,_,_,[],_,_,_,_⟩⟩:Run31) ?_ rfl results193 trivial qab (hD0:=hX.2);exact by exact ⟨hs2,hks2,qgw hw2 (wl1 (n:=0) (by assumption)) om,nT hc2 om⟩
 refine t5 ?_;(refine qd5 rfl (qcb qam call216 (qni B0 b 1 n hB hv9 hw hst) ⟨qap,⟨qap,trivial⟩⟩) ?_;intro x92 hx92);refine t5 ?_;obtain ⟨ha1,ha2⟩:=hx92;have ha3:=ha1.1;have hvv2:r.known.length+x92.2.2.1.length<=400000:=om;have hev:(qck r.known x92.2.2.1).length<=10000:=nT (qae _ _) om;refine Z51 ?_;refine cN ?_ ?_<;>intro h20
 ·refine t2 ?_;refine qcx (B0:=B0) (b:=b) ?_;refine qai (Bs:=[]) (⟨⟨_,_,_,_,_,_,_,_,_,_,_,_⟩,_,_,_,_,_,⟨_,_,_,_,[],_,_,_,_⟩⟩:Run31) ?_ rfl results193 trivial qab (hD0:=hX.2);exact by exact ⟨hs,hks,ha1.mono om,nT hc om⟩
 have hfl:=ha2 h20;obtain ⟨pz,hz⟩:∃ q,x92.2.2.2.2[0]?=some q:=⟨_,gE om⟩
 refine t5 ?_;refine qao rfl (by exact qak (j:=0) (er rfl) (er rfl) rfl rfl rf hz) ?_;refine s1 ?_;refine kRF call142 (qkm pz 1 0#32) ?_;refine t4 ?_;intro i16;refine t11 ?_;refine cN ?_ ?_<;>intro h22
 ·refine t10 ?_;refine qcx (B0:=B0) (b:=b) ?_;refine qai (Bs:=[]) (⟨⟨_,_,_,_,_,_,_,_,_,_,_,_⟩,_,_,_,_,_,⟨_,_,_,_,[],_,_,_,_⟩⟩:Run31) ?_ rfl results193 trivial qab (hD0:=hX.2);exact by exact ⟨hs,hks,ha1.mono om,nT hc om⟩
 refine t3 ?_;refine Z6 ?_;refine f1 4 ?_;refine f1 5 ?_;refine qes 6 rfl kr (qac call83 (qqp _) ⟨qap,trivial⟩) ?_;refine qes 7 rfl kr (OpP.to (qa1 (size:=2) (qs:=[(0,_)]) rfl rfl rfl ⟨⟨rfl,_,(er rfl),qas⟩,trivial⟩ rf rf) (SubL.row1 (T:=tPt) (x:=(⟨_,_⟩:Pt)) rf rf rf qav)) ?_;refine qes 8 rfl kr (qix (qs:=[(0,_),(1,_),(5,_)]) rfl rfl rfl rfl ⟨⟨rfl,_,(er rfl),qas⟩,⟨⟨rfl,_,(er rfl),qas⟩,⟨⟨rfl,_,(er rfl),qas⟩,trivial⟩⟩⟩ rf qbx) ?_;refine f1 9 ?_;refine qes 10 rfl kr (by ((refine qc4 qe1 call189 (qim B0 hvv2) ⟨qap,trivial⟩ (qer)))) ?_;refine qnh 12 rfl kr (fun _=>(qcc rfl qbx rfl)) ?_;(refine zb8 11 [0,1,2,3,4,5,6,7,8,9,10,11] rfl kr (by ((refine qau call101 (qfx (⟨_,_,_,_,_,_⟩:Ep26) _ ?_ ?_) ⟨qbg,⟨qbg,trivial⟩⟩);all_goals (first|exact hev|simp;done))) ?_;intro x118 hx118);(refine qe4 18 12 kr rfl rfl ?_;intro i18);refine qdw 13 [0,1,2,3,4,5,6,7,8,9,10,11,12,13] rfl kr (fun c'=>by exact qat (er rfl) (er rfl) qas qaf rf rf rf) ?_;refine Z36 ?_;show JQ _ _ _ _ _ _;refine t3 ?_;obtain ⟨⟨he1,he2,he3⟩,he4⟩:=hx118;have he1l:=he1.1;have hcc2:r.c.length+x118.out.check.length<=100000:=om;refine t6 ?_;refine cN ?_ ?_<;>intro h25
 ·refine t12 ?_;refine qcx (B0:=B0) (b:=b) ?_;refine qai (Bs:=[]) (⟨⟨_,_,_,_,_,_,_,_,_,_,_,_⟩,_,_,_,_,_,⟨_,_,_,_,[],_,_,_,_⟩⟩:Run31) ?_ rfl results193 trivial qab (hD0:=hX.2);exact by exact ⟨hs,hks,ha1.mono om,nT hc om⟩
 refine t11 ?_;refine cN ?_ ?_<;>intro h27
 ·refine t20 ?_;refine cN ?_ ?_<;>intro h29
  ·refine t17 ?_;refine cN ?_ ?_<;>intro h31
   ·refine t9 ?_;refine qcx (B0:=B0) (b:=b) ?_;refine qai (Bs:=[]) (⟨⟨_,_,_,_,_,_,_,_,_,_,_,_⟩,_,_,_,_,_,⟨_,_,_,_,[],_,_,_,_⟩⟩:Run31) ?_ rfl results193 trivial qab (hD0:=hX.2);exact by exact ⟨hs,hks,ha1.mono om,nT hc om⟩
   refine t4 ?_;refine qcx (B0:=B0) (b:=b) ?_;refine qai (Bs:=[]) (⟨⟨_,_,_,_,_,_,_,_,_,_,_,_⟩,_,_,_,_,_,⟨_,_,_,_,[],_,_,_,_⟩⟩:Run31) ?_ rfl results193 trivial qab (hD0:=hX.2);exact by exact ⟨hs,hks,ha1.mono om,nT hc om⟩
  refine t11 ?_;refine cN ?_ ?_<;>intro h31
  ·refine t9 ?_;refine qcx (B0:=B0) (b:=b) ?_;refine qai (Bs:=[]) (⟨⟨_,_,_,_,_,_,_,_,_,_,_,_⟩,_,_,_,_,_,⟨_,_,_,_,[],_,_,_,_⟩⟩:Run31) ?_ rfl results193 trivial qab (hD0:=hX.2);exact by exact ⟨hs,hks,ha1.mono om,nT hc om⟩
  refine t4 ?_;refine qcx (B0:=B0) (b:=b) ?_;refine qai (Bs:=[]) (⟨⟨_,_,_,_,_,_,_,_,_,_,_,_⟩,_,_,_,_,_,⟨_,_,_,_,[],_,_,_,_⟩⟩:Run31) ?_ rfl results193 trivial qab (hD0:=hX.2);exact by exact ⟨hs,hks,ha1.mono om,nT hc om⟩
 refine Z32 ?_;refine Z82 ?_;refine t7 ?_;refine qbc (by ((refine qau call88 (qb8 _ _ ?_) ⟨qap,⟨qap,trivial⟩⟩);all_goals (omega))) ?_;refine t2 ?_;refine ⟨rfl,?_⟩;refine Z3 ?_;refine t7 ?_;(refine qd5 rfl (qcb qam call210 (ql5 b _ hs hcc2) ⟨qap,⟨qap,trivial⟩⟩) ?_;intro x166 hx166);refine t4 ?_;have hc6:x166.length<=n+10:=nT hx166 (show r.c.length+x118.out.check.length<=n+10 by omega);have hm3:=qgw ha1 he1 (Nat.le_refl _);have hm3l:=hm3.1;refine t4 ?_;refine qbw [(0,_),(5,_),(9,_),(16,_)] [blk i16 _ _,blk i5 _ _,blk b _ _] (fun yc:Vs=>True) (fun yc=>[]) (fun yc=>[blk i9 309 (tVs.cells yc)]) qag qab ?_ ?_
 rotate_left
 focus
  refine cN ?_ ?_<;>intro h35
  ·refine t7 ?_;refine qan (b:=i9) (As':=tVs.cells (⟨(⟨_,_,_,_⟩:Rw),_,_,_,(⟨_,_⟩:Pt)⟩:Vs)) qaf qbo ?_;exact Z79
  refine s1 ?_;refine qan (b:=i9) (As':=tVs.cells (⟨(⟨_,_,_,_⟩:Rw),_,_,_,(⟨_,_⟩:Pt)⟩:Vs)) qaf qbo ?_;exact Z79
 rintro v3 _;refine t6 ?_;refine qao rfl (by ((refine qac call217 (zbs _ _ (⟨(⟨_,_,_,_⟩:Rw),_,_,_,(⟨_,_⟩:Pt)⟩:Vs) ?_ ?_) ⟨qbg,⟨qbg,⟨qbg,trivial⟩⟩⟩);all_goals (first|exact hf|exact zev _ _ _))) ?_;(refine qbj 177 rfl ?_;intro x177 hx177);refine t9 ?_;have hx177l:=hx177.1;refine t5 ?_;refine cN ?_ ?_<;>intro h38
 ·refine t10 ?_;refine qcx (B0:=B0) (b:=b) ?_;refine qai (Bs:=[]) (⟨⟨_,_,_,_,_,_,_,_,_,_,_,_⟩,_,_,_,_,_,⟨_,_,_,_,[],_,_,_,_⟩⟩:Run31) ?_ rfl results193 trivial qab (hD0:=hX.2);exact by exact ⟨hs,hks,hm3.mono om,nT hc6 om⟩
 refine t9 ?_;refine qao rfl (by ((refine qau call88 (qb8 _ _ ?_) ⟨qap,⟨qap,trivial⟩⟩);all_goals (omega))) ?_;refine t5 ?_;refine qcx (B0:=B0) (b:=b) ?_;refine qai (Bs:=[]) (⟨⟨_,_,_,_,_,_,_,_,_,_,_,_⟩,_,_,_,_,_,⟨_,_,_,_,[],_,_,_,_⟩⟩:Run31) ?_ rfl results193 trivial qab (hD0:=hX.2);exact by exact ⟨hs,hks,qgw hm3 hx177 om,nT hc6 om⟩
theorem zb0 (B0 b:Nat) (r:Run31) (row:Rw) (n:Nat) (hB:B0<=b) (hn:n<=2000) (hr:RI n r) (hst:stp r=false):FnX prog 194 [Is (.pointer (some ⟨b,0,none⟩)),IsRw row] [blk b 260 [Ii r.job.client,Ii r.job.seq,Ii r.job.lines,qad tSt29 r.job.program,qad qaw r.job.access,Ib r.job.snapshot,Iw r.job.vector0,Iw r.job.vector1,Iw r.job.vector2,Iw r.job.vector3,Iw r.job.vector4,Iw r.job.vector5,qad tPg r.known,qa9 B0 (qad tPg r.w),qad qaw r.c,qad qaw r.need,Ii r.code,Ii r.out.code,Ii r.out.statement,Ii r.out.want,qad tRs29 r.out.results,Is (.slice none 0 0),Ib r.out.hint,Ib r.out.deep,Ib r.out.unposted,Ib r.out.dead]]
  (fun i:Run31=>RI (n+700) i) (fun i=>qbs []) (fun i=>[blk b 260 [Ii i.job.client,Ii i.job.seq,Ii i.job.lines,qad tSt29 i.job.program,qad qaw i.job.access,Ib i.job.snapshot,Iw i.job.vector0,Iw i.job.vector1,Iw i.job.vector2,Iw i.job.vector3,Iw i.job.vector4,Iw i.job.vector5,qad tPg i.known,qa9 B0 (qad tPg i.w),qad qaw i.c,qad qaw i.need,Ii i.code,Ii i.out.code,Ii i.out.statement,Ii i.out.want,qad tRs29 i.out.results,Is (.slice none 0 0),Ib i.out.hint,Ib i.out.deep,Ib i.out.unposted,Ib i.out.dead]]):=by
 have hvw:=hr.vw;obtain ⟨hs,hks,hw,hc⟩:=hr;have hwl:=hw.1;have hv9:r.known.length+r.w.length<=9000:=om;have hv10:r.known.length+r.w.length<=400000:=om;refine Fn.enterB func194 ntmps194 rfl rfl ?_;intro c hX hbelow;have hBw:B0<=c.w.heap.size:=by
  have:=hbelow b (mem_names.2 ⟨_,List.mem_cons_self ..,rfl⟩);omega
 refine t3 ?_;intro i3;refine t5 ?_;(refine qd5 rfl (qcb qam call216 (qni B0 b 1 n hB hv9 hw hst) ⟨qap,⟨qap,trivial⟩⟩) ?_;intro x12 hx12);refine t5 ?_;obtain ⟨ha1,ha2⟩:=hx12;have ha3:=ha1.1;refine t2 ?_;refine Z34 ?_;refine t2 ?_;refine cN ?_ ?_<;>intro h2
 ·refine t2 ?_;refine qcx (B0:=B0) (b:=b) ?_;refine qai (Bs:=[]) (⟨⟨_,_,_,_,_,_,_,_,_,_,_,_⟩,_,_,_,_,_,⟨_,_,_,_,[],_,_,_,_⟩⟩:Run31) ?_ rfl results194 trivial qab (hD0:=hX.2);exact by exact ⟨hs,hks,ha1.mono om,nT hc om⟩
 have hfl:=ha2 h2;obtain ⟨pz,hz⟩:∃ q,x12.2.2.2.2[0]?=some q:=⟨_,gE om⟩
 refine t5 ?_;refine qao rfl (by exact qak (j:=0) (er rfl) (er rfl) rfl rfl rf hz) ?_;refine s1 ?_;refine kRF call142 (qkm pz 1 0#32) ?_;refine t4 ?_;intro i5;refine t11 ?_;refine cN ?_ ?_<;>intro h4
 ·refine t10 ?_;refine qcx (B0:=B0) (b:=b) ?_;refine qai (Bs:=[]) (⟨⟨_,_,_,_,_,_,_,_,_,_,_,_⟩,_,_,_,_,_,⟨_,_,_,_,[],_,_,_,_⟩⟩:Run31) ?_ rfl results194 trivial qab (hD0:=hX.2);exact by exact ⟨hs,hks,ha1.mono om,nT hc om⟩
 refine t3 ?_;refine qdd (b:=i5) qaf (qgp hX) ?_;refine qbl 5 (IsRef (tPg.cells (qlf pz 1 0#32).1)) rfl (SubL.fact qba) ?_;refine qdd (b:=i3) qaf (qgp hX) ?_;refine qbl 3 (IsRef (tRw.cells row)) rfl (SubL.fact qba) ?_;refine Z23 ?_;refine qd6 0 rfl kr (fun _=>(by exact qa6 (n:=9) (er rfl) rfl rfl rfl rf qbx)) ?_;refine qd6 1 rfl kr (fun _=>(by exact qa6 (n:=4) (er rfl) rfl rfl rfl rf qbx)) ?_;refine Z68 ?_;refine Z18 ?_;refine f1 8 ?_;refine f1 9 ?_;refine f1 10 ?_;refine f1 11 ?_;refine qnh 18 rfl kr (fun _=>(qcc rfl qbx rfl)) ?_;(refine JF_xe 12 [2,3,4,5,6,7,8,9,10,11,12] rfl kr (qac call214 (qqe _ _) ⟨qap,⟨qap,trivial⟩⟩) ?_;intro x40);refine qes 13 rfl kr (qix (qs:=[(0,_),(3,_)]) rfl rfl rfl rfl ⟨⟨rfl,_,(er rfl),qas⟩,⟨⟨rfl,_,(er rfl),qas⟩,trivial⟩⟩ rf qbx) ?_;refine qes 14 rfl kr (by ((refine qac call215 (qf8 _ (⟨(⟨_,_,_,_⟩:Rw),_,_,_,(⟨_,_⟩:Pt)⟩:Vs) ?_) ⟨qbg,⟨qbg,trivial⟩⟩);all_goals (exact zev _ _ _))) ?_;refine f1 15 ?_;refine f1 16 ?_;refine qd6 17 rfl kr (fun _=>(qdr (er rfl) rfl)) ?_;(refine qe4 7 18 kr rfl rfl ?_;intro i7);refine qdw 19 [0,1,2,3,4,5,6,7,8,9,10,11,12,13,14,15,16,18,19] rfl kr (fun c'=>by exact qat (er rfl) (er rfl) qas qaf rf rf rf) ?_;refine f1 20 ?_;refine Z36 ?_;show JQ _ _ _ _ _ _;refine t3 ?_;refine qfe (b:=i7) (fun _=>qaf) ?_;intro p7 hln7;(refine JC_ex 8 rfl ?_;intro e8);refine t5 ?_;refine cN ?_ ?_<;>intro h7
 ·refine t10 ?_;refine qcx (B0:=B0) (b:=b) ?_;refine qai (Bs:=[]) (⟨⟨_,_,_,_,_,_,_,_,_,_,_,_⟩,_,_,_,_,_,⟨_,_,_,_,[],_,_,_,_⟩⟩:Run31) ?_ rfl results194 trivial qab (hD0:=hX.2);exact by exact ⟨hs,hks,ha1.mono om,nT hc om⟩
 refine Z32 ?_;refine Z82 ?_;refine t6 ?_;refine Z45 ?_;refine qbc (by ((refine qau call88 (qb8 _ _ ?_) ⟨qap,⟨qap,trivial⟩⟩);all_goals (simp;omega))) ?_;refine t2 ?_;refine ⟨rfl,?_⟩;refine Z3 ?_;refine t4 ?_;refine kRF call83 (qqp _) ?_;refine s1 ?_;intro i9;refine t10 ?_;refine qbv (b:=b) (As':=[Ii _,Ii _,Ii _,qad tSt29 _,qad qaw _,Ib _,Iw _,Iw _,Iw _,Iw _,Iw _,Iw _,qad tPg _,qa9 B0 (qad tPg _),qad qaw _,qad qaw _,Ii _,Ii _,Ii _,Ii _,qad tRs29 _,Is (.slice none 0 0),Ib _,Ib _,Ib _,Ib _]) qaf qbo ?_;refine qax [(0,_),(3,_),(9,_)] [blk i9 _ _] (fun y:Nat×Run31=>y.1<=18∧(RI (n+20+16*y.1) y.2∧(y.1<18->stp y.2=false))) (fun y=>[(10,Ii (y.1:Nat))]) (fun y=>[blk b 260 [Ii y.2.job.client,Ii y.2.job.seq,Ii y.2.job.lines,qad tSt29 y.2.job.program,qad qaw y.2.job.access,Ib y.2.job.snapshot,Iw y.2.job.vector0,Iw y.2.job.vector1,Iw y.2.job.vector2,Iw y.2.job.vector3,Iw y.2.job.vector4,Iw y.2.job.vector5,qad tPg y.2.known,qa9 B0 (qad tPg y.2.w),qad qaw y.2.c,qad qaw y.2.need,Ii y.2.code,Ii y.2.out.code,Ii y.2.out.statement,Ii y.2.out.want,qad tRs29 y.2.out.results,Is (.slice none 0 0),Ib y.2.out.hint,Ib y.2.out.deep,Ib y.2.out.unposted,Ib y.2.out.dead]]) (fun y=>18-y.1) (0,(⟨⟨_,_,_,_,_,_,_,_,_,_,_,_⟩,_,_,_,_,_,⟨_,_,_,_,[],_,_,_,_⟩⟩:Run31)) ?_ qag qab ?_
 ·exact ⟨by exact nZ _,⟨⟨hs,hks,qgw ha1 (wl1 (n:=0) (by assumption)) om,nT hc om⟩,fun _=>h2⟩⟩
 rintro ⟨k,rq⟩ ⟨hk,hI⟩;dsimp only at hk hI ⊢;refine t7 ?_;refine cN ?_ ?_<;>intro h12
 ·have hlt:k<18:=by have:=of_decide_eq_true h12;omega
  clear h12;obtain ⟨hq1,hq2⟩:=hI;have hq3:=hq2 hlt;refine t11 ?_;(refine qd5 rfl (by ((refine qcb qam call218 (zby B0 b rq _ _ (n+20+16*k) hB ?_ hq1 hq3) ⟨qap,⟨qap,⟨qap,trivial⟩⟩⟩);all_goals (omega))) ?_;intro x70 hx70);refine t2 ?_;(refine qcg rfl rfl rfl (fun hg=>(by have hg0:=hg;(try simp at hg);((refine qdz (by (try simp only [List.append_eq,List.nil_append,List.cons_append]);exact qe1) call192 (qn6 _ _) ⟨qap,trivial⟩ qla)))) ?_);refine t3 ?_;refine cN ?_ ?_<;>intro h14
  ·have hRq:=hx70.mono (m:=n+340) om;generalize x70.1=rq at hRq ⊢;refine t10 ?_;refine Z34 ?_;refine t3 ?_;refine cN ?_ ?_<;>intro h17
   ·have hs5:=(Bool.not_eq_true' _).mp h17;refine t5 ?_;(refine qd5 rfl (by ((refine qcb qam call219 (qr4 B0 b rq _ _ (n+340) hB ?_ hRq hs5) ⟨qap,⟨qap,⟨qap,trivial⟩⟩⟩);all_goals (omega))) ?_;intro x87 hx87);refine t2 ?_;refine qcx (B0:=B0) (b:=b) ?_;refine qai (Bs:=[]) (⟨⟨_,_,_,_,_,_,_,_,_,_,_,_⟩,_,_,_,_,_,⟨_,_,_,_,[],_,_,_,_⟩⟩:Run31) ?_ rfl results194 trivial qab (hD0:=hX.2);exact by exact hx87.mono om
   refine t2 ?_;refine qcx (B0:=B0) (b:=b) ?_;refine qai (Bs:=[]) (⟨⟨_,_,_,_,_,_,_,_,_,_,_,_⟩,_,_,_,_,_,⟨_,_,_,_,[],_,_,_,_⟩⟩:Run31) ?_ rfl results194 trivial qab (hD0:=hX.2);exact by exact hRq.mono om
  have hs4:stp x70.1=false:=(Bool.or_eq_false_iff.1 h14).2;refine t8 ?_;refine cN ?_ ?_<;>intro h15
  ·have hk17:k=17:=by
    have:(k:Int)=17:=by simpa using h15
    omega
   refine t13 ?_;refine qcx (B0:=B0) (b:=b) ?_;refine qaa (k+1,(⟨⟨_,_,_,_,_,_,_,_,_,_,_,_⟩,_,_,_,_,_,⟨_,_,_,_,[],_,_,_,_⟩⟩:Run31)) ?_ ?_ qag qab
   ·exact ⟨om,⟨by exact hx70.mono om,by exact fun h=>absurd h om⟩⟩
   ·omega
  refine t8 ?_;refine qcx (B0:=B0) (b:=b) ?_;refine qaa (k+1,(⟨⟨_,_,_,_,_,_,_,_,_,_,_,_⟩,_,_,_,_,_,⟨_,_,_,_,[],_,_,_,_⟩⟩:Run31)) ?_ ?_ qag qab
  ·exact ⟨om,⟨by exact hx70.mono om,by exact fun _=>hs4⟩⟩
  ·omega
 have hke:k=18:=by have:=of_decide_eq_false h12;omega
 clear h12;subst hke;have hRq:=hI.1.mono (m:=n+340) om;refine t8 ?_;refine Z34 ?_;refine t3 ?_;refine cN ?_ ?_<;>intro h17
 ·have hs5:=(Bool.not_eq_true' _).mp h17;refine t5 ?_;(refine qd5 rfl (by ((refine qcb qam call219 (qr4 B0 b rq _ _ (n+340) hB ?_ hRq hs5) ⟨qap,⟨qap,⟨qap,trivial⟩⟩⟩);all_goals (omega))) ?_;intro x87 hx87);refine t2 ?_;refine qcx (B0:=B0) (b:=b) ?_;refine qai (Bs:=[]) (⟨⟨_,_,_,_,_,_,_,_,_,_,_,_⟩,_,_,_,_,_,⟨_,_,_,_,[],_,_,_,_⟩⟩:Run31) ?_ rfl results194 trivial qab (hD0:=hX.2);exact by exact hx87.mono om
 refine t2 ?_;refine qcx (B0:=B0) (b:=b) ?_;refine qai (Bs:=[]) (⟨⟨_,_,_,_,_,_,_,_,_,_,_,_⟩,_,_,_,_,_,⟨_,_,_,_,[],_,_,_,_⟩⟩:Run31) ?_ rfl results194 trivial qab (hD0:=hX.2);exact by exact hRq.mono om
theorem StmtR_ok (B0 b:Nat) (r:Run31) (s:St29) (acc:Int) (n:Nat) (hB:B0<=b) (hn:n<=1000) (hr:RI n r) (hk:1<=s.kind∧s.kind<=4) (hcol:0<=s.col∧s.col<=2) (hacc:acc≠3):FnX prog 148 [Is (.pointer (some ⟨b,0,none⟩)),qqj s,Ii acc] [blk b 260 [Ii r.job.client,Ii r.job.seq,Ii r.job.lines,qad tSt29 r.job.program,qad qaw r.job.access,Ib r.job.snapshot,Iw r.job.vector0,Iw r.job.vector1,Iw r.job.vector2,Iw r.job.vector3,Iw r.job.vector4,Iw r.job.vector5,qad tPg r.known,qa9 B0 (qad tPg r.w),qad qaw r.c,qad qaw r.need,Ii r.code,Ii r.out.code,Ii r.out.statement,Ii r.out.want,qad tRs29 r.out.results,Is (.slice none 0 0),Ib r.out.hint,Ib r.out.deep,Ib r.out.unposted,Ib r.out.dead]]
  (fun i:Run31×Rs29=>RI (n+1200) i.1) (fun i=>IsRs29 i.2) (fun i=>[blk b 260 [Ii i.1.job.client,Ii i.1.job.seq,Ii i.1.job.lines,qad tSt29 i.1.job.program,qad qaw i.1.job.access,Ib i.1.job.snapshot,Iw i.1.job.vector0,Iw i.1.job.vector1,Iw i.1.job.vector2,Iw i.1.job.vector3,Iw i.1.job.vector4,Iw i.1.job.vector5,qad tPg i.1.known,qa9 B0 (qad tPg i.1.w),qad qaw i.1.c,qad qaw i.1.need,Ii i.1.code,Ii i.1.out.code,Ii i.1.out.statement,Ii i.1.out.want,qad tRs29 i.1.out.results,Is (.slice none 0 0),Ib i.1.out.hint,Ib i.1.out.deep,Ib i.1.out.unposted,Ib i.1.out.dead]]):=by
 refine Fn.enterB func148 ntmps148 rfl rfl ?_;intro c hX hbelow;refine t3 ?_;intro i4;refine s1 ?_;intro i6;refine t9 ?_;refine cN ?_ ?_<;>intro h1
 ·exact absurd (by simpa using h1) hacc
 refine t8 ?_;(refine qd5 rfl (by ((refine qcb qam call191 (LocR_ok B0 b r _ _ n ?_ hr) ⟨qap,⟨qap,⟨qap,trivial⟩⟩⟩);all_goals (omega))) ?_;intro x20 hx20);refine s1 ?_;intro i7;refine t5 ?_;obtain ⟨hl1,hl2⟩:=hx20;refine t2 ?_;refine Z34 ?_;refine t2 ?_;refine cN ?_ ?_<;>intro h4
 ·refine t8 ?_;refine qcx (B0:=B0) (b:=b) ?_;refine qai (Bs:=[_]) ((⟨⟨_,_,_,_,_,_,_,_,_,_,_,_⟩,_,_,_,_,_,⟨_,_,_,_,[],_,_,_,_⟩⟩:Run31),(⟨_,_⟩:Rs29)) ?_ rfl results148 eXF qab (hD0:=hX.2);exact by exact hl1.mono om
 refine t16 ?_;refine cN ?_ ?_<;>intro h19
 ·exact absurd (show s.kind=5 by simpa using h19) om
 refine t6 ?_;refine cN ?_ ?_<;>intro h22
 ·refine t8 ?_;intro i8;refine t11 ?_;refine cN ?_ ?_<;>intro h25
  ·refine t16 ?_;refine qcx (B0:=B0) (b:=b) ?_;refine qai (Bs:=[_]) ((⟨⟨_,_,_,_,_,_,_,_,_,_,_,_⟩,_,_,_,_,_,⟨_,_,_,_,[],_,_,_,_⟩⟩:Run31),(⟨_,_⟩:Rs29)) ?_ rfl results148 eXF qab (hD0:=hX.2);exact by exact hl1.mono om
  refine t7 ?_;refine cN ?_ ?_<;>intro h27
  ·refine t4 ?_;(refine qd5 rfl (by ((refine qcb qam call193 (qtr B0 b x20.1 x20.2 (⟨_,_,_,_⟩:Rw) false (n+302) hB ?_ hl1 h4 hl2) ⟨qbg,⟨qbg,⟨qbg,⟨qbg,trivial⟩⟩⟩⟩);all_goals (omega))) ?_;intro x103 hx103);refine t11 ?_;refine qcx (B0:=B0) (b:=b) ?_;refine qai (Bs:=[_]) ((⟨⟨_,_,_,_,_,_,_,_,_,_,_,_⟩,_,_,_,_,_,⟨_,_,_,_,[],_,_,_,_⟩⟩:Run31),(⟨_,_⟩:Rs29)) ?_ rfl results148 eXF qab (hD0:=hX.2);exact by exact hx103.mono om
  refine t3 ?_;(refine qd5 rfl (by ((refine qcb qam call194 (zb0 B0 b x20.1 (⟨_,_,_,_⟩:Rw) (n+302) hB ?_ hl1 h4) ⟨qbg,⟨qbg,trivial⟩⟩);all_goals (omega))) ?_;intro x90 hx90);refine t11 ?_;refine qcx (B0:=B0) (b:=b) ?_;refine qai (Bs:=[_]) ((⟨⟨_,_,_,_,_,_,_,_,_,_,_,_⟩,_,_,_,_,_,⟨_,_,_,_,[],_,_,_,_⟩⟩:Run31),(⟨_,_⟩:Rs29)) ?_ rfl results148 eXF qab (hD0:=hX.2);exact by exact hx90.mono om
 refine t8 ?_;refine cN ?_ ?_<;>intro h7
 ·refine t19 ?_;refine qcx (B0:=B0) (b:=b) ?_;refine qai (Bs:=[_]) ((⟨⟨_,_,_,_,_,_,_,_,_,_,_,_⟩,_,_,_,_,_,⟨_,_,_,_,[],_,_,_,_⟩⟩:Run31),(⟨_,_⟩:Rs29)) ?_ rfl results148 eXF qab (hD0:=hX.2);exact by exact hl1.mono om
 refine t15 ?_;refine cN ?_ ?_<;>intro h14
 ·exact absurd (show s.kind=9 by simpa using h14) om
 refine t6 ?_;refine cN ?_ ?_<;>intro h17
 ·refine t6 ?_;(refine qd5 rfl (by ((refine qcb qam call193 (qtr B0 b x20.1 x20.2 (⟨_,_,_,_⟩:Rw) true (n+302) hB ?_ hl1 h4 hl2) ⟨qbg,⟨qbg,⟨qbg,⟨qbg,trivial⟩⟩⟩⟩);all_goals (omega))) ?_;intro x71 hx71);refine t11 ?_;refine qcx (B0:=B0) (b:=b) ?_;refine qai (Bs:=[_]) ((⟨⟨_,_,_,_,_,_,_,_,_,_,_,_⟩,_,_,_,_,_,⟨_,_,_,_,[],_,_,_,_⟩⟩:Run31),(⟨_,_⟩:Rs29)) ?_ rfl results148 eXF qab (hD0:=hX.2);exact by exact hx71.mono om
 refine t6 ?_;refine kXF call154 (qwd s (⟨_,_,_,_⟩:Rw) hcol) ?_;(refine qh0 39 rfl ?_;intro x39);refine t4 ?_;intro i9;refine t11 ?_;refine cN ?_ ?_<;>intro h11
 ·refine t21 ?_;refine qcx (B0:=B0) (b:=b) ?_;refine qai (Bs:=[_]) ((⟨⟨_,_,_,_,_,_,_,_,_,_,_,_⟩,_,_,_,_,_,⟨_,_,_,_,[],_,_,_,_⟩⟩:Run31),(⟨_,_⟩:Rs29)) ?_ rfl results148 eXF qab (hD0:=hX.2);exact by exact hl1.mono om
 refine t6 ?_;(refine qd5 rfl (by ((refine qcb qam call193 (qtr B0 b x20.1 x20.2 (⟨_,_,_,_⟩:Rw) false (n+302) hB ?_ hl1 h4 hl2) ⟨qbg,⟨qbg,⟨qbg,⟨qbg,trivial⟩⟩⟩⟩);all_goals (omega))) ?_;intro x51 hx51);refine t11 ?_;refine qcx (B0:=B0) (b:=b) ?_;refine qai (Bs:=[_]) ((⟨⟨_,_,_,_,_,_,_,_,_,_,_,_⟩,_,_,_,_,_,⟨_,_,_,_,[],_,_,_,_⟩⟩:Run31),(⟨_,_⟩:Rs29)) ?_ rfl results148 eXF qab (hD0:=hX.2);exact by exact hx51.mono om
@[reducible] def zgz (B:Nat) (q:List Pg×Int):VP:=IsAgg [Top,qa9 B (qad tPg q.1),Ii q.2,Top,Top,Top,Top,Top,Top,Top,Top,Top]
theorem zg8 (B0:Nat) (r:Run31) (i:Int) (hc:r.c.length<=10000) (hw:r.w.length<=10000):FnF prog 149 [IsRef [Ii r.job.client,Ii r.job.seq,Ii r.job.lines,qad tSt29 r.job.program,qad qaw r.job.access,Ib r.job.snapshot,Iw r.job.vector0,Iw r.job.vector1,Iw r.job.vector2,Iw r.job.vector3,Iw r.job.vector4,Iw r.job.vector5,qad tPg r.known,qa9 B0 (qad tPg r.w),qad qaw r.c,qad qaw r.need,Ii r.code,Ii r.out.code,Ii r.out.statement,Ii r.out.want,qad tRs29 r.out.results,Is (.slice none 0 0),Ib r.out.hint,Ib r.out.deep,Ib r.out.unposted,Ib r.out.dead],Ii i] (fun B=>qfc (fun q:List Pg×Int=>WL 3000 q.1) (zgz B)):=by
 refine FnF.enter func149 ntmps149 rfl rfl ?_;intro c hX;refine t3 ?_;intro i4;refine t9 ?_;intro i5;refine t33 ?_;refine qbw [(0,_),(4,_),(5,_)] [blk i5 _ _,blk i4 _ _] (fun yc:Bool=>True) (fun yc=>[(22,Ib yc)]) (fun yc=>[]) qag qab ?_ ?_
 rotate_left
 focus
  refine cN ?_ ?_<;>intro h4
  ·exact Z16
  refine t6 ?_;refine cN ?_ ?_<;>intro h5
  ·exact Z16
  refine t6 ?_;refine cN ?_ ?_<;>intro h6
  ·exact Z16
  refine t4 ?_;exact qal _ (trivial) qag qab
 rintro bb _;refine cN ?_ ?_<;>intro h4b
 ·refine t6 ?_
  skip
  refine t10 ?_;refine qbv (b:=i5) (As':=tO31.cells (⟨_,_,_,_,_,_,_,_,_⟩:O31)) qaf qbo ?_;refine qax [(0,_),(4,_),(5,_)] [blk i4 _ _] (fun y:Nat×O31=>y.1<=(r.w).length∧(y.2.check.length<=r.c.length+y.1)) (fun y=>[(6,Ii (y.1:Nat))]) (fun y=>[blk i5 191 (tO31.cells y.2)]) (fun y=>(r.w).length-y.1) (0,(⟨_,_,_,_,_,_,_,_,_⟩:O31)) ?_ qag qab ?_
  ·exact ⟨by exact nZ _,Nat.le_refl _⟩
  rintro ⟨k,o⟩ ⟨hk,hI⟩;dsimp only at hk hI ⊢;refine t8 ?_;refine qln 36 (qad tPg r.w) rfl SubL.fresh ?_;refine t4 ?_;refine cN ?_ ?_<;>intro h10
  ·have hlt:k<(r.w).length:=by have:=of_decide_eq_true h10;omega
   clear h10;obtain ⟨z,hz⟩:∃ q,(r.w)[k]?=some q:=⟨_,gE hlt⟩
   refine Z38 ?_;refine zaj ?_;refine t7 ?_;refine qbc (qak (j:=k) (Ev.sub rfl SubL.fresh) (er rfl) rfl rfl rf hz) ?_;refine t2 ?_;refine qbc (by ((refine qac call169 (qjj _ _ ?_) ⟨qap,⟨qap,trivial⟩⟩);all_goals (omega))) ?_;refine s1 ?_;refine ⟨rfl,?_⟩;refine Z3 ?_;refine t7 ?_;refine qan (b:=i5) (As':=tO31.cells (⟨_,_,_,_,_,_,_,_,_⟩:O31)) qaf qbo ?_;refine qaa (k+1,(⟨_,_,_,_,_,_,_,_,_⟩:O31)) ?_ ?_ qag qab
   ·exact ⟨om,nT (qhv _ _) om⟩
   ·omega
  have hke:k=(r.w).length:=by have:=of_decide_eq_false h10;omega
  clear h10;subst hke;refine t14 ?_;exact rXF (([],_):List Pg×Int) results149 (hp:=by exact wl0) (hD0:=hX.2)
 refine t11 ?_;exact rXF (([],_):List Pg×Int) results149 (hp:=by exact wl0) (hD0:=hX.2)
theorem JC_mine {P:Program} {c:Ctx} {N:Nat} {E:Env} {L:List Item} {Q:Exit->Go.Act->World->Prop} {x:Code} (b:Nat) {t:TypeId} {As:List VP} (hb:blk b t As∈L) (hX:c.X=[]) (h:c.w.heap.size<=b->JC P c N x E L Q):JC P c N x E L Q:=fun φ a w st =>
 h ((st.mem.mine b (mem_names.2 ⟨_,hb,rfl⟩)).resolve_right (by rw [hX];exact List.not_mem_nil)) φ a w st
theorem qnx:qkj (fun B=>qfc (fun q:List Pg×Int=>WL 3000 q.1) (zgz B)):=qk2 fun q =>
 qk3 [fun _=>Top,fun B=>qa9 B (qad tPg q.1),fun _=>Ii q.2,fun _=>Top,fun _=>Top,fun _=>Top,fun _=>Top,fun _=>Top,fun _=>Top,fun _=>Top,fun _=>Top,fun _=>Top] ⟨qa4 qcm,qer,qa4 qcp,qa4 qcm,qa4 qcm,qa4 qcm,qa4 qcm,qa4 qcm,qa4 qcm,qa4 qcm,qa4 qcm,qa4 qcm,trivial⟩
theorem zgn (j:J31) (ks:List Pg) (hks:ks.length<=300) (hsn:j.snapshot=false) (hpl:j.program.length<=1) (hkind:∀ s,s∈j.program->1<=s.kind∧s.kind<=4) (hac3:∀ a,a∈j.access->a≠3):FnF prog 98 [IsJ31 j,qad tPg ks] (fun B=>qfc (fun q:List Pg×Int=>WL 3000 q.1) (zgz B)):=by
 refine FnF.enter func98 ntmps98 rfl rfl ?_;intro c hX;obtain ⟨B0,hBe⟩:=xE c.w.heap.size;have hBw:B0<=c.w.heap.size:=om;have hBw2:c.w.heap.size<=B0:=om;refine t3 ?_;intro i2;refine s1 ?_;intro i4;refine t6 ?_;refine kRF call145 (qx4 j) ?_;(refine qbj 16 rfl ?_;intro x16 hx16);refine t3 ?_;refine cN ?_ ?_<;>intro h1
 ·refine t9 ?_;exact rXF (([],_):List Pg×Int) results98 (hp:=by exact wl0) (hD0:=hX.2)
 obtain ⟨hvp,hal⟩:=hx16 (by simpa using h1);obtain ⟨_,hvs⟩:=zcm hvp;refine t8 ?_;intro i23;refine t5 ?_;refine qbv (b:=i23) (As':=[Ii _,Ii _,Ii _,qad tSt29 _,qad qaw _,Ib _,Iw _,Iw _,Iw _,Iw _,Iw _,Iw _,qad tPg _,qa9 B0 (qad tPg _),qad qaw _,qad qaw _,Ii _,Ii _,Ii _,Ii _,qad tRs29 _,Is (.slice none 0 0),Ib _,Ib _,Ib _,Ib _]) qaf qbo ?_;refine JC_mine i23 qba hX.1 (fun hBi0=>?_);have hBi:B0<=i23:=om;refine t5 ?_;refine cN ?_ ?_<;>intro h4
 ·exact absurd h4 (by rw [hsn];decide)
 refine t14 ?_;refine qdo 265 tRs29 ?_;refine qbv (b:=i23) (As':=[Ii _,Ii _,Ii _,qad tSt29 _,qad qaw _,Ib _,Iw _,Iw _,Iw _,Iw _,Iw _,Iw _,qad tPg _,qa9 B0 (qad tPg _),qad qaw _,qad qaw _,Ii _,Ii _,Ii _,Ii _,qad tRs29 _,Is (.slice none 0 0),Ib _,Ib _,Ib _,Ib _]) qaf qbo ?_;refine qax [(2,_),(4,_),(5,_)] [blk i4 _ _,blk i2 _ _] (fun y:Nat×Run31×(List Rs29)×(Option Addr×Nat)=>y.1<=(j.program).length∧(RI (1300*y.1) y.2.1∧y.2.2.1.length<=y.1)) (fun y=>[(9,Is (slV (y.2.2.1).length y.2.2.2)),(10,Ii (y.1:Nat))]) (fun y=>[blk i23 260 [Ii y.2.1.job.client,Ii y.2.1.job.seq,Ii y.2.1.job.lines,qad tSt29 y.2.1.job.program,qad qaw y.2.1.job.access,Ib y.2.1.job.snapshot,Iw y.2.1.job.vector0,Iw y.2.1.job.vector1,Iw y.2.1.job.vector2,Iw y.2.1.job.vector3,Iw y.2.1.job.vector4,Iw y.2.1.job.vector5,qad tPg y.2.1.known,qa9 B0 (qad tPg y.2.1.w),qad qaw y.2.1.c,qad qaw y.2.1.need,Ii y.2.1.code,Ii y.2.1.out.code,Ii y.2.1.out.statement,Ii y.2.1.out.want,qad tRs29 y.2.1.out.results,Is (.slice none 0 0),Ib y.2.1.out.hint,Ib y.2.1.out.deep,Ib y.2.1.out.unposted,Ib y.2.1.out.dead],buf (slV (y.2.2.1).length y.2.2.2) 265 tRs29 (y.2.2.1)]) (fun y=>(j.program).length-y.1) (0,(⟨⟨_,_,_,_,_,_,_,_,_,_,_,_⟩,_,_,_,_,_,⟨_,_,_,_,[],_,_,_,_⟩⟩:Run31),[],(none,0)) ?_ qag qab ?_
 ·exact ⟨by exact nZ _,⟨⟨hsn,hks,wl0,Nat.le_refl 0⟩,Nat.le_refl 0⟩⟩
 rintro ⟨k,rq,rs,v_0⟩ ⟨hk,hI⟩;dsimp only at hk hI ⊢;refine t10 ?_;refine cN ?_ ?_<;>intro h20
 ·have hlt:k<(j.program).length:=by have:=of_decide_eq_true h20;omega
  clear h20;obtain ⟨z,hz⟩:∃ q,(j.program)[k]?=some q:=⟨_,gE hlt⟩
  obtain ⟨hI1,hIr⟩:=hI;obtain ⟨za,hza⟩:∃ q,j.access[k]?=some q:=⟨_,gE om⟩
  have hcz:=vS_col (hvs z (List.mem_of_getElem? hz));have hkz:=hkind z (List.mem_of_getElem? hz);have haz:=hac3 za (List.mem_of_getElem? hza);refine t5 ?_;refine Z6 ?_;refine qes 4 rfl kr (by exact qak (j:=_) (er rfl) (er rfl) rfl rfl rf hz) ?_;refine f1 5 ?_;refine f1 6 ?_;refine f1 7 ?_;refine f1 8 ?_;refine qes 9 rfl kr (by exact qak (j:=_) (er rfl) (er rfl) rfl rfl rf hza) ?_;refine f1 10 ?_;refine qnh 12 rfl kr (fun _=>(qcc rfl qbx rfl)) ?_;(refine JF_tx 11 [0,1,2,3,4,5,6,7,8,9,10,11] rfl kr (fun c'=>by ((refine qcb qam call148 (StmtR_ok B0 i23 rq z za (1300*k) hBi ?_ hI1 hkz hcz haz) ⟨qap,⟨qap,⟨qap,trivial⟩⟩⟩);all_goals (omega))) ?_;intro x102 hx102);(refine qe4 11 12 kr rfl rfl ?_;intro i11);refine qdw 13 [0,1,2,3,4,5,6,7,8,9,10,11,12,13] rfl kr (fun c'=>by exact qat (er rfl) (er rfl) qas qaf rf rf rf) ?_;refine Z36 ?_;show JQ _ _ _ _ _ _;refine t12 ?_;refine cN ?_ ?_<;>intro h23
  ·refine t17 ?_;exact rXF (([],_):List Pg×Int) results98 (hp:=by exact wl0) (hD0:=hX.2)
  refine t15 ?_;(refine qcg rfl rfl rfl (fun hg=>(by have hg0:=hg;(try simp at hg);exact zd8 (Ev.sub rfl (SubL.iteT (by assumption) SubL.fresh)) rfl)) ?_);refine t4 ?_;refine cN ?_ ?_<;>intro h25
  ·refine t17 ?_;refine cN ?_ ?_<;>intro h27
   ·refine t4 ?_;refine qao rfl (by ((refine qc4 (by (try simp only [List.append_eq,List.nil_append,List.cons_append]);exact qe1) call149 (zg8 B0 (⟨⟨_,_,_,_,_,_,_,_,_,_,_,_⟩,_,_,_,_,_,⟨_,_,_,_,[],_,_,_,_⟩⟩:Run31) _ ?_ ?_) ⟨qbg,⟨qbg,trivial⟩⟩ (qnx));all_goals (first|exact nT hx102.2.2.2 om|exact nT hx102.2.2.1.1 om))) ?_;(refine qbj 137 rfl ?_;intro x137 hx137);refine t10 ?_;exact rXF ((_,_):List Pg×Int) results98 (hp:=by exact hx137) (hD0:=hX.2)
   refine Z46 ?_;(refine qc6 rfl (qca (er rfl) (fun _=>qaf) (by exact er rfl) (by exact qfz rfl rfl rfl) qcn) ?_;intro i141);refine t9 ?_;refine qcx (B0:=B0) (b:=i23) ?_;refine qaa (k+1,(⟨⟨_,_,_,_,_,_,_,_,_,_,_,_⟩,_,_,_,_,_,⟨_,_,_,_,[],_,_,_,_⟩⟩:Run31),_,_) ?_ ?_ qag qab
   ·exact ⟨om,⟨by exact hx102.mono om,by simp;omega⟩⟩
   ·omega
  refine t12 ?_;refine cN ?_ ?_<;>intro h27
  ·refine t4 ?_;refine qao rfl (by ((refine qc4 (by (try simp only [List.append_eq,List.nil_append,List.cons_append]);exact qe1) call149 (zg8 B0 (⟨⟨_,_,_,_,_,_,_,_,_,_,_,_⟩,_,_,_,_,_,⟨_,_,_,_,[],_,_,_,_⟩⟩:Run31) _ ?_ ?_) ⟨qbg,⟨qbg,trivial⟩⟩ (qnx));all_goals (first|exact nT hx102.2.2.2 om|exact nT hx102.2.2.1.1 om))) ?_;(refine qbj 137 rfl ?_;intro x137 hx137);refine t10 ?_;exact rXF ((_,_):List Pg×Int) results98 (hp:=by exact hx137) (hD0:=hX.2)
  refine Z46 ?_;(refine qc6 rfl (qca (er rfl) (fun _=>qaf) (by exact er rfl) (by exact qfz rfl rfl rfl) qcn) ?_;intro i141);refine t9 ?_;refine qcx (B0:=B0) (b:=i23) ?_;refine qaa (k+1,(⟨⟨_,_,_,_,_,_,_,_,_,_,_,_⟩,_,_,_,_,_,⟨_,_,_,_,[],_,_,_,_⟩⟩:Run31),_,_) ?_ ?_ qag qab
  ·exact ⟨om,⟨by exact hx102.mono om,by simp;omega⟩⟩
  ·omega
 have hke:k=(j.program).length:=by have:=of_decide_eq_false h20;omega
 clear h20;subst hke;have hIq:=hI.1;have hqc:rq.c.length<=1300:=nT hI.1.2.2.2 om;have hqw:rq.w.length<=1300:=nT hI.1.2.2.1.1 om;refine qa7 hX (v:=slV rs.length v_0) qaf ?_;refine qbl 9 (qad tRs29 rs) rfl qf1 ?_;refine t22 ?_;refine qdo 3 qaw ?_;refine qax [(4,_),(5,_)] [blk i4 _ _] (fun ya:Nat×(List Int)×(Option Addr×Nat)=>ya.1<=(rq.c).length∧(ya.2.1.length<=ya.1)) (fun ya=>[(12,Ii (ya.1:Nat))]) (fun ya=>[blk i23 260 [Ii rq.job.client,Ii rq.job.seq,Ii rq.job.lines,qad tSt29 rq.job.program,qad qaw rq.job.access,Ib rq.job.snapshot,Iw rq.job.vector0,Iw rq.job.vector1,Iw rq.job.vector2,Iw rq.job.vector3,Iw rq.job.vector4,Iw rq.job.vector5,qad tPg rq.known,qa9 B0 (qad tPg rq.w),qad qaw rq.c,qad qaw rq.need,Ii rq.code,Ii rq.out.code,Ii rq.out.statement,Ii rq.out.want,qad tRs29 rs,Is (slV (ya.2.1).length ya.2.2),Ib rq.out.hint,Ib rq.out.deep,Ib rq.out.unposted,Ib rq.out.dead],buf (slV (ya.2.1).length ya.2.2) 3 qaw (ya.2.1)]) (fun ya=>(rq.c).length-ya.1) (0,[],(none,0)) ?_ qag qab ?_
 ·exact ⟨by exact nZ _,Nat.le_refl 0⟩
 rintro ⟨ka,ck,va_0⟩ ⟨hka,hIa⟩;dsimp only at hka hIa ⊢;refine t12 ?_;refine cN ?_ ?_<;>intro h32
 ·have hlta:ka<(rq.c).length:=by have:=of_decide_eq_true h32;omega
  clear h32;obtain ⟨za,hza⟩:∃ q,(rq.c)[ka]?=some q:=⟨_,gE hlta⟩
  have hI8:=hIa;refine t16 ?_;refine qax [(4,_),(5,_),(12,_),(147,_),(148,_),(149,_),(150,_),(151,_),(152,_)] [blk i4 _ _,blk i23 _ _,buf _ _ _ _] (fun yb:Nat×Bool=>yb.1<=(rq.w).length) (fun yb=>[(13,Ib yb.2),(14,Ii (yb.1:Nat))]) (fun yb=>[]) (fun yb=>(rq.w).length-yb.1) (0,false) (nZ _) qag qab ?_;rintro ⟨kb,wr⟩ hkb;dsimp only at hkb ⊢;refine t8 ?_;refine qln 160 (qad tPg rq.w) rfl SubL.fresh ?_;refine t4 ?_;refine cN ?_ ?_<;>intro h36
  ·have hltb:kb<(rq.w).length:=by have:=of_decide_eq_true h36;omega
   clear h36;obtain ⟨zb,hzb⟩:∃ q,(rq.w)[kb]?=some q:=⟨_,gE hltb⟩
   refine Z38 ?_;refine qaj 20 kr ?_;refine t7 ?_;(refine qch rfl rfl (fun hg=>(by have hg0:=hg;(try simp at hg);exact qak (j:=kb) (Ev.sub rfl (SubL.iteT (by assumption) SubL.fresh)) evG rfl rfl rf hzb)) ?_);refine t7 ?_;(refine qch rfl rfl (fun hg=>(by have hg0:=hg;(try simp at hg);exact qak (j:=_) evG evG rfl rfl rf hza)) ?_);refine t4 ?_;refine ⟨rfl,?_⟩;refine Z74 ?_;refine qaa (kb+1,_) ?_ ?_ qag qab
   ·omega
   ·omega
  have hkeb:kb=(rq.w).length:=by have:=of_decide_eq_false h36;omega
  clear h36;subst hkeb;refine t11 ?_;refine cN ?_ ?_<;>intro h39
  ·refine Z23 ?_;refine qd6 0 rfl kr (fun _=>(qeq rfl)) ?_;refine f1 1 ?_;refine Z68 ?_;refine Z18 ?_;refine f1 8 ?_;refine f1 9 ?_;refine f1 10 ?_;refine qes 11 rfl kr (by exact qak (j:=_) (er rfl) (er rfl) rfl rfl rf hza) ?_;refine f1 12 ?_;refine qes 13 rfl kr (OpP.to (qa1 (size:=1) (qs:=[(0,_)]) rfl rfl rfl ⟨⟨rfl,_,(er rfl),qas⟩,trivial⟩ rf rf) (SubL.row1 (T:=qaw) (x:=_) rf rf rf qav)) ?_;(refine qwk 14 [1,2,3,4,5,6,7,8,9,10,11,12,13,14] rfl kr (fun c'=>by exact qca (er rfl) (fun _=>qaf) (by exact er rfl) (by exact qfz rfl rfl rfl) qcn) ?_;intro i200);refine f1 15 ?_;refine f1 16 ?_;refine f1 17 ?_;refine qdw 18 [0,1,2,3,4,5,6,7,8,9,10,11,12,13,14,15,16,17,18] rfl kr (fun c'=>by exact qat (er rfl) (er rfl) qas qaf rf rf rf) ?_;refine Z36 ?_;show JQ _ _ _ _ _ _;refine t7 ?_;refine qaa (ka+1,_,_) ?_ ?_ qag qab
   ·exact ⟨om,by (simp;exact hI8)⟩
   ·omega
  refine t8 ?_;refine qaa (ka+1,_,_) ?_ ?_ qag qab
  ·exact ⟨om,by exact Nat.le_succ_of_le hI8⟩
  ·omega
 have hkea:ka=(rq.c).length:=by have:=of_decide_eq_false h32;omega
 clear h32;subst hkea;refine t6 ?_;refine Z5 ?_;refine qaj 9 kr ?_;refine t9 ?_;refine ⟨rfl,?_⟩;refine Z3 ?_;refine t2 ?_;exact rXF ((_,_):List Pg×Int) results98 (hp:=by exact hIq.2.2.1.mono om) (hD0:=hX.2)
end Go.Proofs.YteafmggidjjdgaaGreatDoor
