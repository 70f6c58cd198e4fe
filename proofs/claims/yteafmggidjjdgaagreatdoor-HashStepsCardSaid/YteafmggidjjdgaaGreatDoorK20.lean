/- Walks of functions and plain laws, laid together. Own work. -/
import Derived.Test.YteafmggidjjdgaaGreatDoorK19
namespace Go.Proofs.YteafmggidjjdgaaGreatDoor
open Go.RowKit Tryz
set_option linter.unusedVariables false
set_option linter.unusedSimpArgs false
set_option maxRecDepth 100000
set_option maxHeartbeats 4000000
def adE (l:List En) (e:En):List En:=if l.length<5 then wiV l e else l
theorem qx2 {l:List En} {e:En} (h:l.length<=5):(adE l e).length<=5:=by
 unfold adE;split
 ·rw [qo5];omega
 ·exact h
theorem qx1 (b:Nat) (B:Bk) (v:Option Addr×Nat) (e:En) (ha:zb4 B.es) (hl:B.es.length<=5) :
  Fn prog 60 [Is (.pointer (some ⟨b,0,none⟩)),IsEn e] [blk b 132 (bkC B v),bkB B v]
   (fun _:Option Addr×Nat=>Ib (decide (B.es.length<5))) (fun j=>[blk b 132 (bkC { B with es:=adE B.es e } j),bkB { B with es:=adE B.es e } j]):=by
 by_cases h:B.es.length<5
 ·have e1:({ B with es:=adE B.es e }:Bk)={ B with es:=wiV B.es e }:=by unfold adE;rw [if_pos h]
  rw [decide_eq_true h,e1];have:=addE_ok b B v e ha h;rw [<- qo5 B.es e] at this;exact this
 ·have e1:({ B with es:=adE B.es e }:Bk)=B:=by unfold adE;rw [if_neg h]
  rw [decide_eq_false h,e1];intro φ w vs hA hm;refine (addE_no b B v e ha om φ w vs hA hm).mono ?_;rintro e' w' ⟨i,v',φ',h1,h2,h3⟩;exact ⟨v,v',φ',h1,h2,h3⟩
def inS (key:BitVec 32) (to:Pt) (fr:List Pg) (p:Pg) (r:Rt) (P:P23):S23:=if decide (r.first=Pt.nil)=true then ifS key to fr p else qmw P (adY key to fr P (ixE key 0 P.bucket.es))
theorem spE_asc {d:Int} {pt:BitVec 32} {l:List En} (h:zb4 l):zb4 (spE d pt l [] []).1∧zb4 (spE d pt l [] []).2∧(spE d pt l [] []).1.length<=l.length∧(spE d pt l [] []).2.length<=l.length:=by
 rw [qkr];refine ⟨?_,?_,?_,?_⟩
 ·rw [List.nil_append];exact List.Pairwise.filter _ h
 ·rw [List.nil_append];exact List.Pairwise.filter _ h
 ·rw [List.nil_append];exact List.length_filter_le _ _
 ·rw [List.nil_append];exact List.length_filter_le _ _
theorem ze3 (b:Nat) (key:BitVec 32) (to:Pt) (fr ks:List Pg) (p:Pg) (r:Rt) (hd:0<=r.depth∧r.depth<=5) {G0:VP}:FnX prog 23 [Is (.pointer (some ⟨b,0,none⟩))] [blk b 83 (G0::Is (.int .u32 (UV key))::Ii to.line::Ii to.gen::qad tPg fr::qad tPg ks::qad qaw ([])::Is (.slice none 0 0)::Ii 0::Ib false::Ib false::Ib false::Ib false::Ib false::Ii 0::Ii 0::qad qaw ([])::Ii 0::Ii 0::Ii p.l::Iw p.h::Iw p.d0::Iw p.d1::Iw p.d2::Iw p.d3::Iw p.d4::Iw p.d5::Iw p.d6::Ii r.first.line::Ii r.first.gen::Ii r.depth::Ii r.p0.line::Ii r.p0.gen::Ii r.p1.line::Ii r.p1.gen::Ii r.p2.line::Ii r.p2.gen::Ii r.p3.line::Ii r.p3.gen::[]),qfd]
  (fun i:O23×(Option Addr×Nat)=>(inS key to fr p r (lcA (qbk key) r ks (iH (qbk key) r.depth))).need=[]->i.1=(inS key to fr p r (lcA (qbk key) r ks (iH (qbk key) r.depth))).out) (fun _=>qbs [])
  (fun i=>[blk b 83 (G0::Is (.int .u32 (UV key))::Ii to.line::Ii to.gen::qad tPg fr::qad tPg ks::qad qaw ((inS key to fr p r (lcA (qbk key) r ks (iH (qbk key) r.depth))).need)::Is (slV (inS key to fr p r (lcA (qbk key) r ks (iH (qbk key) r.depth))).writes.length i.2)::Ii ((i.1).code)::Ib ((i.1).found)::Ib ((i.1).done)::Ib ((i.1).split)::Ib ((i.1).hint)::Ib ((i.1).deep)::Ii ((i.1).to.line)::Ii ((i.1).to.gen)::qad qaw ((i.1).check)::Ii ((i.1).hops)::Ii ((i.1).fresh)::Ii p.l::Iw p.h::Iw p.d0::Iw p.d1::Iw p.d2::Iw p.d3::Iw p.d4::Iw p.d5::Iw p.d6::Ii r.first.line::Ii r.first.gen::Ii r.depth::Ii r.p0.line::Ii r.p0.gen::Ii r.p1.line::Ii r.p1.gen::Ii r.p2.line::Ii r.p2.gen::Ii r.p3.line::Ii r.p3.gen::[]),buf (slV (inS key to fr p r (lcA (qbk key) r ks (iH (qbk key) r.depth))).writes.length i.2) 50 tPg (inS key to fr p r (lcA (qbk key) r ks (iH (qbk key) r.depth))).writes]):=by
 have hpl:=qmx (qbk key) r ks (iH (qbk key) r.depth);have hfd:=(qlx (qbk key) r ks (iH (qbk key) r.depth)).2;obtain ⟨W,hE⟩:=xE (inS key to fr p r (lcA (qbk key) r ks (iH (qbk key) r.depth)));rw [hE];unfold inS at hE;have hHs:FnP prog 40 [Is (.int .u32 (UV key))] (Is (.int .u32 (UV (qbk key)))):=qoa key;obtain ⟨H,hH⟩:=xE (qbk key);rw [hH] at hpl hfd hE hHs;obtain ⟨P,hP⟩:=xE (lcA H r ks (iH H r.depth));rw [hP] at hpl hfd hE;obtain ⟨U,hU⟩:=xE (frP fr [2]);have hUc:=qk4 fr [2];have hU1:=@fr1 fr 2 de;rw [hU] at hUc hU1;obtain ⟨e,he⟩:∃ e:En,e=⟨key,to⟩:=⟨_,rfl⟩
 refine Fn.enterG (b0:=0) (List.mem_cons_of_mem _ (List.mem_cons_self ..)) func23 ntmps23 rfl rfl ?_;intro c hX hG;refine Z109 ?_;refine qbc (qg4 (n:=2) hG (er rfl) rfl rfl rfl rf qbx) ?_;refine qbc (qb0 (vs:=Pt.cells r.first) (ws:=Pt.cells Pt.nil) (er rfl) (er rfl) (qct _ _ _ r.first Pt.nil) (qek r.first Pt.nil)) ?_;refine ⟨rfl,?_⟩;refine Z20 ?_;refine cN ?_ ?_<;>intro h0
 ·replace hE:=qaq hE h0;refine t3 ?_;(refine qd5 rfl (qew qam call59 (qq5 b key to fr p) ⟨evR,trivial⟩ qba) ?_;intro x20 hx20);refine t4 ?_;rw [hE] at hx20 ⊢;obtain ⟨hx1,hx2⟩:=hx20;rw [<- hx1];exact qai (Bs:=[]) x20 (fun _=>hx2) rfl results23 trivial qab
 replace hE:=qar hE h0;refine t10 ?_;refine kR call40 (hHs) ?_;(refine qc6 rfl (qmq qam call57 (qmv b H ks r hd) ⟨evR,⟨evR,trivial⟩⟩ qba) ?_;intro i29);refine t4 ?_;intro i2;refine t6 ?_;rw [hP];refine t5 ?_;refine cN ?_ ?_<;>intro h3
 ·obtain ⟨e1,e2,e3⟩:=qsw (f:=adY key to fr P (ixE key 0 P.bucket.es)) (by simpa using h3);rw [hE] at e1 e2 e3;obtain ⟨Wn,Ww,Wo,Wv⟩:=W;dsimp only at e1 e2 e3;subst e1 e2;refine Z62 ?_;refine t2 ?_;exact qai (Bs:=[]) (⟨P.out.code,false,false,false,P.out.hint,P.out.deep,Pt.nil,[],P.out.hops,0⟩,(none,0)) (fun e=>by rw [<- qf4 hpl];exact (e3 e).symm) rfl results23 trivial qab
 obtain ⟨e1,e2,e3,e4⟩:=qoz (P:=P) (f:=adY key to fr P (ixE key 0 P.bucket.es)) (by simpa using h3);rw [e4] at hE;rw [show (lkL P).1=P.page by rw [e3],show (lkL P).2.1=P.bucket by rw [e3],show (lkL P).2.2=true by rw [e3],e1,e2];have hF:=hfd e1 e2;have ha:=qo8 hF.val;obtain ⟨hbd,hbp,_,hl5⟩:=(qfj hF.val).1;refine Z32 ?_;refine qaj 17 kr ?_;refine t13 ?_;refine zbw (qcc rfl qbx rfl) ?_;refine Z25 ?_;refine qjk rfl rfl rfl kr (qhg evR qa5 rfl rfl rfl qbx) ?_;refine ⟨rfl,?_⟩;intro i5 i4;refine qda ?_;refine Z32 ?_;refine zaj ?_;refine t6 ?_;refine qbc (by ((refine qdz (by (try simp only [List.append_eq,List.nil_append,List.cons_append]);exact qe1) call58 (qml P.bucket key ha ?_) ⟨evR,⟨evR,trivial⟩⟩ qla);all_goals (omega))) ?_;refine t5 ?_;refine ⟨rfl,?_⟩;refine Z33 ?_;unfold adY at hE;obtain ⟨x,hx⟩:=xE (ixE key 0 P.bucket.es);rw [hx] at hE ⊢;obtain ⟨is,his⟩:=xE x.2;rw [his] at hE ⊢;refine t4 ?_;refine cN ?_ ?_<;>intro h6
 ·rw [if_pos h6] at hE;subst hE;refine Z62 ?_;refine t6 ?_;refine qao rfl (OpP.sub (qb7 (Rs:=[Ii P.page.l]) (size:=1) (qs:=[(0,[Ii P.page.l])]) rfl rfl rfl ⟨⟨rfl,_,(er rfl),qa5⟩,trivial⟩ rf rf) qlq) ?_;(refine qc6 rfl (qbn qam call54 (qdj b _ [P.page.l]) ⟨evR,⟨evR,⟨evR,trivial⟩⟩⟩) ?_;intro i63);refine t4 ?_;exact qai (Bs:=[]) (⟨17,false,false,false,P.out.hint,P.out.deep,Pt.nil,[P.page.l],P.out.hops,0⟩,(none,0)) (fun _=>by rw [qf4 hpl];rfl) rfl results23 trivial qab
 rw [if_neg (by rw [h6];decide),<- he] at hE;unfold ispS at hE;rw [hU] at hE;refine t6 ?_;(refine qc6 rfl (qb3 qam qam call60 (qx1 i4 P.bucket i29 ⟨key,to⟩ ha hl5) ⟨evR,⟨evR,trivial⟩⟩) ?_;intro i65);refine t2 ?_;rw [<- he];refine cN ?_ ?_<;>intro h8
 ·have h8':P.bucket.es.length<5:=of_decide_eq_true h8;rw [if_pos (decide_eq_true om)] at hE;obtain ⟨B2,hB2⟩:∃ B2:Bk,B2={ P.bucket with es:=adE P.bucket.es e }:=⟨_,rfl⟩
  have hl2:B2.es.length<=5:=by rw [hB2];exact qx2 hl5
  rw [show ({ P.bucket with es:=wiV P.bucket.es e }:Bk)=B2 by rw [hB2];unfold adE;rw [if_pos h8']] at hE;rw [<- hB2];subst hE;refine Z62 ?_;refine t6 ?_;refine qao rfl (by ((refine qdz (by (try simp only [List.append_eq,List.nil_append,List.cons_append]);exact qe1) call62 (qgv B2 P.page hl2) ⟨evR,⟨evR,trivial⟩⟩ qla))) ?_;(refine qc6 rfl (by ((refine qb3 qam qam call61 (qee b _ [] (none,0) ?_) ⟨evR,⟨evR,trivial⟩⟩);all_goals (decide))) ?_;intro i71);refine t13 ?_;exact qai (Bs:=[]) (⟨0,false,true,false,P.out.hint,P.out.deep,Pt.nil,[],P.out.hops,0⟩,i71) (fun _=>by rw [qf4 hpl,e2]) rfl results23 trivial qab
 have h8':¬ P.bucket.es.length<5:=of_decide_eq_false h8;rw [if_neg (by rw [decide_eq_true_eq];omega)] at hE;rw [show ({ P.bucket with es:=adE P.bucket.es e }:Bk)=P.bucket by unfold adE;rw [if_neg h8']];refine qi4 (v:=slV P.bucket.es.length i65) qaf (qgp hX) ?_;refine qbv (b:=i4) (As':=tBk.cells P.bucket) qaf (by show SubLs _ _ [_,_,_,_,qad tEn P.bucket.es];exact qiq) ?_;refine Z62 ?_;refine t10 ?_;refine cN ?_ ?_<;>intro h11
 ·replace hE:=qaq hE h11;subst hE;refine t3 ?_;(refine qc6 rfl (qbn qam call54 (qdj b _ []) ⟨evR,⟨evR,⟨evR,trivial⟩⟩⟩) ?_;intro i80);refine t4 ?_;exact qai (Bs:=[]) (⟨12,false,false,false,P.out.hint,P.out.deep,Pt.nil,[],P.out.hops,0⟩,(none,0)) (fun _=>by rw [qf4 hpl];rfl) rfl results23 trivial qab
 replace hE:=qar hE h11;unfold ispV at hE;have hd16:P.bucket.depth≠16:=by simpa using h11
 refine t5 ?_;refine qao rfl (OpP.sub (qb7 (Rs:=[Ii 2]) (size:=1) (qs:=[(0,[Ii 2])]) rfl rfl rfl ⟨⟨rfl,_,(er rfl),qa5⟩,trivial⟩ rf rf) qlq) ?_;(refine qc6 rfl (by ((refine qbn qam call63 (qs5 b fr [2] two_le4 ?_) ⟨evR,⟨evR,trivial⟩⟩);all_goals (decide))) ?_;intro i84);refine t9 ?_;rw [hU];refine t5 ?_;refine cN ?_ ?_<;>intro h14
 ·have hW:W=⟨[],[],{ P.out with code:=U.2,fresh:=frN U [2] },true⟩:=by
   rw [<- hE];rcases hUc with q|q|q
   ·rw [q] at h14;cases h14
   ·rw [if_pos (by rw [q];decide),if_neg (by rw [q];decide)];unfold qe9 frN;rw [q,qf4 hpl];rfl
   ·rw [if_pos (by rw [q];decide),if_pos (by rw [q];decide)];unfold qe9 frN;rw [q];rfl
  subst hW;refine t2 ?_;exact qai (Bs:=[]) (⟨U.2,false,false,false,P.out.hint,P.out.deep,Pt.nil,[],P.out.hops,frN U [2]⟩,(none,0)) (fun _=>by rw [qf4 hpl]) rfl results23 trivial qab
 have hU0:U.2=0:=by simpa using h14
 obtain ⟨hal,hal2⟩:=hU1 hU0;obtain ⟨a,hae⟩:=xE (U.1.getD 0 Pg.nil);have hfN:frN U [2]=0:=by unfold frN;rw [hU0];rfl
 rw [hae] at hal hal2 hE;rw [if_neg (by rw [hU0];decide)] at hE;rw [hal2,hU0,hfN];refine Z38 ?_;refine qaj 8 kr ?_;refine s1 ?_;refine qbc (by exact qak (j:=0) (er rfl) (er rfl) rfl rfl rf (show ([a]:List Pg)[0]?=some a from rfl)) ?_;refine t6 ?_;refine ⟨rfl,?_⟩;refine Z20 ?_;refine cN ?_ ?_<;>intro h15
 ·replace hE:=qaq hE h15;subst hE;refine t3 ?_;(refine qc6 rfl (qbn qam call54 (qdj b _ []) ⟨evR,⟨evR,⟨evR,trivial⟩⟩⟩) ?_;intro i98);refine t4 ?_;exact qai (Bs:=[]) (⟨1,false,false,false,P.out.hint,P.out.deep,Pt.nil,[],P.out.hops,0⟩,(none,0)) (fun _=>by rw [qf4 hpl];rfl) rfl results23 trivial qab
 replace hE:=qar hE h15;obtain ⟨hs1,hs2,hs3,hs4⟩:=spE_asc (d:=P.bucket.depth+1) (pt:=P.bucket.pat) ha;have hSp:=split_ok P.bucket (atR a) ⟨hbd.1,om⟩ hbp hl5;obtain ⟨Q,hQ⟩:=xE (spE (P.bucket.depth+1) P.bucket.pat P.bucket.es [] []);rw [hQ] at hs1 hs2 hs3 hs4 hSp hE;obtain ⟨xs,ys⟩:=Q;dsimp only at hs1 hs2 hs3 hs4 hSp;obtain ⟨B1,hB1⟩:∃ B:Bk,B=⟨P.bucket.depth+1,P.bucket.pat,atR a,xs⟩:=⟨_,rfl⟩
 obtain ⟨B3,hB3⟩:∃ B:Bk,B=⟨P.bucket.depth+1,upV P.bucket,P.bucket.next,ys⟩:=⟨_,rfl⟩
 rw [<- hB1,<- hB3] at hSp;have hB1a:zb4 B1.es:=by rw [hB1];exact hs1
 have hB3a:zb4 B3.es:=by rw [hB3];exact hs2
 have hB1l:B1.es.length<=5:=by rw [hB1];exact nT hs3 hl5
 have hB3l:B3.es.length<=5:=by rw [hB3];exact nT hs4 hl5
 have hek:qbk e.key=H:=by rw [he];exact hH
 have hpd:P.out.done=false:=hpl.2.1;refine t3 ?_;refine Z61 ?_;refine qes 2 rfl kr (by exact qak (j:=0) (er rfl) (er rfl) rfl rfl rf (show ([a]:List Pg)[0]?=some a from rfl)) ?_;refine f1 3 ?_;refine qes 4 rfl kr (qac call65 (qwe _) ⟨evR,trivial⟩) ?_;refine qnh 9 rfl kr (fun _=>(qcc rfl qbx rfl)) ?_;refine qnh 10 rfl kr (fun _=>(qcc rfl qbx rfl)) ?_;(refine qwk 5 [0,1,2,3,4,5] rfl kr (fun c'=>by exact qsp call64 (hSp) ⟨evR,⟨evR,trivial⟩⟩) ?_;intro i105);refine f1 6 ?_;refine f1 7 ?_;refine qd6 8 rfl kr (fun _=>(qdr (er rfl) rfl)) ?_;(refine qe4 9 9 kr rfl rfl ?_;intro i9);(refine qe4 10 10 kr rfl rfl ?_;intro i10);refine qdw 11 [0,1,2,3,4,5,6,7,9,10,11] rfl kr (fun c'=>by exact qat (er rfl) (er rfl) qa5 qaf rf rf rf) ?_;refine qdw 12 [0,1,2,3,4,5,6,7,8,9,10,11,12] rfl kr (fun c'=>by exact qat (er rfl) (er rfl) qa5 qaf rf rf rf) ?_;refine Z36 ?_;show JQ _ _ _ _ _ _;refine t8 ?_;refine Z101 ?_;refine t6 ?_;refine qbc (qac call40 (hHs) ⟨evR,trivial⟩) ?_;refine qbc (by ((refine qdz (by (try simp only [List.append_eq,List.nil_append,List.cons_append]);exact qe1) call66 (qm6 B1 H ?_) ⟨evR,⟨evR,trivial⟩⟩ qla);all_goals (rw [hB1];exact ⟨by show 0<=P.bucket.depth+1;omega,by show P.bucket.depth+1<=16;omega⟩))) ?_;refine ⟨rfl,?_⟩;refine Z20 ?_;refine cN ?_ ?_<;>intro h19
 ·have hAdd:=qx1 i9 B1 i105.1 ⟨key,to⟩ hB1a hB1l;have hXp:zez P e (xs,ys)=(adE xs e,ys,decide (xs.length<5)):=by
   unfold zez;rw [hek,if_pos (by rw [hB1] at h19;exact h19)];unfold adE;by_cases q:xs.length<5
   ·rw [if_pos (decide_eq_true (show (xs.length:Int)<5 by omega)),if_pos q,decide_eq_true q]
   ·rw [if_neg (by rw [decide_eq_true_eq];show ¬ (xs.length:Int)<5;omega),if_neg q,decide_eq_false q,hpd]
  obtain ⟨dn,hdn⟩:=xE (decide (B1.es.length<5));obtain ⟨L2,hL2⟩:∃ L2:Bk,L2={ B1 with es:=adE B1.es ⟨key,to⟩ }:=⟨_,rfl⟩
  obtain ⟨U2,hU2⟩:=xE B3;rw [hdn,<- hL2] at hAdd;have hW:W=⟨[],[qej P.page L2,qej a U2],{ P.out with done:=dn,split:=true },true⟩:=by
   rw [<- hE,hXp,hL2,<- hU2,hB3,<- hdn,hB1,<- he];rfl
  have hlL:L2.es.length<=5:=by rw [hL2];exact qx2 hB1l
  have hlU:U2.es.length<=5:=by rw [<- hU2];exact hB3l
  rw [hU2];subst hW;refine t10 ?_;(refine qc6 rfl (qb3 qam qam call60 (hAdd) ⟨evR,⟨evR,trivial⟩⟩) ?_;intro i120);refine t16 ?_;refine qao rfl (by ((refine qdz (by (try simp only [List.append_eq,List.nil_append,List.cons_append]);exact qe1) call62 (qgv L2 P.page hlL) ⟨evR,⟨evR,trivial⟩⟩ qla))) ?_;(refine qc6 rfl (by ((refine qb3 qam qam call61 (qee b _ [] (none,0) ?_) ⟨evR,⟨evR,trivial⟩⟩);all_goals (decide))) ?_;intro i132);refine t2 ?_;refine Z61 ?_;refine f1 2 ?_;refine qes 3 rfl kr (by exact qak (j:=0) (er rfl) (er rfl) rfl rfl rf (show ([a]:List Pg)[0]?=some a from rfl)) ?_;refine f1 4 ?_;refine qes 5 rfl kr (by ((refine qdz (by (try simp only [List.append_eq,List.nil_append,List.cons_append]);exact qe1) call62 (qgv U2 a hlU) ⟨evR,⟨evR,trivial⟩⟩ qla))) ?_;(refine qwk 6 [0,1,2,3,4,5,6] rfl kr (fun c'=>by ((refine qb3 qam qam call61 (qee b _ [qej P.page L2] i132 ?_) ⟨evR,⟨evR,trivial⟩⟩);all_goals (simp))) ?_;intro i139);refine Z36 ?_;show JQ _ _ _ _ _ _;refine s1 ?_;exact qai (Bs:=[]) (⟨0,false,dn,true,P.out.hint,P.out.deep,Pt.nil,[],P.out.hops,0⟩,i139) (fun _=>by rw [qf4 hpl,e2]) rfl results23 trivial qab
 have hAdd:=qx1 i10 B3 i105.2 ⟨key,to⟩ hB3a hB3l;have hXp:zez P e (xs,ys)=(xs,adE ys e,decide (ys.length<5)):=by
  unfold zez;rw [hek,if_neg (by rw [hB1] at h19;rw [h19];decide)];unfold adE;by_cases q:ys.length<5
  ·rw [if_pos (decide_eq_true (show (ys.length:Int)<5 by omega)),if_pos q,decide_eq_true q]
  ·rw [if_neg (by rw [decide_eq_true_eq];show ¬ (ys.length:Int)<5;omega),if_neg q,decide_eq_false q,hpd]
 obtain ⟨dn,hdn⟩:=xE (decide (B3.es.length<5));obtain ⟨U2,hU2⟩:∃ U2:Bk,U2={ B3 with es:=adE B3.es ⟨key,to⟩ }:=⟨_,rfl⟩
 obtain ⟨L2,hL2⟩:=xE B1;rw [hdn,<- hU2] at hAdd;have hW:W=⟨[],[qej P.page L2,qej a U2],{ P.out with done:=dn,split:=true },true⟩:=by
  rw [<- hE,hXp,hU2,<- hL2,hB1,<- hdn,hB3,<- he];rfl
 have hlU:U2.es.length<=5:=by rw [hU2];exact qx2 hB3l
 have hlL:L2.es.length<=5:=by rw [<- hL2];exact hB1l
 rw [hL2];subst hW;refine t8 ?_;(refine qc6 rfl (qb3 qam qam call60 (hAdd) ⟨evR,⟨evR,trivial⟩⟩) ?_;intro i120);refine t16 ?_;refine qao rfl (by ((refine qdz (by (try simp only [List.append_eq,List.nil_append,List.cons_append]);exact qe1) call62 (qgv L2 P.page hlL) ⟨evR,⟨evR,trivial⟩⟩ qla))) ?_;(refine qc6 rfl (by ((refine qb3 qam qam call61 (qee b _ [] (none,0) ?_) ⟨evR,⟨evR,trivial⟩⟩);all_goals (decide))) ?_;intro i132);refine t2 ?_;refine Z61 ?_;refine f1 2 ?_;refine qes 3 rfl kr (by exact qak (j:=0) (er rfl) (er rfl) rfl rfl rf (show ([a]:List Pg)[0]?=some a from rfl)) ?_;refine f1 4 ?_;refine qes 5 rfl kr (by ((refine qdz (by (try simp only [List.append_eq,List.nil_append,List.cons_append]);exact qe1) call62 (qgv U2 a hlU) ⟨evR,⟨evR,trivial⟩⟩ qla))) ?_;(refine qwk 6 [0,1,2,3,4,5,6] rfl kr (fun c'=>by ((refine qb3 qam qam call61 (qee b _ [qej P.page L2] i132 ?_) ⟨evR,⟨evR,trivial⟩⟩);all_goals (simp))) ?_;intro i139);refine Z36 ?_;show JQ _ _ _ _ _ _;refine s1 ?_;exact qai (Bs:=[]) (⟨0,false,dn,true,P.out.hint,P.out.deep,Pt.nil,[],P.out.hops,0⟩,i139) (fun _=>by rw [qf4 hpl,e2]) rfl results23 trivial qab
theorem qu8 {p:Pg}:∀ {l:List Pg},(∀ x,x∈l->x.l≠p.l)->(qju l p).Perm (p::l)
 | [],_=>List.Perm.refl _
 | q::l,h=>by
  unfold qju;have h1:=h q (List.mem_cons_self ..);by_cases h2:q.l<p.l
  ·rw [if_pos h2];exact ((qu8 fun x hx=>h x (List.mem_cons_of_mem _ hx)).cons q).trans (List.Perm.swap _ _ _)
  ·rw [if_neg h2,if_neg h1]
theorem qvi:∀ {l w:List Pg},((w++l).map Pg.l).Nodup->(l.foldl qju w).Perm (w++l)
 | [],w,_=>by simp
 | p::l,w,h=>by
  have h1:∀ x,x∈w->x.l≠p.l:=fun x hx e=>by
   rw [List.map_append,List.map_cons] at h;exact (List.nodup_append.1 h).2.2 x.l (List.mem_map.2 ⟨x,hx,rfl⟩) p.l (List.mem_cons_self ..) e
  have h2:=qu8 h1;have h3:(qju w p++l).Perm (w++p::l):=(h2.append_right l).trans (by
   rw [List.cons_append];exact List.perm_middle.symm)
  rw [List.foldl_cons];exact (qvi (by exact (h3.map Pg.l).nodup_iff.2 h)).trans h3
theorem qt6 {xs ys:List Pg} (hd:(xs.map Pg.l).Nodup) (hs:Srt Pg.l 0 ys.length ys) (hp:ys.Perm xs):ys=qck [] xs:=
 qr1 (hp.trans (qvi (w:=[]) (by simpa using hd)).symm) (srt_asc hs ((hp.map Pg.l).nodup_iff.2 hd)) (qvv _ _)
theorem nxcmp_ok (p q:Pg):FnP prog 28 [qcv p,qcv q] (Ii (qq8 p.l q.l)):=by
 refine FnP.enter func28 ntmps28 rfl rfl ?_;intro c hX;refine t3 ?_;intro i2;refine s1 ?_;intro i3;refine t9 ?_;refine qao rfl (qac call29 (zb1 _ _) ⟨evS,⟨evS,trivial⟩⟩) ?_;refine t4 ?_;refine rB results28 rfl ?_;rfl
@[reducible] def fNx:Value:=.func (.func 28) #[] #[]
theorem insN_ok (xs:List Pg) (n:Nat) (i:Option Addr×Nat) (a b:Nat) (hab:a<=b) (hbn:b<=xs.length) (hn:xs.length<=1048576) :
  Fn prog 128 [Is (slV n i),Ii (a:Int),Ii (b:Int),Is fNx] [buf (slV n i) 50 tPg xs]
   (fun _:{ys:List Pg // Srt Pg.l a b ys∧PI a b xs ys}=>qbs []) (fun ys=>[buf (slV n i) 50 tPg ys.1]):=by
 refine Fn.enterN func128 ntmps128 rfl rfl ?_;intro c hX;refine t8 ?_;refine qbm (fun z:Nat×List Pg=>a+1<=z.1∧z.1<=max b (a+1)∧Srt Pg.l a z.1 z.2∧PI a b xs z.2) (fun z=>[(0,Is (slV n i)),(1,Ii (a:Int)),(2,Ii (b:Int)),(3,Is fNx),(8,Ii (z.1:Nat))]) (fun z=>[buf (slV n i) 50 tPg z.2]) (fun z=>b-z.1) (a+1,xs) ⟨Nat.le_refl _,om,Srt.one om,PI.rfl'⟩ ⟨⟨_,rfl,SubL.rfl'⟩,⟨_,rfl,SubL.rfl'⟩,⟨_,rfl,SubL.rfl'⟩,⟨_,rfl,SubL.rfl'⟩,⟨_,rfl,SubL.eq (by congr 2)⟩,trivial⟩ qab ?_;rintro ⟨q,zs⟩ ⟨hq0,hqb,hs,hpi⟩;dsimp only at hq0 hqb hs hpi ⊢;refine t8 ?_;refine cN ?_ ?_<;>intro h1
 ·have hqlt:q<b:=by have:=of_decide_eq_true h1;omega
  clear h1;refine t11 ?_;refine qbm (fun z:Nat×List Pg=>a<=z.1∧z.1<=q∧Flt Pg.l a q z.1 z.2∧PI a b xs z.2) (fun z=>[(0,Is (slV n i)),(1,Ii (a:Int)),(2,Ii (b:Int)),(3,Is fNx),(8,Ii (q:Nat)),(9,Ii (z.1:Nat))]) (fun z=>[buf (slV n i) 50 tPg z.2]) (fun z=>z.1) (q,zs) ⟨by dsimp only;omega,Nat.le_refl _,Flt.start hs,hpi⟩ qa8 qab ?_;rintro ⟨j,us⟩ ⟨hj0,hjq,hf,hpu⟩;dsimp only at hj0 hjq hf hpu ⊢;have hul:=hpu.len;obtain ⟨x,hx⟩:∃ x,us[j]?=some x:=⟨us[j],gE om⟩
  obtain ⟨y,hy⟩:∃ y,us[j-1]?=some y:=⟨us[j-1],gE om⟩
  refine t2 ?_;refine Z5 ?_;refine qaj 17 kr ?_;refine t7 ?_;(refine qch rfl rfl (fun hg=>(by have hg0:=hg;(try simp at hg);exact qay (k:=j) evG qba evG rfl rfl qdh qcn)) ?_);(refine qch rfl rfl (fun hg=>(by have hg0:=hg;(try simp at hg);exact qb6 evG qba hx rfl rfl rfl)) ?_);refine t3 ?_;(refine qch rfl rfl (fun hg=>(by have hg0:=hg;(try simp at hg);exact qay (k:=j-1) evG qba evG rfl rfl qdh qcn)) ?_);(refine qch rfl rfl (fun hg=>(by have hg0:=hg;(try simp at hg);exact qb6 evG qba hy rfl rfl rfl)) ?_);(refine qch rfl rfl (fun hg=>(by have hg0:=hg;(try simp at hg);exact qj3 evG call28 (nxcmp_ok _ _) ⟨evS,⟨evS,trivial⟩⟩)) ?_);refine t2 ?_;refine ⟨rfl,?_⟩;refine Z20 ?_;refine cN ?_ ?_<;>intro h4
  ·have h5:(a:Int)<j∧x.l<y.l:=by
    rw [qo2,Bool.and_eq_true] at h4;exact ⟨of_decide_eq_true h4.1,of_decide_eq_true h4.2⟩
   clear h4;have hj1:(us.set j y)[j-1]?=some y:=by rw [List.getElem?_set_ne om];exact hy
   refine Z38 ?_;refine qdn [0,0,0,0,0,0,0,0,1,1,0,0,1,1,1,2,1,2] kr kr ?_;refine Z8 ?_;refine Z8 ?_;refine qhc (qlk (er rfl) (er rfl) qjq) ?_;refine Z8 ?_;refine qhc (qlk (er rfl) (er rfl) qjq) ?_;refine qfq (by exact qay (k:=j-1) (er rfl) qba (er rfl) rfl rfl qdh qcn) ?_;refine qfq (by exact qb6 (er rfl) qba hy rfl rfl rfl) ?_;refine Z8 ?_;refine qfq (by exact qay (k:=j) (er rfl) qba (er rfl) rfl rfl qdh qcn) ?_;refine qfq (by exact qb6 (er rfl) qba hx rfl rfl rfl) ?_;refine qfq (by exact qay (k:=j) (er rfl) qba (er rfl) rfl rfl qdh qcn) ?_;refine qwj (by exact qgn (z':=y) (er rfl) (er rfl) qa5 qaf hx rfl rf rf) ?_;refine qfq (by exact qay (k:=j-1) (er rfl) qba (er rfl) rfl rfl qdh qcn) ?_;refine qwj (by exact qgn (z':=x) (er rfl) (er rfl) qa5 qaf hj1 rfl rf rf) ?_;refine qjn ?_;refine Z74 ?_;exact qaa (j-1,(us.set j y).set (j-1) x) ⟨by dsimp only;omega,by dsimp only;omega,hf.step om hjq hx hy h5.2,hpu.tr (sw_PI hx hy om om)⟩ (by dsimp only;omega) ⟨⟨_,rfl,SubL.rfl'⟩,⟨_,rfl,SubL.rfl'⟩,⟨_,rfl,SubL.rfl'⟩,⟨_,rfl,SubL.rfl'⟩,⟨_,rfl,SubL.rfl'⟩,⟨_,rfl,SubL.eq (by dsimp only;congr 2;omega)⟩,trivial⟩ qab
  have hdn:Srt Pg.l a (q+1) us:=by
   refine hf.done hjq ?_;by_cases hja:j=a
   ·exact .inl hja
   ·refine .inr ⟨om,fun x' y' hx' hy'=>?_⟩;rw [hx] at hx';cases hx';rw [hy] at hy';cases hy';have h5:decide ((j:Int)>a)=true:=by simp;omega
    rw [qo2,h5,Bool.true_and] at h4;have:=of_decide_eq_false h4;omega
  clear h4;refine t11 ?_;exact qaa (q+1,us) ⟨by dsimp only;omega,by dsimp only;omega,hdn,hpu⟩ (by dsimp only;omega) qa8 qab
 have hqe:b<=q:=by have:=of_decide_eq_false h1;omega
 refine t5 ?_;exact qbp (Bs:=[]) results128 trivial ⟨zs,hs.sub (Nat.le_refl _) hqe,hpi⟩ SubL.rfl' qab
theorem pdqN_ok (xs:List Pg) (n:Nat) (i:Option Addr×Nat) (hn0:n=xs.length) (hn:xs.length<=3):Fn prog 75 [Is (slV n i),Ii 0,Ii (n:Nat),Top,Is fNx] [buf (slV n i) 50 tPg xs]
  (fun _:{ys:List Pg // Srt Pg.l 0 n ys∧PI 0 n xs ys}=>qbs []) (fun ys=>[buf (slV n i) 50 tPg ys.1]):=by
 refine Fn.enterN func75 ntmps75 rfl rfl ?_;intro c hX;refine t11 ?_;refine qbm (fun _:Unit=>True) (fun _=>[(0,Is (slV n i)),(1,Ii 0),(2,Ii (n:Nat)),(4,Is fNx)]) (fun _=>[buf (slV n i) 50 tPg xs]) (fun _=>0) () trivial qa8 qab ?_;rintro _ _;refine t16 ?_;refine cN ?_ ?_<;>intro h3
 ·refine t6 ?_;(refine qc6 rfl (by ((refine qbn qam call128 (insN_ok xs n i 0 n (nZ _) (Nat.le_of_eq hn0) ?_) ⟨evS,⟨evS,⟨evS,⟨evS,trivial⟩⟩⟩⟩);all_goals (omega))) ?_;intro i30);refine t7 ?_;obtain ⟨ys,hys⟩:=i30;dsimp only;exact qbp (Bs:=[]) results75 trivial ⟨ys,hys⟩ SubL.rfl' qab
 exact absurd (of_decide_eq_false h3) om
theorem LnW_0:FnP prog 137 [Is (.int .u64 0)] (Ii 0):=by
 refine FnP.enter func137 ntmps137 rfl rfl ?_;intro c hX;refine t12 ?_;refine cN ?_ ?_<;>intro h1
 ·exact absurd (of_decide_eq_true h1) om
 refine t9 ?_;refine cN ?_ ?_<;>intro h4
 ·exact absurd (of_decide_eq_true h4) om
 refine t9 ?_;refine cN ?_ ?_<;>intro h7
 ·exact absurd (of_decide_eq_true h7) om
 refine t7 ?_;refine qao rfl (qjd (k:=0) (b:=0) rfl (er rfl) rfl rfl) ?_;refine t6 ?_;refine rB results137 rfl ?_;rfl
theorem LnB_0:FnP prog 76 [Is (.int .u64 0)] (Ii 0):=by
 refine FnP.enter func76 ntmps76 rfl rfl ?_;intro c hX;refine t6 ?_;refine cN ?_ ?_<;>intro h0
 ·exact absurd h0 (by simp)
 refine t5 ?_;refine qao rfl (qac call137 (LnW_0) ⟨evS,trivial⟩) ?_;refine t4 ?_;refine rB results76 rfl ?_;rfl
theorem LnW_1:FnP prog 137 [Is (.int .u64 1)] (Ii 1):=by
 refine FnP.enter func137 ntmps137 rfl rfl ?_;intro c hX;refine t12 ?_;refine cN ?_ ?_<;>intro h1
 ·exact absurd (of_decide_eq_true h1) om
 refine t9 ?_;refine cN ?_ ?_<;>intro h4
 ·exact absurd (of_decide_eq_true h4) om
 refine t9 ?_;refine cN ?_ ?_<;>intro h7
 ·exact absurd (of_decide_eq_true h7) om
 refine t7 ?_;refine qao rfl (qjd (k:=1) (b:=1) rfl (er rfl) rfl rfl) ?_;refine t6 ?_;refine rB results137 rfl ?_;rfl
theorem LnB_1:FnP prog 76 [Is (.int .u64 1)] (Ii 1):=by
 refine FnP.enter func76 ntmps76 rfl rfl ?_;intro c hX;refine t6 ?_;refine cN ?_ ?_<;>intro h0
 ·exact absurd h0 (by simp)
 refine t5 ?_;refine qao rfl (qac call137 (LnW_1) ⟨evS,trivial⟩) ?_;refine t4 ?_;refine rB results76 rfl ?_;rfl
theorem LnW_2:FnP prog 137 [Is (.int .u64 2)] (Ii 2):=by
 refine FnP.enter func137 ntmps137 rfl rfl ?_;intro c hX;refine t12 ?_;refine cN ?_ ?_<;>intro h1
 ·exact absurd (of_decide_eq_true h1) om
 refine t9 ?_;refine cN ?_ ?_<;>intro h4
 ·exact absurd (of_decide_eq_true h4) om
 refine t9 ?_;refine cN ?_ ?_<;>intro h7
 ·exact absurd (of_decide_eq_true h7) om
 refine t7 ?_;refine qao rfl (qjd (k:=2) (b:=2) rfl (er rfl) rfl rfl) ?_;refine t6 ?_;refine rB results137 rfl ?_;rfl
theorem LnB_2:FnP prog 76 [Is (.int .u64 2)] (Ii 2):=by
 refine FnP.enter func76 ntmps76 rfl rfl ?_;intro c hX;refine t6 ?_;refine cN ?_ ?_<;>intro h0
 ·exact absurd h0 (by simp)
 refine t5 ?_;refine qao rfl (qac call137 (LnW_2) ⟨evS,trivial⟩) ?_;refine t4 ?_;refine rB results76 rfl ?_;rfl
theorem LnW_3:FnP prog 137 [Is (.int .u64 3)] (Ii 2):=by
 refine FnP.enter func137 ntmps137 rfl rfl ?_;intro c hX;refine t12 ?_;refine cN ?_ ?_<;>intro h1
 ·exact absurd (of_decide_eq_true h1) om
 refine t9 ?_;refine cN ?_ ?_<;>intro h4
 ·exact absurd (of_decide_eq_true h4) om
 refine t9 ?_;refine cN ?_ ?_<;>intro h7
 ·exact absurd (of_decide_eq_true h7) om
 refine t7 ?_;refine qao rfl (qjd (k:=3) (b:=2) rfl (er rfl) rfl rfl) ?_;refine t6 ?_;refine rB results137 rfl ?_;rfl
theorem LnB_3:FnP prog 76 [Is (.int .u64 3)] (Ii 2):=by
 refine FnP.enter func76 ntmps76 rfl rfl ?_;intro c hX;refine t6 ?_;refine cN ?_ ?_<;>intro h0
 ·exact absurd h0 (by simp)
 refine t5 ?_;refine qao rfl (qac call137 (LnW_3) ⟨evS,trivial⟩) ?_;refine t4 ?_;refine rB results76 rfl ?_;rfl
def lnBV:Nat->Int
 | 0=>0
 | 1=>1
 | _=>2
theorem zgp:∀ n:Nat,n<=3->FnP prog 76 [Is (.int .u64 (n:Nat))] (Ii (lnBV n))
 | 0,_=>LnB_0
 | 1,_=>LnB_1
 | 2,_=>LnB_2
 | 3,_=>LnB_3
 | n+4,h=>absurd h om
theorem qx5 (xs:List Pg) (n:Nat) (i:Option Addr×Nat) (hn0:n=xs.length) (hn:xs.length<=3) (hd:(xs.map Pg.l).Nodup):Fn prog 27 [Is (slV n i),Is fNx] [buf (slV n i) 50 tPg xs]
  (fun _:Unit=>qbs []) (fun _=>[buf (slV n i) 50 tPg (qck [] xs)]):=by
 have hL:=zgp n om;refine Fn.enterN func27 ntmps27 rfl rfl ?_;intro c hX;refine t11 ?_;refine qao rfl (qhr (er rfl) rfl rfl (wU64 om)) ?_;refine qao rfl (qac call76 (hL) ⟨evS,trivial⟩) ?_;refine s1 ?_;(refine qc6 rfl (qbn qam call75 (pdqN_ok xs n i hn0 hn) ⟨evS,⟨evS,⟨evS,⟨evS,⟨evS,trivial⟩⟩⟩⟩⟩) ?_;intro i13);refine t2 ?_;obtain ⟨ys,hs,hp⟩:=i13;dsimp only;have hpl:=hp.len;have hperm:ys.Perm xs:=by
  have h5:=hp.mid (nZ _);rw [List.drop_zero,List.drop_zero,List.take_of_length_le om,List.take_of_length_le om] at h5;exact h5
 have hM:=qt6 hd (by rw [hpl,<- hn0];exact hs) hperm;subst hM;exact qbp (Bs:=[]) results27 trivial () SubL.rfl' qab
def Nx (s:S23):Prop:=(s.need=[]∧s.over=true)∨(s.need≠[]∧s=quz s.need)
theorem qq0 {w:List Pg} {o:O23}:Nx ⟨[],w,o,true⟩:=.inl ⟨rfl,rfl⟩
theorem qjs (o:O23) (c:Int):Nx (qe9 o c):=qq0
theorem nx_nd {l:List Int} (h:l≠[]):Nx (quz l):=.inr ⟨h,rfl⟩
theorem qzl {P:P23} {f:S23} (h:Nx f):Nx (qmw P f):=by
 unfold qmw;split
 ·rename_i c;exact nx_nd fun e=>by rw [e] at c;exact absurd c (by simp)
 ·split
  ·exact qjs _ _
  ·exact h
theorem zeh {o:O23} {p:Pt} {D:Pg×Bool×Int} {f:Pg->S23} (h:Nx (f D.1)):Nx (qqr o p D f):=by
 unfold qqr;split
 ·exact qjs _ _
 ·split
  ·exact nx_nd (by simp)
  ·split
   ·exact qjs _ _
   ·exact h
theorem nx_gwN {fr ks:List Pg} {p:Pg} {r:Rt} {m:Nat}:∀ n k,Nx (qs4 fr ks p r m n k)
 | 0,_=>qq0
 | n+1,k=>by
  unfold qs4;split
  ·exact nx_gwN n (k+1)
  ·refine zeh ?_;unfold gwX;split
   ·split <;> exact qjs _ _
   ·exact qq0
theorem nx_op {kind:Int} {key:BitVec 32} {to:Pt} {fr ks:List Pg} {p:Pg} {r:Rt} {P:P23}:Nx (opS kind key to fr ks p r P):=by
 unfold opS;have ha:∀ c,Nx (ql8 p c):=fun c=>by unfold ql8;split <;> exact qjs _ _
 split
 ·split
  ·exact ha _
  ·refine qzl ?_;unfold zb7;split <;> exact qq0
 ·split
  ·split
   ·split
    ·exact qjs _ _
    ·unfold emV;split
     ·split <;> exact qjs _ _
     ·exact qq0
   ·refine qzl ?_;unfold adY;split
    ·exact qjs _ _
    ·unfold ispS;split
     ·exact qq0
     ·split
      ·exact qjs _ _
      ·unfold ispV;split
       ·split <;> exact qjs _ _
       ·split
        ·exact qjs _ _
        ·exact qq0
  ·split
   ·split
    ·exact ha _
    ·refine qzl ?_;unfold remS;split
     ·exact qjs _ _
     ·exact qq0
   ·split
    ·unfold rpQ;split
     ·exact qjs _ _
     ·refine qzl (zeh ?_);unfold rpT;split <;> exact qq0
    ·unfold gwQ;split
     ·exact qjs _ _
     ·split
      ·exact qjs _ _
      ·split
       ·exact zeh qq0
       ·exact nx_gwN _ _
theorem zde {kind:Int} {ks:List Pg} (h:(rrS kind ks).2.2.2.2=true):qjt ks 96=true∧(kind==5&&qet (qb9 ks 96))=false∧(qdu (qb9 ks 96)).2=0∧rrS kind ks=([],0,qb9 ks 96,(qdu (qb9 ks 96)).1,true):=by
 unfold rrS at h ⊢;by_cases c1:(!qjt ks 96)=true
 ·rw [if_pos c1] at h;cases h
 ·rw [if_neg c1] at h ⊢;by_cases c2:(kind==5&&qet (qb9 ks 96))=true
  ·rw [if_pos c2] at h;cases h
  ·rw [if_neg c2] at h ⊢;by_cases c3:((qdu (qb9 ks 96)).2 != 0)=true
   ·rw [if_pos c3] at h;cases h
   ·rw [if_neg c3];exact ⟨by simpa using c1,Bool.eq_false_iff.2 c2,by simpa using c3,rfl⟩
theorem qxd {kind:Int} {key:BitVec 32} {to:Pt} {fr ks:List Pg} (hb:qx0 kind key to=false) (h:(rrS kind ks).2.2.2.2=true) :
  nxS kind key to fr ks=opS kind key to fr ks (qb9 ks 96) (qdu (qb9 ks 96)).1 (lcA (qbk key) (qdu (qb9 ks 96)).1 ks (iH (qbk key) (qdu (qb9 ks 96)).1.depth)):=by
 obtain ⟨h1,h2,h3,_⟩:=zde h;unfold nxS;rw [if_neg (by rw [hb];decide),if_neg (by rw [h1];decide),if_neg (by rw [h2];decide),if_neg (by rw [h3];decide)]
theorem zei {kind:Int} {key:BitVec 32} {to:Pt} {fr ks:List Pg} (hb:qx0 kind key to=false) (h:(rrS kind ks).2.2.2.2=false) :
  (nxS kind key to fr ks).need=(rrS kind ks).1∧(nxS kind key to fr ks).writes=[]∧((rrS kind ks).1=[]->(nxS kind key to fr ks).out={ oC 0 with code:=(rrS kind ks).2.1 })∧Nx (nxS kind key to fr ks):=by
 unfold nxS;rw [if_neg (by rw [hb];decide)];unfold rrS at h ⊢;by_cases c1:(!qjt ks 96)=true
 ·rw [if_pos c1,if_pos c1];exact ⟨rfl,rfl,(fun e=>by cases e),nx_nd (by simp)⟩
 ·rw [if_neg c1] at h ⊢;rw [if_neg c1];by_cases c2:(kind==5&&qet (qb9 ks 96))=true
  ·rw [if_pos c2,if_pos c2];exact ⟨rfl,rfl,fun _=>rfl,qjs _ _⟩
  ·rw [if_neg c2] at h ⊢;rw [if_neg c2];by_cases c3:((qdu (qb9 ks 96)).2 != 0)=true
   ·rw [if_pos c3,if_pos c3];exact ⟨rfl,rfl,fun _=>rfl,qjs _ _⟩
   ·rw [if_neg c3] at h;cases h
theorem opS_fi {key:BitVec 32} {to:Pt} {fr ks:List Pg} {p:Pg} {r:Rt} {P:P23}:fiS key ks p r P=opS 1 key to fr ks p r P:=by rw [opS_1];rfl
theorem opS_in {key:BitVec 32} {to:Pt} {fr ks:List Pg} {p:Pg} {r:Rt} {P:P23}:inS key to fr p r P=opS 2 key to fr ks p r P:=by rw [opS_2];rfl
theorem opS_re {key:BitVec 32} {to:Pt} {fr ks:List Pg} {p:Pg} {r:Rt} {P:P23}:reS key ks p r P=opS 3 key to fr ks p r P:=by rw [opS_3];rfl
theorem NextS_ok (kind:Int) (key:BitVec 32) (to:Pt) (fr ks:List Pg):FnK prog 10 qfd [IsAgg [Ii kind,Is (.int .u32 (UV key)),Ii to.line,Ii to.gen,qad tPg fr],qad tPg ks]
  (qbs [qad qaw (nxS kind key to fr ks).need,qad tPg (sr (nxS kind key to fr ks)).writes,qyf (nxS kind key to fr ks).out,Ib ((nxS kind key to fr ks).over)]):=by
 obtain ⟨T,hT⟩:=xE (nxS kind key to fr ks);have hW3:qx0 kind key to=false->W3 T∧Nx T:=fun hb=>by
  rw [<- hT];cases h:(rrS kind ks).2.2.2.2 with
  | true =>
   rw [qxd hb h];exact ⟨w3_op (qs0 (zde h).1),nx_op⟩
  | false =>
   obtain ⟨_,h2,_,h4⟩:=zei (to:=to) (key:=key) (fr:=fr) hb h;exact ⟨⟨by rw [h2];exact nZ _,by rw [h2];exact List.nodup_nil⟩,h4⟩
 rw [hT,show (sr T).writes=qck [] T.writes from rfl];refine Fn.enterG (b0:=0) (List.mem_cons_self ..) func10 ntmps10 rfl rfl ?_;intro c hX hG;refine t3 ?_;intro i2;refine t3 ?_;intro i6;refine t7 ?_;refine kR call20 (zbd kind key to fr) ?_;refine t3 ?_;refine cN ?_ ?_<;>intro h1
 ·have hb:qx0 kind key to=true:=by simpa using h1
  have hT1:qe9 (oC 0) 1=T:=by rw [<- hT];unfold nxS;rw [if_pos hb]
  subst hT1;refine t11 ?_;exact qbp (Bs:=[qad qaw [],qad tPg [],qyf { oC 0 with code:=1 },Ib true]) results10 eR () SubL.rfl' qab
 have hb:qx0 kind key to=false:=by simpa using h1
 obtain ⟨hW,hNx⟩:=hW3 hb;clear hW3 h1;refine t8 ?_;intro i16;refine t5 ?_;refine qbv (b:=i16) (As':=(Ii kind::Is (.int .u32 (UV key))::Ii to.line::Ii to.gen::qad tPg fr::qad tPg ks::qad qaw ([])::Is (.slice none 0 0)::Ii 0::Ib false::Ib false::Ib false::Ib false::Ib false::Ii 0::Ii 0::qad qaw ([])::Ii 0::Ii 0::Ii ((Pg.nil).l)::Iw ((Pg.nil).h)::Iw ((Pg.nil).d0)::Iw ((Pg.nil).d1)::Iw ((Pg.nil).d2)::Iw ((Pg.nil).d3)::Iw ((Pg.nil).d4)::Iw ((Pg.nil).d5)::Iw ((Pg.nil).d6)::Ii ((Rt.nil).first.line)::Ii ((Rt.nil).first.gen)::Ii ((Rt.nil).depth)::Ii ((Rt.nil).p0.line)::Ii ((Rt.nil).p0.gen)::Ii ((Rt.nil).p1.line)::Ii ((Rt.nil).p1.gen)::Ii ((Rt.nil).p2.line)::Ii ((Rt.nil).p2.gen)::Ii ((Rt.nil).p3.line)::Ii ((Rt.nil).p3.gen)::[])) qaf (by repeat' (first|exact trivial|exact SubL.rfl' | exact SubL.nil|refine ⟨?_,?_⟩)) ?_;refine t2 ?_;(refine qc6 rfl (qj4 qam call21 (qwx i16 kind ks) ⟨evR,trivial⟩ qba) ?_;intro i18);refine t2 ?_;refine qbw [(4,_),(5,_),(6,_),(7,_),(8,_)] [blk i6 _ _] (fun yc:O23×(Option Addr×Nat)=>T.need=[]->yc.1=T.out) (fun yc=>[]) (fun yc=>[blk i16 83 (Top::Top::Top::Top::Top::Top::qad qaw (T.need)::Is (slV T.writes.length yc.2)::Ii ((yc.1).code)::Ib ((yc.1).found)::Ib ((yc.1).done)::Ib ((yc.1).split)::Ib ((yc.1).hint)::Ib ((yc.1).deep)::Ii ((yc.1).to.line)::Ii ((yc.1).to.gen)::qad qaw ((yc.1).check)::Ii ((yc.1).hops)::Ii ((yc.1).fresh)::Top::Top::Top::Top::Top::Top::Top::Top::Top::Top::Top::Top::Top::Top::Top::Top::Top::Top::Top::Top::[]),buf (slV T.writes.length yc.2) 50 tPg T.writes]) qc5 qab ?_ ?_
 rotate_left
 focus
  refine cN ?_ ?_<;>intro h4
  ·have hN:=qxd (to:=to) (key:=key) (fr:=fr) hb h4;obtain ⟨g1,g2,g3,g4⟩:=zde h4;have hd:=qj0 (qb9 ks 96);obtain ⟨p,hp⟩:=xE (qb9 ks 96);rw [hp] at hN hd g4;obtain ⟨r,hr⟩:=xE ((qdu p).1);rw [hr] at hN hd g4;rw [hT] at hN;obtain ⟨P,hP⟩:=xE (lcA (qbk key) r ks (iH (qbk key) r.depth));rw [hP] at hN;rw [g4];obtain ⟨hk15,_⟩:=zf8 (show ¬ qx0 kind key to=true by rw [hb];decide);refine t13 ?_;refine cN ?_ ?_<;>intro h6
   ·have hk:kind=1:=by simpa using h6
    have hS:fiS key ks p r P=T:=by rw [hN,hk];exact opS_fi
    refine t2 ?_;(refine qd5 rfl (qew qam call22 (fiY i16 key ks p r hd) ⟨evR,trivial⟩ qba) ?_;intro x24 hx24);refine t2 ?_;rw [hP,hS] at hx24 ⊢;obtain ⟨O,s⟩:=x24;have hO:T.need=[]->O=T.out:=hx24;refine qan (b:=i16) (As':=(Top::Top::Top::Top::Top::Top::qad qaw (T.need)::Is (slV T.writes.length s)::Ii O.code::Ib O.found::Ib O.done::Ib O.split::Ib O.hint::Ib O.deep::Ii O.to.line::Ii O.to.gen::qad qaw O.check::Ii O.hops::Ii O.fresh::Top::Top::Top::Top::Top::Top::Top::Top::Top::Top::Top::Top::Top::Top::Top::Top::Top::Top::Top::Top::[])) qaf (by repeat' (first|exact trivial|exact SubL.rfl' | exact (fun _ _ _ _=>trivial)|refine ⟨?_,?_⟩)) ?_;refine qal (O,s) ?_ qc5 qab
    ·exact (hO)
   have hk6:¬ kind=1:=by simpa using h6
   refine t6 ?_;refine cN ?_ ?_<;>intro h8
   ·have hk:kind=2:=by simpa using h8
    have hS:inS key to fr p r P=T:=by rw [hN,hk];exact opS_in
    refine t2 ?_;(refine qd5 rfl (qew qam call23 (ze3 i16 key to fr ks p r hd) ⟨evR,trivial⟩ qba) ?_;intro x28 hx28);refine t2 ?_;rw [hP,hS] at hx28 ⊢;obtain ⟨O,s⟩:=x28;have hO:T.need=[]->O=T.out:=hx28;refine qan (b:=i16) (As':=(Top::Top::Top::Top::Top::Top::qad qaw (T.need)::Is (slV T.writes.length s)::Ii O.code::Ib O.found::Ib O.done::Ib O.split::Ib O.hint::Ib O.deep::Ii O.to.line::Ii O.to.gen::qad qaw O.check::Ii O.hops::Ii O.fresh::Top::Top::Top::Top::Top::Top::Top::Top::Top::Top::Top::Top::Top::Top::Top::Top::Top::Top::Top::Top::[])) qaf (by repeat' (first|exact trivial|exact SubL.rfl' | exact (fun _ _ _ _=>trivial)|refine ⟨?_,?_⟩)) ?_;refine qal (O,s) ?_ qc5 qab
    ·exact (hO)
   have hk8:¬ kind=2:=by simpa using h8
   refine t6 ?_;refine cN ?_ ?_<;>intro h10
   ·have hk:kind=3:=by simpa using h10
    have hS:reS key ks p r P=T:=by rw [hN,hk];exact opS_re
    refine t2 ?_;(refine qd5 rfl (qew qam call24 (zdi i16 key ks p r hd) ⟨evR,trivial⟩ qba) ?_;intro x32 hx32);refine t2 ?_;rw [hP,hS] at hx32 ⊢;obtain ⟨O,s⟩:=x32;have hO:T.need=[]->O=T.out:=hx32;refine qan (b:=i16) (As':=(Top::Top::Top::Top::Top::Top::qad qaw (T.need)::Is (slV T.writes.length s)::Ii O.code::Ib O.found::Ib O.done::Ib O.split::Ib O.hint::Ib O.deep::Ii O.to.line::Ii O.to.gen::qad qaw O.check::Ii O.hops::Ii O.fresh::Top::Top::Top::Top::Top::Top::Top::Top::Top::Top::Top::Top::Top::Top::Top::Top::Top::Top::Top::Top::[])) qaf (by repeat' (first|exact trivial|exact SubL.rfl' | exact (fun _ _ _ _=>trivial)|refine ⟨?_,?_⟩)) ?_;refine qal (O,s) ?_ qc5 qab
    ·exact (hO)
   have hk10:¬ kind=3:=by simpa using h10
   refine t6 ?_;refine cN ?_ ?_<;>intro h12
   ·have hk:kind=4:=by simpa using h12
    have hS:rpQ key ks r=T:=by rw [hN,hk,opS_4]
    refine t2 ?_;(refine qd5 rfl (qew qam call25 (zdh i16 key ks r hd) ⟨evR,trivial⟩ qba) ?_;intro x36 hx36);refine t2 ?_;rw [hS] at hx36 ⊢;obtain ⟨O,s⟩:=x36;have hO:T.need=[]->O=T.out:=hx36;refine qan (b:=i16) (As':=(Top::Top::Top::Top::Top::Top::qad qaw (T.need)::Is (slV T.writes.length s)::Ii O.code::Ib O.found::Ib O.done::Ib O.split::Ib O.hint::Ib O.deep::Ii O.to.line::Ii O.to.gen::qad qaw O.check::Ii O.hops::Ii O.fresh::Top::Top::Top::Top::Top::Top::Top::Top::Top::Top::Top::Top::Top::Top::Top::Top::Top::Top::Top::Top::[])) qaf (by repeat' (first|exact trivial|exact SubL.rfl' | exact (fun _ _ _ _=>trivial)|refine ⟨?_,?_⟩)) ?_;refine qal (O,s) ?_ qc5 qab
    ·exact (hO)
   have hk12:¬ kind=4:=by simpa using h12
   refine t6 ?_;refine cN ?_ ?_<;>intro h14
   ·have hk:kind=5:=by simpa using h14
    have hS:gwQ fr ks p r=T:=by rw [hN,hk,opS_5]
    refine t2 ?_;(refine qd5 rfl (qew qam call26 (grow_ok i16 fr ks p r hd) ⟨evR,trivial⟩ qba) ?_;intro x40 hx40);refine t2 ?_;rw [hS] at hx40 ⊢;obtain ⟨O,s⟩:=x40;have hO:T.need=[]->O=T.out:=hx40;refine qan (b:=i16) (As':=(Top::Top::Top::Top::Top::Top::qad qaw (T.need)::Is (slV T.writes.length s)::Ii O.code::Ib O.found::Ib O.done::Ib O.split::Ib O.hint::Ib O.deep::Ii O.to.line::Ii O.to.gen::qad qaw O.check::Ii O.hops::Ii O.fresh::Top::Top::Top::Top::Top::Top::Top::Top::Top::Top::Top::Top::Top::Top::Top::Top::Top::Top::Top::Top::[])) qaf (by repeat' (first|exact trivial|exact SubL.rfl' | exact (fun _ _ _ _=>trivial)|refine ⟨?_,?_⟩)) ?_;refine qal (O,s) ?_ qc5 qab
    ·exact (hO)
   exact absurd hk15 (by simp at h14;omega)
  obtain ⟨e1,e2,e3,e4⟩:=zei (to:=to) (key:=key) (fr:=fr) hb h4;rw [hT] at e1 e2 e3 e4;obtain ⟨O,hOd⟩:∃ O:O23,O={ oC 0 with code:=(rrS kind ks).2.1 }:=⟨_,rfl⟩
  have hO:T.need=[]->O=T.out:=fun q=>by rw [e3 (by rw [<- e1];exact q),hOd]
  obtain ⟨s,hs⟩:∃ s:Option Addr×Nat,s=(none,0):=⟨_,rfl⟩
  have hsv:slV T.writes.length s = .slice none 0 0:=by rw [e2,hs];rfl
  refine Z62 ?_;rw [show buf (.slice none 0 0) 50 tPg ([]:List Pg)=buf (slV T.writes.length s) 50 tPg T.writes by rw [hsv,e2]];refine qbv (b:=i16) (As':=(Top::Top::Top::Top::Top::Top::qad qaw (T.need)::Is (slV T.writes.length s)::Ii O.code::Ib O.found::Ib O.done::Ib O.split::Ib O.hint::Ib O.deep::Ii O.to.line::Ii O.to.gen::qad qaw O.check::Ii O.hops::Ii O.fresh::Top::Top::Top::Top::Top::Top::Top::Top::Top::Top::Top::Top::Top::Top::Top::Top::Top::Top::Top::Top::[])) qaf (by rw [hOd,e1,hsv];repeat' (first|exact trivial|exact SubL.rfl' | exact (fun _ _ _ _=>trivial)|refine ⟨?_,?_⟩)) ?_;refine s1 ?_;refine qal (O,s) ?_ qc5 qab
  ·exact (hO)
 rintro ⟨O,s⟩ hO;dsimp only at hO ⊢;refine t11 ?_;refine cN ?_ ?_<;>intro h16
 ·have hne:T.need≠[]:=fun q=>by rw [q] at h16;exact absurd h16 de
  have hnd:=(hNx.resolve_left (fun q=>hne q.1)).2;have q1:T.writes=[]:=by rw [hnd];rfl
  have q2:T.out=oC 0:=by rw [hnd];rfl
  have q3:T.over=false:=by rw [hnd];rfl
  rw [q2,q3];refine t15 ?_;exact qbp (Bs:=[qad qaw T.need,qad tPg [],qyf (oC 0),Ib false]) results10 eR () (SubL.eq (by rw [q1];rfl)) qab
 have hTn:T.need=[]:=List.eq_nil_of_length_eq_zero (by have:=of_decide_eq_false h16;omega);have hov:T.over=true:=(hNx.resolve_right (fun q=>q.1 hTn)).2;have hOo:=hO hTn;subst hOo;rw [hTn,hov];refine t8 ?_;(refine qc6 rfl (qbn qam call27 (qx5 T.writes T.writes.length s rfl hW.1 hW.2) ⟨evR,⟨evR,trivial⟩⟩) ?_;intro i56);refine t3 ?_;refine qi4 (v:=slV T.writes.length s) qaf (qgp hX) ?_;refine qdd (b:=i16) qaf (qgp hX) ?_;refine qbl 8 (IsRef _) rfl (SubL.fact qba) ?_;refine Z65 ?_;refine qdw 10 [0,1,2,3,4,5,6,7,8,9,10] rfl kr (fun c'=>by exact qat (er rfl) (er rfl) qa5 qaf rf rf rf) ?_;refine f1 11 ?_;refine Z36 ?_;show JQ _ _ _ _ _ _;refine t2 ?_;exact qbp (Bs:=[qad qaw [],qad tPg (qck [] T.writes),qyf T.out,Ib true]) results10 eR () SubL.rfl' qab
end Go.Proofs.YteafmggidjjdgaaGreatDoor
