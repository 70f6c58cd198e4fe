/- Walks of functions and plain laws, laid together. Own work. -/
import Derived.Test.YteafmggidjjdgaaGreatDoorK9
namespace Go.Proofs.YteafmggidjjdgaaGreatDoor
open Go.RowKit Tryz
set_option linter.unusedVariables false
set_option linter.unusedSimpArgs false
set_option maxRecDepth 100000
set_option maxHeartbeats 4000000
def spE (d:Int) (pt:BitVec 32):List En->List En->List En->List En×List En
 | [],xs,ys=>(xs,ys)
 | z::r,xs,ys=>if (UV (qfk (qbk z.key) d)==UV pt)=true then spE d pt r (xs++[z]) ys else spE d pt r xs (ys++[z])
theorem qws (d:Int) (pt:BitVec 32):∀ (l xs ys:List En),(spE d pt l xs ys).1.length+(spE d pt l xs ys).2.length=xs.length+ys.length+l.length
 | [],xs,ys=>rfl
 | z::r,xs,ys=>by
  unfold spE;split
  ·rw [qws];simp;omega
  ·rw [qws];simp;omega
def zez (p:P23) (e:En) (q:List En×List En):List En×List En×Bool:=
 if (UV (qfk (qbk e.key) (p.bucket.depth+1))==UV p.bucket.pat)=true then (if decide ((q.1.length:Int)<5)=true then (wiV q.1 e,q.2,true) else (q.1,q.2,p.out.done)) else
 if decide ((q.2.length:Int)<5)=true then (q.1,wiV q.2 e,true) else (q.1,q.2,p.out.done)
def upV (b:Bk):BitVec 32:=b.pat+BitVec.ofInt 32 1<<<b.depth.toNat
def ispB (p:P23) (nw:Pg) (X:List En×List En×Bool):S23:=
 ⟨[],qck [] [(qgz p.page ⟨p.bucket.depth+1,p.bucket.pat,atR nw,X.1⟩).1,(qgz nw ⟨p.bucket.depth+1,upV p.bucket,p.bucket.next,X.2.1⟩).1],{ p.out with done:=X.2.2,split:=true },true⟩
def ispU (p:P23) (e:En) (U:List Pg×Int):S23:=
 if (U.2==18)=true then qe9 { p.out with fresh:=1 } U.2 else
 if (U.2 != 0)=true then qe9 p.out U.2 else ispB p (U.1.getD 0 Pg.nil) (zez p e (spE (p.bucket.depth+1) p.bucket.pat p.bucket.es [] []))
def qu3 (p:P23) (e:En) (fr:List Pg):S23:=
 if decide ((p.bucket.es.length:Int)<5)=true then ⟨[],[(qgz p.page { p.bucket with es:=wiV p.bucket.es e }).1],{ p.out with done:=true },true⟩ else
 if (p.bucket.depth==16)=true then qe9 p.out 12 else ispU p e (qmc fr [2] [p.page.l])
theorem qu7 (p:P23) (e:En) (fr:List Pg) (hp:okBk p.bucket):FnF prog 39 [IsP23 p,IsEn e,qad tPg fr] (fun B=>qqk B (qu3 p e fr)):=by
 obtain ⟨hpd,hpl⟩:=hp;obtain ⟨W,hE⟩:=xE (qu3 p e fr);rw [hE];unfold qu3 at hE;refine FnF.enter func39 ntmps39 rfl rfl ?_;intro c hX;refine t3 ?_;intro i3;refine s1 ?_;intro i4;refine s1 ?_;intro i6;refine t7 ?_;intro i7;refine t8 ?_;intro i8;refine t12 ?_;refine cN ?_ ?_<;>intro h3
 ·replace hE:=qaq hE h3;refine t5 ?_;refine qao rfl (by ((refine qac call97 (qnk _ (⟨_,(⟨_,_⟩:Pt)⟩:En) ?_) ⟨qbg,⟨qbg,trivial⟩⟩);all_goals (omega))) ?_;refine t9 ?_;refine kXF call38 (qe3 _ (⟨_,_,(⟨_,_⟩:Pt),_⟩:Bk)) ?_;refine t4 ?_;intro i9;refine t13 ?_;refine Z2 ?_;refine t7 ?_;subst hE;exact rA (Bs:=[_]) results39 eRF
 replace hE:=qar hE h3;refine t10 ?_;refine cN ?_ ?_<;>intro h8
 ·replace hE:=qaq hE h8;refine t3 ?_;refine kXF call31 (qbi c.w.heap.size (⟨_,_,_,_,_,_,(⟨_,_⟩:Pt),_,_,_⟩:O23) _) ?_;refine t5 ?_;subst hE;exact rA (Bs:=[_]) results39 eRF
 replace hE:=qar hE h8;have hne:p.bucket.depth≠16:=by simpa using h8
 clear h8;refine t5 ?_;refine Z1 ?_;refine t3 ?_;refine Z1 ?_;refine qao rfl (by ((refine qac call90 (qnb _ [2] [p.page.l] ?_ ?_) ⟨qap,⟨qap,⟨qap,trivial⟩⟩⟩);all_goals (first|decide|simp))) ?_;refine t9 ?_;obtain ⟨⟨ps,uc⟩,hu⟩:∃ q,qmc fr [2] [p.page.l]=q:=⟨_,rfl⟩
 have hul:=qou (fr:=fr) (kinds:=[2]) (others:=[p.page.l]);rw [hu] at hE hul ⊢;unfold ispU at hE;dsimp only at hE hul ⊢;refine t5 ?_;refine cN ?_ ?_<;>intro h11
 ·replace hE:=qaq hE h11;refine t10 ?_;refine kXF call31 (qbi c.w.heap.size (⟨_,_,_,_,_,_,(⟨_,_⟩:Pt),_,_,_⟩:O23) _) ?_;refine t5 ?_;subst hE;exact rA (Bs:=[_]) results39 eRF
 replace hE:=qar hE h11;refine t9 ?_;refine cN ?_ ?_<;>intro h14
 ·replace hE:=qaq hE h14;refine t4 ?_;refine kXF call31 (qbi c.w.heap.size (⟨_,_,_,_,_,_,(⟨_,_⟩:Pt),_,_,_⟩:O23) _) ?_;refine t5 ?_;subst hE;exact rA (Bs:=[_]) results39 eRF
 obtain ⟨pa,hza⟩:=quw (hul (by simpa using h14));have ha:ps.getD 0 Pg.nil=pa:=by rw [List.getD_eq_getElem?_getD,hza];rfl
 replace hE:=qar hE h14;rw [ha] at hE;obtain ⟨Z,hZ⟩:=xE (spE (p.bucket.depth+1) p.bucket.pat p.bucket.es [] []);have hzl:=qws (p.bucket.depth+1) p.bucket.pat p.bucket.es [] [];rw [hZ] at hE hzl;clear h14;have hEo:=hE;clear hE;have hd1:0<=p.bucket.depth+1∧p.bucket.depth+1<=16:=om;refine Z32 ?_;refine zaj ?_;refine t6 ?_;refine qbc (by exact qak (j:=0) (er rfl) (er rfl) rfl rfl rf hza) ?_;refine s1 ?_;refine Z55 ?_;refine s1 ?_;refine Z4 ?_;refine ⟨rfl,?_⟩;intro i13;refine qda ?_;refine t11 ?_;refine qao rfl (by exact qev (k:=p.bucket.depth.toNat) qn0 (er rfl) om qdh) ?_;refine t5 ?_;intro i14;refine t10 ?_;refine qdo 100 tEn ?_;refine qdo 100 tEn ?_;refine qax [(3,_),(4,_),(6,_),(7,_),(8,_),(11,_),(13,_),(14,_)] [blk i8 _ _,blk i7 _ _,blk i6 _ _,blk i4 _ _,blk i3 _ _] (fun y:Nat×(List En)×(List En)×(Option Addr×Nat)×(Option Addr×Nat)=>y.1<=(p.bucket.es).length∧(y.2.1.length<=y.1∧y.2.2.1.length<=y.1)∧spE (p.bucket.depth+1) p.bucket.pat (List.drop y.1 (p.bucket.es)) y.2.1 y.2.2.1=Z) (fun y=>[(15,Ii (y.1:Nat))]) (fun y=>[blk i13 92 [Ii (p.bucket.depth+1),Is (.int .u32 (UV p.bucket.pat)),Ii pa.l,Ii (qge pa.d0),Is (slV (y.2.1).length y.2.2.2.1)],blk i14 92 [Ii (p.bucket.depth+1),Is (.int .u32 (UV (upV p.bucket))),Ii p.bucket.next.line,Ii p.bucket.next.gen,Is (slV (y.2.2.1).length y.2.2.2.2)],buf (slV (y.2.1).length y.2.2.2.1) 100 tEn (y.2.1),buf (slV (y.2.2.1).length y.2.2.2.2) 100 tEn (y.2.2.1)]) (fun y=>(p.bucket.es).length-y.1) (0,[],[],(none,0),(none,0)) ⟨by exact nZ _,⟨Nat.le_refl 0,Nat.le_refl 0⟩,hZ⟩ qbu qab ?_;rintro ⟨k,xs,ys,v_0,v_1⟩ ⟨hk,hI,hE⟩;dsimp only at hk hI hE ⊢;refine t10 ?_;refine cN ?_ ?_<;>intro h19
 ·have hlt:k<p.bucket.es.length:=by have:=of_decide_eq_true h19;omega
  clear h19;obtain ⟨z,hz⟩:∃ q,p.bucket.es[k]?=some q:=⟨_,gE hlt⟩
  rw [qf7 hz] at hE;unfold spE at hE;refine Z70 ?_;refine zbq ?_;refine t6 ?_;refine qbc (qac call35 (qo3 _) ⟨qap,trivial⟩) ?_;refine t2 ?_;refine qbc (qac call80 (qns _ _ hd1) ⟨qap,⟨qap,trivial⟩⟩) ?_;refine t3 ?_;refine ⟨rfl,?_⟩;refine Z20 ?_;refine cN ?_ ?_<;>intro h21
  ·replace hE:=qaq hE h21;refine Z101 ?_;refine t7 ?_;refine Z9 ?_;refine ⟨rfl,?_⟩;(refine JD_s kr rfl rfl (qca (er rfl) (fun _=>qaf) (by exact er rfl) (by exact qfz rfl rfl rfl) qcn) ?_;intro i122);refine qaj 1 kr ?_;refine s1 ?_;refine ⟨rfl,?_⟩;refine Z3 ?_;refine t7 ?_;exact qaa (k+1,_,_,_,_) ⟨om,⟨by (simp;omega),by (simp;omega)⟩,hE⟩ om qbu qab
  replace hE:=qar hE h21;refine Z101 ?_;refine t7 ?_;refine Z9 ?_;refine ⟨rfl,?_⟩;(refine JD_s kr rfl rfl (qca (er rfl) (fun _=>qaf) (by exact er rfl) (by exact qfz rfl rfl rfl) qcn) ?_;intro i132);refine qaj 1 kr ?_;refine s1 ?_;refine ⟨rfl,?_⟩;refine Z3 ?_;refine t7 ?_;exact qaa (k+1,_,_,_,_) ⟨om,⟨by (simp;omega),by (simp;omega)⟩,hE⟩ om qbu qab
 have hke:k=p.bucket.es.length:=by have:=of_decide_eq_false h19;omega
 clear h19;subst hke;rw [List.drop_length] at hE;have hE':(xs,ys)=Z:=hE;subst hE';clear hE;dsimp only at hzl;obtain ⟨X,hXX⟩:=xE (zez p e (xs,ys));rw [hXX] at hEo;unfold zez at hXX;dsimp only at hXX;refine qa7 hX (v:=slV xs.length v_0) qaf ?_;refine qa7 hX (v:=slV ys.length v_1) qaf ?_;refine qbv (b:=i13) (As':=tBk.cells ⟨p.bucket.depth+1,p.bucket.pat,atR pa,xs⟩) qaf qbo ?_;refine qbv (b:=i14) (As':=tBk.cells ⟨p.bucket.depth+1,upV p.bucket,p.bucket.next,ys⟩) qaf qbo ?_;refine t7 ?_;refine Z5 ?_;refine qaj 9 kr ?_;refine t2 ?_;refine qbc (qac call35 (qo3 _) ⟨qap,trivial⟩) ?_;refine t2 ?_;refine qbc (qac call80 (qns _ _ hd1) ⟨qap,⟨qap,trivial⟩⟩) ?_;refine t3 ?_;refine ⟨rfl,?_⟩;refine Z20 ?_;refine qbw [(3,_),(6,_),(7,_),(11,_),(13,_),(14,_)] [blk i6 _ _,blk i3 _ _] (fun yc:Bk×Bk×O23=>yc.1=⟨p.bucket.depth+1,p.bucket.pat,atR pa,X.1⟩∧yc.2.1=⟨p.bucket.depth+1,upV p.bucket,p.bucket.next,X.2.1⟩∧yc.2.2={ p.out with done:=X.2.2 }) (fun yc=>[]) (fun yc=>[blk i13 92 (tBk.cells yc.1),blk i14 92 (tBk.cells yc.2.1),blk i7 59 (tO23.cells yc.2.2)]) qbu qab ?_ ?_
 rotate_left
 focus
  refine cN ?_ ?_<;>intro h24
  ·replace hXX:=qaq hXX h24;refine t8 ?_;refine cN ?_ ?_<;>intro h25
   ·have h9:=of_decide_eq_true h25;replace hXX:=qaq hXX h25;subst hXX;refine t5 ?_;refine qao rfl (by ((refine qac call97 (qnk _ (⟨_,(⟨_,_⟩:Pt)⟩:En) ?_) ⟨qbg,⟨qbg,trivial⟩⟩);all_goals (omega))) ?_;refine t8 ?_;exact qal ((⟨p.bucket.depth+1,p.bucket.pat,atR pa,wiV xs e⟩:Bk),(⟨p.bucket.depth+1,upV p.bucket,p.bucket.next,ys⟩:Bk),({ p.out with done:=true }:O23)) ⟨rfl,rfl,rfl⟩ qbu qab
   replace hXX:=qar hXX h25;subst hXX;refine s1 ?_;refine qal ((⟨_,_,(⟨_,_⟩:Pt),_⟩:Bk),(⟨_,_,(⟨_,_⟩:Pt),_⟩:Bk),(⟨_,_,_,_,_,_,(⟨_,_⟩:Pt),_,_,_⟩:O23)) ?_ qbu qab
   ·exact (⟨rfl,rfl,rfl⟩)
  replace hXX:=qar hXX h24;refine t8 ?_;refine cN ?_ ?_<;>intro h28
  ·have h9:=of_decide_eq_true h28;replace hXX:=qaq hXX h28;subst hXX;refine t5 ?_;refine qao rfl (by ((refine qac call97 (qnk _ (⟨_,(⟨_,_⟩:Pt)⟩:En) ?_) ⟨qbg,⟨qbg,trivial⟩⟩);all_goals (omega))) ?_;refine t8 ?_;exact qal ((⟨p.bucket.depth+1,p.bucket.pat,atR pa,xs⟩:Bk),(⟨p.bucket.depth+1,upV p.bucket,p.bucket.next,wiV ys e⟩:Bk),({ p.out with done:=true }:O23)) ⟨rfl,rfl,rfl⟩ qbu qab
  replace hXX:=qar hXX h28;subst hXX;refine s1 ?_;refine qal ((⟨_,_,(⟨_,_⟩:Pt),_⟩:Bk),(⟨_,_,(⟨_,_⟩:Pt),_⟩:Bk),(⟨_,_,_,_,_,_,(⟨_,_⟩:Pt),_,_,_⟩:O23)) ?_ qbu qab
  ·exact (⟨rfl,rfl,rfl⟩)
 rintro ⟨bx,bz,o⟩ ⟨hb1,hb2,hb3⟩;dsimp only at hb1 hb2 hb3 ⊢;subst hb1;subst hb2;subst hb3;subst hEo;refine t11 ?_;refine kXF call38 (qe3 _ (⟨_,_,(⟨_,_⟩:Pt),_⟩:Bk)) ?_;refine t4 ?_;intro i16;refine Z70 ?_;refine qx3 ?_;refine s1 ?_;refine qbc (by exact qak (j:=0) (er rfl) (er rfl) rfl rfl rf hza) ?_;refine t2 ?_;refine qbc (qac call38 (qe3 _ (⟨_,_,(⟨_,_⟩:Pt),_⟩:Bk)) ⟨qbg,⟨qbg,trivial⟩⟩) ?_;refine Z41 ?_;refine ⟨rfl,?_⟩;intro i18;refine Z33 ?_;refine Z5 ?_;refine qaj 6 kr ?_;refine Z13 ?_;refine qbc (by ((refine qau call88 (qb8 _ _ ?_) ⟨qap,⟨qap,trivial⟩⟩);all_goals ((simp;done)))) ?_;refine t2 ?_;refine ⟨rfl,?_⟩;refine Z3 ?_;refine t2 ?_;exact rA (Bs:=[_]) results39 eRF
def quz (l:List Int):S23:=⟨l,[],oC 0,false⟩
def rpS (i:Nat) (P:P23) (D:Pg):S23:=
 if decide (qpg (qb2 D).1 (i % 8)=atR P.page)=true then ⟨[],[],{ P.out with found:=true },true⟩ else ⟨[],[(qgk D (qqv (qb2 D).1 (i % 8) (atR P.page))).1],{ P.out with done:=true },true⟩
def rpC (r:Rt) (i:Nat) (ks:List Pg) (P:P23):S23:=
 if decide ((P.need.length:Int)>0)=true then quz P.need else
 if (P.out.code != 0)=true then qe9 P.out P.out.code else
 if ((lkV ks (qdv r (i / 8)) 3 true).2.2 != 0)=true then qe9 P.out (lkV ks (qdv r (i / 8)) 3 true).2.2 else
 if (!(lkV ks (qdv r (i / 8)) 3 true).2.1)=true then quz [(qdv r (i / 8)).line] else
 if ((qb2 (lkV ks (qdv r (i / 8)) 3 true).1).2 != 0)=true then qe9 P.out 14 else rpS i P (lkV ks (qdv r (i / 8)) 3 true).1
def rpZ (h:BitVec 32) (ks:List Pg) (z:Pg×Rt×List Int×Int):S23:=
 if decide ((z.2.2.1.length:Int)>0)=true then quz z.2.2.1 else
 if (z.2.2.2 != 0)=true then qe9 (oC 0) z.2.2.2 else
 if decide (z.2.1.first=Pt.nil)=true then qe9 (oC 0) 16 else rpC z.2.1 (iH h z.2.1.depth) ks (qq3 (qfk h z.2.1.depth) ks)
def rp23 (h:BitVec 32) (ks:List Pg):S23:=rpZ h ks (qmj ks)
theorem quc (h:BitVec 32) (ks:List Pg):FnF prog 32 [Is (.int .u32 (UV h)),qad tPg ks] (fun B=>qqk B (rp23 h ks)):=by
 have hdp:=qyw ks;obtain ⟨W,hE⟩:=xE (rp23 h ks);rw [hE];unfold rp23 at hE;refine FnF.enter func32 ntmps32 rfl rfl ?_;intro c hX;refine t3 ?_;intro i4;refine t5 ?_;refine kRF call79 (qrk _) ?_;refine t6 ?_;intro i5;refine s1 ?_;intro i6;refine t8 ?_;obtain ⟨⟨p,r,nd,cd⟩,hz⟩:∃ z,qmj ks=z:=⟨_,rfl⟩
 rw [hz] at hE hdp ⊢;dsimp only at hdp ⊢;unfold rpZ at hE;dsimp only at hE;refine t6 ?_;refine cN ?_ ?_<;>intro h2
 ·replace hE:=qaq hE h2;refine t9 ?_;subst hE;exact Z105
 replace hE:=qar hE h2;refine t9 ?_;refine cN ?_ ?_<;>intro h4
 ·replace hE:=qaq hE h4;refine t4 ?_;refine kXF call31 (qbi c.w.heap.size (⟨_,_,_,_,_,_,(⟨_,_⟩:Pt),_,_,_⟩:O23) _) ?_;refine t5 ?_;subst hE;exact Z105
 replace hE:=qar hE h4;refine t8 ?_;refine Z54 ?_;refine t2 ?_;refine cN ?_ ?_<;>intro h6
 ·replace hE:=qaq hE h6;refine t3 ?_;refine kXF call31 (qbi c.w.heap.size (⟨_,_,_,_,_,_,(⟨_,_⟩:Pt),_,_,_⟩:O23) _) ?_;refine t5 ?_;subst hE;exact Z105
 replace hE:=qar hE h6;obtain ⟨hi,hi32⟩:=iH_lt (h:=h) hdp;obtain ⟨i,hii⟩:∃ i:Nat,iH h r.depth=i:=⟨_,rfl⟩
 rw [hii] at hE hi hi32;have hq4:i / 8<4:=om;have hm8:i % 8<8:=om;refine t7 ?_;refine qao rfl (by ((refine qac call80 (qns _ _ ?_) ⟨qap,⟨qap,trivial⟩⟩);all_goals (omega))) ?_;refine t7 ?_;refine kRF call34 (qkg _ _) ?_;refine s1 ?_;intro i10;refine t5 ?_;obtain ⟨P,hP⟩:=xE (qq3 (qfk h r.depth) ks);rw [hP] at hE ⊢;unfold rpC at hE;refine t7 ?_;refine cN ?_ ?_<;>intro h10
 ·replace hE:=qaq hE h10;refine t10 ?_;subst hE;exact Z105
 replace hE:=qar hE h10;refine t11 ?_;refine cN ?_ ?_<;>intro h12
 ·replace hE:=qaq hE h12;refine t7 ?_;refine kXF call31 (qbi c.w.heap.size (⟨_,_,_,_,_,_,(⟨_,_⟩:Pt),_,_,_⟩:O23) _) ?_;refine t5 ?_;subst hE;exact Z105
 replace hE:=qar hE h12;refine t6 ?_;refine qao rfl (qiw (er rfl) (er rfl) om (qU8 i om hi)) ?_;refine s1 ?_;refine qao rfl (qah (k:=i / 8) (sz:=2) (er rfl) (er rfl) rfl rfl rfl hq4) ?_;refine qao rfl (qa3 (n:=2) (er rfl) qba rf rf rf (qro _ hq4) (qy4 _ hq4)) ?_;refine Z59 ?_;intro i11;refine t12 ?_;refine cN ?_ ?_<;>intro h15
 ·replace hE:=qaq hE h15;refine t5 ?_;refine kXF call31 (qbi c.w.heap.size (⟨_,_,_,_,_,_,(⟨_,_⟩:Pt),_,_,_⟩:O23) _) ?_;refine t5 ?_;subst hE;exact Z105
 replace hE:=qar hE h15;refine t9 ?_;refine cN ?_ ?_<;>intro h17
 ·replace hE:=qaq hE h17;refine t3 ?_;refine qao rfl (qiw (er rfl) (er rfl) om (qU8 i om hi)) ?_;refine s1 ?_;refine qao rfl (qah (k:=i / 8) (sz:=2) (er rfl) (er rfl) rfl rfl rfl hq4) ?_;refine s1 ?_;refine qao rfl (qfn (er rfl) qba rf rf (qw0 _ hq4)) ?_;refine Z1 ?_;refine t6 ?_;subst hE;exact Z105
 replace hE:=qar hE h17;refine t5 ?_;refine kRF call82 (qhb _) ?_;refine t4 ?_;intro i14;refine t11 ?_;refine cN ?_ ?_<;>intro h20
 ·replace hE:=qaq hE h20;refine t4 ?_;refine kXF call31 (qbi c.w.heap.size (⟨_,_,_,_,_,_,(⟨_,_⟩:Pt),_,_,_⟩:O23) _) ?_;refine t5 ?_;subst hE;exact Z105
 replace hE:=qar hE h20;obtain ⟨D,hD⟩:=xE (lkV ks (qdv r (i / 8)) 3 true);rw [hD] at hE ⊢;unfold rpS at hE;refine t7 ?_;intro i16;refine Z70 ?_;refine qaj 8 kr ?_;refine s1 ?_;refine qbc (qiv (er rfl) (er rfl) om (rU8 i hi)) ?_;refine qbc (qah (k:=i % 8) (sz:=2) (er rfl) (er rfl) rfl rfl rfl hm8) ?_;refine qbc (qa3 (n:=2) (er rfl) qba rf rf rf (qlh _ hm8) (qpf _ hm8)) ?_;refine t2 ?_;refine Z55 ?_;refine qbc (qh8 (er rfl) (er rfl)) ?_;refine ⟨rfl,?_⟩;refine Z20 ?_;refine cN ?_ ?_<;>intro h23
 ·replace hE:=qaq hE h23;refine t15 ?_;subst hE;exact Z105
 replace hE:=qar hE h23;refine t5 ?_;refine qao rfl (qiv (er rfl) (er rfl) om (rU8 i hi)) ?_;refine t2 ?_;refine kRF call83 (qqp _) ?_;refine qao rfl (qah (k:=i % 8) (sz:=2) (er rfl) (er rfl) rfl rfl rfl hm8) ?_;refine qjw (qdf (Rs:=tS8.cells (qqv (qb2 D.1).1 (i % 8) (atR P.page))) (er rfl) (er rfl) qas qaf (zc8 _ _ hm8) rf rf (qlh _ hm8)) ?_;refine t6 ?_;refine kRF call84 (qgi _ _) ?_;refine t4 ?_;intro i17;refine t13 ?_;refine Z2 ?_;refine t6 ?_;subst hE;exact Z105
def gwL (m:Nat):Nat->Nat->S8->S8
 | 0,_,s=>s
 | n+1,k,s=>gwL m n (k+1) (qqv s (k+m) (qpg s k))
def gwO:O23:={ oC 0 with done:=true }
def gwA (r:Rt) (m:Nat) (p D:Pg):S23:=⟨[],qck [] [(qgk D (gwL m m 0 (qb2 D).1)).1,(qdp p { r with depth:=r.depth+1 }).1],gwO,true⟩
def gwB (ks:List Pg) (p:Pg) (r:Rt) (m:Nat):S23:=
 if ((lkV ks r.p0 3 true).2.2 != 0)=true then qe9 (oC 0) (lkV ks r.p0 3 true).2.2 else
 if (!(lkV ks r.p0 3 true).2.1)=true then quz [r.p0.line] else
 if ((qb2 (lkV ks r.p0 3 true).1).2 != 0)=true then qe9 (oC 0) 14 else gwA r m p (lkV ks r.p0 3 true).1
def gwU (p:Pg) (r:Rt) (k:Nat) (s:S8) (U:List Pg×Int):S23:=
 if (U.2==18)=true then qe9 { oC 0 with fresh:=1 } U.2 else
 if (U.2 != 0)=true then qe9 (oC 0) U.2 else
 ⟨[],qck [] [(qgk (U.1.getD 0 Pg.nil) s).1,(qdp p (qt9 r k (atR (U.1.getD 0 Pg.nil)))).1],gwO,true⟩
def gwD (fr ks:List Pg) (p:Pg) (r:Rt) (m k:Nat):S23:=
 if ((lkV ks (qdv r (k-m)) 3 false).2.2 != 0)=true then qe9 (oC 0) (lkV ks (qdv r (k-m)) 3 false).2.2 else
 if (!(lkV ks (qdv r (k-m)) 3 false).2.1)=true then quz [(qdv r (k-m)).line] else
 if ((qb2 (lkV ks (qdv r (k-m)) 3 false).1).2 != 0)=true then qe9 (oC 0) 14 else gwU p r k (qb2 (lkV ks (qdv r (k-m)) 3 false).1).1 (qmc fr [3] [96])
def gwN (fr ks:List Pg) (p:Pg) (r:Rt) (m:Nat):Nat->Nat->S23
 | 0,_=>⟨[],[(qdp p { r with depth:=r.depth+1 }).1],gwO,true⟩
 | n+1,k=>if (!decide (qdv r k=Pt.nil))=true then gwN fr ks p r m n (k+1) else gwD fr ks p r m k
def gwR (fr ks:List Pg) (p:Pg) (r:Rt):S23:=
 if decide (r.first=Pt.nil)=true then qe9 (oC 0) 16 else
 if (r.depth==5)=true then qe9 (oC 0) 12 else
 if decide (r.depth<3)=true then gwB ks p r (2 ^ r.depth.toNat) else gwN fr ks p r (qfs r.depth).toNat (qfs r.depth).toNat (qfs r.depth).toNat
def gw23 (fr ks:List Pg):S23:=
 if (!qjt ks 96)=true then quz [96] else
 if qet (qb9 ks 96)=true then qe9 (oC 0) 3 else
 if ((qdu (qb9 ks 96)).2 != 0)=true then qe9 (oC 0) 14 else gwR fr ks (qb9 ks 96) (qdu (qb9 ks 96)).1
theorem zbh (fr ks:List Pg):FnF prog 33 [qad tPg fr,qad tPg ks] (fun B=>qqk B (gw23 fr ks)):=by
 have hdp:=qj0 (qb9 ks 96);obtain ⟨W,hE⟩:=xE (gw23 fr ks);rw [hE];unfold gw23 at hE;refine FnF.enter func33 ntmps33 rfl rfl ?_;intro c hX;refine t3 ?_;intro i4;refine t5 ?_;refine Z27 ?_;intro i5;refine t11 ?_;refine cN ?_ ?_<;>intro h2
 ·replace hE:=qaq hE h2;refine t2 ?_;refine Z1 ?_;refine t6 ?_;subst hE;exact Z63
 replace hE:=qar hE h2;refine t6 ?_;refine Z43 ?_;refine cN ?_ ?_<;>intro h4
 ·replace hE:=qaq hE h4;refine t3 ?_;refine kXF call31 (qbi c.w.heap.size (⟨_,_,_,_,_,_,(⟨_,_⟩:Pt),_,_,_⟩:O23) _) ?_;refine t5 ?_;subst hE;exact Z63
 replace hE:=qar hE h4;refine t5 ?_;refine kRF call86 (qke _) ?_;refine t4 ?_;intro i7;refine t6 ?_;obtain ⟨⟨r,cd⟩,hr⟩:∃ z,qdu (qb9 ks 96)=z:=⟨_,rfl⟩
 rw [hr] at hE hdp ⊢;dsimp only at hE hdp ⊢;obtain ⟨p,hp⟩:=xE (qb9 ks 96);rw [hp] at hE ⊢;obtain ⟨hd0,hd5⟩:=hdp;refine t5 ?_;refine cN ?_ ?_<;>intro h7
 ·replace hE:=qaq hE h7;refine t3 ?_;refine kXF call31 (qbi c.w.heap.size (⟨_,_,_,_,_,_,(⟨_,_⟩:Pt),_,_,_⟩:O23) _) ?_;refine t5 ?_;subst hE;exact Z63
 replace hE:=qar hE h7;unfold gwR at hE;refine t8 ?_;refine Z54 ?_;refine t2 ?_;refine cN ?_ ?_<;>intro h9
 ·replace hE:=qaq hE h9;refine t3 ?_;refine kXF call31 (qbi c.w.heap.size (⟨_,_,_,_,_,_,(⟨_,_⟩:Pt),_,_,_⟩:O23) _) ?_;refine t5 ?_;subst hE;exact Z63
 replace hE:=qar hE h9;refine t10 ?_;refine cN ?_ ?_<;>intro h11
 ·replace hE:=qaq hE h11;refine t3 ?_;refine kXF call31 (qbi c.w.heap.size (⟨_,_,_,_,_,_,(⟨_,_⟩:Pt),_,_,_⟩:O23) _) ?_;refine t5 ?_;subst hE;exact Z63
 replace hE:=qar hE h11;have hd55:r.depth≠5:=by simpa using h11
 have hd4:r.depth<=4:=om;clear h11;refine t10 ?_;refine cN ?_ ?_<;>intro h13
 ·replace hE:=qaq hE h13;have hd2:r.depth<=2:=by have:=of_decide_eq_true h13;omega
  have h24:(2:Nat) ^ r.depth.toNat<=2 ^ 2:=Nat.pow_le_pow_right om om;obtain ⟨m,hm⟩:=xE ((2:Nat) ^ r.depth.toNat);have hm4:m<=4:=om;have hsh:=shI r.depth om;rw [hm] at hsh hE;unfold gwB at hE;clear h13 h24;refine t6 ?_;refine Z59 ?_;intro i9;refine t12 ?_;refine cN ?_ ?_<;>intro h15
  ·replace hE:=qaq hE h15;refine t4 ?_;refine kXF call31 (qbi c.w.heap.size (⟨_,_,_,_,_,_,(⟨_,_⟩:Pt),_,_,_⟩:O23) _) ?_;refine t6 ?_;subst hE;exact Z63
  replace hE:=qar hE h15;refine t9 ?_;refine cN ?_ ?_<;>intro h17
  ·replace hE:=qaq hE h17;refine t6 ?_;refine Z1 ?_;refine t7 ?_;subst hE;exact Z63
  replace hE:=qar hE h17;refine t5 ?_;refine kRF call82 (qhb _) ?_;refine t4 ?_;intro i12;refine t11 ?_;refine cN ?_ ?_<;>intro h20
  ·replace hE:=qaq hE h20;refine t3 ?_;refine kXF call31 (qbi c.w.heap.size (⟨_,_,_,_,_,_,(⟨_,_⟩:Pt),_,_,_⟩:O23) _) ?_;refine t6 ?_;subst hE;exact Z63
  replace hE:=qar hE h20;obtain ⟨D,hD⟩:=xE (lkV ks r.p0 3 true);rw [hD] at hE ⊢;unfold gwA at hE;obtain ⟨S,hS⟩:=xE (gwL m m 0 (qb2 D.1).1);rw [hS] at hE;have hEo:=hE;clear hE;refine t9 ?_;refine qax [(0,_),(1,_),(4,_),(5,_),(7,_),(9,_),(12,_)] [blk i9 _ _,blk i7 _ _,blk i5 _ _,blk i4 _ _] (fun y:Nat×S8=>y.1<=m∧gwL m (m-y.1) y.1 y.2=S) (fun y=>[(14,Ii (y.1:Nat))]) (fun y=>[blk i12 168 (tS8.cells y.2)]) (fun y=>m-y.1) (0,(⟨(⟨_,_⟩:Pt),(⟨_,_⟩:Pt),(⟨_,_⟩:Pt),(⟨_,_⟩:Pt),(⟨_,_⟩:Pt),(⟨_,_⟩:Pt),(⟨_,_⟩:Pt),(⟨_,_⟩:Pt)⟩:S8)) ⟨by exact nZ _,hS⟩ qbu qab ?_;rintro ⟨k,s⟩ ⟨hk,hE⟩;dsimp only at hk hE ⊢;refine t7 ?_;refine qao rfl (qmp (er rfl) (er rfl) om hsh) ?_;refine t3 ?_;refine cN ?_ ?_<;>intro h23
  ·have hlt:k<m:=by have:=of_decide_eq_true h23;omega
   have hk8:k<8:=om;have hkm:k+m<8:=om;clear h23;rw [show m-k=(m-(k+1))+1 by omega] at hE;unfold gwL at hE;refine Z38 ?_;refine Z82 ?_;refine t4 ?_;refine qbc (qmp (er rfl) (er rfl) om hsh) ?_;refine qbc (qms (er rfl) (er rfl) (r:=((k+m:Nat):Int)) (qqq om)) ?_;refine s1 ?_;refine qbc (qah (k:=k) (sz:=2) (er rfl) (er rfl) rfl rfl rfl hk8) ?_;refine qbc (qa3 (n:=2) (er rfl) qba rf rf rf (qlh _ hk8) (qpf _ hk8)) ?_;refine qbc (qah (k:=k+m) (sz:=2) (er rfl) (er rfl) rfl rfl rfl hkm) ?_;refine ⟨rfl,?_⟩;refine zbx kr rfl (qdf (Rs:=tS8.cells (qqv s (k+m) (qpg s k))) (er rfl) (er rfl) qas qaf (zc8 _ _ hkm) rf rf (qlh _ hkm)) ?_;refine Z74 ?_;exact qaa (k+1,(⟨(⟨_,_⟩:Pt),(⟨_,_⟩:Pt),(⟨_,_⟩:Pt),(⟨_,_⟩:Pt),(⟨_,_⟩:Pt),(⟨_,_⟩:Pt),(⟨_,_⟩:Pt),(⟨_,_⟩:Pt)⟩:S8)) ⟨om,hE⟩ om qbu qab
  have hke:k=m:=by have:=of_decide_eq_false h23;omega
  clear h23;subst hke;rw [Nat.sub_self] at hE;have hE':s=S:=hE;clear hE;subst hE';have hE:=hEo;clear hEo;refine t18 ?_;refine kRF call84 (qgi _ _) ?_;refine t4 ?_;intro i15;refine t8 ?_;refine Z69 ?_;intro i17;refine t8 ?_;refine Z15 ?_;refine qao rfl (by ((refine qau call88 (qb8 _ _ ?_) ⟨qap,⟨qap,trivial⟩⟩);all_goals ((simp;done)))) ?_;refine t7 ?_;subst hE;exact Z63
 replace hE:=qar hE h13;have hd3:3<=r.depth:=by have:=of_decide_eq_false h13;omega
 obtain ⟨m,hm,hm1,hm2⟩:∃ m:Nat,qfs r.depth=(m:Int)∧1<=m∧m<=2:=by
  unfold qfs;split
  ·exact ⟨1,rfl,om,om⟩
  ·rw [if_pos om];exact ⟨2,rfl,om,om⟩
 rw [hm,show ((m:Nat):Int).toNat=m by omega] at hE;clear h13;refine t6 ?_;refine qao rfl (by ((refine qac call89 (qy5 _ ?_) ⟨qap,trivial⟩);all_goals (omega))) ?_;refine t5 ?_;refine qbl 19 (Ii (m:Nat)) rfl (SubL.eq (by rw [hm])) ?_;refine t6 ?_;refine qax [(0,_),(1,_),(4,_),(5,_),(7,_),(19,_)] [blk i7 _ _,blk i5 _ _,blk i4 _ _] (fun kb:Nat=>kb<=(m+m)∧(m<=kb)∧gwN fr ks p r m ((m+m)-kb) kb=W) (fun kb=>[(20,Ii (kb:Nat))]) (fun kb=>[]) (fun kb=>(m+m)-kb) m ⟨om,Nat.le_refl m,(by rw [show m+m-m=m by omega];exact hE)⟩ qbu qab ?_;rintro kb ⟨hkb,hIb,hE⟩;refine t5 ?_;refine qao rfl (qun (er rfl) (er rfl) (r:=((m+m:Nat):Int)) (by rw [qqq om];omega)) ?_;refine t3 ?_;refine cN ?_ ?_<;>intro h32
 ·have hlt:kb<m+m:=by have:=of_decide_eq_true h32;omega
  have hk4:kb<4:=om;have hkm:kb-m<4:=om;clear h32;rw [show m+m-kb=(m+m-(kb+1))+1 by omega] at hE;unfold gwN at hE;refine t9 ?_;refine qao rfl (qah (k:=kb) (sz:=2) (er rfl) (er rfl) rfl rfl rfl hk4) ?_;refine qao rfl (qa3 (n:=2) (er rfl) qba rf rf rf (qro _ hk4) (qy4 _ hk4)) ?_;refine s1 ?_;refine qao rfl (qh7 (er rfl) (er rfl)) ?_;refine t2 ?_;refine cN ?_ ?_<;>intro h34
  ·replace hE:=qaq hE h34;refine t9 ?_;exact qaa (kb+1) ⟨om,om,hE⟩ om qbu qab
  replace hE:=qar hE h34;unfold gwD at hE;refine t7 ?_;refine qao rfl (qlk (er rfl) (er rfl) (r:=((kb-m:Nat):Int)) (by rw [qqq om];omega)) ?_;refine s1 ?_;refine qao rfl (qah (k:=kb-m) (sz:=2) (er rfl) (er rfl) rfl rfl rfl hkm) ?_;refine qao rfl (qa3 (n:=2) (er rfl) qba rf rf rf (qro _ hkm) (qy4 _ hkm)) ?_;refine Z59 ?_;intro i21;refine t12 ?_;refine cN ?_ ?_<;>intro h36
  ·replace hE:=qaq hE h36;refine t4 ?_;refine kXF call31 (qbi c.w.heap.size (⟨_,_,_,_,_,_,(⟨_,_⟩:Pt),_,_,_⟩:O23) _) ?_;refine t10 ?_;subst hE;exact Z63
  replace hE:=qar hE h36;refine t9 ?_;refine cN ?_ ?_<;>intro h38
  ·replace hE:=qaq hE h38;refine t4 ?_;refine qao rfl (qlk (er rfl) (er rfl) (r:=((kb-m:Nat):Int)) (by rw [qqq om];omega)) ?_;refine s1 ?_;refine qao rfl (qah (k:=kb-m) (sz:=2) (er rfl) (er rfl) rfl rfl rfl hkm) ?_;refine s1 ?_;refine qao rfl (qfn (er rfl) qba rf rf (qw0 _ hkm)) ?_;refine Z1 ?_;refine t11 ?_;subst hE;exact Z63
  replace hE:=qar hE h38;refine t5 ?_;refine kRF call82 (qhb _) ?_;refine t4 ?_;intro i24;refine t11 ?_;refine cN ?_ ?_<;>intro h41
  ·replace hE:=qaq hE h41;refine t3 ?_;refine kXF call31 (qbi c.w.heap.size (⟨_,_,_,_,_,_,(⟨_,_⟩:Pt),_,_,_⟩:O23) _) ?_;refine t10 ?_;subst hE;exact Z63
  replace hE:=qar hE h41;obtain ⟨D,hD⟩:=xE (lkV ks (qdv r (kb-m)) 3 false);rw [hD] at hE ⊢;refine t5 ?_;refine Z1 ?_;refine Z1 ?_;refine qao rfl (by ((refine qac call90 (qnb _ [3] [96] ?_ ?_) ⟨qap,⟨qap,⟨qap,trivial⟩⟩⟩);all_goals (decide))) ?_;refine t9 ?_;obtain ⟨⟨ps,uc⟩,hu⟩:∃ q,qmc fr [3] [96]=q:=⟨_,rfl⟩
  have hul:=qou (fr:=fr) (kinds:=[3]) (others:=[96]);rw [hu] at hE hul ⊢;unfold gwU at hE;dsimp only at hE hul ⊢;refine t5 ?_;refine cN ?_ ?_<;>intro h44
  ·replace hE:=qaq hE h44;refine t4 ?_;refine kXF call31 (qbi c.w.heap.size (⟨_,_,_,_,_,_,(⟨_,_⟩:Pt),_,_,_⟩:O23) _) ?_;refine t10 ?_;subst hE;exact Z63
  replace hE:=qar hE h44;refine t9 ?_;refine cN ?_ ?_<;>intro h46
  ·replace hE:=qaq hE h46;refine t4 ?_;refine kXF call31 (qbi c.w.heap.size (⟨_,_,_,_,_,_,(⟨_,_⟩:Pt),_,_,_⟩:O23) _) ?_;refine t10 ?_;subst hE;exact Z63
  replace hE:=qar hE h46;obtain ⟨pa,hza⟩:=quw (hul (by simpa using h46));have ha:ps.getD 0 Pg.nil=pa:=by rw [List.getD_eq_getElem?_getD,hza];rfl
  rw [ha] at hE;refine t6 ?_;refine qao rfl (by exact qak (j:=0) (er rfl) (er rfl) rfl rfl rf hza) ?_;refine s1 ?_;refine kRF call83 (qqp _) ?_;refine s1 ?_;refine qao rfl (qah (k:=kb) (sz:=2) (er rfl) (er rfl) rfl rfl rfl hk4) ?_;refine qjw (qdf (Rs:=tRt.cells (qt9 r kb (atR pa))) (er rfl) (er rfl) qas qaf (pg_set _ _ hk4) rf rf (qro _ hk4)) ?_;refine Z32 ?_;refine qx3 ?_;refine s1 ?_;refine qbc (by exact qak (j:=0) (er rfl) (er rfl) rfl rfl rf hza) ?_;refine t2 ?_;refine qbc (qac call84 (qgi _ _) ⟨qap,⟨qap,trivial⟩⟩) ?_;refine Z41 ?_;refine ⟨rfl,?_⟩;intro i28;refine qda ?_;refine t5 ?_;refine Z69 ?_;intro i30;refine t8 ?_;refine Z15 ?_;refine qao rfl (by ((refine qau call88 (qb8 _ _ ?_) ⟨qap,⟨qap,trivial⟩⟩);all_goals ((simp;done)))) ?_;refine t11 ?_;subst hE;exact Z63
 have hke:kb=m+m:=by have:=of_decide_eq_false h32;omega
 clear h32;subst hke;rw [Nat.sub_self] at hE;unfold gwN at hE;refine t18 ?_;refine Z69 ?_;intro i32;refine t7 ?_;refine Z2 ?_;refine t6 ?_;subst hE;exact Z63
section
variable {P:Program} {c:Ctx} {A:Nat->Option VP} {L:List Item} {d:Option Tmp} {ty:TypeId} {pos:String} {af:Array Edge} {g:Option (Nat×Bool)}
theorem qmr {f:FuncId} {xs:List Operand} {ts:Array TypeId} {As:List VP} {R:Nat->VP} (hc:∀ (args:Array Value) (w:World),(callFunc f args).run P w = .ok (.enter f args) w)
  (hF:FnF P f As R) (ha:ArgsE A L xs As) (hR:LowR R:=by exact qxh fun B B' h=>(by repeat' (first|exact trivial|exact Sub.rfl' | exact qsg h|refine ⟨?_,?_⟩))):OpP P c ⟨d,.call { callee:=.value (.func f),args:=xs.toArray,argTypes:=ts },ty,pos,af,g⟩ A L (R c.w.heap.size):=
 qau hc hF ha hR
end
def nxI (kind:Int) (key:BitVec 32) (to:Pt) (fr:List Pg) (P:P23) (x:Nat×Bool):S23:=
 if (kind==1)=true then (if x.2=true then ⟨[],[],{ P.out with check:=[P.page.l],found:=x.2,to:=(qq6 P.bucket.es x.1).to },true⟩ else ⟨[],[],{ P.out with check:=[P.page.l],found:=x.2 },true⟩) else
 if (kind==3 && !x.2)=true then qe9 { P.out with check:=[P.page.l] } 16 else
 if (kind==3)=true then ⟨[],[(qgz P.page { P.bucket with es:=P.bucket.es.take x.1++P.bucket.es.drop (x.1+1) }).1],{ P.out with to:=(qq6 P.bucket.es x.1).to,done:=true },true⟩ else
 if x.2=true then qe9 { P.out with check:=[P.page.l] } 17 else qu3 P ⟨key,to⟩ fr
def nxC (kind:Int) (key:BitVec 32) (to:Pt) (fr ks:List Pg) (P:P23):S23:=
 if decide ((P.need.length:Int)>0)=true then quz P.need else
 if (P.out.code != 0)=true then qe9 P.out P.out.code else
 if P.empty=true then em23 kind key to fr ks else nxI kind key to fr P (ixE key 0 P.bucket.es)
def qx0 (kind:Int) (key:BitVec 32) (to:Pt):Bool:=
 (((decide (kind<1)||decide (kind>5))||(decide (kind<4)&&(decide (UV key<1)||decide (UV key>4294967294))))||(kind==2 && !qbt to))
def nx23 (kind:Int) (key:BitVec 32) (to:Pt) (fr ks:List Pg):S23:=
 if qx0 kind key to=true then qe9 (oC 0) 1 else
 if (kind==4)=true then rp23 key ks else
 if (kind==5)=true then gw23 fr ks else nxC kind key to fr ks (qq3 (qbk key) ks)
theorem qsb {α:Type} {P:α->Prop} {h:BitVec 32} {ks:List Pg} {N:Int->α} {B:Int->α} {O:Pg->Nat->α} {X:α} (hN:∀ l,P (N l)) (hB:∀ c,c≠0->P (B c))
  (hO:∀ a k,(lkV ks a 2 false).2.2=0->(lkV ks a 2 false).2.1=true->(qdq (lkV ks a 2 false).1).2=0->UV (qfk h (qdq (lkV ks a 2 false).1).1.depth)=UV (qdq (lkV ks a 2 false).1).1.pat->P (O (lkV ks a 2 false).1 k)) (hX:P X) :
  ∀ (m k:Nat) (a:Pt),P (wkC h ks N B O X m k a)
 | 0,_,_=>hX
 | m+1,k,a=>by
  unfold wkC;split
  ·exact hN _
  ·rename_i h1;split
   ·rename_i h2;refine hB _ ?_;split
    ·decide
    ·simpa using h2
   ·rename_i h2;split
    ·exact hB _ de
    ·rename_i h3;have h2':(lkV ks a 2 false).2.2=0:=by simpa using h2
     split
     ·rename_i h4;refine hO _ _ h2' ?_ (by simpa using h3) (by simpa using h4);rw [h2'] at h1;revert h1;cases (lkV ks a 2 false).2.1 <;> simp
     ·split
      ·exact hB _ de
      ·exact qsb hN hB hO hX m _ _
theorem qy1 {q:Pg} (h:(qdq q).2=0):okBk (qdq q).1:=qud (by rw [h];rfl)
theorem qht:okBk Bk.nil:=⟨de,de⟩
theorem zch (h:BitVec 32) (r:Rt) (ks:List Pg) (m k:Nat) (a:Pt):okBk (qrf h r ks m k a).bucket:=
 qsb (P:=fun p:P23=>okBk p.bucket) (fun _=>qht) (fun _ _=>qht) (fun _ _ _ _ h _=>qy1 h) qht m k a
theorem lc23_ok (h:BitVec 32) (ks:List Pg):okBk (qq3 h ks).bucket:=by
 unfold qq3 lcZ;split
 ·exact qht
 ·split
  ·exact qht
  ·unfold lcA;split
   ·exact qht
   ·show okBk (lcW _ _ _ _).bucket;unfold lcW;split
    ·exact zch _ _ _ _ _ _
    ·exact zch _ _ _ _ _ _
theorem zbv (kind:Int) (key:BitVec 32) (to:Pt) (fr ks:List Pg):FnF prog 11 [Ii kind,Is (.int .u32 (UV key)),qh6 to,qad tPg fr,qad tPg ks] (fun B=>qqk B (nx23 kind key to fr ks)):=by
 obtain ⟨W,hE⟩:=xE (nx23 kind key to fr ks);rw [hE];unfold nx23 at hE;refine FnF.enter func11 ntmps11 rfl rfl ?_;intro c hX;refine t3 ?_;intro i7;refine s1 ?_;intro i10;refine t28 ?_;(refine zgs rfl rfl rfl (fun hp hg=>(by have hpg:=Bool.and_eq_true_iff.2 ⟨hp,hg⟩;have hg0:=hg;(try simp at hg);exact qac call30 (qb5 _) ⟨qap,trivial⟩)) ?_);refine t5 ?_;refine cN ?_ ?_<;>intro h1
 ·replace hE:=qaq hE h1;refine t3 ?_;refine kXF call31 (qbi c.w.heap.size (⟨_,_,_,_,_,_,(⟨_,_⟩:Pt),_,_,_⟩:O23) _) ?_;refine t5 ?_;subst hE;exact Z89
 replace hE:=qar hE h1;refine t15 ?_;refine cN ?_ ?_<;>intro h4
 ·replace hE:=qaq hE h4;refine t4 ?_;refine qao rfl (qmr call32 (quc _ _) ⟨qap,⟨qap,trivial⟩⟩) ?_;refine t6 ?_;subst hE;exact Z89
 replace hE:=qar hE h4;refine t6 ?_;refine cN ?_ ?_<;>intro h6
 ·replace hE:=qaq hE h6;refine t4 ?_;refine qao rfl (qmr call33 (zbh _ _) ⟨qap,⟨qap,trivial⟩⟩) ?_;refine t6 ?_;subst hE;exact Z89
 replace hE:=qar hE h6;refine t6 ?_;refine kRF call35 (qo3 _) ?_;refine s1 ?_;refine kRF call34 (qkg _ _) ?_;refine s1 ?_;intro i11;refine t5 ?_;obtain ⟨P,hP⟩:=xE (qq3 (qbk key) ks);have hpb:=lc23_ok (qbk key) ks;rw [hP] at hE hpb ⊢;have hbl:=hpb.2;unfold nxC at hE;refine t7 ?_;refine cN ?_ ?_<;>intro h9
 ·replace hE:=qaq hE h9;refine t10 ?_;subst hE;exact Z89
 replace hE:=qar hE h9;refine t7 ?_;intro i12;refine t11 ?_;refine cN ?_ ?_<;>intro h12
 ·replace hE:=qaq hE h12;refine t5 ?_;refine kXF call31 (qbi c.w.heap.size (⟨_,_,_,_,_,_,(⟨_,_⟩:Pt),_,_,_⟩:O23) _) ?_;refine t5 ?_;subst hE;exact Z89
 replace hE:=qar hE h12;refine t9 ?_;refine cN ?_ ?_<;>intro h14
 ·replace hE:=qaq hE h14;refine t7 ?_;refine qao rfl (qmr call36 (qxt _ _ (⟨_,_⟩:Pt) _ _) ⟨qbg,⟨qbg,⟨qbg,⟨qbg,⟨qbg,trivial⟩⟩⟩⟩⟩) ?_;refine t5 ?_;subst hE;exact Z89
 replace hE:=qar hE h14;refine t8 ?_;refine qao rfl (by ((refine qac call37 (qpy _ _ ?_) ⟨qap,⟨qap,trivial⟩⟩);all_goals (omega))) ?_;refine t8 ?_;have hi1:=(qoe key P.bucket.es 0).1;have hi2:=(qoe key P.bucket.es 0).2;obtain ⟨⟨ix,fo⟩,hx⟩:∃ q,ixE key 0 P.bucket.es=q:=⟨_,rfl⟩
 rw [hx] at hE hi1 hi2 ⊢;dsimp only at hE hi1 hi2 ⊢;rw [Nat.zero_add] at hi1 hi2;unfold nxI at hE;dsimp only at hE;refine t4 ?_;refine Z1 ?_;refine t12 ?_;refine cN ?_ ?_<;>intro h18
 ·replace hE:=qaq hE h18;refine t20 ?_;refine cN ?_ ?_<;>intro h21
  ·have hz:=qg9 (hi2 h21);replace hE:=qaq hE h21;refine t22 ?_;subst hE;exact Z89
  replace hE:=qar hE h21;refine t12 ?_;subst hE;exact Z89
 replace hE:=qar hE h18;refine t11 ?_;refine cN ?_ ?_<;>intro h24
 ·replace hE:=qaq hE h24;refine t10 ?_;refine kXF call31 (qbi c.w.heap.size (⟨_,_,_,_,_,_,(⟨_,_⟩:Pt),_,_,_⟩:O23) _) ?_;refine t6 ?_;subst hE;exact Z89
 replace hE:=qar hE h24;refine t7 ?_;refine cN ?_ ?_<;>intro h27
 ·replace hE:=qaq hE h27;have hfo:fo=true:=by
   cases fo with
   | true=>rfl
   | false=>rw [h27] at h24;cases h24
  have hlt:=hi2 hfo;have hz:=qg9 hlt;refine t5 ?_;intro i16;refine t22 ?_;refine Z5 ?_;refine Z92 ?_;refine qbc (qe6 (er rfl) rfl rfl ⟨_,_,(er rfl),(show _=((ix+1:Nat):Int) by rfl)⟩ rfl om om) ?_;refine Z10 ?_;refine s1 ?_;refine ⟨rfl,?_⟩;intro i152;refine Z3 ?_;refine t2 ?_;rw [show List.take P.bucket.es.length P.bucket.es=P.bucket.es from List.take_length];refine qa7 hX (v:=slV _ i152) qaf ?_;refine t4 ?_;refine kXF call38 (qe3 _ (⟨_,_,(⟨_,_⟩:Pt),_⟩:Bk)) ?_;refine t4 ?_;intro i17;refine t7 ?_;refine Z2 ?_;refine t8 ?_;subst hE;exact Z89
 replace hE:=qar hE h27;refine t6 ?_;refine cN ?_ ?_<;>intro h34
 ·replace hE:=qaq hE h34;refine t10 ?_;refine kXF call31 (qbi c.w.heap.size (⟨_,_,_,_,_,_,(⟨_,_⟩:Pt),_,_,_⟩:O23) _) ?_;refine t6 ?_;subst hE;exact Z89
 replace hE:=qar hE h34;refine t10 ?_;refine qao rfl (qmr call39 (qu7 P (⟨_,(⟨_,_⟩:Pt)⟩:En) _ hpb) ⟨qbg,⟨qbg,⟨qbg,trivial⟩⟩⟩) ?_;refine t4 ?_;subst hE;exact Z89
theorem qgm {o:O23} {c:Int} (h:o.check.length<=1):qx8 (qe9 o c):=⟨wl0,nZ _,h⟩
theorem qwz {l:List Int} (h:l.length<=1):qx8 (quz l):=⟨wl0,h,nZ _⟩
theorem qoo {ws:List Pg} {o:O23} (h:WL 3 ws) (ho:o.check.length<=1):qx8 ⟨[],ws,o,true⟩:=⟨h,nZ _,ho⟩
theorem zeu {p:Pg} {b:Bk} (h:Ln p):Ln (qgz p b).1:=by
 unfold qgz;split
 ·exact ln0
 ·exact h
theorem ln_wS {p:Pg} {s:S8} (h:Ln p):Ln (qgk p s).1:=by
 unfold qgk;split
 ·exact ln0
 ·exact h
theorem ln_wR {p:Pg} {r:Rt} (h:Ln p):Ln (qdp p r).1:=by
 unfold qdp;split
 ·exact ln0
 ·exact h
theorem usV_ln (fr:List Pg):∀ (l:List Int) (k:Nat) (ls:List Int) (out:List Pg),(∀ p,p∈out->Ln p)->∀ p,p∈(usV fr l k ls out).1->Ln p
 | [],_,_,out,h=>h
 | z::r,k,ls,out,h=>by
  unfold usV;split
  ·exact fun p hp=>absurd hp List.not_mem_nil
  ·exact usV_ln fr r _ _ _ (qzp h (zev _ _ _))
theorem qpa {fr:List Pg} {kinds others:List Int}:∀ p,p∈(qmc fr kinds others).1->Ln p:=by
 unfold qmc;split
 ·exact fun p hp=>absurd hp List.not_mem_nil
 ·exact usV_ln fr _ _ _ _ lns0
theorem qsx {l:List Pg} (h:∀ p,p∈l->Ln p) (k:Nat):Ln (l.getD k Pg.nil):=by
 rw [List.getD_eq_getElem?_getD];cases hk:l[k]? with
 | none=>exact ln0
 | some q=>exact h q (List.mem_of_getElem? hk)
theorem zdd (ks:List Pg):(qmj ks).2.2.1.length<=1:=by
 unfold qmj;split
 ·exact Nat.le_refl 1
 ·split
  ·exact nZ _
  ·exact nZ _
theorem pl_n (l:Int):PL23 (pN l):=⟨Nat.le_refl 1,qht,nZ _,ln0⟩
theorem pl_c (c:Int):PL23 (pC c):=⟨nZ _,qht,nZ _,ln0⟩
theorem zcg (h:BitVec 32) (r:Rt) (ks:List Pg) (m k:Nat) (a:Pt):PL23 (qrf h r ks m k a):=
 qsb (P:=PL23) pl_n (fun c _=>pl_c c) (fun a k _ _ h _=>⟨nZ _,qy1 h,nZ _,qhu _ _ _ _⟩) ⟨nZ _,qht,nZ _,ln0⟩ m k a
theorem qxi (h:BitVec 32) (ks:List Pg):PL23 (qq3 h ks):=by
 unfold qq3 lcZ;split
 ·exact ⟨zdd ks,qht,nZ _,ln0⟩
 ·split
  ·exact ⟨nZ _,qht,nZ _,ln0⟩
  ·unfold lcA;split
   ·exact pl_n _
   ·have:PL23 (lcW h (qmj ks).2.1 ks (stR (qmj ks).2.1 (iH h (qmj ks).2.1.depth) (lkV ks (qdv (qmj ks).2.1 (iH h (qmj ks).2.1.depth / 8)) 3 false))):=by
     unfold lcW;split
     ·exact zcg _ _ _ _ _ _
     ·exact zcg _ _ _ _ _ _
    exact this
theorem ln_96 (ks:List Pg):Ln (qb9 ks 96):=qfb ks ⟨de,de⟩
theorem ps_em (kind:Int) (key:BitVec 32) (to:Pt) (fr ks:List Pg):qx8 (em23 kind key to fr ks):=by
 unfold em23;split
 ·exact qgm (nZ _)
 ·split
  ·exact qoo wl0 (Nat.le_refl 1)
  ·split
   ·exact qgm (Nat.le_refl 1)
   ·split
    ·exact qgm (nZ _)
    ·split
     ·exact qgm (nZ _)
     ·exact qoo (qgw (n:=0) wl0 (wl3 (n:=0) (zeu (qsx qpa _)) (ln_wS (qsx qpa _)) (ln_wR (ln_96 ks))) de) (nZ _)
theorem ps_rp (h:BitVec 32) (ks:List Pg):qx8 (rp23 h ks):=by
 unfold rp23 rpZ;split
 ·exact qwz (zdd ks)
 ·split
  ·exact qgm (nZ _)
  ·split
   ·exact qgm (nZ _)
   ·have hp:=qxi (qfk h (qmj ks).2.1.depth) ks;generalize qq3 (qfk h (qmj ks).2.1.depth) ks=P at hp ⊢;obtain ⟨h1,h2,h3,h4⟩:=hp;unfold rpC;split
    ·exact qwz h1
    ·split
     ·exact qgm h3
     ·split
      ·exact qgm h3
      ·split
       ·exact qwz (Nat.le_refl 1)
       ·split
        ·exact qgm h3
        ·unfold rpS;split
         ·exact qoo wl0 h3
         ·exact qoo ((wl1 (n:=0) (ln_wS (qhu _ _ _ _))).mono de) h3
theorem ps_gwD (fr ks:List Pg) (p:Pg) (r:Rt) (m k:Nat) (hp:Ln p):qx8 (gwD fr ks p r m k):=by
 unfold gwD;split
 ·exact qgm (nZ _)
 ·split
  ·exact qwz (Nat.le_refl 1)
  ·split
   ·exact qgm (nZ _)
   ·unfold gwU;split
    ·exact qgm (nZ _)
    ·split
     ·exact qgm (nZ _)
     ·exact qoo (qgw (n:=0) wl0 (wl2 (n:=0) (ln_wS (qsx qpa _)) (ln_wR hp)) de) (nZ _)
theorem ps_gwN (fr ks:List Pg) (p:Pg) (r:Rt) (m:Nat) (hp:Ln p):∀ n k,qx8 (gwN fr ks p r m n k)
 | 0,_=>qoo ((wl1 (n:=0) (ln_wR hp)).mono de) (nZ _)
 | n+1,k=>by
  unfold gwN;split
  ·exact ps_gwN fr ks p r m hp n _
  ·exact ps_gwD _ _ _ _ _ _ hp
theorem ps_gw (fr ks:List Pg):qx8 (gw23 fr ks):=by
 have hp:=ln_96 ks;unfold gw23;split
 ·exact qwz (Nat.le_refl 1)
 ·split
  ·exact qgm (nZ _)
  ·split
   ·exact qgm (nZ _)
   ·unfold gwR;split
    ·exact qgm (nZ _)
    ·split
     ·exact qgm (nZ _)
     ·split
      ·unfold gwB;split
       ·exact qgm (nZ _)
       ·split
        ·exact qwz (Nat.le_refl 1)
        ·split
         ·exact qgm (nZ _)
         ·exact qoo (qgw (n:=0) wl0 (wl2 (n:=0) (ln_wS (qhu _ _ _ _)) (ln_wR hp)) de) (nZ _)
      ·exact ps_gwN _ _ _ _ _ hp _ _
theorem ps_isp {P:P23} {e:En} {fr:List Pg} (hp:PL23 P):qx8 (qu3 P e fr):=by
 obtain ⟨h1,h2,h3,h4⟩:=hp;unfold qu3;split
 ·exact qoo ((wl1 (n:=0) (zeu h4)).mono de) h3
 ·split
  ·exact qgm h3
  ·unfold ispU;split
   ·exact qgm h3
   ·split
    ·exact qgm h3
    ·exact qoo (qgw (n:=0) wl0 (wl2 (n:=0) (zeu h4) (zeu (qsx qpa _))) de) h3
theorem ps_nx (kind:Int) (key:BitVec 32) (to:Pt) (fr ks:List Pg):qx8 (nx23 kind key to fr ks):=by
 unfold nx23;split
 ·exact qgm (nZ _)
 ·split
  ·exact ps_rp _ _
  ·split
   ·exact ps_gw _ _
   ·have hp:=qxi (qbk key) ks;generalize qq3 (qbk key) ks=P at hp ⊢;have hp':=hp;obtain ⟨h1,h2,h3,h4⟩:=hp;unfold nxC;split
    ·exact qwz h1
    ·split
     ·exact qgm h3
     ·split
      ·exact ps_em _ _ _ _ _
      ·unfold nxI;split
       ·split
        ·exact qoo wl0 (Nat.le_refl 1)
        ·exact qoo wl0 (Nat.le_refl 1)
       ·split
        ·exact qgm (Nat.le_refl 1)
        ·split
         ·exact qoo ((wl1 (n:=0) (zeu h4)).mono de) h3
         ·split
          ·exact qgm (Nat.le_refl 1)
          ·exact ps_isp hp'
theorem FnP.sub23 {P:Program} {f:FuncId} {As:List VP} {R R':VP} (h:FnP P f As R) (hs:Sub R R'):FnP P f As R':=fun φ w vs ha hm =>
 (h φ w vs ha hm).mono fun e w' ⟨i,v,φ',h1,h2,h3⟩=>⟨i,v,φ',h1,hs _ _ h2,h3⟩
theorem qv4 (p:Pg):FnP prog 86 [qcv p] (qfc (fun r:Rt×Int=>0<=r.1.depth∧r.1.depth<=5) fun r=>qbs [qwl r.1,Ii r.2]):=
 (qke p).sub23 fun φ v k=>⟨qdu p,qj0 p,k⟩
theorem qya (h:BitVec 32) (ks:List Pg):FnP prog 34 [Is (.int .u32 (UV h)),qad tPg ks] (qfc PL23 fun r=>IsP23 r):=
 (qkg h ks).sub23 fun φ v k=>⟨_,qxi h ks,k⟩
theorem zgg (fr:List Pg) (kinds others:List Int) (hk:kinds.length<=10) (ho:others.length<=10):FnP prog 90 [qad tPg fr,qad qaw kinds,qad qaw others] (qfc (fun r:List Pg×Int=>r.2=0->r.1.length=kinds.length∧∀ p,p∈r.1->Ln p) fun r=>qbs [qad tPg r.1,Ii r.2]):=
 (qnb fr kinds others hk ho).sub23 fun φ v k=>⟨qmc fr kinds others,fun h=>⟨qou h,qpa⟩,k⟩
theorem qnf (kind:Int) (key:BitVec 32) (to:Pt) (fr ks:List Pg):FnF prog 11 [Ii kind,Is (.int .u32 (UV key)),qh6 to,qad tPg fr,qad tPg ks] (fun B=>qfc qx8 fun r=>qqk B r):=
 (zbv kind key to fr ks).sub fun B φ v k=>⟨_,ps_nx kind key to fr ks,k⟩
theorem Z48 {A B:Prop} (h:A) (f:Bx A→B:=by intro z;refine qao rfl (qau call11 (qnf _ _ (⟨_,_⟩:Pt) _ _) ⟨qbg,⟨qbg,⟨qbg,⟨qbg,⟨qbg,trivial⟩⟩⟩⟩⟩) ?_;exact z.out):B:=f ⟨h⟩
end Go.Proofs.YteafmggidjjdgaaGreatDoor
