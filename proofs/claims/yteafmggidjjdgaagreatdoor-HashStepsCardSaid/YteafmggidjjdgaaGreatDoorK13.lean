/- Walks of functions and plain laws, laid together. Own work. -/
import Derived.Test.YteafmggidjjdgaaGreatDoorK7
namespace Go.Proofs.YteafmggidjjdgaaGreatDoor
open Go.RowKit Tryz
set_option linter.unusedVariables false
set_option linter.unusedSimpArgs false
set_option maxRecDepth 100000
set_option maxHeartbeats 4000000
def ask2 (o fr:Int):List Int:=if decide (fr>=0)=true then [98+o,98+fr] else [98+o]
def ndA (n:Nd) (s inc:Int):Nd:=⟨n.pin,n.ep,n.sg|||BitVec.ofInt 32 1<<<s.toNat,inc,n.r0,n.r1,n.r2,n.r3⟩
def hdA (p:Pg) (o:Int):Pg:={ p with d0:=BitVec.ofInt 64 (o+1) }
def acW (ks:List Pg) (o inc s:Int) (nd:Pg×Nd×Int) (wr:List Pg):S19:={ S19.nil with s:=s,over:=true,writes:=qck wr [(qfa nd.1 (ndA nd.2.1 s inc)).1,hdA (qb9 ks (qbh s)) o] }
def lowB (bm:BitVec 32):Nat->Int->Int
 | 0,s=>s
 | k+1,s=>if bitB bm k=true then lowB bm k (k:Int) else lowB bm k s
def qzy:Nat->List Int
 | 0=>[]
 | k+1=>qzy k++[qbh (k:Int)]
def kF (o:Int) (n i:Nat):Int:=(o+(i:Int)).tmod (n:Int)
def frB (ks:List Pg) (k:Int):Bool:=(!qet (qb9 ks (qbh k))&&(qii (qb9 ks (qbh k))).2==0)&&(qii (qb9 ks (qbh k))).1.owner == -1
def frL (ks:List Pg) (o:Int) (n:Nat):Nat->Nat->Int->Int
 | 0,_,s=>s
 | m+1,i,s=>if decide (s<0)=true then (if frB ks (kF o n i)=true then frL ks o n m (i+1) (kF o n i) else frL ks o n m (i+1) s) else s
def acT (ks:List Pg) (o inc fr:Int) (nd ot:Pg×Nd×Int) (s:Int):S19:=
 if decide (s<0)=true then qh4 16 else
 if decide (((qe8 ks [qbh s]).length:Int)>0)=true then qst (qe8 ks [qbh s]) else
 if qet (qb9 ks (qbh s))=true then qh4 3 else
 if ((qii (qb9 ks (qbh s))).2 != 0)=true then qh4 14 else
 if ((qii (qb9 ks (qbh s))).1.owner != fr)=true then qh4 11 else
 acW ks o inc s nd [clrU ot.1 s]
def acU (ks:List Pg) (o inc:Int) (nd:Pg×Nd×Int) (s:Int):S19:=if decide (s<0)=true then qh4 12 else acW ks o inc s nd []
def acR (ks:List Pg) (o inc lines fr:Int):S19:=
 if (((((!clB o lines||decide (inc<1))||decide (inc>59))||decide (fr < -1))||decide (fr>=6))||fr==o)=true then qh4 1 else
 if decide (((qe8 ks (ask2 o fr)).length:Int)>0)=true then qst (qe8 ks (ask2 o fr)) else
 if ((qij ks o).2.2 != 0)=true then qh4 (qij ks o).2.2 else
 if decide (fr>=0)=true then
  if ((qij ks fr).2.2 != 0)=true then qh4 (qij ks fr).2.2 else
  acT ks o inc fr (qij ks o) (qij ks fr) (lowB (qij ks fr).2.1.sg (qb1 lines) (-1))
 else
  if decide (((qe8 ks (qzy (qb1 lines))).length:Int)>0)=true then qst (qe8 ks (qzy (qb1 lines))) else
  acU ks o inc (qij ks o) (frL ks o (qb1 lines) (qb1 lines) 0 (-1))
theorem qs3:∀ k,(qzy k).length=k
 | 0=>rfl
 | k+1=>by unfold qzy;rw [List.length_append,qs3 k];rfl
theorem ask2_len (o fr:Int):(ask2 o fr).length<=1000000:=by unfold ask2;split <;> simp
theorem qed (B:Nat) (e:Int):FnP prog 103 [Ii e] (IsS19F B { S19.nil with code:=e,over:=true }):=by
 refine FnP.enter func103 ntmps103 rfl rfl ?_;intro c hX;refine t3 ?_;intro i2;refine t10 ?_;exact rA (Bs:=[_]) results103 eRF
theorem qyi (ks:List Pg) (o inc lines fr:Int) (hks:ks.length<=10000):FnF prog 48 [Ii o,Ii inc,Ii lines,Ii fr,qad tPg ks] (fun B=>IsS19F B (acR ks o inc lines fr)):=by
 obtain ⟨W,hE⟩:=xE (acR ks o inc lines fr);rw [hE];unfold acR at hE;refine FnF.enter func48 ntmps48 rfl rfl ?_;intro c hX;refine t3 ?_;intro i10;refine t7 ?_;refine kRF call102 (qgg _ _) ?_;refine t24 ?_;refine cN ?_ ?_<;>intro h1
 ·replace hE:=qaq hE h1;refine t2 ?_;refine kRF call103 (qed c.w.heap.size _) ?_;refine t5 ?_;subst hE;exact Z76
 rw [ifF h1] at hE;have hcl:(0<=o∧o<6)∧(104<=lines∧lines<=256)∧(1<=inc∧inc<=59) ∧ -1<=fr∧fr<6:=by unfold clB at h1;simp at h1;omega
 obtain ⟨ho,hli,hinc,hfr⟩:=hcl;have hal:=ask2_len o fr;have hcn:=qp4 lines;clear h1;refine t6 ?_;refine qao rfl (qa1 (size:=1) (qs:=[(0,_)]) rfl rfl rfl ⟨⟨rfl,_,(er rfl),qas⟩,trivial⟩ rf rf) ?_;refine t10 ?_;refine qbw [(0,_),(1,_),(2,_),(3,_),(4,_),(10,_)] [blk i10 _ _] (fun z:Unit=>True) (fun z=>[(11,qad qaw (ask2 o fr))]) (fun z=>[]) qbu qab ?_ ?_
 rotate_left
 focus
  refine cN ?_ ?_<;>intro h4
  ·have e:ask2 o fr=[98+o,98+fr]:=by unfold ask2;rw [ifT h4]
   refine t4 ?_;refine Z1 ?_;refine qao rfl (quv (T:=qaw) ([98+o]) (er rfl) zc3 rfl rfl (by exact er rfl) (by exact qfz rfl rfl rfl) qcn) ?_;refine t2 ?_;exact qal () trivial (by rw [e];exact qbu) qab
  have e:ask2 o fr=[98+o]:=by unfold ask2;rw [ifF h4]
  refine s1 ?_;exact qal () trivial (by rw [e];exact qbu) qab
 rintro ⟨⟩ _;refine t4 ?_;refine qao rfl (by ((refine qac call104 (qhl _ _ ?_) ⟨qap,⟨qap,trivial⟩⟩);all_goals (first|first|assumption|(simp;done)))) ?_;refine t11 ?_;refine cN ?_ ?_<;>intro h7
 ·replace hE:=qaq hE h7;refine t9 ?_;subst hE;exact Z76
 replace hE:=qar hE h7;refine t6 ?_;refine qao rfl (by ((refine qac call105 (qnn _ _ ?_) ⟨qap,⟨qap,trivial⟩⟩);all_goals (assumption))) ?_;refine t5 ?_;intro i13;refine s1 ?_;intro i14;refine t7 ?_;generalize qij ks o=nd at hE ⊢;refine t5 ?_;refine cN ?_ ?_<;>intro h10
 ·replace hE:=qaq hE h10;refine t3 ?_;refine kRF call103 (qed c.w.heap.size _) ?_;refine t5 ?_;subst hE;exact Z76
 replace hE:=qar hE h10;refine t5 ?_;refine kRF call106 (qr9 _) ?_;refine t20 ?_;refine cN ?_ ?_<;>intro h15
 ·rw [ifT h15] at hE;have hfr6:0<=fr∧fr<6:=⟨of_decide_eq_true h15,hfr.2⟩
  clear h15;refine t4 ?_;refine qao rfl (by ((refine qac call105 (qnn _ _ ?_) ⟨qap,⟨qap,trivial⟩⟩);all_goals (assumption))) ?_;refine t5 ?_;intro i19;refine s1 ?_;intro i20;refine t7 ?_;generalize qij ks fr=ot at hE ⊢;refine t5 ?_;refine cN ?_ ?_<;>intro h17
  ·replace hE:=qaq hE h17;refine t3 ?_;refine kRF call103 (qed c.w.heap.size _) ?_;refine t6 ?_;subst hE;exact Z76
  replace hE:=qar hE h17;refine t11 ?_;refine qax [(0,_),(1,_),(3,_),(4,_),(10,_),(12,_),(13,_),(14,_),(18,_),(19,_),(20,_)] [blk i20 _ _,blk i19 _ _,blk i14 _ _,blk i13 _ _,blk i10 _ _] (fun y:Nat×Int=>y.1<=qb1 lines∧(-1<=y.2∧y.2<=8)∧acT ks o inc fr nd ot (lowB ot.2.1.sg y.1 y.2)=W) (fun y=>[(17,Ii y.2),(22,Ii (((y.1:Nat):Int)-1))]) (fun y=>[]) (fun y=>y.1) (qb1 lines,-1) ⟨om,⟨om,om⟩,hE⟩ qbu qab ?_;clear hE;rintro ⟨k,s⟩ ⟨hk,hI,hE⟩;dsimp only at hk hI hE ⊢;refine t7 ?_;refine cN ?_ ?_<;>intro h20
  ·obtain ⟨kd,rfl⟩:∃ q,k=q+1:=⟨k-1,by have:=of_decide_eq_true h20;omega⟩
   clear h20;refine qbl 22 (Ii (kd:Nat)) rfl (SubL.eq (by rw [show (((kd+1:Nat):Int)-1)=((kd:Nat):Int) by omega])) ?_;rw [lowB] at hE;have hkd:-1<=(kd:Int)∧(kd:Int)<=8:=⟨om,om⟩
   refine t15 ?_;refine cN ?_ ?_<;>intro h22
   ·rw [ifT (show bitB ot.2.1.sg kd=true from h22)] at hE;refine t11 ?_;exact qaa (kd,_) ⟨om,by exact hkd,hE⟩ om qbu qab
   rw [ifF (show bitB ot.2.1.sg kd=false from h22)] at hE;refine t8 ?_;exact qaa (kd,_) ⟨om,by exact ⟨om,om⟩,hE⟩ om qbu qab
  have hke:k=0:=by have:=of_decide_eq_false h20;omega
  clear h20;subst hke;rw [lowB] at hE;unfold acT at hE;refine t12 ?_;refine cN ?_ ?_<;>intro h24
  ·replace hE:=qaq hE h24;refine t2 ?_;refine kRF call103 (qed c.w.heap.size _) ?_;refine t6 ?_;subst hE;exact Z76
  replace hE:=qar hE h24;refine t6 ?_;refine kRF call107 (qbz _) ?_;refine Z1 ?_;refine qao rfl (by ((refine qac call104 (qhl _ [qbh s] ?_) ⟨qap,⟨qap,trivial⟩⟩);all_goals (simp))) ?_;refine t11 ?_;refine cN ?_ ?_<;>intro h27
  ·replace hE:=qaq hE h27;refine t10 ?_;subst hE;exact Z76
  replace hE:=qar hE h27;refine t6 ?_;refine kRF call107 (qbz _) ?_;refine Z27 ?_;intro i23;refine t6 ?_;generalize hq29:qb9 ks (qbh s)=q at hE ⊢;refine t2 ?_;refine Z43 ?_;refine cN ?_ ?_<;>intro h30
  ·replace hE:=qaq hE h30;refine t2 ?_;refine kRF call103 (qed c.w.heap.size _) ?_;refine t6 ?_;subst hE;exact Z76
  replace hE:=qar hE h30;refine t5 ?_;refine kRF call108 (qgj _) ?_;refine t4 ?_;intro i25;refine t6 ?_;generalize qii q=hh at hE ⊢;refine t5 ?_;refine cN ?_ ?_<;>intro h33
  ·replace hE:=qaq hE h33;refine t2 ?_;refine kRF call103 (qed c.w.heap.size _) ?_;refine t6 ?_;subst hE;exact Z76
  replace hE:=qar hE h33;refine t11 ?_;refine cN ?_ ?_<;>intro h35
  ·replace hE:=qaq hE h35;refine t2 ?_;refine kRF call103 (qed c.w.heap.size _) ?_;refine t6 ?_;subst hE;exact Z76
  rw [ifF h35] at hE;unfold acW at hE;rw [hq29] at hE;have hs0:0<=s∧s<=8:=by have:=of_decide_eq_false h24;omega
  refine t9 ?_;refine qao rfl (by exact qeg (k:=s.toNat) qhh (er rfl) om qdh) ?_;refine t9 ?_;refine Z86 ?_;(refine JL_n rfl (zed (T:=tPg) (er rfl) (by exact Ev.sub rfl (by exact SubL.row (xs:=[clrU ot.1 s]) rf rf qyt)) (by exact qfz rfl rfl rfl) qcn) ?_;intro i171);refine t4 ?_;refine qa7 hX (v:=slV [clrU ot.1 s].length i171) qaf ?_;refine qbl 18 (qad tPg [clrU ot.1 s]) rfl qf1 ?_;refine t5 ?_;refine qao rfl (by exact qev (k:=s.toNat) qn0 (er rfl) om qdh) ?_;refine t16 ?_;refine kRF call109 (qdk nd.1 (ndA nd.2.1 s inc)) ?_;refine t4 ?_;intro i35;refine t5 ?_;generalize qfa nd.1 (ndA nd.2.1 s inc)=wn at hE ⊢;refine t3 ?_;refine kRF call107 (qbz _) ?_;refine Z27 ?_;intro i37;refine t5 ?_;rw [hq29];refine Z75 ?_;refine qao rfl (by ((refine qau call88 (qb8 _ [wn.1,hdA q o] ?_) ⟨qap,⟨qap,trivial⟩⟩);all_goals (simp))) ?_;refine t5 ?_;subst hE;exact Z76
 rw [ifF h15] at hE;have hfrn:fr = -1:=by have:=of_decide_eq_false h15;omega
 clear h15;refine t12 ?_;refine qdo 3 qaw ?_;refine qax [(0,_),(1,_),(4,_),(10,_),(12,_),(13,_),(14,_),(16,_),(17,_),(18,_)] [blk i14 _ _,blk i13 _ _,blk i10 _ _] (fun y:Nat×(Option Addr×Nat)=>y.1<=qb1 lines) (fun y=>[(27,Is (slV (qzy y.1).length y.2)),(28,Ii (y.1:Nat))]) (fun y=>[buf (slV (qzy y.1).length y.2) 3 qaw (qzy y.1)]) (fun y=>qb1 lines-y.1) (0,(none,0)) (nZ _) qbu qab ?_;rintro ⟨k,v_0⟩ hk;dsimp only at hk ⊢;refine t8 ?_;refine cN ?_ ?_<;>intro h41
 ·have hlt:k<qb1 lines:=by have:=of_decide_eq_true h41;omega
  clear h41;have hmt:qzy (k+1)=qzy k++[qbh (k:Int)]:=rfl;have hhl:=qs3 k;refine t7 ?_;refine kRF call107 (qbz _) ?_;refine Z1 ?_;(refine qc6 rfl (qca (er rfl) (fun _=>qaf) (by exact er rfl) (by exact qfz rfl rfl rfl) qcn) ?_;intro i181);refine t9 ?_;rw [<- hmt];exact qaa (k+1,i181) om om qbu qab
 have hke:k=qb1 lines:=by have:=of_decide_eq_false h41;omega
 clear h41;subst hke;have hhl:=qs3 (qb1 lines);refine qa7 hX (v:=slV (qzy (qb1 lines)).length v_0) qaf ?_;refine qbl 27 (qad qaw (qzy (qb1 lines))) rfl qf1 ?_;have hhm:(qzy (qb1 lines)).length<=1000000:=om;refine t9 ?_;refine qao rfl (by ((refine qac call104 (qhl _ (qzy (qb1 lines)) ?_) ⟨qap,⟨qap,trivial⟩⟩);all_goals (assumption))) ?_;refine t11 ?_;refine cN ?_ ?_<;>intro h45
 ·replace hE:=qaq hE h45;refine t10 ?_;subst hE;exact Z76
 rw [ifF h45] at hE;have hn9:qb1 lines<=9:=hcn;refine t9 ?_;refine qax [(0,_),(1,_),(4,_),(10,_),(13,_),(14,_),(16,_),(18,_)] [blk i14 _ _,blk i13 _ _,blk i10 _ _] (fun y:Nat×Int=>y.1<=qb1 lines∧(-1<=y.2∧y.2<=8)∧acU ks o inc nd (frL ks o (qb1 lines) (qb1 lines-y.1) y.1 y.2)=W) (fun y=>[(17,Ii y.2),(29,Ii (y.1:Nat))]) (fun y=>[]) (fun y=>qb1 lines-y.1) (0,-1) ⟨by exact nZ _,⟨om,om⟩,hE⟩ qbu qab ?_;clear hE;rintro ⟨k,s⟩ ⟨hk,hI,hE⟩;dsimp only at hk hI hE ⊢;refine t12 ?_;refine cN ?_ ?_<;>intro h48
 ·rw [Bool.and_eq_true] at h48;obtain ⟨ha,hb⟩:=h48;have hlt:k<qb1 lines:=by have:=of_decide_eq_true ha;omega
  clear ha;have hkr:0<=kF o (qb1 lines) k∧kF o (qb1 lines) k<=8:=by
   unfold kF;rw [Int.tmod_eq_emod_of_nonneg om];have h1:=Int.emod_nonneg (o+(k:Int)) (show ((qb1 lines:Nat):Int)≠0 by omega);have h2:=Int.emod_lt_of_pos (o+(k:Int)) (show 0<((qb1 lines:Nat):Int) by omega);omega
  rw [show qb1 lines-k=(qb1 lines-(k+1))+1 by omega,frL,ifT hb] at hE;clear hb;refine t15 ?_;refine qbl 30 (Ii (kF o (qb1 lines) k)) rfl qf1 ?_;generalize kF o (qb1 lines) k=kf at hE hkr ⊢;refine t3 ?_;refine kRF call107 (qbz _) ?_;refine Z27 ?_;intro i31;refine t5 ?_;generalize hq:qb9 ks (qbh kf)=q at hE ⊢;replace hq:=Lib.hid hq;refine t2 ?_;refine kRF call108 (qgj _) ?_;refine t4 ?_;intro i33;refine t5 ?_;replace hE:=Lib.hid hE;refine t2 ?_;refine kRF call85 (qeb _) ?_;refine t12 ?_;replace hE:=hE.out;refine cN ?_ ?_<;>intro h53
  ·rw [ifT (show frB ks kf=true by unfold frB;rw [hq.out];exact h53)] at hE;refine t11 ?_;exact qaa (k+1,_) ⟨om,by exact ⟨om,om⟩,hE⟩ om qbu qab
  rw [ifF (show frB ks kf=false by unfold frB;rw [hq.out];exact h53)] at hE;refine t8 ?_;exact qaa (k+1,_) ⟨om,by exact ⟨om,om⟩,hE⟩ om qbu qab
 have hfin:frL ks o (qb1 lines) (qb1 lines-k) k s=s:=by
  by_cases hke:k=qb1 lines
  ·subst hke;rw [Nat.sub_self,frL]
  ·have e9:decide (s<0)=false:=by
    rw [decide_eq_true (show (k:Int)<((qb1 lines:Nat):Int) by omega),Bool.true_and] at h48;exact h48
   rw [show qb1 lines-k=(qb1 lines-(k+1))+1 by omega,frL,ifF e9]
 rw [hfin] at hE;unfold acU at hE;clear hfin h48;refine t11 ?_;refine cN ?_ ?_<;>intro h55
 ·replace hE:=qaq hE h55;refine t2 ?_;refine kRF call103 (qed c.w.heap.size _) ?_;refine t5 ?_;subst hE;exact Z76
 rw [ifF h55] at hE;unfold acW at hE;have hs0:0<=s∧s<=8:=by have:=of_decide_eq_false h55;omega
 refine t8 ?_;refine qao rfl (by exact qev (k:=s.toNat) qn0 (er rfl) om qdh) ?_;refine t16 ?_;refine kRF call109 (qdk nd.1 (ndA nd.2.1 s inc)) ?_;refine t4 ?_;intro i35;refine t5 ?_;generalize qfa nd.1 (ndA nd.2.1 s inc)=wn at hE ⊢;refine t3 ?_;refine kRF call107 (qbz _) ?_;refine Z27 ?_;intro i37;refine t5 ?_;generalize qb9 ks (qbh s)=q at hE ⊢;refine Z75 ?_;refine qao rfl (by ((refine qau call88 (qb8 _ [wn.1,hdA q o] ?_) ⟨qap,⟨qap,trivial⟩⟩);all_goals (simp))) ?_;refine t5 ?_;subst hE;exact Z76
end Go.Proofs.YteafmggidjjdgaaGreatDoor
