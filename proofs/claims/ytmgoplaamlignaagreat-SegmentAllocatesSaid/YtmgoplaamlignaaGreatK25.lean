/- Texts laid together: walks of functions, what they compute, and plain laws of it. Own work. -/
import Derived.Test.YtmgoplaamlignaaGreatK23
import Derived.Test.YtmgoplaamlignaaGreatK24
import Derived.Test.YtmgoplaamlignaaGreatK22
import Derived.Test.YtmgoplaamlignaaGreatK19
import Derived.Test.YtmgoplaamlignaaGreatK18
import Derived.Test.YtmgoplaamlignaaGreatK1
namespace Go.Proofs.YtmgoplaamlignaaGreat
open Go.RowKit Tryz
set_option linter.unusedVariables false
set_option linter.unusedSimpArgs false
set_option maxRecDepth 100000
set_option maxHeartbeats 4000000
def ask2 (o fr:Int):List Int:=if decide (fr≥0)=true then [98+o,98+fr] else [98+o]
def ndA (n:Nd) (s inc:Int):Nd:=⟨n.pin,n.ep,n.sg|||BitVec.ofInt 32 1<<<s.toNat,inc,n.r0,n.r1,n.r2,n.r3⟩
def hdA (p:Pg) (o:Int):Pg:={ p with d0:=BitVec.ofInt 64 (o+1) }
def acW (ks:List Pg) (o inc s:Int) (nd:Pg×Nd×Int) (wr:List Pg):S19:={ S19.nil with s:=s,over:=true,writes:=qcx wr [(qdk nd.1 (ndA nd.2.1 s inc)).1,hdA (qb6 ks (qas s)) o] }
def lowB (bm:BitVec 32):Nat→Int→Int
 | 0,s=>s
 | k+1,s=>if qk2 bm k=true then lowB bm k (k:Int) else lowB bm k s
def qo2:Nat→List Int
 | 0=>[]
 | k+1=>qo2 k++[qas (k:Int)]
def kF (o:Int) (n i:Nat):Int:=(o+(i:Int)).tmod (n:Int)
def frB (ks:List Pg) (k:Int):Bool:=(!qeo (qb6 ks (qas k))&&(qcj (qb6 ks (qas k))).2==0)&&(qcj (qb6 ks (qas k))).1.owner == -1
def frL (ks:List Pg) (o:Int) (n:Nat):Nat→Nat→Int→Int
 | 0,_,s=>s
 | m+1,i,s=>if decide (s<0)=true then (if frB ks (kF o n i)=true then frL ks o n m (i+1) (kF o n i) else frL ks o n m (i+1) s) else s
def acT (ks:List Pg) (o inc fr:Int) (nd ot:Pg×Nd×Int) (s:Int):S19:=
 if decide (s<0)=true then qgs 16 else
 if decide (((qdu ks [qas s]).length:Int)>0)=true then qre (qdu ks [qas s]) else
 if qeo (qb6 ks (qas s))=true then qgs 3 else
 if ((qcj (qb6 ks (qas s))).2 != 0)=true then qgs 14 else
 if ((qcj (qb6 ks (qas s))).1.owner != fr)=true then qgs 11 else
 acW ks o inc s nd [qvx ot.1 s]
def acU (ks:List Pg) (o inc:Int) (nd:Pg×Nd×Int) (s:Int):S19:=if decide (s<0)=true then qgs 12 else acW ks o inc s nd []
def acR (ks:List Pg) (o inc lines fr:Int):S19:=
 if (((((!clB o lines||decide (inc<1))||decide (inc>59))||decide (fr < -1))||decide (fr≥6))||fr==o)=true then qgs 1 else
 if decide (((qdu ks (ask2 o fr)).length:Int)>0)=true then qre (qdu ks (ask2 o fr)) else
 if ((qfs ks o).2.2 != 0)=true then qgs (qfs ks o).2.2 else
 if decide (fr≥0)=true then
  if ((qfs ks fr).2.2 != 0)=true then qgs (qfs ks fr).2.2 else
  acT ks o inc fr (qfs ks o) (qfs ks fr) (lowB (qfs ks fr).2.1.sg (qa7 lines) (-1))
 else
  if decide (((qdu ks (qo2 (qa7 lines))).length:Int)>0)=true then qre (qdu ks (qo2 (qa7 lines))) else
  acU ks o inc (qfs ks o) (frL ks o (qa7 lines) (qa7 lines) 0 (-1))
theorem qnh:∀ k,(qo2 k).length=k
 | 0=>rfl
 | k+1=>by unfold qo2;rw [List.length_append,qnh k];rfl
theorem ask2_len (o fr:Int):(ask2 o fr).length≤1000000:=by unfold ask2;split <;> simp
theorem qeh (B:Nat) (e:Int):FnP Tryz.prog 44 [Is (.int .i64 e)] (IsS19F B { S19.nil with code:=e,over:=true }):=by
 refine FnP.enter func44 ntmps44 rfl rfl ?_
 intro c hX
 refine t3 ?_
 intro i2
 refine t10 ?_
 exact qaq (Bs:=[_]) results44 eRF () SubL.rfl' (List.nil_sublist _)
theorem qo0 (ks:List Pg) (o inc lines fr:Int) (hks:ks.length≤10000):FnF Tryz.prog 12 [Is (.int .i64 o),Is (.int .i64 inc),Is (.int .i64 lines),Is (.int .i64 fr),qal tPg ks] (fun B=>IsS19F B (acR ks o inc lines fr)):=by
 obtain ⟨W,hE⟩:∃ W,acR ks o inc lines fr=W:=⟨_,rfl⟩
 rw [hE]
 unfold acR at hE
 refine FnF.enter func12 ntmps12 rfl rfl ?_
 intro c hX
 refine t3 ?_
 intro i10
 refine t7 ?_
 refine kRF call43 (qfz _ _) ?_
 refine t24 ?_
 refine cN ?_ ?_ <;> intro h1
 ·replace hE:=qce hE h1
  refine t2 ?_
  refine kRF call44 (qeh c.w.heap.size _) ?_
  refine t5 ?_
  subst hE
  exact qaq (Bs:=[_]) results12 eRF () SubL.rfl' (List.nil_sublist _)
 rw [ifF h1] at hE
 have hcl:(0≤o∧o<6)∧(104≤lines∧lines≤256)∧(1≤inc∧inc≤59) ∧ -1≤fr∧fr<6:=by unfold clB at h1;simp at h1;omega
 obtain ⟨ho,hli,hinc,hfr⟩:=hcl
 have hal:=ask2_len o fr
 have hcn:=qe9 lines
 clear h1
 refine t6 ?_
 refine qap rfl (qad (size:=1) (qs:=[(0,_)]) rfl rfl rfl ⟨⟨rfl,_,(er rfl),qaf⟩,trivial⟩ rf rf) ?_
 refine t10 ?_
 refine qb3 [(0,_),(1,_),(2,_),(3,_),(4,_),(10,_)] [blk i10 _ _] (fun z:Unit=>True) (fun z=>[(11,qal tI64 (ask2 o fr))]) (fun z=>[]) qde qab ?_ ?_
 rotate_left
 focus
  refine cN ?_ ?_ <;> intro h4
  ·have e:ask2 o fr=[98+o,98+fr]:=by unfold ask2;rw [ifT h4]
   refine t4 ?_
   refine qap rfl (OpP.to (qad (size:=1) (qs:=[(0,_)]) rfl rfl rfl ⟨⟨rfl,_,(er rfl),qaf⟩,trivial⟩ rf rf) (SubL.row1 (T:=tI64) (x:=_) rf rf rf qaj)) ?_
   refine qap rfl (qn3 (T:=tI64) ([98+o]) (er rfl) qz3 rfl rfl (by exact er rfl) (by exact qep rfl rfl rfl) qbt) ?_
   refine t2 ?_
   exact qak () trivial (by rw [e];exact qde) qab
  have e:ask2 o fr=[98+o]:=by unfold ask2;rw [ifF h4]
  refine s1 ?_
  exact qak () trivial (by rw [e];exact qde) qab
 rintro ⟨⟩ _
 refine t4 ?_
 refine qap rfl (by ((refine qac call45 (qgy _ _ ?_) ⟨qar,⟨qar,trivial⟩⟩);all_goals (first|first|assumption|(simp;done)))) ?_
 refine t11 ?_
 refine cN ?_ ?_ <;> intro h7
 ·replace hE:=qce hE h7
  refine t9 ?_
  subst hE
  exact qaq (Bs:=[_]) results12 eRF () SubL.rfl' (List.nil_sublist _)
 replace hE:=qdr hE h7
 refine t6 ?_
 refine qap rfl (by ((refine qac call46 (ql8 _ _ ?_) ⟨qar,⟨qar,trivial⟩⟩);all_goals (assumption))) ?_
 refine t5 ?_
 intro i13
 refine s1 ?_
 intro i14
 refine t7 ?_
 generalize qfs ks o=nd at hE ⊢
 refine t5 ?_
 refine cN ?_ ?_ <;> intro h10
 ·replace hE:=qce hE h10
  refine t3 ?_
  refine kRF call44 (qeh c.w.heap.size _) ?_
  refine t5 ?_
  subst hE
  exact qaq (Bs:=[_]) results12 eRF () SubL.rfl' (List.nil_sublist _)
 replace hE:=qdr hE h10
 refine t5 ?_
 refine kRF call47 (qqj _) ?_
 refine t20 ?_
 refine cN ?_ ?_ <;> intro h15
 ·rw [ifT h15] at hE
  have hfr6:0≤fr∧fr<6:=⟨of_decide_eq_true h15,hfr.2⟩
  clear h15
  refine t4 ?_
  refine qap rfl (by ((refine qac call46 (ql8 _ _ ?_) ⟨qar,⟨qar,trivial⟩⟩);all_goals (assumption))) ?_
  refine t5 ?_
  intro i19
  refine s1 ?_
  intro i20
  refine t7 ?_
  generalize qfs ks fr=ot at hE ⊢
  refine t5 ?_
  refine cN ?_ ?_ <;> intro h17
  ·replace hE:=qce hE h17
   refine t3 ?_
   refine kRF call44 (qeh c.w.heap.size _) ?_
   refine t6 ?_
   subst hE
   exact qaq (Bs:=[_]) results12 eRF () SubL.rfl' (List.nil_sublist _)
  replace hE:=qdr hE h17
  refine t11 ?_
  refine qaz [(0,_),(1,_),(3,_),(4,_),(10,_),(12,_),(13,_),(14,_),(18,_),(19,_),(20,_)] [blk i20 _ _,blk i19 _ _,blk i14 _ _,blk i13 _ _,blk i10 _ _] (fun y:Nat×Int=>y.1≤qa7 lines∧(-1≤y.2∧y.2≤8)∧acT ks o inc fr nd ot (lowB ot.2.1.sg y.1 y.2)=W) (fun y=>[(17,Is (.int .i64 y.2)),(22,Is (.int .i64 (((y.1:Nat):Int)-1)))]) (fun y=>[]) (fun y=>y.1) (qa7 lines,-1) ⟨by omega,⟨by omega,by omega⟩,hE⟩ qde qab ?_
  clear hE
  rintro ⟨k,s⟩ ⟨hk,hI,hE⟩
  dsimp only at hk hI hE ⊢
  refine t7 ?_
  refine cN ?_ ?_ <;> intro h20
  ·obtain ⟨kd,rfl⟩:∃ q,k=q+1:=⟨k-1,by have:=of_decide_eq_true h20;omega⟩
   clear h20
   refine qb0 22 (Is (.int .i64 (kd:Nat))) rfl (SubL.eq (by rw [show (((kd+1:Nat):Int)-1)=((kd:Nat):Int) by omega])) ?_
   rw [lowB] at hE
   have hkd:-1≤(kd:Int)∧(kd:Int)≤8:=⟨by omega,by omega⟩
   refine t15 ?_
   refine cN ?_ ?_ <;> intro h22
   ·rw [ifT (show qk2 ot.2.1.sg kd=true from h22)] at hE
    refine t11 ?_
    exact qaa (kd,_) ⟨by omega,by exact hkd,hE⟩ (by omega) qde qab
   rw [ifF (show qk2 ot.2.1.sg kd=false from h22)] at hE
   refine t8 ?_
   exact qaa (kd,_) ⟨by omega,by exact ⟨by omega,by omega⟩,hE⟩ (by omega) qde qab
  have hke:k=0:=by have:=of_decide_eq_false h20;omega
  clear h20
  subst hke
  rw [lowB] at hE
  unfold acT at hE
  refine t12 ?_
  refine cN ?_ ?_ <;> intro h24
  ·replace hE:=qce hE h24
   refine t2 ?_
   refine kRF call44 (qeh c.w.heap.size _) ?_
   refine t6 ?_
   subst hE
   exact qaq (Bs:=[_]) results12 eRF () SubL.rfl' (List.nil_sublist _)
  replace hE:=qdr hE h24
  refine t6 ?_
  refine kRF call48 (qb2 _) ?_
  refine qap rfl (OpP.to (qad (size:=1) (qs:=[(0,_)]) rfl rfl rfl ⟨⟨rfl,_,(er rfl),qaf⟩,trivial⟩ rf rf) (SubL.row1 (T:=tI64) (x:=_) rf rf rf qaj)) ?_
  refine qap rfl (by ((refine qac call45 (qgy _ [qas s] ?_) ⟨qar,⟨qar,trivial⟩⟩);all_goals (simp))) ?_
  refine t11 ?_
  refine cN ?_ ?_ <;> intro h27
  ·replace hE:=qce hE h27
   refine t10 ?_
   subst hE
   exact qaq (Bs:=[_]) results12 eRF () SubL.rfl' (List.nil_sublist _)
  replace hE:=qdr hE h27
  refine t6 ?_
  refine kRF call48 (qb2 _) ?_
  refine kRF call19 (qbu _ _) ?_
  refine t4 ?_
  intro i23
  refine t6 ?_
  generalize hq29:qb6 ks (qas s)=q at hE ⊢
  refine t2 ?_
  refine kRF call49 (qb5 _) ?_
  refine t2 ?_
  refine cN ?_ ?_ <;> intro h30
  ·replace hE:=qce hE h30
   refine t2 ?_
   refine kRF call44 (qeh c.w.heap.size _) ?_
   refine t6 ?_
   subst hE
   exact qaq (Bs:=[_]) results12 eRF () SubL.rfl' (List.nil_sublist _)
  replace hE:=qdr hE h30
  refine t5 ?_
  refine kRF call50 (qf6 _) ?_
  refine t4 ?_
  intro i25
  refine t6 ?_
  generalize qcj q=hh at hE ⊢
  refine t5 ?_
  refine cN ?_ ?_ <;> intro h33
  ·replace hE:=qce hE h33
   refine t2 ?_
   refine kRF call44 (qeh c.w.heap.size _) ?_
   refine t6 ?_
   subst hE
   exact qaq (Bs:=[_]) results12 eRF () SubL.rfl' (List.nil_sublist _)
  replace hE:=qdr hE h33
  refine t11 ?_
  refine cN ?_ ?_ <;> intro h35
  ·replace hE:=qce hE h35
   refine t2 ?_
   refine kRF call44 (qeh c.w.heap.size _) ?_
   refine t6 ?_
   subst hE
   exact qaq (Bs:=[_]) results12 eRF () SubL.rfl' (List.nil_sublist _)
  rw [ifF h35] at hE
  unfold acW at hE
  rw [hq29] at hE
  have hs0:0≤s∧s≤8:=by have:=of_decide_eq_false h24;omega
  refine t9 ?_
  refine qap rfl (by exact qd5 (k:=s.toNat) qgi (er rfl) (by omega) qca) ?_
  refine t9 ?_
  refine qap rfl (qad (size:=9) (qs:=[(0,_)]) rfl rfl rfl ⟨⟨rfl,_,(er rfl),qaf⟩,trivial⟩ rf rf) ?_
  (refine qzh rfl (za6 (T:=tPg) (er rfl) (by exact Ev.sub rfl (by exact SubL.row (xs:=[qvx ot.1 s]) rf rf qv8)) (by exact qep rfl rfl rfl) qbt) ?_;intro i171)
  refine t4 ?_
  refine qa8 hX (v:=slV [qvx ot.1 s].length i171) qae ?_
  refine qb0 18 (qal tPg [qvx ot.1 s]) rfl qfm ?_
  refine t5 ?_
  refine qap rfl (by exact qg3 (k:=s.toNat) ql1 (er rfl) (by omega) qca) ?_
  refine t16 ?_
  refine kRF call51 (qdp nd.1 (ndA nd.2.1 s inc)) ?_
  refine t4 ?_
  intro i35
  refine t5 ?_
  generalize qdk nd.1 (ndA nd.2.1 s inc)=wn at hE ⊢
  refine t3 ?_
  refine kRF call48 (qb2 _) ?_
  refine kRF call19 (qbu _ _) ?_
  refine t4 ?_
  intro i37
  refine t5 ?_
  rw [hq29]
  refine t3 ?_
  refine qap rfl (qfd (er rfl) rfl rfl (qhs _)) ?_
  refine t11 ?_
  refine qap rfl (qad (size:=9) (qs:=[(0,_),(1,_)]) rfl rfl rfl ⟨⟨rfl,_,(er rfl),qaf⟩,⟨⟨rfl,_,(er rfl),qaf⟩,trivial⟩⟩ rf rf) ?_
  refine qap rfl (by ((refine qaw call52 (qcc _ [wn.1,hdA q o] ?_) ⟨qar,⟨qar,trivial⟩⟩);all_goals (simp))) ?_
  refine t5 ?_
  subst hE
  exact qaq (Bs:=[_]) results12 eRF () SubL.rfl' (List.nil_sublist _)
 rw [ifF h15] at hE
 have hfrn:fr = -1:=by have:=of_decide_eq_false h15;omega
 clear h15
 refine t12 ?_
 refine qcn 3 tI64 ?_
 refine qaz [(0,_),(1,_),(4,_),(10,_),(12,_),(13,_),(14,_),(16,_),(17,_),(18,_)] [blk i14 _ _,blk i13 _ _,blk i10 _ _] (fun y:Nat×(Option Addr×Nat)=>y.1≤qa7 lines) (fun y=>[(27,Is (slV (qo2 y.1).length y.2)),(28,Is (.int .i64 (y.1:Nat)))]) (fun y=>[buf (slV (qo2 y.1).length y.2) 3 tI64 (qo2 y.1)]) (fun y=>qa7 lines-y.1) (0,(none,0)) (Nat.zero_le _) qde qab ?_
 rintro ⟨k,v_0⟩ hk
 dsimp only at hk ⊢
 refine t8 ?_
 refine cN ?_ ?_ <;> intro h41
 ·have hlt:k<qa7 lines:=by have:=of_decide_eq_true h41;omega
  clear h41
  have hmt:qo2 (k+1)=qo2 k++[qas (k:Int)]:=rfl
  have hhl:=qnh k
  refine t7 ?_
  refine kRF call48 (qb2 _) ?_
  refine qap rfl (OpP.to (qad (size:=1) (qs:=[(0,_)]) rfl rfl rfl ⟨⟨rfl,_,(er rfl),qaf⟩,trivial⟩ rf rf) (SubL.row1 (T:=tI64) (x:=_) rf rf rf qaj)) ?_
  (refine qe6 rfl (qb9 (er rfl) (fun _=>qae) (by exact er rfl) (by exact qep rfl rfl rfl) qbt) ?_;intro i181)
  refine t9 ?_
  rw [← hmt]
  exact qaa (k+1,i181) (by omega) (by omega) qde qab
 have hke:k=qa7 lines:=by have:=of_decide_eq_false h41;omega
 clear h41
 subst hke
 have hhl:=qnh (qa7 lines)
 refine qa8 hX (v:=slV (qo2 (qa7 lines)).length v_0) qae ?_
 refine qb0 27 (qal tI64 (qo2 (qa7 lines))) rfl qfm ?_
 have hhm:(qo2 (qa7 lines)).length≤1000000:=by omega
 refine t9 ?_
 refine qap rfl (by ((refine qac call45 (qgy _ (qo2 (qa7 lines)) ?_) ⟨qar,⟨qar,trivial⟩⟩);all_goals (assumption))) ?_
 refine t11 ?_
 refine cN ?_ ?_ <;> intro h45
 ·replace hE:=qce hE h45
  refine t10 ?_
  subst hE
  exact qaq (Bs:=[_]) results12 eRF () SubL.rfl' (List.nil_sublist _)
 rw [ifF h45] at hE
 have hn9:qa7 lines≤9:=hcn
 refine t9 ?_
 refine qaz [(0,_),(1,_),(4,_),(10,_),(13,_),(14,_),(16,_),(18,_)] [blk i14 _ _,blk i13 _ _,blk i10 _ _] (fun y:Nat×Int=>y.1≤qa7 lines∧(-1≤y.2∧y.2≤8)∧acU ks o inc nd (frL ks o (qa7 lines) (qa7 lines-y.1) y.1 y.2)=W) (fun y=>[(17,Is (.int .i64 y.2)),(29,Is (.int .i64 (y.1:Nat)))]) (fun y=>[]) (fun y=>qa7 lines-y.1) (0,-1) ⟨by exact Nat.zero_le _,⟨by omega,by omega⟩,hE⟩ qde qab ?_
 clear hE
 rintro ⟨k,s⟩ ⟨hk,hI,hE⟩
 dsimp only at hk hI hE ⊢
 refine t12 ?_
 refine cN ?_ ?_ <;> intro h48
 ·rw [Bool.and_eq_true] at h48
  obtain ⟨ha,hb⟩:=h48
  have hlt:k<qa7 lines:=by have:=of_decide_eq_true ha;omega
  clear ha
  have hkr:0≤kF o (qa7 lines) k∧kF o (qa7 lines) k≤8:=by
   unfold kF
   rw [Int.tmod_eq_emod_of_nonneg (by omega)]
   have h1:=Int.emod_nonneg (o+(k:Int)) (show ((qa7 lines:Nat):Int)≠0 by omega)
   have h2:=Int.emod_lt_of_pos (o+(k:Int)) (show 0<((qa7 lines:Nat):Int) by omega)
   omega
  rw [show qa7 lines-k=(qa7 lines-(k+1))+1 by omega,frL,ifT hb] at hE
  clear hb
  refine t15 ?_
  refine qb0 30 (Is (.int .i64 (kF o (qa7 lines) k))) rfl qfm ?_
  generalize kF o (qa7 lines) k=kf at hE hkr ⊢
  refine t3 ?_
  refine kRF call48 (qb2 _) ?_
  refine kRF call19 (qbu _ _) ?_
  refine t4 ?_
  intro i31
  refine t5 ?_
  generalize hq:qb6 ks (qas kf)=q at hE ⊢
  replace hq:=Lib.hid hq
  refine t2 ?_
  refine kRF call50 (qf6 _) ?_
  refine t4 ?_
  intro i33
  refine t5 ?_
  replace hE:=Lib.hid hE
  refine t2 ?_
  refine kRF call49 (qb5 _) ?_
  refine t12 ?_
  replace hE:=hE.out
  refine cN ?_ ?_ <;> intro h53
  ·rw [ifT (show frB ks kf=true by unfold frB;rw [hq.out];exact h53)] at hE
   refine t11 ?_
   exact qaa (k+1,_) ⟨by omega,by exact ⟨by omega,by omega⟩,hE⟩ (by omega) qde qab
  rw [ifF (show frB ks kf=false by unfold frB;rw [hq.out];exact h53)] at hE
  refine t8 ?_
  exact qaa (k+1,_) ⟨by omega,by exact ⟨by omega,by omega⟩,hE⟩ (by omega) qde qab
 have hfin:frL ks o (qa7 lines) (qa7 lines-k) k s=s:=by
  by_cases hke:k=qa7 lines
  ·subst hke;rw [Nat.sub_self,frL]
  ·have e9:decide (s<0)=false:=by
    rw [decide_eq_true (show (k:Int)<((qa7 lines:Nat):Int) by omega),Bool.true_and] at h48
    exact h48
   rw [show qa7 lines-k=(qa7 lines-(k+1))+1 by omega,frL,ifF e9]
 rw [hfin] at hE
 unfold acU at hE
 clear hfin h48
 refine t11 ?_
 refine cN ?_ ?_ <;> intro h55
 ·replace hE:=qce hE h55
  refine t2 ?_
  refine kRF call44 (qeh c.w.heap.size _) ?_
  refine t5 ?_
  subst hE
  exact qaq (Bs:=[_]) results12 eRF () SubL.rfl' (List.nil_sublist _)
 rw [ifF h55] at hE
 unfold acW at hE
 have hs0:0≤s∧s≤8:=by have:=of_decide_eq_false h55;omega
 refine t8 ?_
 refine qap rfl (by exact qg3 (k:=s.toNat) ql1 (er rfl) (by omega) qca) ?_
 refine t16 ?_
 refine kRF call51 (qdp nd.1 (ndA nd.2.1 s inc)) ?_
 refine t4 ?_
 intro i35
 refine t5 ?_
 generalize qdk nd.1 (ndA nd.2.1 s inc)=wn at hE ⊢
 refine t3 ?_
 refine kRF call48 (qb2 _) ?_
 refine kRF call19 (qbu _ _) ?_
 refine t4 ?_
 intro i37
 refine t5 ?_
 generalize qb6 ks (qas s)=q at hE ⊢
 refine t3 ?_
 refine qap rfl (qfd (er rfl) rfl rfl (qhs _)) ?_
 refine t11 ?_
 refine qap rfl (qad (size:=9) (qs:=[(0,_),(1,_)]) rfl rfl rfl ⟨⟨rfl,_,(er rfl),qaf⟩,⟨⟨rfl,_,(er rfl),qaf⟩,trivial⟩⟩ rf rf) ?_
 refine qap rfl (by ((refine qaw call52 (qcc _ [wn.1,hdA q o] ?_) ⟨qar,⟨qar,trivial⟩⟩);all_goals (simp))) ?_
 refine t5 ?_
 subst hE
 exact qaq (Bs:=[_]) results12 eRF () SubL.rfl' (List.nil_sublist _)
theorem mask64 (i:Nat):(BitVec.ofInt 64 65534).getLsbD i=(decide (i<32)&&(BitVec.ofInt 32 65534).getLsbD i):=by
 have h3:BitVec.ofInt 64 65534=(BitVec.ofInt 32 65534).setWidth 64:=by decide
 rw [h3,BitVec.getLsbD_setWidth]
 rcases Nat.lt_or_ge i 32 with h|h
 ·simp [h,show i<64 by omega]
 ·rw [BitVec.getLsbD_of_ge _ i h];simp
theorem qu5 {p:Pg} (h:(qcj p).2=0):qp1 p.l=true∧UV p.d0≤6∧(p.d1 &&& ~~~BitVec.ofInt 64 65534=0#64)∧p.d2=0#64∧p.d3=0#64∧p.d4=0#64∧p.d5=0#64∧p.d6=0#64∧(qcj p).1=⟨UV p.d0-1,p.d1.setWidth 32⟩:=by
 unfold qcj at h ⊢
 split at h
 ·rename_i h1
  split at h
  ·exact absurd h (by decide)
  ·rename_i h2
   have h3:qzq p=false∧zB p=true:=by simpa using h2
   have h4:=h3.2
   have h5:=h3.1
   unfold zB at h4
   unfold qzq at h5
   simp only [Bool.and_eq_true,decide_eq_true_eq] at h4
   obtain ⟨a1,a2,a3,a4,a5⟩:=h4
   rw [Bool.or_eq_false_iff,decide_eq_false_iff_not] at h5
   rw [if_pos h1,if_neg h2]
   exact ⟨h1,by omega,uv0_iff.1 (by simpa using h5.2),a1,a2,a3,a4,a5,rfl⟩
 ·exact absurd h (by decide)
theorem qzo {p:Pg} (h:(qcj p).2=0):UV ((qcj p).1.used &&& ~~~BitVec.ofInt 32 65534)=0∧(qcj p).1.used.setWidth 64=p.d1:=by
 obtain ⟨_,_,h1,_,_,_,_,_,h2⟩:=qu5 h
 rw [h2]
 dsimp only
 have hb:∀ i,i<64→(p.d1.getLsbD i && !(decide (i<32)&&(BitVec.ofInt 32 65534).getLsbD i))=false:=fun i hi=>by
  have:=congrArg (fun x:BitVec 64=>x.getLsbD i) h1
  simp only [BitVec.getLsbD_and,BitVec.getLsbD_not,hi,decide_true,Bool.true_and,mask64] at this
  simpa using this
 refine ⟨uv0_iff.2 ?_,?_⟩
 ·apply BitVec.eq_of_getLsbD_eq
  intro i hi
  have:=hb i (by omega)
  simp only [BitVec.getLsbD_and,BitVec.getLsbD_not,BitVec.getLsbD_setWidth,hi,decide_true,Bool.true_and] at this ⊢
  rw [this];simp
 ·apply BitVec.eq_of_getLsbD_eq
  intro i hi
  rw [BitVec.getLsbD_setWidth,BitVec.getLsbD_setWidth]
  rcases Nat.lt_or_ge i 32 with h|h
  ·simp [h,hi]
  ·have:=hb i hi
   simp only [show ¬ i<32 by omega,decide_false,Bool.false_and,Bool.not_false,Bool.and_true] at this
   rw [this];simp
theorem qnn {p:Pg} {o:Int} {u:BitVec 32} (h:(qcj p).2=0) (ho:-1≤o∧o<6) (hu:UV (u &&& ~~~BitVec.ofInt 32 65534)=0):qfk p ⟨o,u⟩=({ p with d0:=BitVec.ofInt 64 (o+1),d1:=u.setWidth 64 },0):=by
 obtain ⟨h1,_,_,a2,a3,a4,a5,a6,_⟩:=qu5 h
 have hb:qrm p ⟨o,u⟩=false:=by
  unfold qrm
  dsimp only
  rw [h1,hu,decide_eq_false (show ¬ o < -1 by omega),decide_eq_false (show ¬ o≥6 by omega)];rfl
 unfold qfk qoc
 rw [if_neg (by rw [hb];simp)]
 rcases p with ⟨l,hh,d0,d1,d2,d3,d4,d5,d6⟩
 dsimp only at a2 a3 a4 a5 a6
 subst a2 a3 a4 a5 a6
 rfl
theorem qxi {p:Pg} {o:Int} (h:(qcj p).2=0) (ho:0≤o∧o<6):qfk p (hdS (qcj p).1 o)=(hdA p o,0):=by
 obtain ⟨h1,h2⟩:=qzo h
 rw [show hdS (qcj p).1 o=⟨o,(qcj p).1.used⟩ from rfl,qnn h (by omega) h1,h2]
 rfl
theorem qwh {w:BitVec 64} (h:qhr w=true):rwV (qlc w)=w∧rwB (qlc w)=true:=by
 by_cases h0:w=0#64
 ·rw [(ql7 h0).1]
  exact ⟨by unfold rwV;rw [if_pos rfl,h0],by unfold rwB;simp⟩
 ·obtain ⟨h1,h2⟩:=qit h0
  rw [h2] at h
  have hne:¬ (⟨qc1 (w.setWidth 32),(w>>>32).setWidth 32⟩:Re)=Re.nil:=fun e=>by
   have:qc1 (w.setWidth 32)=Pt.nil:=congrArg Re.to e
   rw [this] at h
   exact absurd h (by decide)
  rw [h1]
  refine ⟨?_,by unfold rwB;rw [h];simp⟩
  unfold rwV
  rw [if_neg hne]
  dsimp only
  rw [qu9 h]
  apply BitVec.eq_of_getLsbD_eq
  intro i hi
  simp only [qm1,BitVec.getLsbD_or,BitVec.getLsbD_setWidth,BitVec.getLsbD_shiftLeft,BitVec.getLsbD_ushiftRight,hi,decide_true,Bool.true_and]
  rcases Nat.lt_or_ge i 32 with h5|h5
  ·simp [h5]
  ·simp [show ¬ i<32 by omega,show i-32<32 by omega,show 32+(i-32)=i by omega,show i-32<64 by omega]
theorem qs1 {p:Pg} (h:(qcu p).2=0):qmo p.l=true∧qsl p=false∧okN p 4=true∧(qcu p).1=ndK p 4:=by
 cases h1:qmo p.l with
 | false=>rw [qqu h1] at h;exact absurd h (by decide)
 | true =>
  cases h2:qsl p with
  | true=>rw [qnw h1 h2] at h;exact absurd h (by decide)
  | false =>
   cases h3:okN p 4 with
   | false=>rw [qqt h1 h2 h3] at h;exact absurd h (by decide)
   | true=>rw [qnx h1 h2 h3];exact ⟨rfl,rfl,rfl,rfl⟩
theorem qyd {p:Pg} (h:qmo p.l=true):(qcu p).2=0∨(qcu p).2=14:=by
 cases h2:qsl p with
 | true=>rw [qnw h h2];exact .inr rfl
 | false =>
  cases h3:okN p 4 with
  | false=>rw [qqt h h2 h3];exact .inr rfl
  | true=>rw [qnx h h2 h3];exact .inl rfl
theorem okN_all {p:Pg} (h:okN p 4=true):qhr p.d3=true∧qhr p.d4=true∧qhr p.d5=true∧qhr p.d6=true:=by
 have h':(qhr p.d3&&qhr p.d4&&qhr p.d5&&qhr p.d6)=true:=h
 simp only [Bool.and_eq_true] at h'
 exact ⟨h'.1.1.1,h'.1.1.2,h'.1.2,h'.2⟩
theorem zc2 {n:Nat} (x y:BitVec n):UV (x&&&y)≤UV x:=by
 unfold UV
 rw [BitVec.toNat_and]
 exact Int.ofNat_le.2 Nat.and_le_left
theorem setW_le (x:BitVec 64):UV (x.setWidth 32)≤UV x:=by
 unfold UV
 rw [BitVec.toNat_setWidth]
 exact Int.ofNat_le.2 (Nat.mod_le _ _)
theorem qzl {p:Pg} {g:BitVec 32} (h:(qcu p).2=0) (hg:UV g≤511):qdk p { (qcu p).1 with sg:=g }=({ p with d1:=g.setWidth 64 },0):=by
 obtain ⟨h1,h2,h3,h4⟩:=qs1 h
 obtain ⟨b0,b1,b2⟩:=qol h2
 obtain ⟨r0,r1,r2,r3⟩:=okN_all h3
 obtain ⟨a0,c0⟩:=qwh r0
 obtain ⟨a1,c1⟩:=qwh r1
 obtain ⟨a2,c2⟩:=qwh r2
 obtain ⟨a3,c3⟩:=qwh r3
 have n0:=qbj p.d0
 have n2:=qbj p.d2
 rw [h4]
 have hbad:qp8 p { ndK p 4 with sg:=g }=false:=by
  show (!qmo p.l||((!qq0 p&&UV (epV p) != 0)||(decide (UV g>511)||(decide (UV p.d2<0)||decide (UV p.d2>59)))))=false
  rw [h1,decide_eq_false (show ¬ UV g>511 by omega),decide_eq_false (show ¬ UV p.d2<0 by omega),decide_eq_false (show ¬ UV p.d2>59 by omega)]
  have:(!qq0 p&&UV (epV p) != 0)=false:=by
   unfold qq0 epV
   by_cases hz:UV p.d0>0
   ·rw [decide_eq_true hz];rfl
   ·rw [decide_eq_false hz,if_neg hz];rfl
  rw [this];rfl
 have hok:okR { ndK p 4 with sg:=g } 4=true:=by
  show (rwB (qlc p.d3)&&rwB (qlc p.d4)&&rwB (qlc p.d5)&&rwB (qlc p.d6))=true
  rw [c0,c1,c2,c3];rfl
 rw [qm8 hbad hok]
 have e0:qsj { ndK p 4 with sg:=g }=p.d0:=by
  show (if qq0 p=true then (epV p).setWidth 64+1#64 else 0#64)=p.d0
  unfold qq0 epV
  by_cases hz:UV p.d0>0
  ·rw [if_pos (decide_eq_true hz),if_pos hz]
   apply BitVec.eq_of_toNat_eq
   unfold UV at hz b0
   have:=p.d0.isLt
   rw [BitVec.toNat_add,BitVec.toNat_setWidth,BitVec.toNat_setWidth,BitVec.toNat_sub]
   simp
   omega
  ·rw [if_neg (by rw [decide_eq_false hz];simp)]
   have hz0:UV p.d0=0:=by omega
   exact (uv0_iff.1 hz0).symm
 have e2:BitVec.ofInt 64 (UV p.d2)=p.d2:=by
  apply BitVec.eq_of_toNat_eq
  unfold UV
  simp
 show ((⟨p.l,p.h,qsj { ndK p 4 with sg:=g },g.setWidth 64,BitVec.ofInt 64 (UV p.d2),rwV (qlc p.d3),rwV (qlc p.d4),rwV (qlc p.d5),rwV (qlc p.d6)⟩:Pg),(0:Int))=_
 rw [e0,e2,a0,a1,a2,a3]
theorem readN_sg {p:Pg} (h:(qcu p).2=0):UV (qcu p).1.sg≤511∧(qcu p).1.sg=p.d1.setWidth 32∧UV p.d1≤511:=by
 obtain ⟨h1,h2,h3,h4⟩:=qs1 h
 obtain ⟨b0,b1,b2⟩:=qol h2
 rw [h4]
 exact ⟨Int.le_trans (setW_le p.d1) b1,rfl,b1⟩
theorem qx5 {p:Pg} {k:Nat} (h:(qcu p).2=0) (hk:k<32):qdk p { (qcu p).1 with sg:=(qcu p).1.sg &&& ~~~(BitVec.ofInt 32 1<<<k) }=(qvx p (k:Int),0):=by
 obtain ⟨h1,h2,h3⟩:=readN_sg h
 rw [qzl h (Int.le_trans (zc2 _ _) h1),h2]
 unfold qvx
 have e:(p.d1.setWidth 32 &&& ~~~(BitVec.ofInt 32 1<<<k)).setWidth 64=p.d1 &&& ~~~(BitVec.ofInt 64 1<<<((k:Nat):Int).toNat):=by
  have hs:(BitVec.ofInt 32 1)=1#32:=by decide
  have hs':(BitVec.ofInt 64 1)=1#64:=by decide
  rw [hs,hs',Int.toNat_natCast]
  apply BitVec.eq_of_getLsbD_eq
  intro i hi
  simp only [BitVec.getLsbD_setWidth,BitVec.getLsbD_and,BitVec.getLsbD_not,BitVec.getLsbD_shiftLeft,BitVec.getLsbD_one,hi,decide_true,Bool.true_and]
  rcases Nat.lt_or_ge i 32 with h5|h5
  ·simp [h5]
  ·have:p.d1.getLsbD i=false:=by
    have h6:p.d1.toNat<2 ^ i:=Nat.lt_of_le_of_lt (show p.d1.toNat≤511 by unfold UV at h3;omega) (Nat.lt_of_lt_of_le (by decide:511<2 ^ 32) (Nat.pow_le_pow_right (by decide) h5))
    exact Nat.testBit_lt_two_pow h6
   rw [this];simp [show ¬ i<32 by omega]
 rw [e]
theorem qng (bm:BitVec 32):∀ (n:Nat) (s:Int),lowB bm n s=(qf8 bm n).head?.getD s
 | 0,s=>rfl
 | n+1,s=>by
  unfold lowB qf8
  split
  ·rw [qng bm n]
   cases qf8 bm n <;> rfl
  ·exact qng bm n s
theorem qrl:∀ n:Nat,n≤9→qo2 n=(qf8 511#32 n).map qas
 | 0,_=>rfl
 | n+1,h=>by
  unfold qo2 qf8
  rw [if_pos (by
   match n,h with
   | 0,_=>decide
   | 1,_=>decide
   | 2,_=>decide
   | 3,_=>decide
   | 4,_=>decide
   | 5,_=>decide
   | 6,_=>decide
   | 7,_=>decide
   | 8,_=>decide),qrl n (by omega),List.map_append]
  rfl
theorem qw6:∀ {n k:Nat},k<n→qas (k:Int)∈qo2 n
 | 0,k,h=>absurd h (by omega)
 | n+1,k,h=>by
  unfold qo2
  rw [List.mem_append,List.mem_singleton]
  rcases Nat.lt_or_ge k n with h1|h1
  ·exact .inl (qw6 h1)
  ·exact .inr (by rw [show k=n by omega])
theorem qnf {ks:List Pg} {ls:List Int} (h:¬ ((qdu ks ls).length:Int)>0) {x:Int} (hx:x∈ls):qe5 ks x=true:=by
 cases hb:qe5 ks x with
 | true=>rfl
 | false =>
  have:=List.length_pos_of_mem (mem_missR.2 ⟨hx,hb⟩)
  omega
theorem qf4 {ks:List Pg} {l:Int} (h:qe5 ks l=true):(qb6 ks l).l=l:=by
 unfold qe5 at h
 obtain ⟨p,hp⟩:=Option.isSome_iff_exists.1 h
 unfold qb6
 rw [hp]
 unfold qgh at hp
 have h1:=List.mem_of_getLast? hp
 exact of_decide_eq_true (List.mem_filter.1 h1).2
theorem kF_nat (o:Nat) (n i:Nat):kF (o:Int) n i=(((o+i) % n:Nat):Int):=by unfold kF;exact tmN o i n
theorem frB_eq {ks:List Pg} {s:Nat} (h:qe5 ks (qas (s:Int))=true):frB ks (s:Int)=qj9 ks s:=by
 unfold frB qj9 qeg
 rw [if_pos h]
 cases hl:qeo (qb6 ks (qas (s:Int))) with
 | true=>simp
 | false=>simp
theorem frL_stop (ks:List Pg) (o:Int) (n:Nat) (m i:Nat) {s:Int} (h:0≤s):frL ks o n m i s=s:=by
 cases m with
 | zero=>rfl
 | succ m=>unfold frL;rw [if_neg (by rw [decide_eq_false (by omega)];simp)]
theorem zb4 {ks:List Pg} {o n:Nat} (hall:∀ k,k<n→qe5 ks (qas (k:Int))=true):∀ (m i:Nat),i+m=n→frL ks (o:Int) n m i (-1)=((zb1 (fun i=>qj9 ks ((o+i) % n)) i m).map fun i=>(((o+i) % n:Nat):Int)).getD (-1)
 | 0,i,_=>rfl
 | m+1,i,h=>by
  have hn:0<n:=by omega
  have hk:=Nat.mod_lt (o+i) hn
  unfold frL zb1
  rw [if_pos (by decide),kF_nat,frB_eq (hall _ hk)]
  by_cases hf:qj9 ks ((o+i) % n)=true
  ·rw [if_pos hf,if_pos hf,frL_stop _ _ _ _ _ (by omega)];rfl
  ·rw [if_neg hf,if_neg hf]
   exact zb4 hall m (i+1) (by omega)
theorem frL_sV {ks:List Pg} {o n:Nat} (hall:∀ k,k<n→qe5 ks (qas (k:Int))=true):(sB ks o n=true→frL ks (o:Int) n n 0 (-1)=(sV ks o n:Nat))∧(sB ks o n=false→frL ks (o:Int) n n 0 (-1) = -1):=by
 rw [zb4 hall n 0 (by omega)]
 unfold sB sV unO
 cases zb1 (fun i=>qj9 ks ((o+i) % n)) 0 n with
 | none=>exact ⟨fun h=>by simp at h,fun _=>rfl⟩
 | some i=>exact ⟨fun _=>rfl,fun h=>by simp at h⟩
theorem ac0 (o inc lines fr:Int):(((((!clB o lines||decide (inc<1))||decide (inc>59))||decide (fr < -1))||decide (fr≥6))||fr==o)=((((((!qkt o||decide (inc<1))||decide (inc>59)) || !qqp lines)||decide (fr < -1))||decide (fr≥6))||fr==o):=by
 unfold clB qkt qqp
 cases decide (o≥0) <;> cases decide (o<6) <;> cases decide (lines≥104) <;> cases decide (lines≤256) <;> cases decide (inc<1) <;> cases decide (inc>59) <;> rfl
theorem qra {ks:List Pg} {o:Int} (hb:qe5 ks (98+o)=true) (ho:0≤o∧o<6):(qgq ks o).2.2.2=(qfs ks o).2.2∧((qfs ks o).2.2=0→qgq ks o=((qfs ks o).1,(qfs ks o).2.1,true,0)∧(qcu (qfs ks o).1).2=0∧(qfs ks o).2.1=(qcu (qfs ks o).1).1∧(qfs ks o).1.l=98+o):=by
 have hl:=qf4 hb
 unfold qgq qfs
 rw [if_pos hb]
 by_cases h1:qeo (qb6 ks (98+o))=true
 ·rw [if_pos h1,if_pos h1]
  exact ⟨rfl,fun h=>absurd (show (3:Int)=0 from h) (by decide)⟩
 ·rw [if_neg h1,if_neg h1]
  have hw:qmo (qb6 ks (98+o)).l=true:=by unfold qmo;rw [hl];simp;omega
  rcases qyd hw with h2|h2
  ·rw [if_neg (by rw [h2];simp),h2]
   exact ⟨rfl,fun _=>⟨rfl,rfl,rfl,hl⟩⟩
  ·rw [if_pos (by rw [h2];decide),h2]
   exact ⟨rfl,fun h=>absurd (show (14:Int)=0 from h) (by decide)⟩
theorem zbx {ks:List Pg} {s:Nat} (hb:qe5 ks (qas (s:Int))=true) (h:qj9 ks s=true):qeg ks (s:Nat)=(qb6 ks (qas (s:Int)),(qcj (qb6 ks (qas (s:Int)))).1,true,0)∧(qcj (qb6 ks (qas (s:Int)))).2=0∧(qcj (qb6 ks (qas (s:Int)))).1.owner = -1:=by
 obtain ⟨q1,q2,q3⟩:=qtu h
 revert q2 q3
 unfold qeg
 rw [if_pos hb]
 split
 ·intro q2;exact absurd q2 (by decide)
 ·intro q2 q3
  exact ⟨by rw [show (qcj (qb6 ks (qas (s:Int)))).2=0 from q2],q2,q3⟩
theorem qv6 (p:Pg) (n:Nd):(qdk p n).1.l=p.l∨(qdk p n).1.l=0:=by
 unfold qdk
 split
 ·exact .inr rfl
 ·split
  ·exact .inl rfl
  ·exact .inr rfl
theorem merge2 {a b:Pg} (h:a.l<b.l):qcx [] [a,b]=[a,b]:=by
 show qfj [a] b=_
 unfold qfj
 rw [if_pos h];rfl
theorem AcqN_ok (ks:List Pg) (o inc lines:Int) :
  FnP Tryz.prog 11 [IsAgg [Is (.int .i64 o),Is (.int .i64 inc),Is (.int .i64 lines),Is (.int .i64 (-1))],qal tPg ks] (qbv [qal tI64 (acR ks o inc lines (-1)).need,qal tPg (acR ks o inc lines (-1)).writes,Is (.int .i64 (acR ks o inc lines (-1)).s),Is (.int .i64 (acR ks o inc lines (-1)).code),Is (.bool (acR ks o inc lines (-1)).over)]):=by
 have hcn:=qe9 lines
 have hol:=qju 511#32 (qa7 lines)
 have hml:((qf8 511#32 (qa7 lines)).map qas).length≤1000000:=by rw [List.length_map];omega
 have h1l:([98+o]:List Int).length≤1000000:=by simp
 obtain ⟨W,hE⟩:∃ W,acR ks o inc lines (-1)=W:=⟨_,rfl⟩
 rw [hE]
 unfold acR at hE
 rw [ac0,show ask2 o (-1)=[98+o] from rfl,ifF (show decide ((-1:Int)≥0)=false from rfl),qrl _ hcn] at hE
 refine FnP.enter func11 ntmps11 rfl rfl ?_
 intro c hX
 refine t3 ?_
 intro i2
 refine t12 ?_
 refine kS call31 (qko _) ?_
 refine t14 ?_
 (refine qcq rfl rfl rfl (fun hg=>(by have hg0:=hg;(try simp at hg);exact qac call32 (qlj _) ⟨evS,trivial⟩)) ?_)
 refine t21 ?_
 refine cN ?_ ?_ <;> intro h1
 ·replace hE:=qce hE h1
  refine t11 ?_
  subst hE
  exact qaq (Bs:=[_,_,_,_,_]) results11 eT () SubL.rfl' (List.nil_sublist _)
 rw [ifF h1] at hE
 have hcl:(0≤o∧o<6)∧(104≤lines∧lines≤256)∧(1≤inc∧inc≤59):=by unfold qkt qqp at h1;simp at h1;omega
 obtain ⟨ho,hli,hinc⟩:=hcl
 obtain ⟨cl,rfl⟩:∃ n:Nat,o=(n:Int):=⟨o.toNat,by omega⟩
 clear h1
 refine t7 ?_
 refine qap rfl (qcb (size:=1) (qs:=[(0,_)]) rfl rfl rfl ⟨⟨rfl,_,(er rfl),qbn⟩,trivial⟩ rf rf) ?_
 refine t11 ?_
 refine cN ?_ ?_ <;> intro h4
 ·exact absurd h4 (by simp)
 skip
 refine t7 ?_
 refine kS call33 (qkn _ [98+(cl:Int)] h1l) ?_
 refine t10 ?_
 refine cN ?_ ?_ <;> intro h7
 ·replace hE:=qce hE h7
  refine t12 ?_
  subst hE
  exact qaq (Bs:=[_,_,_,_,_]) results11 eT () SubL.rfl' (List.nil_sublist _)
 rw [ifF h7] at hE
 have hb:=qnf (of_decide_eq_false h7) (List.mem_singleton.2 rfl)
 have hno:=qra hb ho
 clear h7
 refine t7 ?_
 refine qap rfl (by ((refine qac call34 (qrb _ _ ?_) ⟨evS,⟨evS,trivial⟩⟩);all_goals (omega))) ?_
 refine t6 ?_
 intro i10
 refine s1 ?_
 intro i11
 refine t8 ?_
 obtain ⟨nv,hnv⟩:∃ q,qgq ks (cl:Int)=q:=⟨_,rfl⟩
 rw [hnv] at hno ⊢
 obtain ⟨q1,q2,q3,q4⟩:=nv
 dsimp only at hno ⊢
 generalize qfs ks (cl:Int)=nd at hE hno ⊢
 obtain ⟨rfl,hno2⟩:=hno
 clear hnv
 refine t5 ?_
 refine cN ?_ ?_ <;> intro h10
 ·replace hE:=qce hE h10
  refine t12 ?_
  subst hE
  exact qaq (Bs:=[_,_,_,_,_]) results11 eT () SubL.rfl' (List.nil_sublist _)
 rw [ifF h10] at hE
 have hn0:nd.2.2=0:=by simpa using h10
 obtain ⟨he,hnr,hnn,hnl⟩:=hno2 hn0
 simp only [Prod.mk.injEq] at he
 obtain ⟨rfl,rfl,rfl,_⟩:=he
 rw [hn0]
 clear h10 hno2
 refine t5 ?_
 intro i13
 refine t5 ?_
 intro i14
 refine t10 ?_
 refine cN ?_ ?_ <;> intro h14
 ·exact absurd h14 (by simp)
 skip
 refine t6 ?_
 refine kS call35 (qox _) ?_
 refine t11 ?_
 refine cN ?_ ?_ <;> intro h19
 ·skip
  refine t5 ?_
  refine kS call37 (qq1 (511#32) _ hcn) ?_
  refine qap rfl (by ((refine qac call36 (qkd _ ?_) ⟨evS,trivial⟩);all_goals (omega))) ?_
  refine qap rfl (by ((refine qac call33 (qkn _ _ ?_) ⟨evS,⟨evS,trivial⟩⟩);all_goals (assumption))) ?_
  refine t10 ?_
  refine cN ?_ ?_ <;> intro h21
  ·replace hE:=qce hE h21
   refine t13 ?_
   subst hE
   exact qaq (Bs:=[_,_,_,_,_]) results11 eT () SubL.rfl' (List.nil_sublist _)
  rw [ifF h21] at hE
  have hall:∀ k,k<qa7 lines→qe5 ks (qas (k:Int))=true:=fun k hk=>qnf (of_decide_eq_false h21) (by rw [← qrl _ hcn];exact qw6 hk)
  clear h21
  obtain ⟨hf1,hf2⟩:=frL_sV (o:=cl) hall
  unfold acU at hE
  refine t13 ?_
  refine qap rfl (by ((refine qac call38 (qph _ _ _ ?_ hcn) ⟨evS,⟨evS,⟨evS,trivial⟩⟩⟩);all_goals (omega))) ?_
  refine t13 ?_
  refine cN ?_ ?_ <;> intro h25
  ·rw [hf2 (by simpa using h25),ifT (by decide)] at hE
   refine t11 ?_
   subst hE
   exact qaq (Bs:=[_,_,_,_,_]) results11 eT () SubL.rfl' (List.nil_sublist _)
  have g4:sB ks cl (qa7 lines)=true:=by simpa using h25
  obtain ⟨hfr,hsn⟩:=sB_yes g4
  rw [hf1 g4,ifF (decide_eq_false (by omega))] at hE
  obtain ⟨s,hs⟩:∃ s,sV ks cl (qa7 lines)=s:=⟨_,rfl⟩
  rw [hs] at hfr hsn hE ⊢
  obtain ⟨e1,e2,e3⟩:=zbx (hall s hsn) hfr
  have hheader:=qll ks (s:Nat)
  rw [e1] at hheader
  (try dsimp only at hheader)
  have hwh:=qxi e2 ho
  have hpl:(qb6 ks (qas (s:Int))).l=104+16*(s:Int):=by rw [qf4 (hall s hsn)];unfold qas;rw [if_pos (by omega)]
  clear h25
  refine t6 ?_
  refine kS call39 (hheader) ?_
  refine t6 ?_
  intro i18
  refine s1 ?_
  intro i19
  refine t15 ?_
  refine cN ?_ ?_ <;> intro h32
  ·exact absurd h32 (by simp)
  skip
  refine t7 ?_
  refine cN ?_ ?_ <;> intro h34
  ·exact absurd h34 (by simp)
  skip
  refine t10 ?_
  refine cN ?_ ?_ <;> intro h36
  ·exact absurd h36 (by rw [e3];simp)
  skip
  refine t35 ?_
  refine kS call40 (qhf _ (ndS (nd).2.1 s inc)) ?_
  refine t10 ?_
  refine kS call41 (qhm _ (hdS (qcj (qb6 ks (qas (s:Int)))).1 (cl:Int))) ?_
  refine t7 ?_
  unfold acW at hE
  rw [show ndA nd.2.1 (s:Int) inc=ndS nd.2.1 s inc from rfl] at hE
  have hal:=qv6 nd.1 (ndS nd.2.1 s inc)
  obtain ⟨a,ha⟩:∃ a,(qdk nd.1 (ndS nd.2.1 s inc)).1=a:=⟨_,rfl⟩
  rw [ha] at hal hE ⊢
  rw [hwh]
  dsimp only
  obtain ⟨b,hb⟩:∃ b,hdA (qb6 ks (qas (s:Int))) cl=b:=⟨_,rfl⟩
  have hbl:b.l=104+16*(s:Int):=by rw [← hb];exact hpl
  rw [hb] at hE ⊢
  have hlt':a.l<b.l:=by omega
  rw [merge2 hlt'] at hE
  refine t3 ?_
  (refine qzh rfl (qhj (T:=tPg) ([a,b]) (size:=9) (Rs:=[a,b].flatMap tPg.cells) (qs:=[(0,tPg.cells a),(1,tPg.cells b)]) rfl rfl rfl ⟨⟨rfl,_,(er rfl),qbn⟩,⟨⟨rfl,_,(er rfl),qbn⟩,trivial⟩⟩ rf rf SubLs.rfl') ?_;intro i191)
  refine t11 ?_
  refine cN ?_ ?_ <;> intro h44
  ·exact absurd h44 (by simp)
  skip
  refine t5 ?_
  (refine qe6 rfl (by ((refine qdy qbh call42 (qje [a,b] 2 (some ⟨i191,0,none⟩,2) rfl ?_) ⟨evS,trivial⟩);all_goals (simp))) ?_;intro i213)
  refine t9 ?_
  obtain ⟨ys,hy1,hy2⟩:=i213
  dsimp only
  have hy:=qzt hlt' hy1 hy2
  subst hy
  refine qee hX (v:=slV 2 (some ⟨i191,0,none⟩,2)) qae ?_
  subst hE
  exact qaq (Bs:=[qal tI64 [],qal tPg [a,b],Is (.int .i64 (s:Nat)),Is (.int .i64 0),Is (.bool true)]) results11 eT () SubL.rfl' (List.nil_sublist _)
 exact absurd h19 (by simp)
end Go.Proofs.YtmgoplaamlignaaGreat
