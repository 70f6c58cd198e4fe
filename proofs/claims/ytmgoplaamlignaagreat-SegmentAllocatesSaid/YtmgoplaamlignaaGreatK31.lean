/- Texts laid together: walks of functions, what they compute, and plain laws of it. Own work. -/
import Derived.Test.YtmgoplaamlignaaGreatK30
import Derived.Test.YtmgoplaamlignaaGreatK1
namespace Go.Proofs.YtmgoplaamlignaaGreat
open Go.RowKit Tryz
set_option linter.unusedVariables false
set_option linter.unusedSimpArgs false
set_option maxRecDepth 100000
set_option maxHeartbeats 4000000
def ndPg (ks:List Pg) (f:Int):Pg:=qb6 ks (98+f)
def PEN (op:Ep26) (ks:List Pg) (r:ES26):Prop:=PES r∧(op.kind=5→r.over=true→r.out.code=0→(qcu (ndPg ks op.for_)).2=0∧∃ m,Nld (qcu (ndPg ks op.for_)).1 m∧qo9 m<qo9 (qcu (ndPg ks op.for_)).1∧Asc r.writes∧(qdk (ndPg ks op.for_) m).1∈r.writes)
def NI (op:Ep26) (ks:List Pg) (n k:Nat) (pg:List Pg) (nd:List Nd):Prop:=(pg.length=nd.length∧∀ p,p∈pg→Ln p)∧nd.length≤k∧(k=n→1≤nd.length)∧(op.kind=5→(k≤1→nd=[]∧pg=[])∧(2≤k→pg=[ndPg ks op.for_]∧nd=[(qcu (ndPg ks op.for_)).1]∧(qcu (ndPg ks op.for_)).2=0))
theorem NI_skip {op:Ep26} {ks:List Pg} {ask:List Int} {k:Nat} {pg:List Pg} {nd:List Nd} {z:Int} (h:NI op ks ask.length k pg nd) (hz:ask[k]?=some z) (h97:z=97) (hl:ask.getLast?≠some 97) (h5:op.kind=5→ask=[97,98+op.for_]) (hf:op.kind=5→0≤op.for_):NI op ks ask.length (k+1) pg nd:=by
 obtain ⟨h1,h2,h3,h4⟩:=h
 refine ⟨h1,by omega,fun hk=>?_,fun hk=>⟨fun hk1=>(h4 hk).1 (by omega),fun hk2=>?_⟩⟩
 ·refine absurd ?_ hl
  rw [List.getLast?_eq_getElem?,← hk,Nat.add_sub_cancel,hz,h97]
 ·have e:=h5 hk
  have hkl:=(List.getElem?_eq_some_iff.1 hz).1
  rw [e] at hkl
  have hk1:k=1:=by simp at hkl;omega
  subst hk1
  rw [e] at hz
  have:=hf hk
  simp at hz
  omega
theorem NI_node {op:Ep26} {ks:List Pg} {ask:List Int} {k:Nat} {pg:List Pg} {nd:List Nd} {z:Int} (h:NI op ks ask.length k pg nd) (hz:ask[k]?=some z) (h97:z≠97) (h5:op.kind=5→ask=[97,98+op.for_]) (ho:(qcu (qb6 ks z)).2=0):NI op ks ask.length (k+1) (pg++[qb6 ks z]) (nd++[(qcu (qb6 ks z)).1]):=by
 obtain ⟨h1,h2,h3,h4⟩:=h
 refine ⟨⟨by simp [h1.1],qw7 h1.2 (ln_readN ho)⟩,by simp;omega,fun hk=>by simp,fun hk=>?_⟩
 have e:=h5 hk
 have hkl:=(List.getElem?_eq_some_iff.1 hz).1
 rw [e] at hkl hz
 have hk01:k=0∨k=1:=by simp at hkl;omega
 rcases hk01 with rfl|rfl
 ·simp at hz;exact absurd hz.symm h97
 ·have ez:z=98+op.for_:=by simp at hz;exact hz.symm
  obtain ⟨q1,q2⟩:=(h4 hk).1 (by omega)
  refine ⟨fun hk1=>by omega,fun _=>?_⟩
  subst ez
  rw [q1,q2]
  exact ⟨rfl,rfl,ho⟩
theorem qfh (op:Ep26) (ks:List Pg) (hks:ks.length≤10000) (hol:op.list.length≤1000):FnF Tryz.prog 108 [qqi op,qal tPg ks] (fun B=>qek (PEN op ks) fun r=>qow B r):=by
 refine FnF.enter func108 ntmps108 rfl rfl ?_
 intro c hX
 refine t3 ?_
 intro i2
 refine s1 ?_
 intro i4
 refine t6 ?_
 refine qap rfl (by ((refine qac call141 (qmf op ?_) ⟨qar,trivial⟩);all_goals (omega))) ?_
 (refine qa5 25 rfl ?_;intro x25 hx25)
 refine t3 ?_
 refine cN ?_ ?_ <;> intro h1
 ·refine t2 ?_
  refine kRF call142 (qcv c.w.heap.size _ _) ?_
  refine t5 ?_
  exact rXF (⟨_,_,(⟨_,_,_,_,_⟩:EO26),_,_⟩:ES26) results108 (hp:=by exact ⟨⟨wl0,Nat.zero_le _,Nat.zero_le _⟩,fun _ _ h=>absurd (show (1:Int)=0 from h) (by decide)⟩)
 have hea:EA op:=hx25 (by simpa using h1)
 obtain ⟨he1,he2,he3,he4⟩:=hea
 refine t9 ?_
 refine qcn 3 tI64 ?_
 refine t11 ?_
 refine qb3 [(1,_),(2,_),(4,_)] [blk i4 _ _,blk i2 _ _] (fun yc:(List Int)×(Option Addr×Nat)=>yc.1.length≤1∧(op.kind=5→yc.1=[97])) (fun yc=>[(5,Is (slV (yc.1).length yc.2))]) (fun yc=>[buf (slV (yc.1).length yc.2) 3 tI64 (yc.1)]) qah qab ?_ ?_
 rotate_left
 focus
  refine cN ?_ ?_ <;> intro h4
  ·refine t2 ?_
   refine qap rfl (OpP.to (qad (size:=1) (qs:=[(0,_)]) rfl rfl rfl ⟨⟨rfl,_,(er rfl),qaf⟩,trivial⟩ rf rf) (SubL.row1 (T:=tI64) (x:=_) rf rf rf qaj)) ?_
   (refine qe6 rfl (qb9 (er rfl) (fun _=>qae) (by exact er rfl) (by exact qep rfl rfl rfl) qbt) ?_;intro i38)
   refine t2 ?_
   exact qak ([97],i38) ⟨Nat.le_refl 1,fun _=>rfl⟩ qah qab
  have hn5:op.kind=5→([]:List Int)=[97]:=fun h5=>by rw [h5] at h4;exact absurd h4 (by decide)
  refine s1 ?_
  exact qak ([],(none,0)) ⟨Nat.zero_le _,hn5⟩ qah qab
 rintro ⟨ask,v⟩ hI
 dsimp only at hI ⊢
 obtain ⟨ha1,ha2⟩:=hI
 refine t7 ?_
 refine qb3 [(1,_),(2,_),(4,_)] [blk i4 _ _,blk i2 _ _] (fun yc:(List Int)×(Option Addr×Nat)=>(1≤yc.1.length∧yc.1.length≤7)∧yc.1.getLast?≠some 97∧(op.kind=5→yc.1=[97,98+op.for_])) (fun yc=>[(5,Is (slV (yc.1).length yc.2))]) (fun yc=>[buf (slV (yc.1).length yc.2) 3 tI64 (yc.1)]) qah qab ?_ ?_
 rotate_left
 focus
  refine t7 ?_
  refine cN ?_ ?_ <;> intro h8
  ·have hk3:op.kind=3:=by simpa using h8
   refine t6 ?_
   refine qaz [(1,_),(2,_),(4,_)] [blk i4 _ _,blk i2 _ _] (fun y:Nat×(List Int)×(Option Addr×Nat)=>y.1≤6∧(y.2.1.length=ask.length+y.1∧(0<y.1→y.2.1.getLast?≠some 97))) (fun y=>[(5,Is (slV (y.2.1).length y.2.2)),(6,Is (.int .i64 (y.1:Nat)))]) (fun y=>[buf (slV (y.2.1).length y.2.2) 3 tI64 (y.2.1)]) (fun y=>6-y.1) (0,ask,v) ?_ qah qab ?_
   ·exact ⟨by exact Nat.zero_le _,⟨rfl,fun h=>absurd h (Nat.lt_irrefl _)⟩⟩
   rintro ⟨k,a3,v_0⟩ ⟨hk,hI⟩
   dsimp only at hk hI ⊢
   refine t7 ?_
   refine cN ?_ ?_ <;> intro h10
   ·have hlt:k<6:=by have:=of_decide_eq_true h10;omega
    clear h10
    refine t8 ?_
    refine qap rfl (OpP.to (qad (size:=1) (qs:=[(0,_)]) rfl rfl rfl ⟨⟨rfl,_,(er rfl),qaf⟩,trivial⟩ rf rf) (SubL.row1 (T:=tI64) (x:=_) rf rf rf qaj)) ?_
    (refine qe6 rfl (qb9 (er rfl) (fun _=>qae) (by exact er rfl) (by exact qep rfl rfl rfl) qbt) ?_;intro i57)
    refine t9 ?_
    refine qaa (k+1,_,_) ?_ ?_ qah qab
    ·exact ⟨by omega,⟨by simp only [List.length_append,List.length_cons,List.length_nil];omega,fun _=>by simp;omega⟩⟩
    ·exact (by omega)
   have hke:k=6:=by have:=of_decide_eq_false h10;omega
   clear h10
   subst hke
   have hr3:(1≤a3.length∧a3.length≤7)∧a3.getLast?≠some 97∧(op.kind=5→a3=[97,98+op.for_]):=⟨by omega,hI.2 (by omega),fun h=>by omega⟩
   refine t5 ?_
   exact qak (a3,v_0) hr3 qah qab
  refine t7 ?_
  refine cN ?_ ?_ <;> intro h13
  ·have hk56:op.kind=5:=by simpa using h13
   refine t2 ?_
   refine cN ?_ ?_ <;> intro h13
   ·have hk56:op.kind=5:=by simpa using h13
    refine t5 ?_
    refine qap rfl (OpP.to (qad (size:=1) (qs:=[(0,_)]) rfl rfl rfl ⟨⟨rfl,_,(er rfl),qaf⟩,trivial⟩ rf rf) (SubL.row1 (T:=tI64) (x:=_) rf rf rf qaj)) ?_
    (refine qe6 rfl (qb9 (er rfl) (fun _=>qae) (by exact er rfl) (by exact qep rfl rfl rfl) qbt) ?_;intro i66)
    refine t3 ?_
    have hfo:=he3 (by omega)
    have hr5:(1≤(ask++[98+op.for_]).length∧(ask++[98+op.for_]).length≤7)∧(ask++[98+op.for_]).getLast?≠some 97∧(op.kind=5→ask++[98+op.for_]=[97,98+op.for_]):=⟨⟨by simp,by simp;omega⟩,by simp;omega,fun h=>by rw [ha2 h];rfl⟩
    exact qak (ask++[98+op.for_],i66) hr5 qah qab
   have hn5:op.kind≠5:=by simpa using h13
   refine t5 ?_
   refine qap rfl (OpP.to (qad (size:=1) (qs:=[(0,_)]) rfl rfl rfl ⟨⟨rfl,_,(er rfl),qaf⟩,trivial⟩ rf rf) (SubL.row1 (T:=tI64) (x:=_) rf rf rf qaj)) ?_
   (refine qe6 rfl (qb9 (er rfl) (fun _=>qae) (by exact er rfl) (by exact qep rfl rfl rfl) qbt) ?_;intro i46)
   refine t3 ?_
   have hr1:(1≤(ask++[98+op.client]).length∧(ask++[98+op.client]).length≤7)∧(ask++[98+op.client]).getLast?≠some 97∧(op.kind=5→ask++[98+op.client]=[97,98+op.for_]):=⟨⟨by simp,by simp;omega⟩,by simp;omega,fun h=>absurd h hn5⟩
   exact qak (ask++[98+op.client],i46) hr1 qah qab
  have hn5:op.kind≠5:=by simpa using h13
  refine t5 ?_
  refine cN ?_ ?_ <;> intro h14
  ·have hk56:op.kind=6:=by simpa using h14
   refine t5 ?_
   refine qap rfl (OpP.to (qad (size:=1) (qs:=[(0,_)]) rfl rfl rfl ⟨⟨rfl,_,(er rfl),qaf⟩,trivial⟩ rf rf) (SubL.row1 (T:=tI64) (x:=_) rf rf rf qaj)) ?_
   (refine qe6 rfl (qb9 (er rfl) (fun _=>qae) (by exact er rfl) (by exact qep rfl rfl rfl) qbt) ?_;intro i66)
   refine t3 ?_
   have hfo:=he3 (by omega)
   have hr5:(1≤(ask++[98+op.for_]).length∧(ask++[98+op.for_]).length≤7)∧(ask++[98+op.for_]).getLast?≠some 97∧(op.kind=5→ask++[98+op.for_]=[97,98+op.for_]):=⟨⟨by simp,by simp;omega⟩,by simp;omega,fun h=>by rw [ha2 h];rfl⟩
   exact qak (ask++[98+op.for_],i66) hr5 qah qab
  refine t5 ?_
  refine qap rfl (OpP.to (qad (size:=1) (qs:=[(0,_)]) rfl rfl rfl ⟨⟨rfl,_,(er rfl),qaf⟩,trivial⟩ rf rf) (SubL.row1 (T:=tI64) (x:=_) rf rf rf qaj)) ?_
  (refine qe6 rfl (qb9 (er rfl) (fun _=>qae) (by exact er rfl) (by exact qep rfl rfl rfl) qbt) ?_;intro i46)
  refine t3 ?_
  have hr1:(1≤(ask++[98+op.client]).length∧(ask++[98+op.client]).length≤7)∧(ask++[98+op.client]).getLast?≠some 97∧(op.kind=5→ask++[98+op.client]=[97,98+op.for_]):=⟨⟨by simp,by simp;omega⟩,by simp;omega,fun h=>absurd h hn5⟩
  exact qak (ask++[98+op.client],i46) hr1 qah qab
 rintro ⟨ask2,v2⟩ hI
 dsimp only at hI ⊢
 obtain ⟨hb1,hb2,hb3⟩:=hI
 refine qa8 hX (v:=slV ask2.length v2) qae ?_
 refine qb0 5 (qal tI64 ask2) rfl qfm ?_
 refine t4 ?_
 refine qap rfl (by ((refine qac call45 (qgy _ ask2 ?_) ⟨qar,⟨qar,trivial⟩⟩);all_goals (omega))) ?_
 refine t5 ?_
 have hml:=qi7 ks ask2
 refine t6 ?_
 refine cN ?_ ?_ <;> intro h17
 ·refine t9 ?_
  exact rXF (⟨_,_,(⟨_,_,_,_,_⟩:EO26),_,_⟩:ES26) results108 (hp:=by exact ⟨⟨wl0,by dsimp only;omega,Nat.zero_le _⟩,fun _ h _=>Bool.noConfusion (show false=true from h)⟩)
 refine t24 ?_
 refine qcn 115 tNd ?_
 refine qcn 53 tPg ?_
 refine qaz [(1,_),(2,_),(4,_),(5,_)] [blk i4 _ _,blk i2 _ _] (fun y:Nat×(BitVec 32)×(List Pg)×(List Nd)×(Option Addr×Nat)×(Option Addr×Nat)=>y.1≤(ask2).length∧(NI op ks ask2.length y.1 y.2.2.1 y.2.2.2.1)) (fun y=>[(8,Is (.int .u32 (UV y.2.1))),(9,Is (slV (y.2.2.1).length y.2.2.2.2.1)),(10,Is (slV (y.2.2.2.1).length y.2.2.2.2.2)),(11,Is (.int .i64 (y.1:Nat)))]) (fun y=>[buf (slV (y.2.2.1).length y.2.2.2.2.1) 53 tPg (y.2.2.1),buf (slV (y.2.2.2.1).length y.2.2.2.2.2) 115 tNd (y.2.2.2.1)]) (fun y=>(ask2).length-y.1) (0,0#32,[],[],(none,0),(none,0)) ?_ qah qab ?_
 ·exact ⟨by exact Nat.zero_le _,⟨⟨rfl,lns0⟩,Nat.le_refl 0,fun h=>by omega,fun h=>⟨fun _=>⟨rfl,rfl⟩,fun h=>absurd h (by decide)⟩⟩⟩
 rintro ⟨k,g,pg,nd,v_0,v_1⟩ ⟨hk,hI⟩
 dsimp only at hk hI ⊢
 refine t9 ?_
 refine cN ?_ ?_ <;> intro h23
 ·have hlt:k<(ask2).length:=by have:=of_decide_eq_true h23;omega
  clear h23
  obtain ⟨z,hz⟩:∃ q,(ask2)[k]?=some q:=⟨_,List.getElem?_eq_getElem hlt⟩
  have hnl:=hI.2.1
  have hpl:=hI.1.1
  refine t11 ?_
  refine kRF call19 (qbu _ _) ?_
  refine t4 ?_
  intro i12
  refine t8 ?_
  refine kRF call49 (qb5 _) ?_
  refine t2 ?_
  refine cN ?_ ?_ <;> intro h26
  ·refine t20 ?_
   refine cN ?_ ?_ <;> intro h28
   ·refine t12 ?_
    refine kRF call142 (qcv c.w.heap.size _ _) ?_
    refine s1 ?_
    intro i15
    refine t22 ?_
    exact rXF (⟨_,_,(⟨_,_,_,_,_⟩:EO26),_,_⟩:ES26) results108 (hp:=by exact ⟨⟨wl0,Nat.zero_le _,Nat.zero_le _⟩,fun _ _ h=>absurd (show (3:Int)=0 from h) (by decide)⟩)
   refine t5 ?_
   refine kRF call142 (qcv c.w.heap.size _ _) ?_
   refine s1 ?_
   intro i15
   refine t22 ?_
   exact rXF (⟨_,_,(⟨_,_,_,_,_⟩:EO26),_,_⟩:ES26) results108 (hp:=by exact ⟨⟨wl0,Nat.zero_le _,Nat.zero_le _⟩,fun _ _ h=>absurd (show (3:Int)=0 from h) (by decide)⟩)
  refine t12 ?_
  refine cN ?_ ?_ <;> intro h33
  ·have hskip:=NI_skip hI hz (by simpa using h33) hb2 hb3 (fun h5=>(he3 (Or.inl h5)).1)
   refine t3 ?_
   refine kRF call143 (qil _) ?_
   (refine qf1 118 rfl ?_;intro x118)
   refine t14 ?_
   refine cN ?_ ?_ <;> intro h35
   ·refine t2 ?_
    refine kRF call142 (qcv c.w.heap.size _ _) ?_
    refine t11 ?_
    exact rXF (⟨_,_,(⟨_,_,_,_,_⟩:EO26),_,_⟩:ES26) results108 (hp:=by exact ⟨⟨wl0,Nat.zero_le _,Nat.zero_le _⟩,fun _ _ h=>absurd (show (14:Int)=0 from h) (by decide)⟩)
   refine t17 ?_
   refine qaa (k+1,_,_,_,_,_) ?_ ?_ qah qab
   ·exact ⟨by omega,by exact hskip⟩
   ·exact (by omega)
  refine t5 ?_
  refine kRF call79 (qmw _) ?_
  refine t4 ?_
  intro i18
  refine t11 ?_
  refine cN ?_ ?_ <;> intro h39
  ·refine t2 ?_
   refine kRF call142 (qcv c.w.heap.size _ _) ?_
   refine t10 ?_
   exact rXF (⟨_,_,(⟨_,_,_,_,_⟩:EO26),_,_⟩:ES26) results108 (hp:=by exact ⟨⟨wl0,Nat.zero_le _,Nat.zero_le _⟩,fun _ _ h=>absurd (show (14:Int)=0 from h) (by decide)⟩)
  have hnode:=NI_node hI hz (by simpa using h33) hb3 (by simpa using h39)
  refine t6 ?_
  refine qap rfl (OpP.fr (qa2 (size:=9) (qs:=[(0,_)]) rfl rfl rfl ⟨⟨rfl,_,(er rfl),qaf⟩,trivial⟩ rf rf) qcf (SubL.row1 (T:=tPg) (x:=(⟨_,_,_,_,_,_,_,_,_⟩:Pg)) rf rf rf qaj)) ?_
  (refine qe6 rfl (qb9 (er rfl) (fun _=>qae) (by exact Ev.sub rfl (by exact qfm)) (by exact qep rfl rfl rfl) qbt) ?_;intro i136)
  refine t6 ?_
  refine qap rfl (OpP.to (qad (size:=16) (qs:=[(0,_)]) rfl rfl rfl ⟨⟨rfl,_,(er rfl),qaf⟩,trivial⟩ rf rf) (SubL.row1 (T:=tNd) (x:=(⟨_,_,_,_,(⟨(⟨_,_⟩:Pt),_⟩:Re),(⟨(⟨_,_⟩:Pt),_⟩:Re),(⟨(⟨_,_⟩:Pt),_⟩:Re),(⟨(⟨_,_⟩:Pt),_⟩:Re)⟩:Nd)) rf rf rf qaj)) ?_
  (refine qe6 rfl (qb9 (er rfl) (fun _=>qae) (by exact er rfl) (by exact qep rfl rfl rfl) qbt) ?_;intro i140)
  refine t9 ?_
  refine qaa (k+1,_,_,_,_,_) ?_ ?_ qah qab
  ·exact ⟨by omega,by exact hnode⟩
  ·exact (by omega)
 have hke:k=ask2.length:=by have:=of_decide_eq_false h23;omega
 clear h23
 subst hke
 obtain ⟨⟨hn1,hnp⟩,hn2,hn3,hn4⟩:=hI
 have hn5:=hn3 rfl
 obtain ⟨n0,nr,rfl⟩:∃ a r,nd=a :: r:=by
  cases nd with
  | nil=>simp at hn5
  | cons a r=>exact ⟨a,r,rfl⟩
 obtain ⟨p0,pr,rfl⟩:∃ a r,pg=a :: r:=by
  cases pg with
  | nil=>simp at hn1
  | cons a r=>exact ⟨a,r,rfl⟩
 have hz0:(n0 :: nr)[0]?=some n0:=rfl
 have hp0:(p0 :: pr)[0]?=some p0:=rfl
 have hp0l:Ln p0:=hnp _ (List.mem_cons_self ..)
 refine t10 ?_
 intro i20
 refine t17 ?_
 refine cN ?_ ?_ <;> intro h45
 ·have hk1:op.kind=1:=by simpa using h45
  refine t2 ?_
  refine qa0 rfl (by kernel_rfl) ?_
  refine qag 13 (by kernel_rfl) ?_
  refine s1 ?_
  refine qbc (by exact qao (k:=0) (er rfl) qbp (er rfl) rfl rfl qca qbt) ?_
  refine qbc (by exact qbg (k:=0) (er rfl) qbp qbt rfl rfl rfl rfl) ?_
  refine qbc (by exact qer (er rfl) qbp hz0 rfl rfl rf) ?_
  refine t2 ?_
  (refine qem rfl rfl (fun hg=>(by have hg0:=hg;(try simp at hg);exact qao (k:=0) evG qbp evG rfl rfl qca qbt)) ?_)
  (refine qem rfl rfl (fun hg=>(by have hg0:=hg;(try simp at hg);exact qbg (k:=3) evG qbp qbt rfl rfl rfl rfl)) ?_)
  (refine qem rfl rfl (fun hg=>(by have hg0:=hg;(try simp at hg);exact qer evG qbp hz0 rfl rfl rf)) ?_)
  (refine qem rfl rfl (fun hg=>(by have hg0:=hg;(try simp at hg);exact qbf (k:=2) evG rfl rfl rfl rfl)) ?_)
  (refine qem rfl rfl (fun hg=>(by have hg0:=hg;(try simp at hg);exact qd9 evG qbp rf rf rf)) ?_)
  refine t2 ?_
  refine ⟨rfl,?_⟩
  refine qat ?_
  refine s1 ?_
  refine cN ?_ ?_ <;> intro h46
  ·refine t2 ?_
   refine kRF call142 (qcv c.w.heap.size _ _) ?_
   refine t7 ?_
   exact rXF (⟨_,_,(⟨_,_,_,_,_⟩:EO26),_,_⟩:ES26) results108 (hp:=by exact ⟨⟨wl0,Nat.zero_le _,Nat.zero_le _⟩,fun _ _ h=>absurd (show (17:Int)=0 from h) (by decide)⟩)
  refine t3 ?_
  refine qd2 (b:=i2) hX qae ?_
  refine qb0 2 (qdo (tEp26.cells op)) rfl qfm ?_
  refine qa0 rfl (by kernel_rfl) ?_
  refine qct [0,0,0,0,0,0,1,1,2,1,1,2,1,1,2] (by kernel_rfl) (by kernel_rfl) ?_
  refine qb7 (qay rfl) ?_
  refine qb7 (qay rfl) ?_
  refine qb7 (qay rfl) ?_
  refine qb7 (qay rfl) ?_
  refine qb7 (by exact qa1 (k:=2) (er rfl) rfl rfl rfl rfl qbo) ?_
  refine qb7 (by exact qbw (er rfl) rfl rfl rfl) ?_
  refine qc4 (by exact qao (k:=0) (er rfl) qbp (er rfl) rfl rfl qca qbt) ?_
  refine qc4 (by exact qbg (k:=0) (er rfl) qbp qbt rfl rfl rfl rfl) ?_
  refine qiy (by exact qb1 (z':={ n0 with pin:=true }) (er rfl) (er rfl) qaf qae hz0 rfl rf rf) ?_
  refine qc4 (by exact qao (k:=0) (er rfl) qbp (er rfl) rfl rfl qca qbt) ?_
  refine qc4 (by exact qbg (k:=1) (er rfl) qbp qbt rfl rfl rfl rfl) ?_
  refine qiy (by exact qb1 (z':={ n0 with pin:=true,ep:=g }) (er rfl) (er rfl) qaf qae (show ((n0 :: nr).set 0 { n0 with pin:=true })[0]?=some { n0 with pin:=true } from rfl) rfl rf rf) ?_
  refine qc4 (by exact qao (k:=0) (er rfl) qbp (er rfl) rfl rfl qca qbt) ?_
  refine qc4 (by exact qbg (k:=3) (er rfl) qbp qbt rfl rfl rfl rfl) ?_
  refine qiy (by exact qb1 (z':={ n0 with pin:=true,ep:=g,inc:=op.inc }) (er rfl) (er rfl) qaf qae (show (((n0 :: nr).set 0 { n0 with pin:=true }).set 0 { n0 with pin:=true,ep:=g })[0]?=some { n0 with pin:=true,ep:=g } from rfl) rfl rf rf) ?_
  refine qeu ?_
  refine qat ?_
  refine t2 ?_
  refine qap rfl (OpP.to (qad (size:=1) (qs:=[(0,_)]) rfl rfl rfl ⟨⟨rfl,_,(er rfl),qaf⟩,trivial⟩ rf rf) (SubL.row1 (T:=tI64) (x:=_) rf rf rf qaj)) ?_
  refine t6 ?_
  refine qa0 rfl (by kernel_rfl) ?_
  refine qag 13 (by kernel_rfl) ?_
  refine s1 ?_
  refine qbc (by exact qao (k:=0) (er rfl) qbp (er rfl) rfl rfl qca qbt) ?_
  refine qbc (by exact qbd (er rfl) qbp (by exact hp0) rfl rfl rfl) ?_
  refine s1 ?_
  refine qbc (by exact qao (k:=0) (er rfl) qbp (er rfl) rfl rfl qca qbt) ?_
  refine qbc (by exact qbd (er rfl) qbp rf rfl rfl rfl) ?_
  refine qbc (qac call51 (qdp p0 (⟨_,_,_,_,(⟨(⟨_,_⟩:Pt),_⟩:Re),(⟨(⟨_,_⟩:Pt),_⟩:Re),(⟨(⟨_,_⟩:Pt),_⟩:Re),(⟨(⟨_,_⟩:Pt),_⟩:Re)⟩:Nd)) ⟨qbb,⟨qbb,trivial⟩⟩) ?_
  refine t3 ?_
  refine qka (qbi rfl qbo rfl) ?_
  refine qcp rfl rfl rfl (by kernel_rfl) (qbz qar qaf rfl rfl rfl qbo) ?_
  refine s1 ?_
  refine ⟨rfl,?_⟩
  intro i22
  refine qat ?_
  refine t4 ?_
  refine qap rfl (OpP.fr (qa2 (size:=9) (qs:=[(0,_)]) rfl rfl rfl ⟨⟨rfl,_,(er rfl),qaf⟩,trivial⟩ rf rf) qcf (SubL.row1 (T:=tPg) (x:=(⟨_,_,_,_,_,_,_,_,_⟩:Pg)) rf rf rf qaj)) ?_
  refine t6 ?_
  exact rXF (⟨_,_,(⟨_,_,_,_,_⟩:EO26),_,_⟩:ES26) results108 (hp:=by exact ⟨⟨wl1 (qf9 _ hp0l),Nat.zero_le _,by (show 1≤10;omega)⟩,fun h=>by omega⟩)
 refine t7 ?_
 refine cN ?_ ?_ <;> intro h50
 ·have hk2:op.kind=2:=by simpa using h50
  refine t2 ?_
  refine cN ?_ ?_ <;> intro h50
  ·have hk2:op.kind=2:=by simpa using h50
   refine t3 ?_
   refine qap rfl (by exact qao (k:=0) (er rfl) qbp (er rfl) rfl rfl qca qbt) ?_
   refine qap rfl (by exact qbd (er rfl) qbp hz0 rfl rfl rfl) ?_
   refine s1 ?_
   intro i21
   refine t30 ?_
   refine cN ?_ ?_ <;> intro h53
   ·refine t2 ?_
    refine kRF call142 (qcv c.w.heap.size _ _) ?_
    refine t7 ?_
    exact rXF (⟨_,_,(⟨_,_,_,_,_⟩:EO26),_,_⟩:ES26) results108 (hp:=by exact ⟨⟨wl0,Nat.zero_le _,Nat.zero_le _⟩,fun _ _ h=>absurd (show (16:Int)=0 from h) (by decide)⟩)
   refine t13 ?_
   refine qap rfl (by exact qao (k:=0) (er rfl) qbp (er rfl) rfl rfl qca qbt) ?_
   refine qap rfl (by exact qbg (k:=0) (er rfl) qbp qbt rfl rfl rfl rfl) ?_
   refine qk0 (by exact qb1 (z':={ n0 with pin:=false }) (er rfl) (er rfl) qaf qae hz0 rfl rf rf) ?_
   refine qap rfl (by exact qao (k:=0) (er rfl) qbp (er rfl) rfl rfl qca qbt) ?_
   refine qap rfl (by exact qbg (k:=1) (er rfl) qbp qbt rfl rfl rfl rfl) ?_
   refine qk0 (by exact qb1 (z':={ n0 with pin:=false,ep:=0#32 }) (er rfl) (er rfl) qaf qae (show ((n0 :: nr).set 0 { n0 with pin:=false })[0]?=some { n0 with pin:=false } from rfl) rfl rf rf) ?_
   refine t4 ?_
   refine qa0 rfl (by kernel_rfl) ?_
   refine qag 13 (by kernel_rfl) ?_
   refine s1 ?_
   refine qbc (by exact qao (k:=0) (er rfl) qbp (er rfl) rfl rfl qca qbt) ?_
   refine qbc (by exact qbd (er rfl) qbp (by exact hp0) rfl rfl rfl) ?_
   refine s1 ?_
   refine qbc (by exact qao (k:=0) (er rfl) qbp (er rfl) rfl rfl qca qbt) ?_
   refine qbc (by exact qbd (er rfl) qbp rf rfl rfl rfl) ?_
   refine qbc (qac call51 (qdp p0 (⟨_,_,_,_,(⟨(⟨_,_⟩:Pt),_⟩:Re),(⟨(⟨_,_⟩:Pt),_⟩:Re),(⟨(⟨_,_⟩:Pt),_⟩:Re),(⟨(⟨_,_⟩:Pt),_⟩:Re)⟩:Nd)) ⟨qbb,⟨qbb,trivial⟩⟩) ?_
   refine t3 ?_
   refine qka (qbi rfl qbo rfl) ?_
   refine qcp rfl rfl rfl (by kernel_rfl) (qbz qar qaf rfl rfl rfl qbo) ?_
   refine s1 ?_
   refine ⟨rfl,?_⟩
   intro i22
   refine qat ?_
   refine t4 ?_
   refine qap rfl (OpP.fr (qa2 (size:=9) (qs:=[(0,_)]) rfl rfl rfl ⟨⟨rfl,_,(er rfl),qaf⟩,trivial⟩ rf rf) qcf (SubL.row1 (T:=tPg) (x:=(⟨_,_,_,_,_,_,_,_,_⟩:Pg)) rf rf rf qaj)) ?_
   refine t6 ?_
   exact rXF (⟨_,_,(⟨_,_,_,_,_⟩:EO26),_,_⟩:ES26) results108 (hp:=by exact ⟨⟨wl1 (qf9 _ hp0l),Nat.zero_le _,by exact Nat.zero_le _⟩,fun h=>by omega⟩)
  refine t6 ?_
  refine cN ?_ ?_ <;> intro h57
  ·refine qa8 hX (v:=slV (n0 :: nr).length v_1) qae ?_
   refine qb0 10 (qal tNd (n0 :: nr)) rfl qfm ?_
   have hk3:op.kind=3:=by simpa using h57
   refine t5 ?_
   refine qap rfl (by ((refine qaw call144 (qqb _ _ _ ?_) ⟨qar,⟨qar,⟨qar,trivial⟩⟩⟩);all_goals (omega))) ?_
   (refine qa5 218 rfl ?_;intro x218 hx218)
   refine t6 ?_
   exact rXF (⟨_,_,(⟨_,_,_,_,_⟩:EO26),_,_⟩:ES26) results108 (hp:=by exact ⟨hx218,fun h=>by omega⟩)
  refine t6 ?_
  refine cN ?_ ?_ <;> intro h59
  ·refine qa8 hX (v:=slV (n0 :: nr).length v_1) qae ?_
   refine qb0 10 (qal tNd (n0 :: nr)) rfl qfm ?_
   refine qa8 hX (v:=slV (p0 :: pr).length v_0) qae ?_
   refine qb0 9 (qal tPg (p0 :: pr)) rfl qfm ?_
   have hk4:op.kind=4:=by simpa using h59
   have hol4:=(he2 hk4).2
   refine s1 ?_
   refine qa0 rfl (by kernel_rfl) ?_
   refine qag 9 (by kernel_rfl) ?_
   refine t2 ?_
   refine qbc (by exact qau (j:=0) (er rfl) (er rfl) rfl rfl rf hz0) ?_
   refine t2 ?_
   refine qbc (by exact qau (j:=0) (er rfl) (er rfl) rfl rfl rf hp0) ?_
   refine t2 ?_
   refine qbc (qaw call145 (qs0 op n0 p0 (⟨_,_,_,_,_⟩:EO26) hol4 hp0l) ⟨qbb,⟨qbb,⟨qbb,⟨qbb,trivial⟩⟩⟩⟩) ?_
   refine ⟨rfl,?_⟩
   (refine qmx 229 rfl ?_;intro x229 hx229)
   refine qef (by kernel_rfl) rfl (qav (er rfl) (er rfl) qaf qae qbo rf rf rf) ?_
   refine qat ?_
   refine t4 ?_
   exact rXF (⟨_,_,(⟨_,_,_,_,_⟩:EO26),_,_⟩:ES26) results108 (hp:=by exact ⟨hx229,fun h=>by omega⟩)
  refine t6 ?_
  refine cN ?_ ?_ <;> intro h61
  ·refine qa8 hX (v:=slV (n0 :: nr).length v_1) qae ?_
   refine qb0 10 (qal tNd (n0 :: nr)) rfl qfm ?_
   refine qa8 hX (v:=slV (p0 :: pr).length v_0) qae ?_
   refine qb0 9 (qal tPg (p0 :: pr)) rfl qfm ?_
   have hk5:op.kind=5:=by simpa using h61
   have hlen2:2≤ask2.length:=by rw [hb3 hk5];exact Nat.le_refl 2
   obtain ⟨q1,q2,q3⟩:=(hn4 hk5).2 hlen2
   injection q1 with q1 _
   injection q2 with q2 _
   refine s1 ?_
   refine qa0 rfl (by kernel_rfl) ?_
   refine qag 10 (by kernel_rfl) ?_
   refine t2 ?_
   refine qbc (by exact qau (j:=0) (er rfl) (er rfl) rfl rfl rf hz0) ?_
   refine t2 ?_
   refine qbc (by exact qau (j:=0) (er rfl) (er rfl) rfl rfl rf hp0) ?_
   refine t3 ?_
   refine qbc (qaw call146 (qp5 op n0 p0 (⟨_,_,_,_,_⟩:EO26) ks hks ⟨rfl,rfl⟩ hp0l) ⟨qbb,⟨qbb,⟨qbb,⟨qbb,⟨qbb,trivial⟩⟩⟩⟩⟩) ?_
   refine ⟨rfl,?_⟩
   (refine qmx 241 rfl ?_;intro x241 hx241)
   refine qef (by kernel_rfl) rfl (qav (er rfl) (er rfl) qaf qae qbo rf rf rf) ?_
   refine qat ?_
   refine t4 ?_
   exact rXF (⟨_,_,(⟨_,_,_,_,_⟩:EO26),_,_⟩:ES26) results108 (hp:=by exact ⟨hx241.1,fun _ h1 h2=>⟨q3,by rw [← q2,← q1];exact hx241.2 h1 h2⟩⟩)
  have hko:op.kind≠5:=by simpa using h61
  refine t4 ?_
  refine qa0 rfl (by kernel_rfl) ?_
  refine qag 13 (by kernel_rfl) ?_
  refine s1 ?_
  refine qbc (by exact qao (k:=0) (er rfl) qbp (er rfl) rfl rfl qca qbt) ?_
  refine qbc (by exact qbd (er rfl) qbp (by exact hp0) rfl rfl rfl) ?_
  refine s1 ?_
  refine qbc (by exact qao (k:=0) (er rfl) qbp (er rfl) rfl rfl qca qbt) ?_
  refine qbc (by exact qbd (er rfl) qbp (by exact hz0) rfl rfl rfl) ?_
  refine qbc (qac call51 (qdp p0 (⟨_,_,_,_,(⟨(⟨_,_⟩:Pt),_⟩:Re),(⟨(⟨_,_⟩:Pt),_⟩:Re),(⟨(⟨_,_⟩:Pt),_⟩:Re),(⟨(⟨_,_⟩:Pt),_⟩:Re)⟩:Nd)) ⟨qbb,⟨qbb,trivial⟩⟩) ?_
  refine t3 ?_
  refine qka (qbi rfl qbo rfl) ?_
  refine qcp rfl rfl rfl (by kernel_rfl) (qbz qar qaf rfl rfl rfl qbo) ?_
  refine s1 ?_
  refine ⟨rfl,?_⟩
  intro i22
  refine qat ?_
  refine t4 ?_
  refine qap rfl (OpP.fr (qa2 (size:=9) (qs:=[(0,_)]) rfl rfl rfl ⟨⟨rfl,_,(er rfl),qaf⟩,trivial⟩ rf rf) qcf (SubL.row1 (T:=tPg) (x:=(⟨_,_,_,_,_,_,_,_,_⟩:Pg)) rf rf rf qaj)) ?_
  refine t6 ?_
  exact rXF (⟨_,_,(⟨_,_,_,_,_⟩:EO26),_,_⟩:ES26) results108 (hp:=by exact ⟨⟨wl1 (qf9 _ hp0l),Nat.zero_le _,by exact Nat.zero_le _⟩,fun h=>by omega⟩)
 refine t5 ?_
 refine cN ?_ ?_ <;> intro h51
 ·have hk6:op.kind=6:=by simpa using h51
  refine t3 ?_
  refine qap rfl (by exact qao (k:=0) (er rfl) qbp (er rfl) rfl rfl qca qbt) ?_
  refine qap rfl (by exact qbd (er rfl) qbp hz0 rfl rfl rfl) ?_
  refine s1 ?_
  intro i21
  refine t30 ?_
  refine cN ?_ ?_ <;> intro h53
  ·refine t2 ?_
   refine kRF call142 (qcv c.w.heap.size _ _) ?_
   refine t7 ?_
   exact rXF (⟨_,_,(⟨_,_,_,_,_⟩:EO26),_,_⟩:ES26) results108 (hp:=by exact ⟨⟨wl0,Nat.zero_le _,Nat.zero_le _⟩,fun _ _ h=>absurd (show (16:Int)=0 from h) (by decide)⟩)
  refine t13 ?_
  refine qap rfl (by exact qao (k:=0) (er rfl) qbp (er rfl) rfl rfl qca qbt) ?_
  refine qap rfl (by exact qbg (k:=0) (er rfl) qbp qbt rfl rfl rfl rfl) ?_
  refine qk0 (by exact qb1 (z':={ n0 with pin:=false }) (er rfl) (er rfl) qaf qae hz0 rfl rf rf) ?_
  refine qap rfl (by exact qao (k:=0) (er rfl) qbp (er rfl) rfl rfl qca qbt) ?_
  refine qap rfl (by exact qbg (k:=1) (er rfl) qbp qbt rfl rfl rfl rfl) ?_
  refine qk0 (by exact qb1 (z':={ n0 with pin:=false,ep:=0#32 }) (er rfl) (er rfl) qaf qae (show ((n0 :: nr).set 0 { n0 with pin:=false })[0]?=some { n0 with pin:=false } from rfl) rfl rf rf) ?_
  refine t4 ?_
  refine qa0 rfl (by kernel_rfl) ?_
  refine qag 13 (by kernel_rfl) ?_
  refine s1 ?_
  refine qbc (by exact qao (k:=0) (er rfl) qbp (er rfl) rfl rfl qca qbt) ?_
  refine qbc (by exact qbd (er rfl) qbp (by exact hp0) rfl rfl rfl) ?_
  refine s1 ?_
  refine qbc (by exact qao (k:=0) (er rfl) qbp (er rfl) rfl rfl qca qbt) ?_
  refine qbc (by exact qbd (er rfl) qbp rf rfl rfl rfl) ?_
  refine qbc (qac call51 (qdp p0 (⟨_,_,_,_,(⟨(⟨_,_⟩:Pt),_⟩:Re),(⟨(⟨_,_⟩:Pt),_⟩:Re),(⟨(⟨_,_⟩:Pt),_⟩:Re),(⟨(⟨_,_⟩:Pt),_⟩:Re)⟩:Nd)) ⟨qbb,⟨qbb,trivial⟩⟩) ?_
  refine t3 ?_
  refine qka (qbi rfl qbo rfl) ?_
  refine qcp rfl rfl rfl (by kernel_rfl) (qbz qar qaf rfl rfl rfl qbo) ?_
  refine s1 ?_
  refine ⟨rfl,?_⟩
  intro i22
  refine qat ?_
  refine t4 ?_
  refine qap rfl (OpP.fr (qa2 (size:=9) (qs:=[(0,_)]) rfl rfl rfl ⟨⟨rfl,_,(er rfl),qaf⟩,trivial⟩ rf rf) qcf (SubL.row1 (T:=tPg) (x:=(⟨_,_,_,_,_,_,_,_,_⟩:Pg)) rf rf rf qaj)) ?_
  refine t6 ?_
  exact rXF (⟨_,_,(⟨_,_,_,_,_⟩:EO26),_,_⟩:ES26) results108 (hp:=by exact ⟨⟨wl1 (qf9 _ hp0l),Nat.zero_le _,by exact Nat.zero_le _⟩,fun h=>by omega⟩)
 refine t6 ?_
 refine cN ?_ ?_ <;> intro h57
 ·refine qa8 hX (v:=slV (n0 :: nr).length v_1) qae ?_
  refine qb0 10 (qal tNd (n0 :: nr)) rfl qfm ?_
  have hk3:op.kind=3:=by simpa using h57
  refine t5 ?_
  refine qap rfl (by ((refine qaw call144 (qqb _ _ _ ?_) ⟨qar,⟨qar,⟨qar,trivial⟩⟩⟩);all_goals (omega))) ?_
  (refine qa5 218 rfl ?_;intro x218 hx218)
  refine t6 ?_
  exact rXF (⟨_,_,(⟨_,_,_,_,_⟩:EO26),_,_⟩:ES26) results108 (hp:=by exact ⟨hx218,fun h=>by omega⟩)
 refine t6 ?_
 refine cN ?_ ?_ <;> intro h59
 ·refine qa8 hX (v:=slV (n0 :: nr).length v_1) qae ?_
  refine qb0 10 (qal tNd (n0 :: nr)) rfl qfm ?_
  refine qa8 hX (v:=slV (p0 :: pr).length v_0) qae ?_
  refine qb0 9 (qal tPg (p0 :: pr)) rfl qfm ?_
  have hk4:op.kind=4:=by simpa using h59
  have hol4:=(he2 hk4).2
  refine s1 ?_
  refine qa0 rfl (by kernel_rfl) ?_
  refine qag 9 (by kernel_rfl) ?_
  refine t2 ?_
  refine qbc (by exact qau (j:=0) (er rfl) (er rfl) rfl rfl rf hz0) ?_
  refine t2 ?_
  refine qbc (by exact qau (j:=0) (er rfl) (er rfl) rfl rfl rf hp0) ?_
  refine t2 ?_
  refine qbc (qaw call145 (qs0 op n0 p0 (⟨_,_,_,_,_⟩:EO26) hol4 hp0l) ⟨qbb,⟨qbb,⟨qbb,⟨qbb,trivial⟩⟩⟩⟩) ?_
  refine ⟨rfl,?_⟩
  (refine qmx 229 rfl ?_;intro x229 hx229)
  refine qef (by kernel_rfl) rfl (qav (er rfl) (er rfl) qaf qae qbo rf rf rf) ?_
  refine qat ?_
  refine t4 ?_
  exact rXF (⟨_,_,(⟨_,_,_,_,_⟩:EO26),_,_⟩:ES26) results108 (hp:=by exact ⟨hx229,fun h=>by omega⟩)
 refine t6 ?_
 refine cN ?_ ?_ <;> intro h61
 ·refine qa8 hX (v:=slV (n0 :: nr).length v_1) qae ?_
  refine qb0 10 (qal tNd (n0 :: nr)) rfl qfm ?_
  refine qa8 hX (v:=slV (p0 :: pr).length v_0) qae ?_
  refine qb0 9 (qal tPg (p0 :: pr)) rfl qfm ?_
  have hk5:op.kind=5:=by simpa using h61
  have hlen2:2≤ask2.length:=by rw [hb3 hk5];exact Nat.le_refl 2
  obtain ⟨q1,q2,q3⟩:=(hn4 hk5).2 hlen2
  injection q1 with q1 _
  injection q2 with q2 _
  refine s1 ?_
  refine qa0 rfl (by kernel_rfl) ?_
  refine qag 10 (by kernel_rfl) ?_
  refine t2 ?_
  refine qbc (by exact qau (j:=0) (er rfl) (er rfl) rfl rfl rf hz0) ?_
  refine t2 ?_
  refine qbc (by exact qau (j:=0) (er rfl) (er rfl) rfl rfl rf hp0) ?_
  refine t3 ?_
  refine qbc (qaw call146 (qp5 op n0 p0 (⟨_,_,_,_,_⟩:EO26) ks hks ⟨rfl,rfl⟩ hp0l) ⟨qbb,⟨qbb,⟨qbb,⟨qbb,⟨qbb,trivial⟩⟩⟩⟩⟩) ?_
  refine ⟨rfl,?_⟩
  (refine qmx 241 rfl ?_;intro x241 hx241)
  refine qef (by kernel_rfl) rfl (qav (er rfl) (er rfl) qaf qae qbo rf rf rf) ?_
  refine qat ?_
  refine t4 ?_
  exact rXF (⟨_,_,(⟨_,_,_,_,_⟩:EO26),_,_⟩:ES26) results108 (hp:=by exact ⟨hx241.1,fun _ h1 h2=>⟨q3,by rw [← q2,← q1];exact hx241.2 h1 h2⟩⟩)
 have hko:op.kind≠5:=by simpa using h61
 refine t4 ?_
 refine qa0 rfl (by kernel_rfl) ?_
 refine qag 13 (by kernel_rfl) ?_
 refine s1 ?_
 refine qbc (by exact qao (k:=0) (er rfl) qbp (er rfl) rfl rfl qca qbt) ?_
 refine qbc (by exact qbd (er rfl) qbp (by exact hp0) rfl rfl rfl) ?_
 refine s1 ?_
 refine qbc (by exact qao (k:=0) (er rfl) qbp (er rfl) rfl rfl qca qbt) ?_
 refine qbc (by exact qbd (er rfl) qbp (by exact hz0) rfl rfl rfl) ?_
 refine qbc (qac call51 (qdp p0 (⟨_,_,_,_,(⟨(⟨_,_⟩:Pt),_⟩:Re),(⟨(⟨_,_⟩:Pt),_⟩:Re),(⟨(⟨_,_⟩:Pt),_⟩:Re),(⟨(⟨_,_⟩:Pt),_⟩:Re)⟩:Nd)) ⟨qbb,⟨qbb,trivial⟩⟩) ?_
 refine t3 ?_
 refine qka (qbi rfl qbo rfl) ?_
 refine qcp rfl rfl rfl (by kernel_rfl) (qbz qar qaf rfl rfl rfl qbo) ?_
 refine s1 ?_
 refine ⟨rfl,?_⟩
 intro i22
 refine qat ?_
 refine t4 ?_
 refine qap rfl (OpP.fr (qa2 (size:=9) (qs:=[(0,_)]) rfl rfl rfl ⟨⟨rfl,_,(er rfl),qaf⟩,trivial⟩ rf rf) qcf (SubL.row1 (T:=tPg) (x:=(⟨_,_,_,_,_,_,_,_,_⟩:Pg)) rf rf rf qaj)) ?_
 refine t6 ?_
 exact rXF (⟨_,_,(⟨_,_,_,_,_⟩:EO26),_,_⟩:ES26) results108 (hp:=by exact ⟨⟨wl1 (qf9 _ hp0l),Nat.zero_le _,by exact Nat.zero_le _⟩,fun h=>by omega⟩)
end Go.Proofs.YtmgoplaamlignaaGreat
