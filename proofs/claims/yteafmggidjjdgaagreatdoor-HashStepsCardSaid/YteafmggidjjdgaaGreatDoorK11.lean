/- Walks of functions and plain laws, laid together. Own work. -/
import Derived.Test.YteafmggidjjdgaaGreatDoorK10
namespace Go.Proofs.YteafmggidjjdgaaGreatDoor
open Go.RowKit Tryz
set_option linter.unusedVariables false
set_option linter.unusedSimpArgs false
set_option maxRecDepth 100000
set_option maxHeartbeats 4000000
def vnL (n:N24):Bool:=if (decide (n.level>0)&&((n.entries.length:Int)==0||UV (qq6 n.entries (n.entries.length-1)).key != UV n.high))=true then false else (!n.dead||(n.level==0&&(n.entries.length:Int)==0 && !n.leftmost && !decide (n.right=Pt.nil)))
def vnE (n:N24):Nat->List En->Bool
 | _,[]=>vnL n
 | k,e::r=>if (decide (UV e.key<1)||decide (UV e.key>UV n.high)||(!qbt e.to)||(n.level==0&&decide (UV e.key>4294967294))||(decide ((k:Int)>0)&&decide (UV (qq6 n.entries (k-1)).key>=UV e.key)))=true then false else vnE n (k+1) r
theorem vnE_L (n:N24):∀ (l:List En) (k:Nat),vnE n k l=true->vnL n=true
 | [],k,h=>h
 | e::r,k,h=>by
  unfold vnE at h;split at h
  ·cases h
  ·exact vnE_L n r (k+1) h
def vN (n:N24):Bool:=if (decide (n.level<0)||decide (n.level>8)||decide (UV n.high<1)||(decide (n.right=Pt.nil) != (UV n.high==4294967295))||(!decide (n.right=Pt.nil) && !qbt n.right)||decide ((n.entries.length:Int)>5))=true then false else vnE n 0 n.entries
def qiy (n:N24):Prop:=n.entries.length<=5∧(0<=n.level∧n.level<=8)∧(0<n.level->∃ e,n.entries.getLast?=some e∧UV e.key=UV n.high)
theorem qe7:qiy N24.nil:=⟨de,de,fun h=>absurd h de⟩
theorem vN_ok {n:N24} (h:vN n=true):qiy n:=by
 unfold vN at h;split at h
 ·cases h
 ·rename_i h1;replace h:=vnE_L n _ _ h;simp at h1;refine ⟨om,om,fun hp=>?_⟩;unfold vnL at h;split at h
  ·cases h
  ·rename_i h3;have hd:decide (n.level>0)=true:=decide_eq_true hp;rw [hd,Bool.true_and] at h3;simp at h3;have hne:n.entries.length≠0:=by
    intro h0;have:=h3.1;exact this (List.eq_nil_of_length_eq_zero h0)
   refine ⟨qq6 n.entries (n.entries.length-1),?_,by simpa using h3.2⟩;rw [List.getLast?_eq_getElem?];exact qg9 om
theorem qna (n:N24):FnP prog 242 [qyg n] (Ib (vN n)):=by
 obtain ⟨W,hE⟩:=xE (vN n);rw [hE];unfold vN at hE;have hlast:0<n.entries.length->n.entries[n.entries.length-1]?=some (qq6 n.entries (n.entries.length-1)):=fun h=>qg9 om;refine FnP.enter func242 ntmps242 rfl rfl ?_;intro c hX;refine t3 ?_;intro i1;refine t8 ?_;refine Z54 ?_;refine t32 ?_;(refine zgs rfl rfl rfl (fun hp hg=>(by have hpg:=Bool.and_eq_true_iff.2 ⟨hp,hg⟩;have hg0:=hg;(try simp at hg);exact qac call30 (qb5 _) ⟨qap,trivial⟩)) ?_);refine t11 ?_;refine cN ?_ ?_<;>intro h2
 ·replace hE:=qaq hE h2;refine t7 ?_;subst hE;exact rA (Bs:=[_]) results242 eRF
 replace hE:=qar hE h2;have hl5:n.entries.length<=5:=by
  rw [Bool.or_eq_false_iff] at h2;have:=of_decide_eq_false h2.2;omega
 clear h2;refine t9 ?_;refine qax [(1,_),(2,_),(3,_)] [blk i1 _ _] (fun k:Nat=>k<=(n.entries).length∧vnE n k (List.drop k (n.entries))=W) (fun k=>[(4,Ii (k:Nat))]) (fun k=>[]) (fun k=>(n.entries).length-k) 0 ⟨by exact nZ _,hE⟩ qbu qab ?_;clear hE;rintro k ⟨hk,hE⟩;refine t10 ?_;refine cN ?_ ?_<;>intro h5
 ·have hlt:k<(n.entries).length:=by have:=of_decide_eq_true h5;omega
  clear h5;obtain ⟨z,hz⟩:∃ q,(n.entries)[k]?=some q:=⟨_,gE hlt⟩
  rw [qf7 hz,vnE] at hE;(try dsimp only at hE);have hz1:0<k->n.entries[k-1]?=some (qq6 n.entries (k-1)):=fun _=>qg9 om;refine t12 ?_;intro i5;refine Z38 ?_;refine qaj 42 kr ?_;refine t13 ?_;(refine qch rfl rfl (fun hg=>(by have hg0:=hg;(try simp at hg);exact qac call30 (qb5 _) ⟨qap,trivial⟩)) ?_);refine t20 ?_;(refine zgr rfl rfl (fun hp hg=>(by have hpg:=Bool.and_eq_true_iff.2 ⟨hp,hg⟩;have hg0:=hg;(try simp at hg);exact qak (j:=k-1) evG evG rfl rfl om (hz1 om))) ?_);refine t7 ?_;refine ⟨rfl,?_⟩;refine Z20 ?_;refine cN ?_ ?_<;>intro h8
  ·replace hE:=qaq hE h8;refine t11 ?_;subst hE;exact rA (Bs:=[_]) results242 eRF
  replace hE:=qar hE h8;refine t8 ?_;exact qaa (k+1) ⟨om,hE⟩ om qbu qab
 have hke:k=(n.entries).length:=by have:=of_decide_eq_false h5;omega
 clear h5;subst hke;rw [List.drop_length,vnE] at hE;unfold vnL at hE;refine t7 ?_;refine Z5 ?_;refine qaj 23 kr ?_;refine t15 ?_;(refine zgr rfl rfl (fun hp hg=>(by have hpg:=Bool.and_eq_true_iff.2 ⟨hp,hg⟩;have hg0:=hg;(try simp at hg);exact qak (j:=n.entries.length-1) evG evG rfl rfl (by have h9:=List.length_pos_iff.2 hg;omega) (hlast (List.length_pos_iff.2 hg)))) ?_);refine t7 ?_;refine ⟨rfl,?_⟩;refine Z20 ?_;refine cN ?_ ?_<;>intro h10
 ·replace hE:=qaq hE h10;refine t7 ?_;subst hE;exact rA (Bs:=[_]) results242 eRF
 replace hE:=qar hE h10;refine t31 ?_;subst hE;exact rA (Bs:=[_]) results242 eRF
theorem Z78 {B:Prop} (h:B:=by exact quf ((⟨_,_,_,_,(⟨_,_⟩:Pt),_⟩:N24),_) results222 (hp:=by exact qe7)):B:=h
theorem Z99 {B:Prop} (h:B:=by exact qhd (Bs:=[_,_,_,_]) ((⟨_,_,_,_,_,_,_,_,_⟩:Pg),(⟨_,_,_,_,(⟨_,_⟩:Pt),_⟩:N24),_,_) rfl results243 eXF (List.nil_sublist _) (by exact ⟨by exact nZ _,qe7,qhu _ _ _ _⟩)):B:=h
theorem qq9 (p:Pg) (to:Pt) (lv:Int):FnP prog 244 [qcv p,qh6 to,Ii lv] (qfc (fun r:Pg×Int=>Ln p->Ln r.1) fun r=>qbs [qcv r.1,Ii r.2]):=by
 refine FnP.enter func244 ntmps244 rfl rfl ?_;intro c hX;refine t3 ?_;intro i3;refine s1 ?_;intro i4;refine s1 ?_;intro i6;refine t7 ?_;refine Z54 ?_;refine t29 ?_;(refine zgs rfl rfl rfl (fun hp hg=>(by have hpg:=Bool.and_eq_true_iff.2 ⟨hp,hg⟩;have hg0:=hg;(try simp at hg);exact qac call30 (qb5 _) ⟨qap,trivial⟩)) ?_);refine t5 ?_;refine cN ?_ ?_<;>intro h2
 ·refine t9 ?_;exact quf ((⟨_,_,_,_,_,_,_,_,_⟩:Pg),_) results244 (hp:=by exact fun _=>ln0)
 refine t6 ?_;intro i9;refine t6 ?_;refine kRF call96 (qji _) ?_;refine t2 ?_;refine qao rfl (qhr (er rfl) rfl rfl (qkp _)) ?_;refine qao rfl (by exact qeg (k:=32) qhh (er rfl) om qdh) ?_;refine t7 ?_;generalize BitVec.setWidth 64 (qcq to)+BitVec.ofInt 64 lv<<<32=w0;refine t7 ?_;exact quf ((⟨_,_,_,_,_,_,_,_,_⟩:Pg),_) results244 (hp:=by exact ln_eq rfl)
theorem qtm (p:Pg) (n:N24):FnP prog 234 [qcv p,qyg n] (qfc (fun r:Pg×Int=>Ln p->Ln r.1) fun r=>qbs [qcv r.1,Ii r.2]):=by
 refine FnP.enter func234 ntmps234 rfl rfl ?_;intro c hX;refine t3 ?_;intro i2;refine s1 ?_;intro i3;refine s1 ?_;intro i4;refine t7 ?_;refine kRF call92 (qel _) ?_;refine t3 ?_;(refine qcg rfl rfl rfl (fun hg=>(by have hg0:=hg;(try simp at hg);exact qac call242 (qna n) ⟨qap,trivial⟩)) ?_);refine t4 ?_;refine cN ?_ ?_<;>intro h1
 ·refine t9 ?_;exact quf ((⟨_,_,_,_,_,_,_,_,_⟩:Pg),_) results234 (hp:=by exact fun _=>ln0)
 have hv:vN n=true:=by simp at h1;exact h1.2
 have hl:=(vN_ok hv).1;refine t23 ?_;refine qbw [(2,_),(3,_),(4,_),(5,_)] [blk i4 _ _,blk i3 _ _,blk i2 _ _] (fun yc:(BitVec 32)=>True) (fun yc=>[(6,Is (.int .u32 (UV yc)))]) (fun yc=>[]) qag qab ?_ ?_
 rotate_left
 focus
  refine cN ?_ ?_<;>intro h4
  ·refine t5 ?_;exact qal _ (trivial) qag qab
  exact Z16
 rintro a _;refine t7 ?_;refine qbw [(2,_),(3,_),(4,_),(5,_)] [blk i4 _ _,blk i3 _ _,blk i2 _ _] (fun yc:(BitVec 32)=>True) (fun yc=>[(6,Is (.int .u32 (UV yc)))]) (fun yc=>[]) qag qab ?_ ?_
 rotate_left
 focus
  refine cN ?_ ?_<;>intro h6
  ·refine t5 ?_;exact qal _ (trivial) qag qab
  exact Z16
 rintro a2 _;refine t8 ?_;intro i7;refine t6 ?_;refine kRF call95 (qh1 _) ?_;refine s1 ?_;refine kRF call94 (qn5 _ _ _) ?_;refine t6 ?_;refine Z5 ?_;refine qx3 ?_;refine t5 ?_;refine qbc (qac call96 (qji _) ⟨qap,trivial⟩) ?_;refine s1 ?_;refine Z42 ?_;refine t3 ?_;refine ⟨rfl,?_⟩;refine Z3 ?_;refine t8 ?_;refine qbv (b:=i7) (As':=tPg.cells (⟨_,_,_,_,_,_,_,_,_⟩:Pg)) qaf qbo ?_;refine qax [(3,_),(4,_),(5,_),(7,_)] [blk i4 _ _,blk i3 _ _] (fun y:Nat×Pg=>y.1<=(n.entries).length∧(y.2.l=p.l)) (fun y=>[(8,Ii (y.1:Nat))]) (fun y=>[blk i7 50 (tPg.cells y.2)]) (fun y=>(n.entries).length-y.1) (0,(⟨_,_,_,_,_,_,_,_,_⟩:Pg)) ?_ qag qab ?_
 ·exact ⟨by exact nZ _,rfl⟩
 rintro ⟨k,q⟩ ⟨hk,hI⟩;dsimp only at hk hI ⊢;refine t10 ?_;refine cN ?_ ?_<;>intro h12
 ·have hlt:k<(n.entries).length:=by have:=of_decide_eq_true h12;omega
  clear h12;obtain ⟨z,hz⟩:∃ q,(n.entries)[k]?=some q:=⟨_,gE hlt⟩
  rcases (show k=0∨k=1∨k=2∨k=3∨k=4 by omega) with rfl|rfl|rfl|rfl|rfl
  all_goals
   refine Z38 ?_;refine qaj 21 kr ?_;refine t9 ?_;refine Z42 ?_;refine t6 ?_;refine qbc (qac call96 (qji _) ⟨qap,trivial⟩) ?_;refine t3 ?_;refine qbc (qah (k:=_) (sz:=1) (er rfl) (er rfl) rfl rfl qdh de) ?_;refine ⟨rfl,?_⟩;refine Z3 ?_;refine t7 ?_;refine qan (b:=i7) (As':=tPg.cells (⟨_,_,_,_,_,_,_,_,_⟩:Pg)) qaf qbo ?_;first|((guard_hyp hlt:(0:Nat)<(n.entries).length);refine qaa (1,(⟨_,_,_,_,_,_,_,_,_⟩:Pg)) ?_ ?_ qag qab)|((guard_hyp hlt:(1:Nat)<(n.entries).length);refine qaa (2,(⟨_,_,_,_,_,_,_,_,_⟩:Pg)) ?_ ?_ qag qab)|((guard_hyp hlt:(2:Nat)<(n.entries).length);refine qaa (3,(⟨_,_,_,_,_,_,_,_,_⟩:Pg)) ?_ ?_ qag qab)|((guard_hyp hlt:(3:Nat)<(n.entries).length);refine qaa (4,(⟨_,_,_,_,_,_,_,_,_⟩:Pg)) ?_ ?_ qag qab)|((guard_hyp hlt:(4:Nat)<(n.entries).length);refine qaa (5,(⟨_,_,_,_,_,_,_,_,_⟩:Pg)) ?_ ?_ qag qab)
   ·exact ⟨om,hI⟩
   ·omega
 have hke:k=(n.entries).length:=by have:=of_decide_eq_false h12;omega
 clear h12;subst hke;refine t13 ?_;exact quf ((⟨_,_,_,_,_,_,_,_,_⟩:Pg),_) results234 (hp:=by exact ln_eq hI)
theorem qnc (p:Pg):FnP prog 221 [qcv p] (VEx fun r:Pt×Int×Int=>qbs [qh6 r.1,Ii r.2.1,Ii r.2.2]):=by
 refine FnP.enter func221 ntmps221 rfl rfl ?_;intro c hX;refine t3 ?_;intro i1;refine s1 ?_;intro i2;refine t12 ?_;refine cN ?_ ?_<;>intro h1
 ·refine t10 ?_;exact Z77
 refine t11 ?_;refine cN ?_ ?_<;>intro h3
 ·refine t10 ?_;exact Z77
 refine t8 ?_;refine kRF call187 (qfv _) ?_;refine s1 ?_;intro i5;refine t7 ?_;refine kRF call30 (qb5 _) ?_;refine t9 ?_;refine cN ?_ ?_<;>intro h6
 ·refine t10 ?_;exact Z77
 refine Z32 ?_;refine qc1 (it:=blk i2 _ _) (by repeat (first|exact Drop1.here _ _|apply Drop1.next)) ?_;refine qcz (its:=[_]) 9 kr ?_;refine t4 ?_;refine qbc (by exact qhq (k:=32) qhh (er rfl) om qdh) ?_;refine s1 ?_;refine qdm (s:=36) rfl rfl rfl kr (fun c'=>by exact qat (er rfl) (er rfl) qas qaf rf rf rf) ?_;refine t2 ?_;refine ⟨rfl,?_⟩;intro _;refine Z33 ?_;exact Z77
theorem qdl (p:Pg) (n:N24) (hp:Ln p):FnP prog 234 [qcv p,qyg n] (qbs [zg2,IsIX]):=(qtm p n).px hp
theorem qkb (p:Pg) (to:Pt) (lv:Int) (hp:Ln p):FnP prog 244 [qcv p,qh6 to,Ii lv] (qbs [zg2,IsIX]):=(qq9 p to lv).px hp
theorem qaz (B:Nat) (o:O24) (e:Int):FnP prog 224 [qye o,Ii e] (qki B ⟨[],[],{ o with code:=e },true⟩):=by
 refine FnP.enter func224 ntmps224 rfl rfl ?_;intro c hX;refine t3 ?_;intro i2;refine s1 ?_;intro i4;refine t17 ?_;exact rA (Bs:=[_]) results224 eRF
theorem child_ok (n:N24) (key:BitVec 32) (hn:n.entries.length<=1000):FnP prog 223 [qyg n,Is (.int .u32 (UV key))] (VEx fun r:En=>IsEn r):=by
 refine FnP.enter func223 ntmps223 rfl rfl ?_;intro c hX;refine t3 ?_;intro i2;refine s1 ?_;intro i4;refine t9 ?_;refine qax [(1,_),(2,_),(4,_)] [blk i4 _ _,blk i2 _ _] (fun k:Nat=>k<=(n.entries).length) (fun k=>[(5,Ii (k:Nat))]) (fun k=>[]) (fun k=>(n.entries).length-k) 0 (nZ _) qag qab ?_;rintro k hk;refine t10 ?_;refine cN ?_ ?_<;>intro h2
 ·have hlt:k<(n.entries).length:=by have:=of_decide_eq_true h2;omega
  clear h2;obtain ⟨z,hz⟩:∃ q,(n.entries)[k]?=some q:=⟨_,gE hlt⟩
  refine t16 ?_;refine cN ?_ ?_<;>intro h4
  ·refine t16 ?_;exact qd4 (Bs:=[_]) (⟨_,(⟨_,_⟩:Pt)⟩:En) rfl results223 eXF (List.nil_sublist _)
  refine t8 ?_;exact qaa (k+1) om om qag qab
 have hke:k=(n.entries).length:=by have:=of_decide_eq_false h2;omega
 clear h2;subst hke;refine t12 ?_;exact qd4 (Bs:=[_]) (⟨_,(⟨_,_⟩:Pt)⟩:En) rfl results223 eXF (List.nil_sublist _)
theorem qtc (p:P24):FnP prog 228 [qwa p] (VEx fun r:Bool=>Ib r):=by
 refine FnP.enter func228 ntmps228 rfl rfl ?_;intro c hX;refine t3 ?_;intro i1;refine t13 ?_;exact qd4 (Bs:=[_]) _ rfl results228 eXF (List.nil_sublist _)
theorem add24_ok (o:O24) (p:P24):FnP prog 229 [qye o,qwa p] (qfc (fun r:O24=>r.check=o.check∧r.entries=o.entries) fun r=>qye r):=by
 refine FnP.enter func229 ntmps229 rfl rfl ?_;intro c hX;refine t3 ?_;intro i2;refine s1 ?_;intro i3;refine s1 ?_;intro i4;refine t40 ?_;refine s1 ?_;refine kXF call228 (qtc (⟨_,_,_,_,(⟨_,_,_,_,_,_,_,_,_⟩:Pg),(⟨_,_,_,_,(⟨_,_⟩:Pt),_⟩:N24),(⟨_,_,_,_,(⟨_,_⟩:Pt),_⟩:N24),_,_,_⟩:P24)) ?_;(refine qh0 26 rfl ?_;intro x26);refine t2 ?_;refine cN ?_ ?_<;>intro h4
 ·refine t16 ?_;exact rXF (⟨_,_,_,_,_,_,_,(⟨_,_⟩:Pt),_,_,_,_,_⟩:O24) results229 (hp:=by exact ⟨rfl,rfl⟩)
 refine t9 ?_;exact rXF (⟨_,_,_,_,_,_,_,(⟨_,_⟩:Pt),_,_,_,_,_⟩:O24) results229 (hp:=by exact ⟨rfl,rfl⟩)
theorem qsn (l:List En) (key:BitVec 32) (hl:l.length<=1000):FnP prog 233 [qad tEn l,Is (.int .u32 (UV key))] (qfc (fun r:Nat×Bool=>r.1<=l.length∧(r.2=true->r.1<l.length)∧(∀ e,l.getLast?=some e->UV key<=UV e.key->r.1<l.length)) fun r=>qbs [Ii (r.1:Nat),Ib r.2]):=by
 refine FnP.enter func233 ntmps233 rfl rfl ?_;intro c hX;refine qjp (t:=0) rfl (fun hlen=>?_);refine t13 ?_;refine qax [(0,_),(1,_),(4,_),(5,_)] [] (fun k:Nat=>k<=(l).length∧(∀ j e,j<k->l[j]?=some e->UV e.key<UV key)) (fun k=>[(6,Ii (k:Nat))]) (fun k=>[]) (fun k=>(l).length-k) 0 ⟨by exact nZ _,fun j e h=>absurd h (Nat.not_lt_zero _)⟩ qag qab ?_;rintro k ⟨hk,hI⟩;refine t9 ?_;refine cN ?_ ?_<;>intro h2
 ·have hlt:k<(l).length:=by have:=of_decide_eq_true h2;omega
  clear h2;obtain ⟨z,hz⟩:∃ q,(l)[k]?=some q:=⟨_,gE hlt⟩
  refine t15 ?_;refine cN ?_ ?_<;>intro h4
  ·refine s1 ?_;refine Z5 ?_;refine Z82 ?_;refine t10 ?_;refine ⟨rfl,?_⟩;refine Z74 ?_;exact quf (_,_) results233 (hp:=by exact ⟨om,fun _=>by omega,fun _ _ _=>by omega⟩)
  have hr:∀ j e,j<k+1->l[j]?=some e->UV e.key<UV key:=fun j e hj he=>by
   rcases Nat.lt_or_ge j k with h|h
   ·exact hI j e h he
   ·have:j=k:=om;subst this;rw [hz] at he;cases he;have:=of_decide_eq_false h4;omega
  refine t8 ?_;exact qaa (k+1) ⟨om,hr⟩ om qag qab
 have hke:k=(l).length:=by have:=of_decide_eq_false h2;omega
 clear h2;subst hke;refine t14 ?_;exact qhd (Bs:=[_,_]) (_,_) rfl results233 eXF (List.nil_sublist _) (by exact ⟨Nat.le_refl _,fun h=>Bool.noConfusion h,fun e he hk=>by
 rw [List.getLast?_eq_getElem?] at he
 have h1:=(List.getElem?_eq_some_iff.1 he).1
 have h2:=hI _ e om he
 omega⟩)
theorem Z56 {A B:Prop} (h:A) (f:Bx A→B:=by intro z;refine t7 ?_;refine kXF call228 (qtc (⟨_,_,_,_,(⟨_,_,_,_,_,_,_,_,_⟩:Pg),(⟨_,_,_,_,(⟨_,_⟩:Pt),_⟩:N24),(⟨_,_,_,_,(⟨_,_⟩:Pt),_⟩:N24),_,_,_⟩:P24)) ?_;exact z.out):B:=f ⟨h⟩
theorem Z93 {A B:Prop} (h:A) (f:Bx A→B:=by intro z;refine kXF call229 (add24_ok (⟨_,_,_,_,_,_,_,(⟨_,_⟩:Pt),_,_,_,_,_⟩:O24) (⟨_,_,_,_,(⟨_,_,_,_,_,_,_,_,_⟩:Pg),(⟨_,_,_,_,(⟨_,_⟩:Pt),_⟩:N24),(⟨_,_,_,_,(⟨_,_⟩:Pt),_⟩:N24),_,_,_⟩:P24)) ?_;exact z.out):B:=f ⟨h⟩
theorem qkf (p:Pg):FnP prog 222 [qcv p] (qfc (fun r:N24×Int=>qiy r.1) fun r=>qbs [qyg r.1,Ii r.2]):=by
 refine FnP.enter func222 ntmps222 rfl rfl ?_;intro c hX;refine t3 ?_;intro i1;refine s1 ?_;intro i2;refine t6 ?_;refine kRF call138 (qqo _) ?_;refine t18 ?_;refine Z81 ?_;refine t3 ?_;refine qao rfl (by exact qgo (k:=17) qn0 (er rfl) om qdh) ?_;refine t8 ?_;intro i6;refine t8 ?_;refine Z108 ?_;refine t8 ?_;refine kRF call92 (qel _) ?_;refine t3 ?_;(refine qcg rfl rfl rfl (fun hg=>(by have hg0:=hg;(try simp at hg);exact qgo (k:=18) qlc evG om qdh)) ?_);refine t8 ?_;refine cN ?_ ?_<;>intro h5
 ·refine t9 ?_;exact Z78
 refine t9 ?_;refine qbw [(1,_),(2,_),(3,_),(5,_),(6,_)] [blk i2 _ _,blk i1 _ _] (fun yc:Pt×Int×Bool×Bool×(BitVec 32)=>True) (fun yc=>[]) (fun yc=>[blk i6 321 [Ii yc.2.1,Ib yc.2.2.1,Ib yc.2.2.2.1,Is (.int .u32 (UV yc.2.2.2.2)),Ii yc.1.line,Ii yc.1.gen,Is (.slice none 0 0)]]) qag qab ?_ ?_
 rotate_left
 focus
  refine cN ?_ ?_<;>intro h7
  ·refine t3 ?_;refine kRF call187 (qfv _) ?_;refine t8 ?_;refine kRF call30 (qb5 _) ?_;refine t3 ?_;refine cN ?_ ?_<;>intro h9
   ·refine t9 ?_;exact Z78
   refine s1 ?_;exact qal ((⟨_,_⟩:Pt),_,_,_,_) (trivial) qag qab
  refine s1 ?_;exact qal ((⟨_,_⟩:Pt),_,_,_,_) (trivial) qag qab
 rintro ⟨rt,lv,lm,dd,hg⟩ _;dsimp only;refine t7 ?_;refine qdo 100 tEn ?_;refine qax [(1,_),(2,_),(3,_),(5,_),(6,_)] [blk i2 _ _,blk i1 _ _] (fun y:Nat×(List En)×(Option Addr×Nat)=>y.1<=5∧(y.2.1.length<=y.1)) (fun y=>[(8,Ii (y.1:Nat))]) (fun y=>[blk i6 321 [Ii lv,Ib lm,Ib dd,Is (.int .u32 (UV hg)),Ii rt.line,Ii rt.gen,Is (slV (y.2.1).length y.2.2)],buf (slV (y.2.1).length y.2.2) 100 tEn (y.2.1)]) (fun y=>5-y.1) (0,[],(none,0)) ?_ qag qab ?_
 ·exact ⟨by exact nZ _,Nat.le_refl 0⟩
 rintro ⟨k,es,v_0⟩ ⟨hk,hI⟩;dsimp only at hk hI ⊢;refine t7 ?_;refine cN ?_ ?_<;>intro h12
 ·have hlt:k<5:=by have:=of_decide_eq_true h12;omega
  clear h12;rcases (show k=0∨k=1∨k=2∨k=3∨k=4 by omega) with rfl|rfl|rfl|rfl|rfl
  all_goals
   refine t9 ?_;refine Z52 ?_;refine t16 ?_;refine cN ?_ ?_<;>intro h15
   ·refine t14 ?_;exact Z78
   refine t9 ?_;refine cN ?_ ?_<;>intro h17
   ·refine Z5 ?_;refine Z82 ?_;refine Z112 ?_;refine qbc (qac call187 (qfv _) ⟨qap,trivial⟩) ?_;refine s1 ?_;refine Z9 ?_;refine ⟨rfl,?_⟩;(refine JD_s kr rfl rfl (qca (er rfl) (fun _=>qaf) (by exact er rfl) (by exact qfz rfl rfl rfl) qcn) ?_;intro i90);refine qaj 1 kr ?_;refine s1 ?_;refine ⟨rfl,?_⟩;refine Z3 ?_;refine t7 ?_;first|((guard_hyp hlt:(0:Nat)<5);refine qaa (1,_,_) ?_ ?_ qag qab)|((guard_hyp hlt:(1:Nat)<5);refine qaa (2,_,_) ?_ ?_ qag qab)|((guard_hyp hlt:(2:Nat)<5);refine qaa (3,_,_) ?_ ?_ qag qab)|((guard_hyp hlt:(3:Nat)<5);refine qaa (4,_,_) ?_ ?_ qag qab)|((guard_hyp hlt:(4:Nat)<5);refine qaa (5,_,_) ?_ ?_ qag qab)
    ·exact ⟨om,by (simp only [List.length_append,List.length_cons,List.length_nil];omega)⟩
    ·omega
   refine t8 ?_;first|((guard_hyp hlt:(0:Nat)<5);refine qaa (1,_,_) ?_ ?_ qag qab)|((guard_hyp hlt:(1:Nat)<5);refine qaa (2,_,_) ?_ ?_ qag qab)|((guard_hyp hlt:(2:Nat)<5);refine qaa (3,_,_) ?_ ?_ qag qab)|((guard_hyp hlt:(3:Nat)<5);refine qaa (4,_,_) ?_ ?_ qag qab)|((guard_hyp hlt:(4:Nat)<5);refine qaa (5,_,_) ?_ ?_ qag qab)
   ·exact ⟨om,by (dsimp only;omega)⟩
   ·omega
 have hke:k=5:=by have:=of_decide_eq_false h12;omega
 clear h12;subst hke;refine qa7 hX (v:=slV es.length v_0) qaf ?_;refine qbv (b:=i6) (As':=tN24.cells ⟨lv,lm,dd,hg,rt,es⟩) qaf qbo ?_;refine t9 ?_;refine kRF call242 (qna ⟨lv,lm,dd,hg,rt,es⟩) ?_;refine t3 ?_;refine cN ?_ ?_<;>intro h19
 ·refine t9 ?_;exact Z78
 have hv:vN ⟨lv,lm,dd,hg,rt,es⟩=true:=by simpa using h19
 refine t10 ?_;exact quf ((⟨_,_,_,_,(⟨_,_⟩:Pt),_⟩:N24),_) results222 (hp:=by exact vN_ok hv)
def PL24 (level:Int) (key:BitVec 32) (r:P24):Prop:=r.need.length<=1∧qiy r.node∧(r.need=[]->r.noTree=false->r.none=false->r.code=0->r.node.level=level∧UV key<=UV r.node.high)∧Ln r.page
theorem qi5 (key:BitVec 32) (level:Int) (ks:List Pg) (h0:0<=level):FnP prog 199 [Is (.int .u32 (UV key)),Ii level,qad tPg ks] (qfc (PL24 level key) fun r=>qwa r):=by
 refine FnP.enter func199 ntmps199 rfl rfl ?_;intro c hX;refine t3 ?_;intro i6;refine t5 ?_;refine Z27 ?_;intro i7;refine t11 ?_;refine cN ?_ ?_<;>intro h2
 ·refine t2 ?_;refine Z1 ?_;refine t6 ?_;exact rXF (⟨_,_,_,_,(⟨_,_,_,_,_,_,_,_,_⟩:Pg),(⟨_,_,_,_,(⟨_,_⟩:Pt),_⟩:N24),(⟨_,_,_,_,(⟨_,_⟩:Pt),_⟩:N24),_,_,_⟩:P24) results199 (hp:=by exact ⟨Nat.le_refl _,qe7,fun h=>absurd h (List.cons_ne_nil _ _),ln0⟩)
 refine t5 ?_;refine kRF call221 (qnc _) ?_;(refine qh0 30 rfl ?_;intro x30);refine t5 ?_;intro i9;refine t12 ?_;refine cN ?_ ?_<;>intro h5
 ·refine t8 ?_;exact rXF (⟨_,_,_,_,(⟨_,_,_,_,_,_,_,_,_⟩:Pg),(⟨_,_,_,_,(⟨_,_⟩:Pt),_⟩:N24),(⟨_,_,_,_,(⟨_,_⟩:Pt),_⟩:N24),_,_,_⟩:P24) results199 (hp:=by exact ⟨nZ _,qe7,fun _ _ _ h=>absurd (show (14:Int)=0 from h) de,ln0⟩)
 refine t7 ?_;refine Z54 ?_;refine t2 ?_;refine cN ?_ ?_<;>intro h7
 ·refine t8 ?_;exact rXF (⟨_,_,_,_,(⟨_,_,_,_,_,_,_,_,_⟩:Pg),(⟨_,_,_,_,(⟨_,_⟩:Pt),_⟩:N24),(⟨_,_,_,_,(⟨_,_⟩:Pt),_⟩:N24),_,_,_⟩:P24) results199 (hp:=by exact ⟨nZ _,qe7,fun _ h=>Bool.noConfusion h,ln0⟩)
 refine t6 ?_;intro i12;refine t9 ?_;refine qbv (b:=i9) (As':=tPt.cells (⟨_,_⟩:Pt)) qaf qbo ?_;refine qbv (b:=i12) (As':=tP24.cells (⟨_,_,_,_,(⟨_,_,_,_,_,_,_,_,_⟩:Pg),(⟨_,_,_,_,(⟨_,_⟩:Pt),_⟩:N24),(⟨_,_,_,_,(⟨_,_⟩:Pt),_⟩:N24),_,_,_⟩:P24)) qaf qbo ?_;refine qax [(0,_),(1,_),(2,_),(6,_),(9,_),(12,_)] [blk i6 _ _] (fun y:Pt×P24×Int=>(y.2.1.need=[]∧Ln y.2.1.page)∧qiy y.2.1.node∧(0<=y.2.1.hops∧y.2.1.hops<=256)∧(y.2.2 = -1∨(level<=y.2.2∧y.2.2<=8))) (fun y=>[(13,Ii y.2.2)]) (fun y=>[blk i9 57 (tPt.cells y.1),blk i12 323 (tP24.cells y.2.1)]) (fun y=>((if y.2.2<0 then 10 else y.2.2)+(257-y.2.1.hops)).toNat) ((⟨_,_⟩:Pt),(⟨_,_,_,_,(⟨_,_,_,_,_,_,_,_,_⟩:Pg),(⟨_,_,_,_,(⟨_,_⟩:Pt),_⟩:N24),(⟨_,_,_,_,(⟨_,_⟩:Pt),_⟩:N24),_,_,_⟩:P24),-1) ?_ qag qab ?_
 ·exact (⟨⟨rfl,ln0⟩,qe7,⟨(show (0:Int)<=0 by omega),(show (0:Int)<=256 by omega)⟩,Or.inl rfl⟩)
 rintro ⟨a,o,w⟩ hI;dsimp only at hI ⊢;refine t5 ?_;refine Z59 ?_;intro i14;refine t7 ?_;obtain ⟨⟨hi1,hip⟩,hi2,hi3,hi4⟩:=hI;refine t5 ?_;refine cN ?_ ?_<;>intro h12
 ·have hc:(lkV ks a 4 false).2.2≠0:=by simpa using h12
  refine t18 ?_;exact rXF (⟨_,_,_,_,(⟨_,_,_,_,_,_,_,_,_⟩:Pg),(⟨_,_,_,_,(⟨_,_⟩:Pt),_⟩:N24),(⟨_,_,_,_,(⟨_,_⟩:Pt),_⟩:N24),_,_,_⟩:P24) results199 (hp:=by exact ⟨by rw [hi1];exact nZ _,hi2,fun _ _ _ h=>absurd h hc,hip⟩)
 refine t9 ?_;refine cN ?_ ?_<;>intro h15
 ·refine t4 ?_;refine Z1 ?_;refine t9 ?_;exact rXF (⟨_,_,_,_,(⟨_,_,_,_,_,_,_,_,_⟩:Pg),(⟨_,_,_,_,(⟨_,_⟩:Pt),_⟩:N24),(⟨_,_,_,_,(⟨_,_⟩:Pt),_⟩:N24),_,_,_⟩:P24) results199 (hp:=by exact ⟨Nat.le_refl _,qe7,fun h=>absurd h (List.cons_ne_nil _ _),ln0⟩)
 refine t5 ?_;refine kRF call222 (qkf _) ?_;(refine qbj 62 rfl ?_;intro x62 hx62);refine t4 ?_;intro i17;refine t6 ?_;obtain ⟨hn1,hn2,hn3⟩:=id hx62;refine t15 ?_;refine cN ?_ ?_<;>intro h18
 ·refine t17 ?_;exact rXF (⟨_,_,_,_,(⟨_,_,_,_,_,_,_,_,_⟩:Pg),(⟨_,_,_,_,(⟨_,_⟩:Pt),_⟩:N24),(⟨_,_,_,_,(⟨_,_⟩:Pt),_⟩:N24),_,_,_⟩:P24) results199 (hp:=by exact ⟨by rw [hi1];exact nZ _,hi2,fun _ _ _ h=>absurd (show (14:Int)=0 from h) de,hip⟩)
 have hw:w<0∨x62.1.level=w:=by
  by_cases hw0:w<0
  ·exact Or.inl hw0
  ·refine Or.inr ?_;rw [decide_eq_true (show w>=0 by omega),Bool.true_and,Bool.or_eq_false_iff] at h18
   simpa using h18.2
 clear h18;refine t9 ?_;refine qbw [(0,_),(1,_),(2,_),(6,_),(9,_),(12,_),(13,_),(14,_),(15,_),(16,_),(17,_),(18,_),(42,_),(43,_),(44,_),(45,_),(46,_),(47,_),(48,_),(49,_),(54,_),(60,_),(61,_),(62,_),(63,_),(64,_),(65,_),(66,_),(67,_),(68,_),(69,_),(70,_),(71,_),(72,_),(73,_),(74,_),(75,_),(79,_)] [blk i17 _ _,blk i14 _ _,blk i9 _ _,blk i6 _ _] (fun yc:P24=>(yc.need=[]∧Ln yc.page)∧qiy yc.node∧yc.hops=o.hops∧level<=x62.1.level) (fun yc=>[]) (fun yc=>[blk i12 323 (tP24.cells yc)]) qag qab ?_ ?_
 rotate_left
 focus
  refine cN ?_ ?_<;>intro h21
  ·refine t15 ?_;refine cN ?_ ?_<;>intro h23
   ·refine t11 ?_;exact rXF (⟨_,_,_,_,(⟨_,_,_,_,_,_,_,_,_⟩:Pg),(⟨_,_,_,_,(⟨_,_⟩:Pt),_⟩:N24),(⟨_,_,_,_,(⟨_,_⟩:Pt),_⟩:N24),_,_,_⟩:P24) results199 (hp:=by exact ⟨nZ _,qe7,fun _ _ h=>Bool.noConfusion h,ln0⟩)
   have hl0:=of_decide_eq_false h23;refine s1 ?_;refine qan (b:=i12) (As':=tP24.cells (⟨_,_,_,_,(⟨_,_,_,_,_,_,_,_,_⟩:Pg),(⟨_,_,_,_,(⟨_,_⟩:Pt),_⟩:N24),(⟨_,_,_,_,(⟨_,_⟩:Pt),_⟩:N24),_,_,_⟩:P24)) qaf qbo ?_;refine qal (⟨_,_,_,_,(⟨_,_,_,_,_,_,_,_,_⟩:Pg),(⟨_,_,_,_,(⟨_,_⟩:Pt),_⟩:N24),(⟨_,_,_,_,(⟨_,_⟩:Pt),_⟩:N24),_,_,_⟩:P24) ?_ qag qab
   ·exact (⟨⟨hi1,hip⟩,hi2,rfl,om⟩)
  have hw0:=of_decide_eq_false h21;refine s1 ?_;refine qan (b:=i12) (As':=tP24.cells (⟨_,_,_,_,(⟨_,_,_,_,_,_,_,_,_⟩:Pg),(⟨_,_,_,_,(⟨_,_⟩:Pt),_⟩:N24),(⟨_,_,_,_,(⟨_,_⟩:Pt),_⟩:N24),_,_,_⟩:P24)) qaf qbo ?_;refine qal (⟨_,_,_,_,(⟨_,_,_,_,_,_,_,_,_⟩:Pg),(⟨_,_,_,_,(⟨_,_⟩:Pt),_⟩:N24),(⟨_,_,_,_,(⟨_,_⟩:Pt),_⟩:N24),_,_,_⟩:P24) ?_ qag qab
  ·exact (⟨⟨hi1,hip⟩,hi2,rfl,om⟩)
 rintro o2 hI;refine t9 ?_;obtain ⟨⟨hq1,hqp⟩,hq2,hq3,hq4⟩:=hI;refine t11 ?_;refine cN ?_ ?_<;>intro h26
 ·refine t40 ?_;refine t4 ?_;(refine qcg rfl rfl rfl (fun hg=>(by have hg0:=hg;(try simp at hg);exact qh8 evG evG)) ?_);refine t3 ?_;refine cN ?_ ?_<;>intro h30
  ·refine t18 ?_;exact rXF (⟨_,_,_,_,(⟨_,_,_,_,_,_,_,_,_⟩:Pg),(⟨_,_,_,_,(⟨_,_⟩:Pt),_⟩:N24),(⟨_,_,_,_,(⟨_,_⟩:Pt),_⟩:N24),_,_,_⟩:P24) results199 (hp:=by exact ⟨by rw [hq1];exact nZ _,hq2,fun _ _ _ h=>absurd (show (14:Int)=0 from h) de,hqp⟩)
  have hh:¬ (o2.hops+1>256):=by
   simp only [Bool.or_eq_false_iff] at h30;have:=of_decide_eq_false h30.1;exact this
  clear h30;refine t12 ?_;refine qan (b:=i9) (As':=tPt.cells (⟨_,_⟩:Pt)) qaf qbo ?_;refine qan (b:=i12) (As':=tP24.cells (⟨_,_,_,_,(⟨_,_,_,_,_,_,_,_,_⟩:Pg),(⟨_,_,_,_,(⟨_,_⟩:Pt),_⟩:N24),(⟨_,_,_,_,(⟨_,_⟩:Pt),_⟩:N24),_,_,_⟩:P24)) qaf qbo ?_;refine qaa ((⟨_,_⟩:Pt),(⟨_,_,_,_,(⟨_,_,_,_,_,_,_,_,_⟩:Pg),(⟨_,_,_,_,(⟨_,_⟩:Pt),_⟩:N24),(⟨_,_,_,_,(⟨_,_⟩:Pt),_⟩:N24),_,_,_⟩:P24),_) ?_ ?_ qag qab
  ·exact ⟨⟨hq1,hqp⟩,hq2,⟨(show 0<=o2.hops+1 by omega),(show o2.hops+1<=256 by omega)⟩,Or.inr ⟨(show level<=x62.1.level by omega),(show x62.1.level<=8 by omega)⟩⟩
  ·(show ((if x62.1.level<0 then (10:Int) else x62.1.level)+(257-(o2.hops+1))).toNat<((if w<0 then (10:Int) else w)+(257-o.hops)).toNat;rw [if_neg (show ¬ x62.1.level<0 by omega)];split <;> omega)
 refine t11 ?_;refine cN ?_ ?_<;>intro h34
 ·refine qec (b:=i14) hX qaf ?_;refine qbl 14 (IsRef (tPg.cells (lkV ks a 4 false).1)) rfl qf1 ?_;refine qec (b:=i17) hX qaf ?_;refine qbl 17 (IsRef (tN24.cells x62.1)) rfl qf1 ?_;have hlv:x62.1.level=level:=by simpa using h34
  have hky:UV key<=UV x62.1.high:=by
   rw [Bool.or_eq_false_iff] at h26;have:=of_decide_eq_false h26.2;omega
  refine s1 ?_;refine Z5 ?_;refine qdn [0,0,0,2,0,2] kr kr ?_;refine qhc (by exact qa6 (n:=9) (er rfl) rfl rfl rfl rf qbx) ?_;refine qhc (by exact qa6 (n:=7) (er rfl) rfl rfl rfl rf qbx) ?_;refine qhc (by exact qbe (k:=4) (er rfl) rfl rfl rfl rfl) ?_;refine Z21 ?_;refine qhc (by exact qbe (k:=13) (er rfl) rfl rfl rfl rfl) ?_;refine Z21 ?_;refine qjn ?_;refine qda ?_;refine t5 ?_;refine Z43 ?_;refine cN ?_ ?_<;>intro h36
  ·refine t16 ?_;exact rXF (⟨_,_,_,_,(⟨_,_,_,_,_,_,_,_,_⟩:Pg),(⟨_,_,_,_,(⟨_,_⟩:Pt),_⟩:N24),(⟨_,_,_,_,(⟨_,_⟩:Pt),_⟩:N24),_,_,_⟩:P24) results199 (hp:=by exact ⟨by rw [hq1];exact nZ _,hx62,fun _ _ _ _=>⟨hlv,hky⟩,qhu _ _ _ _⟩)
  refine t13 ?_;exact rXF (⟨_,_,_,_,(⟨_,_,_,_,_,_,_,_,_⟩:Pg),(⟨_,_,_,_,(⟨_,_⟩:Pt),_⟩:N24),(⟨_,_,_,_,(⟨_,_⟩:Pt),_⟩:N24),_,_,_⟩:P24) results199 (hp:=by exact ⟨by rw [hq1];exact nZ _,hx62,fun _ _ _ _=>⟨hlv,hky⟩,qhu _ _ _ _⟩)
 have hne:x62.1.level≠level:=by simpa using h34
 refine t13 ?_;refine qao rfl (by ((refine qac call223 (child_ok x62.1 _ ?_) ⟨qap,⟨qap,trivial⟩⟩);all_goals (omega))) ?_;(refine qh0 147 rfl ?_;intro x147);refine qao rfl (qnp (n:=2) (er rfl) rfl rfl rfl rfl rfl qbx) ?_;refine t3 ?_;refine qan (b:=i9) (As':=tPt.cells (⟨_,_⟩:Pt)) qaf qbo ?_;refine qan (b:=i12) (As':=tP24.cells (⟨_,_,_,_,(⟨_,_,_,_,_,_,_,_,_⟩:Pg),(⟨_,_,_,_,(⟨_,_⟩:Pt),_⟩:N24),(⟨_,_,_,_,(⟨_,_⟩:Pt),_⟩:N24),_,_,_⟩:P24)) qaf qbo ?_;refine qaa ((⟨_,_⟩:Pt),(⟨_,_,_,_,(⟨_,_,_,_,_,_,_,_,_⟩:Pg),(⟨_,_,_,_,(⟨_,_⟩:Pt),_⟩:N24),(⟨_,_,_,_,(⟨_,_⟩:Pt),_⟩:N24),_,_,_⟩:P24),_) ?_ ?_ qag qab
 ·exact ⟨⟨hq1,hqp⟩,hq2,⟨(show 0<=o2.hops by omega),(show o2.hops<=256 by omega)⟩,Or.inr ⟨(show level<=x62.1.level-1 by omega),(show x62.1.level-1<=8 by omega)⟩⟩
 ·(show ((if x62.1.level-1<0 then (10:Int) else x62.1.level-1)+(257-o2.hops)).toNat<((if w<0 then (10:Int) else w)+(257-o.hops)).toNat;rw [if_neg (show ¬ x62.1.level-1<0 by omega)];split <;> omega)
@[reducible] def zg3 (a:O24):VP:=IsAgg [Ii a.code,Ib a.found,Ib a.done,Ib a.split,Ib a.unposted,Ib a.dead,Ib a.more,Ii a.to.line,Ii a.to.gen,Is (.slice none 0 0),qad qaw a.check,Ii a.hops,Ii a.fresh,Ii a.height]
def zao (r:S24):Prop:=WL 2 r.writes∧r.need.length<=1∧r.out.check.length<=300
theorem qrj (p:Pg) (n:N24) (l:List En) (fr:List Pg) (x:Int) (o:O24) (hl:l.length<=7) (ho:o.check.length<=1) (hp:Ln p):FnF prog 235 [qcv p,qyg n,qad tEn l,qad tPg fr,Ii x,qye o] (fun B=>qfc zao fun r=>qki B r):=by
 refine FnF.enter func235 ntmps235 rfl rfl ?_;intro c hX;refine t3 ?_;intro i6;refine s1 ?_;intro i7;refine s1 ?_;intro i11;refine s1 ?_;intro i12;refine t10 ?_;refine cN ?_ ?_<;>intro h1
 ·refine t11 ?_;refine qao rfl (by ((refine qac call234 (qdl _ (⟨_,_,_,_,(⟨_,_⟩:Pt),_⟩:N24) ?_) ⟨qbg,⟨qbg,trivial⟩⟩);all_goals (first|first|assumption|exact qhu _ _ _ _|exact qfb _ ⟨de,de⟩))) ?_;refine t4 ?_;intro i13;refine t5 ?_;refine qfe (b:=i13) (fun _=>qaf) ?_;intro p13 hln13;refine t8 ?_;refine Z2 ?_;refine t7 ?_;exact rXF (⟨_,_,(⟨_,_,_,_,_,_,_,(⟨_,_⟩:Pt),_,_,_,_,_⟩:O24),_⟩:S24) results235 (hp:=by exact ⟨wl1 (by assumption),nZ _,nT ho om⟩)
 have hl5:5<l.length:=by have:=of_decide_eq_false h1;omega
 have hz2:l[2]?=some _:=gE om;refine t5 ?_;refine Z1 ?_;refine t3 ?_;refine Z26 ?_;refine qao rfl (by ((refine qac call90 (zgg _ [4] [p.l,x] ?_ ?_) ⟨qap,⟨qap,⟨qap,trivial⟩⟩⟩);all_goals (first|decide|simp))) ?_;(refine qbj 45 rfl ?_;intro x45 hx45);refine t14 ?_;refine cN ?_ ?_<;>intro h7
 ·refine t16 ?_;refine kXF call224 (qaz c.w.heap.size (⟨_,_,_,_,_,_,_,(⟨_,_⟩:Pt),_,_,_,_,_⟩:O24) _) ?_;refine t5 ?_;exact rXF (⟨_,_,(⟨_,_,_,_,_,_,_,(⟨_,_⟩:Pt),_,_,_,_,_⟩:O24),_⟩:S24) results235 (hp:=by exact ⟨wl0,nZ _,nZ _⟩)
 refine t9 ?_;refine cN ?_ ?_<;>intro h11
 ·refine t10 ?_;refine kXF call224 (qaz c.w.heap.size (⟨_,_,_,_,_,_,_,(⟨_,_⟩:Pt),_,_,_,_,_⟩:O24) _) ?_;refine t5 ?_;exact rXF (⟨_,_,(⟨_,_,_,_,_,_,_,(⟨_,_⟩:Pt),_,_,_,_,_⟩:O24),_⟩:S24) results235 (hp:=by exact ⟨wl0,nZ _,nZ _⟩)
 obtain ⟨hlu,hlv⟩:=hx45 (by simpa using h11);obtain ⟨pa,hza⟩:=quw hlu;have hla:Ln pa:=hlv _ (List.mem_of_getElem? hza);refine Z32 ?_;refine qx3 ?_;refine t7 ?_;refine qbc (qe6 (er rfl) rfl rfl ⟨_,_,(er rfl),(show _=((3:Nat):Int) by rfl)⟩ rfl om om) ?_;refine s1 ?_;refine Z4 ?_;refine ⟨rfl,?_⟩;intro i17;refine qda ?_;refine t4 ?_;refine qao rfl (qe6 (er rfl) rfl rfl rfl ⟨_,_,(er rfl),(show _=((3:Nat):Int) by rfl)⟩ om om) ?_;refine t7 ?_;refine qao rfl (by exact qak (j:=2) (er rfl) (er rfl) rfl rfl rf hz2) ?_;refine t9 ?_;refine qao rfl (by exact qak (j:=0) (er rfl) (er rfl) rfl rfl rf hza) ?_;refine s1 ?_;refine kRF call83 (qqp _) ?_;refine t8 ?_;refine qao rfl (by ((refine qac call234 (qdl _ (⟨_,_,_,_,(⟨_,_⟩:Pt),_⟩:N24) ?_) ⟨qbg,⟨qbg,trivial⟩⟩);all_goals (first|first|assumption|exact qhu _ _ _ _|exact qfb _ ⟨de,de⟩))) ?_;refine t4 ?_;intro i18;refine t5 ?_;refine qfe (b:=i18) (fun _=>qaf) ?_;intro p18 hln18;refine Z5 ?_;refine qx3 ?_;refine s1 ?_;refine qbc (by exact qak (j:=0) (er rfl) (er rfl) rfl rfl rf hza) ?_;refine t2 ?_;refine qbc (by ((refine qac call234 (qdl _ (⟨_,_,_,_,(⟨_,_⟩:Pt),_⟩:N24) ?_) ⟨qbg,⟨qbg,trivial⟩⟩);all_goals (first|first|assumption|exact qhu _ _ _ _|exact qfb _ ⟨de,de⟩))) ?_;refine Z41 ?_;refine ⟨rfl,?_⟩;intro i20;refine Z33 ?_;refine qfe (b:=i20) (fun _=>qaf) ?_;intro p20 hln20;refine t8 ?_;refine Z5 ?_;refine qaj 6 kr ?_;refine Z13 ?_;refine qbc (by ((refine qau call88 (qb8 _ _ ?_) ⟨qap,⟨qap,trivial⟩⟩);all_goals ((simp;done)))) ?_;refine t2 ?_;refine ⟨rfl,?_⟩;refine Z3 ?_;refine t2 ?_;exact rXF (⟨_,_,(⟨_,_,_,_,_,_,_,(⟨_,_⟩:Pt),_,_,_,_,_⟩:O24),_⟩:S24) results235 (hp:=by exact ⟨qgw (n:=0) wl0 (wl2 (n:=0) (by assumption) (by assumption)) de,nZ _,nT ho om⟩)
theorem quy (op:Op24) (ks:List Pg):FnF prog 227 [qom op,qad tPg ks] (fun B=>qfc (fun r=>zao r∧(op.kind=8->r.out.done=false)) fun r=>qki B r):=by
 refine FnF.enter func227 ntmps227 rfl rfl ?_;intro c hX;refine t3 ?_;intro i2;refine s1 ?_;intro i4;refine t15 ?_;refine cN ?_ ?_<;>intro h1
 ·refine t3 ?_;refine kXF call224 (qaz c.w.heap.size (⟨_,_,_,_,_,_,_,(⟨_,_⟩:Pt),_,_,_,_,_⟩:O24) _) ?_;refine t5 ?_;exact rXF (⟨_,_,(⟨_,_,_,_,_,_,_,(⟨_,_⟩:Pt),_,_,_,_,_⟩:O24),_⟩:S24) results227 (hp:=by exact ⟨⟨wl0,nZ _,by exact nZ _⟩,fun _=>rfl⟩)
 have h8:op.kind≠8:=by
  rw [Bool.or_eq_false_iff] at h1
  simpa using h1.2
 refine t5 ?_;refine Z27 ?_;intro i5;refine t8 ?_;refine Z43 ?_;refine cN ?_ ?_<;>intro h4
 ·refine t3 ?_;refine kXF call224 (qaz c.w.heap.size (⟨_,_,_,_,_,_,_,(⟨_,_⟩:Pt),_,_,_,_,_⟩:O24) _) ?_;refine t5 ?_;exact rXF (⟨_,_,(⟨_,_,_,_,_,_,_,(⟨_,_⟩:Pt),_,_,_,_,_⟩:O24),_⟩:S24) results227 (hp:=by exact ⟨⟨wl0,nZ _,by exact nZ _⟩,fun _=>rfl⟩)
 refine t16 ?_;refine cN ?_ ?_<;>intro h7
 ·refine t2 ?_;refine Z1 ?_;refine s1 ?_;refine kXF call224 (qaz c.w.heap.size (⟨_,_,_,_,_,_,_,(⟨_,_⟩:Pt),_,_,_,_,_⟩:O24) _) ?_;refine t6 ?_;exact rXF (⟨_,_,(⟨_,_,_,_,_,_,_,(⟨_,_⟩:Pt),_,_,_,_,_⟩:O24),_⟩:S24) results227 (hp:=by exact ⟨⟨wl0,nZ _,by (show 1<=300;omega)⟩,fun _=>rfl⟩)
 refine t6 ?_;refine cN ?_ ?_<;>intro h9
 ·refine t4 ?_;refine Z1 ?_;refine Z1 ?_;refine qao rfl (by ((refine qac call90 (zgg _ [4] [96] ?_ ?_) ⟨qap,⟨qap,⟨qap,trivial⟩⟩⟩);all_goals (decide))) ?_;(refine qbj 46 rfl ?_;intro x46 hx46);refine t14 ?_;refine cN ?_ ?_<;>intro h11
  ·refine t4 ?_;refine kXF call224 (qaz c.w.heap.size (⟨_,_,_,_,_,_,_,(⟨_,_⟩:Pt),_,_,_,_,_⟩:O24) _) ?_;refine t7 ?_;exact rXF (⟨_,_,(⟨_,_,_,_,_,_,_,(⟨_,_⟩:Pt),_,_,_,_,_⟩:O24),_⟩:S24) results227 (hp:=by exact ⟨⟨wl0,nZ _,by exact nZ _⟩,fun _=>rfl⟩)
  refine t9 ?_;refine cN ?_ ?_<;>intro h13
  ·refine t4 ?_;refine kXF call224 (qaz c.w.heap.size (⟨_,_,_,_,_,_,_,(⟨_,_⟩:Pt),_,_,_,_,_⟩:O24) _) ?_;refine t7 ?_;exact rXF (⟨_,_,(⟨_,_,_,_,_,_,_,(⟨_,_⟩:Pt),_,_,_,_,_⟩:O24),_⟩:S24) results227 (hp:=by exact ⟨⟨wl0,nZ _,by exact nZ _⟩,fun _=>rfl⟩)
  obtain ⟨hlu,hlv⟩:=hx46 (by simpa using h13);obtain ⟨pa,hza⟩:=quw hlu;have hla:Ln pa:=hlv _ (List.mem_of_getElem? hza);refine Z32 ?_;refine qaj 17 kr ?_;refine s1 ?_;refine qbc (by exact qak (j:=0) (er rfl) (er rfl) rfl rfl rf hza) ?_;refine t6 ?_;refine Z9 ?_;refine s1 ?_;refine qbc (by ((refine qac call234 (qdl _ (⟨_,_,_,_,(⟨_,_⟩:Pt),_⟩:N24) ?_) ⟨qbg,⟨qbg,trivial⟩⟩);all_goals (first|first|assumption|exact qhu _ _ _ _|exact qfb _ ⟨de,de⟩))) ?_;refine Z41 ?_;refine ⟨rfl,?_⟩;intro i9;refine Z33 ?_;refine qfe (b:=i9) (fun _=>qaf) ?_;intro p9 hln9;refine Z5 ?_;refine zaj ?_;refine t2 ?_;refine qbc (by exact qak (j:=0) (er rfl) (er rfl) rfl rfl rf hza) ?_;refine s1 ?_;refine Z55 ?_;refine qbc (by ((refine qac call244 (qkb _ (⟨_,_⟩:Pt) _ ?_) ⟨qbg,⟨qbg,⟨qbg,trivial⟩⟩⟩);all_goals (exact qfb _ ⟨de,de⟩))) ?_;refine Z41 ?_;refine ⟨rfl,?_⟩;intro i11;refine Z33 ?_;refine qfe (b:=i11) (fun _=>qaf) ?_;intro p11 hln11;refine t3 ?_;refine Z15 ?_;refine qao rfl (by ((refine qau call88 (qb8 _ _ ?_) ⟨qap,⟨qap,trivial⟩⟩);all_goals ((simp;done)))) ?_;refine t8 ?_;exact rXF (⟨_,_,(⟨_,_,_,_,_,_,_,(⟨_,_⟩:Pt),_,_,_,_,_⟩:O24),_⟩:S24) results227 (hp:=by exact ⟨⟨qgw (n:=0) wl0 (wl2 (n:=0) (by assumption) (by assumption)) de,nZ _,nZ _⟩,fun h=>absurd h h8⟩)
 refine t5 ?_;refine Z1 ?_;refine t6 ?_;exact rXF (⟨_,_,(⟨_,_,_,_,_,_,_,(⟨_,_⟩:Pt),_,_,_,_,_⟩:O24),_⟩:S24) results227 (hp:=by exact ⟨⟨wl0,nZ _,by (show 1<=300;omega)⟩,fun _=>rfl⟩)
theorem addN_ok (o:O24) (p:P24):FnP prog 229 [zg3 o,qwa p] (qfc (fun r:O24=>r.check=o.check∧r.more=o.more∧r.done=o.done) fun r=>zg3 r):=by
 refine FnP.enter func229 ntmps229 rfl rfl ?_;intro c hX;refine t3 ?_;intro i2;refine s1 ?_;intro i3;refine s1 ?_;intro i4;refine t40 ?_;refine s1 ?_;refine kXF call228 (qtc (⟨_,_,_,_,(⟨_,_,_,_,_,_,_,_,_⟩:Pg),(⟨_,_,_,_,(⟨_,_⟩:Pt),_⟩:N24),(⟨_,_,_,_,(⟨_,_⟩:Pt),_⟩:N24),_,_,_⟩:P24)) ?_;(refine qh0 26 rfl ?_;intro x26);refine t2 ?_;refine cN ?_ ?_<;>intro h4
 ·refine t16 ?_;exact rXF (⟨_,_,_,_,_,_,_,(⟨_,_⟩:Pt),[],_,_,_,_⟩:O24) results229 (hp:=by exact ⟨rfl,rfl,rfl⟩)
 refine t9 ?_;exact rXF (⟨_,_,_,_,_,_,_,(⟨_,_⟩:Pt),[],_,_,_,_⟩:O24) results229 (hp:=by exact ⟨rfl,rfl,rfl⟩)
theorem qpv (ks:List Pg) (p:Pt) (level:Int):FnP prog 243 [qad tPg ks,qh6 p,Ii level] (qfc (fun r:Pg×N24×List Int×Int=>r.2.2.1.length<=1∧qiy r.2.1∧Ln r.1) fun r=>qbs [qcv r.1,qyg r.2.1,qad qaw r.2.2.1,Ii r.2.2.2]):=by
 refine FnP.enter func243 ntmps243 rfl rfl ?_;intro c hX;refine t3 ?_;intro i4;refine s1 ?_;intro i6;refine s1 ?_;intro i7;refine t8 ?_;refine Z59 ?_;intro i10;refine t12 ?_;refine cN ?_ ?_<;>intro h2
 ·refine t13 ?_;exact Z99
 refine t9 ?_;refine cN ?_ ?_<;>intro h4
 ·refine s1 ?_;refine Z5 ?_;refine qc1 (it:=blk i7 _ _) (by repeat (first|exact Drop1.here _ _|apply Drop1.next)) ?_;refine qc1 (it:=blk i6 _ _) (by repeat (first|exact Drop1.here _ _|apply Drop1.next)) ?_;refine qcz (its:=[_,_]) 9 kr ?_;refine t4 ?_;refine Z57 ?_;refine qdm (s:=55) rfl rfl rfl kr (fun c'=>by exact qat (er rfl) (er rfl) qas qaf rf rf rf) ?_;refine qdm (s:=56) rfl rfl rfl kr (fun c'=>by exact qat (er rfl) (er rfl) qas qaf rf rf rf) ?_;refine t2 ?_;refine ⟨rfl,?_⟩;intro _ _;refine qda ?_;refine t3 ?_;exact qhd (Bs:=[_,_,_,_]) ((⟨_,_,_,_,_,_,_,_,_⟩:Pg),(⟨_,_,_,_,(⟨_,_⟩:Pt),_⟩:N24),_,_) rfl results243 eXF (List.nil_sublist _) (by exact ⟨by exact Nat.le_refl 1,qe7,qhu _ _ _ _⟩)
 refine t5 ?_;refine kRF call222 (qkf _) ?_;(refine qbj 36 rfl ?_;intro x36 hx36);refine t4 ?_;intro i13;refine t21 ?_;refine cN ?_ ?_<;>intro h7
 ·refine t12 ?_;exact Z99
 refine Z32 ?_;refine qc1 (it:=blk i7 _ _) (by repeat (first|exact Drop1.here _ _|apply Drop1.next)) ?_;refine qc1 (it:=blk i6 _ _) (by repeat (first|exact Drop1.here _ _|apply Drop1.next)) ?_;refine qcz (its:=[_,_]) 6 kr ?_;refine t2 ?_;refine qdm (s:=55) rfl rfl rfl kr (fun c'=>by exact qat (er rfl) (er rfl) qas qaf rf rf rf) ?_;refine qdm (s:=56) rfl rfl rfl kr (fun c'=>by exact qat (er rfl) (er rfl) qas qaf rf rf rf) ?_;refine t2 ?_;refine ⟨rfl,?_⟩;intro _ _;refine Z33 ?_;exact qhd (Bs:=[_,_,_,_]) ((⟨_,_,_,_,_,_,_,_,_⟩:Pg),(⟨_,_,_,_,(⟨_,_⟩:Pt),_⟩:N24),_,_) rfl results243 eXF (List.nil_sublist _) (by exact ⟨nZ _,hx36,qhu _ _ _ _⟩)
theorem Z84 {A B:Prop} (h:A) (f:Bx A→B:=by intro z;refine t3 ?_;refine kXF call229 (addN_ok (⟨_,_,_,_,_,_,_,(⟨_,_⟩:Pt),[],_,_,_,_⟩:O24) (⟨_,_,_,_,(⟨_,_,_,_,_,_,_,_,_⟩:Pg),(⟨_,_,_,_,(⟨_,_⟩:Pt),_⟩:N24),(⟨_,_,_,_,(⟨_,_⟩:Pt),_⟩:N24),_,_,_⟩:P24)) ?_;exact z.out):B:=f ⟨h⟩
abbrev SlA:=Option Addr×Nat
theorem zdb (op:Op24) (p:P24) (o:O24) (ks:List Pg) (hlim:1<=op.limit∧op.limit<=64) (hp:qiy p.node) (ho:o.check=[]) (ho2:o.more=false):FnF prog 230 [qom op,qwa p,zg3 o,qad tPg ks] (fun B=>qfc zao fun r=>qki B r):=by
 obtain ⟨o1,o2,o3,o4,o5,o6,o7,o8,o9,o10,o11,o12,o13⟩:=o;dsimp only at ho ho2;subst ho ho2;refine FnF.enter func230 ntmps230 rfl rfl ?_;intro c hX;refine t3 ?_;intro i4;refine s1 ?_;intro i5;refine s1 ?_;intro i6;refine s1 ?_;intro i8;refine Z32 ?_;refine qaj 8 kr ?_;refine t4 ?_;refine zbw (qcc rfl qbx rfl) ?_;refine Z4 ?_;refine qjk rfl rfl rfl kr (qhg qap qas rfl rfl rfl qbx) ?_;refine ⟨rfl,?_⟩;intro i10 i9;refine Z74 ?_;refine qdo 100 tEn ?_;refine qbv (b:=i9) (As':=tPg.cells (⟨_,_,_,_,_,_,_,_,_⟩:Pg)) qaf qbo ?_;refine qbv (b:=i10) (As':=tN24.cells (⟨_,_,_,_,(⟨_,_⟩:Pt),_⟩:N24)) qaf qbo ?_;refine qax [(3,_),(4,_),(6,_),(8,_),(9,_),(10,_)] [blk i8 _ _,blk i4 _ _] (fun y:Pg×N24×O24×(List En)×Nat×(Option Addr×Nat)=>qiy y.2.1∧(y.2.2.2.1.length:Int)<op.limit∧y.2.2.1.check.length<=y.2.2.2.2.1∧y.2.2.2.2.1<=256) (fun y=>[(11,Ii (y.2.2.2.2.1:Nat))]) (fun y=>[blk i9 50 (tPg.cells y.1),blk i10 321 (tN24.cells y.2.1),blk i6 326 [Ii y.2.2.1.code,Ib y.2.2.1.found,Ib y.2.2.1.done,Ib y.2.2.1.split,Ib y.2.2.1.unposted,Ib y.2.2.1.dead,Ib false,Ii y.2.2.1.to.line,Ii y.2.2.1.to.gen,Is (slV (y.2.2.2.1).length y.2.2.2.2.2),qad qaw y.2.2.1.check,Ii y.2.2.1.hops,Ii y.2.2.1.fresh,Ii y.2.2.1.height],buf (slV (y.2.2.2.1).length y.2.2.2.2.2) 100 tEn (y.2.2.2.1)]) (fun y=>257-y.2.2.2.2.1) ((⟨_,_,_,_,_,_,_,_,_⟩:Pg),(⟨_,_,_,_,(⟨_,_⟩:Pt),_⟩:N24),(⟨_,_,_,_,_,_,_,(⟨_,_⟩:Pt),_,_,_,_,_⟩:O24),[],0,(none,0)) ?_ qag qab ?_
 ·exact (⟨hp,by simp;omega,Nat.le_refl 0,by show (0:Nat)<=256;decide⟩)
 rintro ⟨pg,n,o1,es,m,v_0⟩ hI;dsimp only at hI ⊢;refine t9 ?_;obtain ⟨hi1,hi2,hi3,hi4⟩:=hI;obtain ⟨hn1,hn1b⟩:=id hi1;refine qbw [(3,_),(4,_),(6,_),(8,_),(9,_),(10,_),(11,_),(23,_),(24,_)] [blk i10 _ _,blk i9 _ _,blk i8 _ _,blk i4 _ _] (fun yc:O24×(List En)×SlA=>(yc.2.1.length:Int)<op.limit∧yc.1.check.length<=m+1) (fun yc=>[]) (fun yc=>[blk i6 326 [Ii yc.1.code,Ib yc.1.found,Ib yc.1.done,Ib yc.1.split,Ib yc.1.unposted,Ib yc.1.dead,Ib false,Ii yc.1.to.line,Ii yc.1.to.gen,Is (slV (yc.2.1).length yc.2.2),qad qaw yc.1.check,Ii yc.1.hops,Ii yc.1.fresh,Ii yc.1.height],buf (slV (yc.2.1).length yc.2.2) 100 tEn (yc.2.1)]) qag qab ?_ ?_
 rotate_left
 focus
  refine cN ?_ ?_<;>intro h3
  ·refine t4 ?_;refine Z43 ?_;refine cN ?_ ?_<;>intro h4
   ·refine t11 ?_;refine kXF call224 (qaz c.w.heap.size (⟨_,_,_,_,_,_,_,(⟨_,_⟩:Pt),_,_,_,_,_⟩:O24) _) ?_;refine t9 ?_;exact Z50
   refine t8 ?_;refine qao rfl (by ((refine qac call169 (qjj _ _ ?_) ⟨qap,⟨qap,trivial⟩⟩);all_goals (first|first|assumption|omega|(simp;omega)))) ?_;refine t6 ?_;have hq8:(qfg o1.check pg.l).length<=m+1:=nT (qhv _ _) om;refine t5 ?_;refine qax [(3,_),(4,_),(6,_),(8,_),(9,_),(10,_),(11,_),(23,_),(24,_),(26,_),(38,_),(39,_),(40,_),(41,_),(42,_),(43,_)] [blk i10 _ _,blk i9 _ _,blk i8 _ _,blk i4 _ _] (fun ya:Nat×(List En)×Bool×(Option Addr×Nat)=>ya.1<=(n.entries).length∧((ya.2.1.length:Int)<=op.limit∧(ya.2.2.1=false->(ya.2.1.length:Int)<op.limit))) (fun ya=>[(12,Ii (ya.1:Nat))]) (fun ya=>[blk i6 326 [Ii o1.code,Ib o1.found,Ib o1.done,Ib o1.split,Ib o1.unposted,Ib o1.dead,Ib ya.2.2.1,Ii o1.to.line,Ii o1.to.gen,Is (slV (ya.2.1).length ya.2.2.2),qad qaw (qfg o1.check pg.l),Ii o1.hops,Ii o1.fresh,Ii o1.height],buf (slV (ya.2.1).length ya.2.2.2) 100 tEn (ya.2.1)]) (fun ya=>(n.entries).length-ya.1) (0,es,false,v_0) ?_ qag qab ?_
   ·exact ⟨by exact nZ _,⟨by dsimp only;omega,fun _=>hi2⟩⟩
   rintro ⟨ka,es2,mr,va_0⟩ ⟨hka,hIa⟩;dsimp only at hka hIa ⊢;refine t15 ?_;refine cN ?_ ?_<;>intro h8
   ·rw [Bool.and_eq_true] at h8;have hlta:ka<n.entries.length:=by have:=of_decide_eq_true h8.1;omega
    have hmr:mr=false:=by simpa using h8.2
    have hl2:=hIa.2 hmr;obtain ⟨za,hza⟩:∃ q,n.entries[ka]?=some q:=⟨_,gE hlta⟩
    have hnew:((es2++[za]).length:Int)<=op.limit∧((((es2++[za]).length:Int)==op.limit)=false->((es2++[za]).length:Int)<op.limit):=by
     rw [List.length_append,List.length_singleton];exact ⟨om,fun h=>by have:¬ ((es2.length+1:Nat):Int)=op.limit:=(by simpa using h);omega⟩
    clear h8;refine Z70 ?_;refine qaj 20 kr ?_;refine t3 ?_;refine qbc (by exact qak (j:=_) (er rfl) (er rfl) rfl rfl rf hza) ?_;refine t9 ?_;(refine qch rfl rfl (fun hg=>(by have hg0:=hg;(try simp at hg);exact qak (j:=_) evG evG rfl rfl rf hza)) ?_);refine t6 ?_;refine ⟨rfl,?_⟩;refine Z20 ?_;refine cN ?_ ?_<;>intro h10
    ·refine s1 ?_;refine Z101 ?_;refine t5 ?_;refine qbc (by exact qak (j:=_) (er rfl) (er rfl) rfl rfl rf hza) ?_;refine s1 ?_;refine Z9 ?_;refine ⟨rfl,?_⟩;(refine JD_s kr rfl rfl (qca (er rfl) (fun _=>qaf) (by exact er rfl) (by exact qfz rfl rfl rfl) qcn) ?_;intro i84);refine qaj 1 kr ?_;refine s1 ?_;refine ⟨rfl,?_⟩;refine Z3 ?_;refine t18 ?_;refine qaa (ka+1,_,_,_) ?_ ?_ qag qab
     ·exact ⟨om,by exact hnew⟩
     ·omega
    refine t8 ?_;refine qaa (ka+1,_,_,_) ?_ ?_ qag qab
    ·exact ⟨om,by exact hIa⟩
    ·omega
   skip
   refine t18 ?_;refine cN ?_ ?_<;>intro h13
   ·skip
    refine t12 ?_;refine qi3 hX (v:=slV es2.length va_0) qaf ?_;exact rXF (⟨_,_,(⟨_,_,_,_,_,_,_,(⟨_,_⟩:Pt),_,_,_,_,_⟩:O24),_⟩:S24) results230 (hp:=⟨wl0,nZ _,nT hq8 om⟩)
   rw [Bool.or_eq_false_iff] at h13;obtain ⟨h13a,h13b⟩:=h13;subst h13a;have hq9:=hIa.2 rfl;refine s1 ?_;exact qal ({ o1 with check:=qfg o1.check pg.l,more:=false },es2,va_0) ⟨hq9,hq8⟩ qag qab
  refine t4 ?_;exact qal ({ o1 with dead:=true,more:=false },es,v_0) ⟨hi2,by dsimp only;omega⟩ qag qab
 rintro ⟨o3,es3,v3⟩ hI;dsimp only at hI ⊢;obtain ⟨hq1,hq2⟩:=hI;refine t12 ?_;intro i13;refine t37 ?_;(refine qcg rfl rfl rfl (fun hg=>(by have hg0:=hg;(try simp at hg);exact qh8 evG evG)) ?_);refine t3 ?_;refine cN ?_ ?_<;>intro h20
 ·refine t3 ?_;refine kXF call224 (qaz c.w.heap.size (⟨_,_,_,_,_,_,_,(⟨_,_⟩:Pt),_,_,_,_,_⟩:O24) _) ?_;refine t8 ?_;exact Z50
 rw [Bool.or_eq_false_iff] at h20;have hm9:¬ ((m:Int)+1>256):=of_decide_eq_false h20.1;refine t7 ?_;refine Z59 ?_;intro i14;refine t12 ?_;refine cN ?_ ?_<;>intro h23
 ·refine t4 ?_;refine kXF call224 (qaz c.w.heap.size (⟨_,_,_,_,_,_,_,(⟨_,_⟩:Pt),_,_,_,_,_⟩:O24) _) ?_;refine t8 ?_;exact Z50
 refine t9 ?_;refine cN ?_ ?_<;>intro h25
 ·refine t5 ?_;refine Z1 ?_;refine t9 ?_;exact rXF (⟨_,_,(⟨_,_,_,_,_,_,_,(⟨_,_⟩:Pt),_,_,_,_,_⟩:O24),_⟩:S24) results230 (hp:=by exact ⟨wl0,by exact Nat.le_refl 1,nZ _⟩)
 refine t5 ?_;refine kRF call222 (qkf _) ?_;(refine qbj 156 rfl ?_;intro x156 hx156);refine t4 ?_;intro i17;refine t16 ?_;refine cN ?_ ?_<;>intro h28
 ·refine t3 ?_;refine kXF call224 (qaz c.w.heap.size (⟨_,_,_,_,_,_,_,(⟨_,_⟩:Pt),_,_,_,_,_⟩:O24) _) ?_;refine t8 ?_;exact Z50
 have hn2:qiy x156.1:=hx156;refine qec (b:=i14) hX qaf ?_;refine qbl 14 (IsRef (tPg.cells (lkV ks n.right 4 false).1)) rfl qf1 ?_;refine qec (b:=i17) hX qaf ?_;refine qbl 17 (IsRef (tN24.cells x156.1)) rfl qf1 ?_;refine t2 ?_;refine Z5 ?_;refine qdn [0,0,2,2] kr kr ?_;refine qhc (by exact qa6 (n:=9) (er rfl) rfl rfl rfl rf qbx) ?_;refine qhc (by exact qa6 (n:=7) (er rfl) rfl rfl rfl rf qbx) ?_;refine Z21 ?_;refine Z21 ?_;refine qjn ?_;refine Z20 ?_;refine qan (b:=i9) (As':=tPg.cells (⟨_,_,_,_,_,_,_,_,_⟩:Pg)) qaf qbo ?_;refine qan (b:=i10) (As':=tN24.cells (⟨_,_,_,_,(⟨_,_⟩:Pt),_⟩:N24)) qaf qbo ?_;refine qaa (_,_,{ o3 with hops:=IntKind.i64.wrap (o3.hops+1) },es3,m+1,v3) ?_ ?_ qag qab
 ·exact ⟨hn2,hq1,by dsimp only;omega,by dsimp only;omega⟩
 ·(dsimp only;omega)
theorem zdr (op:Op24) (ks:List Pg) (h0:0<=op.level) (h7:op.level<=7):FnF prog 225 [qom op,qad tPg ks] (fun B=>qfc zao fun r=>qki B r):=by
 refine FnF.enter func225 ntmps225 rfl rfl ?_;intro c hX;refine t3 ?_;intro i2;refine s1 ?_;intro i4;refine t10 ?_;refine qao rfl (by ((refine qac call199 (qi5 _ _ _ ?_) ⟨qap,⟨qap,⟨qap,trivial⟩⟩⟩);all_goals (omega))) ?_;(refine qbj 21 rfl ?_;intro x21 hx21);refine s1 ?_;intro i5;refine t5 ?_;obtain ⟨hd1,hd2,hd3,hdp⟩:=hx21;refine t7 ?_;refine cN ?_ ?_<;>intro h2
 ·refine t10 ?_;exact rXF (⟨_,_,(⟨_,_,_,_,_,_,_,(⟨_,_⟩:Pt),_,_,_,_,_⟩:O24),_⟩:S24) results225 (hp:=by exact ⟨wl0,by exact hd1,by exact nZ _⟩)
 refine t13 ?_;refine cN ?_ ?_<;>intro h4
 ·refine t3 ?_;refine kXF call224 (qaz c.w.heap.size (⟨_,_,_,_,_,_,_,(⟨_,_⟩:Pt),_,_,_,_,_⟩:O24) _) ?_;refine t5 ?_;exact rXF (⟨_,_,(⟨_,_,_,_,_,_,_,(⟨_,_⟩:Pt),_,_,_,_,_⟩:O24),_⟩:S24) results225 (hp:=by exact ⟨wl0,by exact nZ _,by exact nZ _⟩)
 refine t6 ?_;intro i6;refine Z56 ?_;(refine qh0 39 rfl ?_;intro x39);refine t2 ?_;refine qbw [(1,_),(2,_),(4,_),(5,_),(6,_)] [blk i5 _ _,blk i4 _ _,blk i2 _ _] (fun yc:O24=>yc.check=[]) (fun yc=>[]) (fun yc=>[blk i6 326 (tO24.cells yc)]) qag qab ?_ ?_
 rotate_left
 focus
  refine cN ?_ ?_<;>intro h7
  ·refine t3 ?_;refine Z93 ?_;(refine qbj 42 rfl ?_;intro x42 hx42);refine t2 ?_;refine qan (b:=i6) (As':=tO24.cells (⟨_,_,_,_,_,_,_,(⟨_,_⟩:Pt),_,_,_,_,_⟩:O24)) qaf qbo ?_;refine qal (⟨_,_,_,_,_,_,_,(⟨_,_⟩:Pt),_,_,_,_,_⟩:O24) ?_ qag qab
   ·exact (by exact hx42.1)
  refine s1 ?_;refine qan (b:=i6) (As':=tO24.cells (⟨_,_,_,_,_,_,_,(⟨_,_⟩:Pt),_,_,_,_,_⟩:O24)) qaf qbo ?_;refine qal (⟨_,_,_,_,_,_,_,(⟨_,_⟩:Pt),_,_,_,_,_⟩:O24) ?_ qag qab
  ·exact rf
 rintro o hI;refine t8 ?_;refine cN ?_ ?_<;>intro h9
 ·refine t5 ?_;refine kXF call224 (qaz c.w.heap.size (⟨_,_,_,_,_,_,_,(⟨_,_⟩:Pt),_,_,_,_,_⟩:O24) _) ?_;refine t5 ?_;exact rXF (⟨_,_,(⟨_,_,_,_,_,_,_,(⟨_,_⟩:Pt),_,_,_,_,_⟩:O24),_⟩:S24) results225 (hp:=by exact ⟨wl0,by exact nZ _,by (rw [hI];exact nZ _)⟩)
 have hnn:x21.need=[]:=List.eq_nil_of_length_eq_zero (by have:=of_decide_eq_false h2;omega);rw [Bool.or_eq_false_iff] at h4;have hds:=hd3 hnn h4.1 h4.2 (by simpa using h9);obtain ⟨hq1,hq2,hq3⟩:=hd2;obtain ⟨e,he1,he2⟩:=hq3 om;refine t9 ?_;refine qao rfl (by ((refine qac call233 (qsn _ _ ?_) ⟨qap,⟨qap,trivial⟩⟩);all_goals (omega))) ?_;(refine qbj 56 rfl ?_;intro x56 hx56);refine t8 ?_;obtain ⟨hi1,hi2,hi3⟩:=hx56;have hlt:=hi3 e he1 om;have hz:x21.node.entries[x56.1]?=some _:=gE hlt;have hlp:x56.1-1<x21.node.entries.length:=Nat.lt_of_le_of_lt (Nat.sub_le _ _) hlt;have hzp:x21.node.entries[x56.1-1]?=some _:=gE hlp;refine t8 ?_;intro i9;refine t10 ?_;refine kXF call243 (qpv _ (⟨_,_⟩:Pt) _) ?_;(refine qbj 71 rfl ?_;intro x71 hx71);refine t6 ?_;intro i10;refine s1 ?_;intro i11;refine t8 ?_;obtain ⟨hk1,hk2,hkp⟩:=hx71;refine t6 ?_;refine cN ?_ ?_<;>intro h14
 ·refine t9 ?_;exact rXF (⟨_,_,(⟨_,_,_,_,_,_,_,(⟨_,_⟩:Pt),_,_,_,_,_⟩:O24),_⟩:S24) results225 (hp:=by exact ⟨wl0,by exact hk1,by exact nZ _⟩)
 refine t9 ?_;refine cN ?_ ?_<;>intro h16
 ·refine t4 ?_;refine kXF call224 (qaz c.w.heap.size (⟨_,_,_,_,_,_,_,(⟨_,_⟩:Pt),_,_,_,_,_⟩:O24) _) ?_;refine t5 ?_;exact rXF (⟨_,_,(⟨_,_,_,_,_,_,_,(⟨_,_⟩:Pt),_,_,_,_,_⟩:O24),_⟩:S24) results225 (hp:=by exact ⟨wl0,by exact nZ _,by (rw [hI];exact nZ _)⟩)
 refine t9 ?_;refine cN ?_ ?_<;>intro h18
 ·refine t3 ?_;refine kXF call224 (qaz c.w.heap.size (⟨_,_,_,_,_,_,_,(⟨_,_⟩:Pt),_,_,_,_,_⟩:O24) _) ?_;refine t5 ?_;exact rXF (⟨_,_,(⟨_,_,_,_,_,_,_,(⟨_,_⟩:Pt),_,_,_,_,_⟩:O24),_⟩:S24) results225 (hp:=by exact ⟨wl0,by exact nZ _,by (rw [hI];exact nZ _)⟩)
 refine t12 ?_;refine cN ?_ ?_<;>intro h20
 ·refine t15 ?_;exact rXF (⟨_,_,(⟨_,_,_,_,_,_,_,(⟨_,_⟩:Pt),_,_,_,_,_⟩:O24),_⟩:S24) results225 (hp:=by exact ⟨wl0,by exact nZ _,by (rw [hI];exact nZ _)⟩)
 refine Z38 ?_;refine qaj 15 kr ?_;refine t8 ?_;(refine qch rfl rfl (fun hg=>(by have hg0:=hg;(try simp at hg);exact qak (j:=x56.1-1) evG evG rfl rfl om hzp)) ?_);refine t6 ?_;refine ⟨rfl,?_⟩;refine Z20 ?_;refine cN ?_ ?_<;>intro h23
 ·refine t3 ?_;refine kXF call224 (qaz c.w.heap.size (⟨_,_,_,_,_,_,_,(⟨_,_⟩:Pt),_,_,_,_,_⟩:O24) _) ?_;refine t5 ?_;exact rXF (⟨_,_,(⟨_,_,_,_,_,_,_,(⟨_,_⟩:Pt),_,_,_,_,_⟩:O24),_⟩:S24) results225 (hp:=by exact ⟨wl0,by exact nZ _,by (rw [hI];exact nZ _)⟩)
 refine t4 ?_;(refine JL_n rfl (qb4 tEn rfl rfl) ?_;intro i115);refine t4 ?_;refine qao rfl (qe6 (er rfl) rfl rfl rfl ⟨_,_,(er rfl),rf⟩ om om) ?_;(refine qc6 rfl (qca (er rfl) (fun _=>qaf) qap (by exact qfz rfl rfl rfl) qcn) ?_;intro i121);refine t16 ?_;refine qao rfl (OpP.to (qa1 (size:=3) (qs:=[(0,_),(1,_)]) rfl rfl rfl ⟨⟨rfl,_,(er rfl),qas⟩,⟨⟨rfl,_,(er rfl),qas⟩,trivial⟩⟩ rf rf) (SubL.row2 (T:=tEn) (x:=(⟨x71.2.1.high,⟨_,_⟩⟩:En)) (y:=(⟨_,x71.2.1.right⟩:En)) rf rf rf rf qav qav)) ?_;(refine qc6 rfl (qca (er rfl) (fun _=>qaf) qap (by exact qfz rfl rfl rfl) qcn) ?_;intro i134);refine t11 ?_;refine qao rfl (qe6 (er rfl) rfl rfl ⟨_,_,(er rfl),(show _=((x56.1+1:Nat):Int) by rfl)⟩ rfl om om) ?_;(refine qc6 rfl (qca (er rfl) (fun _=>qaf) qap (by exact qfz rfl rfl rfl) qcn) ?_;intro i142);refine t4 ?_;refine qa7 hX (v:=slV _ i142) qaf ?_;refine t3 ?_;refine Z1 ?_;refine t16 ?_;refine qao rfl (by ((refine qau call235 (qrj (⟨_,_,_,_,_,_,_,_,_⟩:Pg) (⟨_,_,_,_,(⟨_,_⟩:Pt),_⟩:N24) _ _ _ (⟨_,_,_,_,_,_,_,(⟨_,_⟩:Pt),_,_,_,_,_⟩:O24) ?_ ?_ ?_) ⟨qbg,⟨qbg,⟨qbg,⟨qbg,⟨qbg,⟨qbg,trivial⟩⟩⟩⟩⟩⟩);all_goals (first|simp;omega|exact Nat.le_refl 1|assumption))) ?_;(refine qbj 157 rfl ?_;intro x157 hx157);refine t4 ?_;exact rXF (⟨_,_,(⟨_,_,_,_,_,_,_,(⟨_,_⟩:Pt),_,_,_,_,_⟩:O24),_⟩:S24) results225 (hp:=by exact hx157)
theorem raise_ok (op:Op24) (ks:List Pg):FnF prog 226 [qom op,qad tPg ks] (fun B=>qfc zao fun r=>qki B r):=by
 refine FnF.enter func226 ntmps226 rfl rfl ?_;intro c hX;refine t3 ?_;intro i2;refine s1 ?_;intro i4;refine t5 ?_;refine Z27 ?_;intro i5;refine t11 ?_;refine cN ?_ ?_<;>intro h2
 ·refine t2 ?_;refine Z1 ?_;refine t6 ?_;exact rXF (⟨_,_,(⟨_,_,_,_,_,_,_,(⟨_,_⟩:Pt),_,_,_,_,_⟩:O24),_⟩:S24) results226 (hp:=by exact ⟨wl0,by exact Nat.le_refl 1,nZ _⟩)
 refine t6 ?_;refine Z43 ?_;refine cN ?_ ?_<;>intro h4
 ·refine t3 ?_;refine kXF call224 (qaz c.w.heap.size (⟨_,_,_,_,_,_,_,(⟨_,_⟩:Pt),_,_,_,_,_⟩:O24) _) ?_;refine t5 ?_;exact Z17
 refine t5 ?_;refine kRF call221 (qnc _) ?_;(refine qh0 36 rfl ?_;intro x36);refine t5 ?_;intro i7;refine t12 ?_;refine cN ?_ ?_<;>intro h7
 ·refine t3 ?_;refine kXF call224 (qaz c.w.heap.size (⟨_,_,_,_,_,_,_,(⟨_,_⟩:Pt),_,_,_,_,_⟩:O24) _) ?_;refine t5 ?_;exact Z17
 refine t7 ?_;refine Z54 ?_;refine t2 ?_;refine cN ?_ ?_<;>intro h9
 ·refine t3 ?_;refine kXF call224 (qaz c.w.heap.size (⟨_,_,_,_,_,_,_,(⟨_,_⟩:Pt),_,_,_,_,_⟩:O24) _) ?_;refine t5 ?_;exact Z17
 refine t6 ?_;refine kXF call243 (qpv _ (⟨_,_⟩:Pt) _) ?_;(refine qbj 52 rfl ?_;intro x52 hx52);refine t6 ?_;intro i10;refine s1 ?_;intro i11;refine t8 ?_;obtain ⟨hk1,hk2,hkp⟩:=hx52;refine t6 ?_;refine cN ?_ ?_<;>intro h12
 ·refine t9 ?_;exact rXF (⟨_,_,(⟨_,_,_,_,_,_,_,(⟨_,_⟩:Pt),_,_,_,_,_⟩:O24),_⟩:S24) results226 (hp:=by exact ⟨wl0,by exact hk1,nZ _⟩)
 refine t9 ?_;refine cN ?_ ?_<;>intro h14
 ·refine t4 ?_;refine kXF call224 (qaz c.w.heap.size (⟨_,_,_,_,_,_,_,(⟨_,_⟩:Pt),_,_,_,_,_⟩:O24) _) ?_;refine t5 ?_;exact Z17
 refine t8 ?_;refine Z54 ?_;refine t2 ?_;refine cN ?_ ?_<;>intro h16
 ·refine t9 ?_;exact Z17
 refine t10 ?_;refine cN ?_ ?_<;>intro h18
 ·refine t3 ?_;refine kXF call224 (qaz c.w.heap.size (⟨_,_,_,_,_,_,_,(⟨_,_⟩:Pt),_,_,_,_,_⟩:O24) _) ?_;refine t5 ?_;exact Z17
 refine t6 ?_;refine Z1 ?_;refine t2 ?_;refine Z26 ?_;refine qao rfl (by ((refine qac call90 (zgg _ [4] [96,x52.1.l] ?_ ?_) ⟨qap,⟨qap,⟨qap,trivial⟩⟩⟩);all_goals (first|decide|simp))) ?_;(refine qbj 85 rfl ?_;intro x85 hx85);refine t14 ?_;refine cN ?_ ?_<;>intro h21
 ·refine t4 ?_;refine kXF call224 (qaz c.w.heap.size (⟨_,_,_,_,_,_,_,(⟨_,_⟩:Pt),_,_,_,_,_⟩:O24) _) ?_;refine t5 ?_;exact Z17
 refine t9 ?_;refine cN ?_ ?_<;>intro h23
 ·refine t4 ?_;refine kXF call224 (qaz c.w.heap.size (⟨_,_,_,_,_,_,_,(⟨_,_⟩:Pt),_,_,_,_,_⟩:O24) _) ?_;refine t5 ?_;exact Z17
 obtain ⟨hlu,hlv⟩:=hx85 (by simpa using h23);obtain ⟨pa,hza⟩:=quw hlu;have hla:Ln pa:=hlv _ (List.mem_of_getElem? hza);refine t14 ?_;refine qao rfl (OpP.to (qa1 (size:=3) (qs:=[(0,_),(1,_)]) rfl rfl rfl ⟨⟨rfl,_,(er rfl),qas⟩,⟨⟨rfl,_,(er rfl),qas⟩,trivial⟩⟩ rf rf) (SubL.row2 (T:=tEn) (x:=(⟨_,(⟨_,_⟩:Pt)⟩:En)) (y:=(⟨_,(⟨_,_⟩:Pt)⟩:En)) rf rf rf rf qav qav)) ?_;refine t2 ?_;intro i16;refine Z38 ?_;refine qx3 ?_;refine s1 ?_;refine qbc (by exact qak (j:=0) (er rfl) (er rfl) rfl rfl rf hza) ?_;refine t2 ?_;refine qbc (by ((refine qac call234 (qdl _ (⟨_,_,_,_,(⟨_,_⟩:Pt),_⟩:N24) ?_) ⟨qbg,⟨qbg,trivial⟩⟩);all_goals (first|first|assumption|exact qhu _ _ _ _|exact qfb _ ⟨de,de⟩))) ?_;refine Z41 ?_;refine ⟨rfl,?_⟩;intro i17;refine Z33 ?_;refine qfe (b:=i17) (fun _=>qaf) ?_;intro p17 hln17;refine Z5 ?_;refine qaj 15 kr ?_;refine t2 ?_;refine qbc (by exact qak (j:=0) (er rfl) (er rfl) rfl rfl rf hza) ?_;refine s1 ?_;refine Z55 ?_;refine t3 ?_;refine qbc (by ((refine qac call244 (qkb _ (⟨_,_⟩:Pt) _ ?_) ⟨qbg,⟨qbg,⟨qbg,trivial⟩⟩⟩);all_goals (exact qfb _ ⟨de,de⟩))) ?_;refine Z41 ?_;refine ⟨rfl,?_⟩;intro i19;refine Z33 ?_;refine qfe (b:=i19) (fun _=>qaf) ?_;intro p19 hln19;refine Z5 ?_;refine qaj 9 kr ?_;refine Z13 ?_;refine qbc (by ((refine qau call88 (qb8 _ _ ?_) ⟨qap,⟨qap,trivial⟩⟩);all_goals ((simp;done)))) ?_;refine t2 ?_;refine Z57 ?_;refine t2 ?_;refine ⟨rfl,?_⟩;refine Z3 ?_;refine t2 ?_;exact rXF (⟨_,_,(⟨_,_,_,_,_,_,_,(⟨_,_⟩:Pt),_,_,_,_,_⟩:O24),_⟩:S24) results226 (hp:=by exact ⟨qgw (n:=0) wl0 (wl2 (n:=0) (by assumption) (by assumption)) de,nZ _,by show 1<=300;omega⟩)
theorem kill_ok (op:Op24) (p:P24) (o:O24) (ks:List Pg) (hp:qiy p.node) (ho:o.check=[]) (hpg:Ln p.page):FnF prog 231 [qom op,qwa p,qye o,qad tPg ks] (fun B=>qfc zao fun r=>qki B r):=by
 refine FnF.enter func231 ntmps231 rfl rfl ?_;intro c hX;refine t3 ?_;intro i4;refine s1 ?_;intro i5;refine s1 ?_;intro i6;refine s1 ?_;intro i8;refine t7 ?_;intro i9;refine t18 ?_;(refine qcg rfl rfl rfl (fun hg=>(by have hg0:=hg;(try simp at hg);exact qh8 evG evG)) ?_);refine t3 ?_;refine cN ?_ ?_<;>intro h2
 ·refine t15 ?_;exact rXF (⟨_,_,(⟨_,_,_,_,_,_,_,(⟨_,_⟩:Pt),_,_,_,_,_⟩:O24),_⟩:S24) results231 (hp:=by exact ⟨by exact wl0,by exact nZ _,by (rw [ho];exact nZ _)⟩)
 refine t7 ?_;refine qao rfl (by ((refine qac call199 (qi5 _ 1 _ ?_) ⟨qap,⟨qap,⟨qap,trivial⟩⟩⟩);all_goals (decide))) ?_;(refine qbj 41 rfl ?_;intro x41 hx41);refine s1 ?_;intro i10;refine t5 ?_;obtain ⟨hd1,hd2,hd3,hdp⟩:=hx41;refine t7 ?_;refine cN ?_ ?_<;>intro h6
 ·refine t10 ?_;exact rXF (⟨_,_,(⟨_,_,_,_,_,_,_,(⟨_,_⟩:Pt),_,_,_,_,_⟩:O24),_⟩:S24) results231 (hp:=by exact ⟨by exact wl0,by exact hd1,by exact nZ _⟩)
 refine t6 ?_;refine Z93 ?_;(refine qbj 51 rfl ?_;intro x51 hx51);refine t5 ?_;obtain ⟨ha1,ha2⟩:=hx51;have hac:x51.check.length<=300:=by rw [ha1,ho];exact nZ _
 refine t9 ?_;refine cN ?_ ?_<;>intro h9
 ·refine t3 ?_;refine kXF call224 (qaz c.w.heap.size (⟨_,_,_,_,_,_,_,(⟨_,_⟩:Pt),_,_,_,_,_⟩:O24) _) ?_;refine t5 ?_;exact rXF (⟨_,_,(⟨_,_,_,_,_,_,_,(⟨_,_⟩:Pt),_,_,_,_,_⟩:O24),_⟩:S24) results231 (hp:=by exact ⟨by exact wl0,by exact nZ _,by exact hac⟩)
 refine t10 ?_;refine cN ?_ ?_<;>intro h11
 ·refine t5 ?_;refine kXF call224 (qaz c.w.heap.size (⟨_,_,_,_,_,_,_,(⟨_,_⟩:Pt),_,_,_,_,_⟩:O24) _) ?_;refine t5 ?_;exact rXF (⟨_,_,(⟨_,_,_,_,_,_,_,(⟨_,_⟩:Pt),_,_,_,_,_⟩:O24),_⟩:S24) results231 (hp:=by exact ⟨by exact wl0,by exact nZ _,by exact hac⟩)
 have hnn:x41.need=[]:=List.eq_nil_of_length_eq_zero (by have:=of_decide_eq_false h6;omega);rw [Bool.or_eq_false_iff] at h9;have hds:=hd3 hnn h9.1 h9.2 (by simpa using h11);obtain ⟨hq1,hq2,hq3⟩:=hd2;obtain ⟨e,he1,he2⟩:=hq3 om;refine t9 ?_;refine qao rfl (by ((refine qac call233 (qsn _ _ ?_) ⟨qap,⟨qap,trivial⟩⟩);all_goals (omega))) ?_;(refine qbj 73 rfl ?_;intro x73 hx73);refine t8 ?_;obtain ⟨hi1,hi2,hi3⟩:=hx73;have hlt:=hi3 e he1 om;have hz:x41.node.entries[x73.1]?=some _:=gE hlt;refine t8 ?_;intro i13;refine Z70 ?_;refine zbq ?_;refine t4 ?_;refine Z55 ?_;refine qbc (qh7 (er rfl) (er rfl)) ?_;refine t7 ?_;refine ⟨rfl,?_⟩;refine Z20 ?_;refine cN ?_ ?_<;>intro h15
 ·refine t3 ?_;refine kXF call224 (qaz c.w.heap.size (⟨_,_,_,_,_,_,_,(⟨_,_⟩:Pt),_,_,_,_,_⟩:O24) _) ?_;refine t5 ?_;exact rXF (⟨_,_,(⟨_,_,_,_,_,_,_,(⟨_,_⟩:Pt),_,_,_,_,_⟩:O24),_⟩:S24) results231 (hp:=by exact ⟨by exact wl0,by exact nZ _,by exact hac⟩)
 refine t14 ?_;refine cN ?_ ?_<;>intro h17
 ·refine t15 ?_;exact rXF (⟨_,_,(⟨_,_,_,_,_,_,_,(⟨_,_⟩:Pt),_,_,_,_,_⟩:O24),_⟩:S24) results231 (hp:=by exact ⟨by exact wl0,by exact nZ _,by exact hac⟩)
 refine t13 ?_;intro i14;refine Z38 ?_;refine Z92 ?_;refine qbc (qe6 (er rfl) rfl rfl ⟨_,_,(er rfl),(show _=((x73.1+1:Nat):Int) by rfl)⟩ rfl om om) ?_;refine Z10 ?_;refine s1 ?_;refine ⟨rfl,?_⟩;intro i121;refine Z3 ?_;refine t2 ?_;refine qa7 hX (v:=slV _ i121) qaf ?_;refine t4 ?_;refine qao rfl (by ((refine qac call234 (qdl _ (⟨_,_,_,_,(⟨_,_⟩:Pt),_⟩:N24) ?_) ⟨qbg,⟨qbg,trivial⟩⟩);all_goals (first|first|assumption|exact qhu _ _ _ _|exact qfb _ ⟨de,de⟩))) ?_;refine t4 ?_;intro i15;refine t5 ?_;refine qfe (b:=i15) (fun _=>qaf) ?_;intro p15 hln15;refine t4 ?_;refine qao rfl (by ((refine qac call234 (qdl _ (⟨_,_,_,_,(⟨_,_⟩:Pt),_⟩:N24) ?_) ⟨qbg,⟨qbg,trivial⟩⟩);all_goals (first|first|assumption|exact qhu _ _ _ _|exact qfb _ ⟨de,de⟩))) ?_;refine t4 ?_;intro i17;refine t5 ?_;refine qfe (b:=i17) (fun _=>qaf) ?_;intro p17 hln17;refine t6 ?_;refine Z5 ?_;refine qaj 6 kr ?_;refine Z13 ?_;refine qbc (by ((refine qau call88 (qb8 _ _ ?_) ⟨qap,⟨qap,trivial⟩⟩);all_goals ((simp;done)))) ?_;refine t2 ?_;refine ⟨rfl,?_⟩;refine Z3 ?_;refine t2 ?_;exact rXF (⟨_,_,(⟨_,_,_,_,_,_,_,(⟨_,_⟩:Pt),_,_,_,_,_⟩:O24),_⟩:S24) results231 (hp:=by exact ⟨by exact qgw (n:=0) wl0 (wl2 (n:=0) (by assumption) (by assumption)) de,by exact nZ _,by exact hac⟩)
@[reducible] def zg0 (B:Nat) (r:S24×Int):VP:=IsAgg [qad qaw r.1.need,qa9 B (qad tPg r.1.writes),Ii r.1.out.code,Ib r.1.out.found,Ib r.1.out.done,Ib r.1.out.split,Ib r.1.out.unposted,Ib r.1.out.dead,Ib r.1.out.more,Ii r.1.out.to.line,Ii r.1.out.to.gen,qad tEn r.1.out.entries,qdi r.1.out.done (qem 1 1 [Ii r.2]) (qad qaw r.1.out.check),Ii r.1.out.hops,Ii r.1.out.fresh,Ii r.1.out.height,Ib r.1.over]
theorem u_sub (B:Nat):Sub (qfc (fun r:S24×Int=>zao r.1) (zg0 B)) (qfc zao fun r=>qki B r):=fun φ v ⟨r,hp,vs,e,k,o⟩=>by
 refine ⟨{ r.1 with out:={ r.1.out with check:=if r.1.out.done then [r.2] else r.1.out.check } },⟨hp.1,hp.2.1,?_⟩,vs,e,?_,o⟩
 ·show (if r.1.out.done then [r.2] else r.1.out.check).length<=300;split
  ·simp
  ·exact hp.2.2
 ·refine Subs.alls ?_ k;cases hd:r.1.out.done
  ·exact ⟨Sub.rfl',Sub.rfl',Sub.rfl',Sub.rfl',by rw [hd];exact Sub.rfl',Sub.rfl',Sub.rfl',Sub.rfl',Sub.rfl',Sub.rfl',Sub.rfl',Sub.rfl',fun φ v h=>h,Sub.rfl',Sub.rfl',Sub.rfl',Sub.rfl',trivial⟩
  ·exact ⟨Sub.rfl',Sub.rfl',Sub.rfl',Sub.rfl',by rw [hd];exact Sub.rfl',Sub.rfl',Sub.rfl',Sub.rfl',Sub.rfl',Sub.rfl',Sub.rfl',Sub.rfl',fun φ v h=>SubL.row (L:=[]) (T:=qaw) (xs:=[r.2]) (As:=[Ii r.2]) rfl rfl (show SubLs [] [Ii r.2] [Ii r.2] from ⟨SubL.rfl',trivial⟩) φ v (fun _ hi=>absurd hi List.not_mem_nil) h,Sub.rfl',Sub.rfl',Sub.rfl',Sub.rfl',trivial⟩
theorem qri (p:P24) (o:O24) (ks:List Pg) (hp:qiy p.node) (ho:o.check=[]∧o.done=false) (hpg:Ln p.page):FnF prog 232 [qwa p,qye o,qad tPg ks] (fun B=>qfc (fun r:S24×Int=>zao r.1) (zg0 B)):=by
 obtain ⟨ho1,ho2⟩:=ho;refine FnF.enter func232 ntmps232 rfl rfl ?_;intro c hX;refine t3 ?_;intro i3;refine s1 ?_;intro i4;refine s1 ?_;intro i6;refine t7 ?_;intro i7;refine t9 ?_;refine Z54 ?_;refine t2 ?_;refine cN ?_ ?_<;>intro h2
 ·refine t15 ?_;exact rXF ((⟨_,_,(⟨_,_,_,_,_,_,_,(⟨_,_⟩:Pt),_,_,_,_,_⟩:O24),_⟩:S24),0) results232 (hp:=by exact ⟨wl0,by exact nZ _,by (rw [ho1];exact nZ _)⟩)
 refine t7 ?_;refine kXF call243 (qpv _ (⟨_,_⟩:Pt) _) ?_;(refine qbj 27 rfl ?_;intro x27 hx27);refine t6 ?_;intro i8;refine s1 ?_;intro i9;refine t8 ?_;obtain ⟨hk1,hk2,hkp⟩:=hx27;refine t6 ?_;refine cN ?_ ?_<;>intro h6
 ·refine t9 ?_;exact rXF ((⟨_,_,(⟨_,_,_,_,_,_,_,(⟨_,_⟩:Pt),_,_,_,_,_⟩:O24),_⟩:S24),0) results232 (hp:=by exact ⟨wl0,by exact hk1,by exact nZ _⟩)
 refine t9 ?_;refine cN ?_ ?_<;>intro h8
 ·refine t4 ?_;refine kXF call224 (qaz c.w.heap.size (⟨_,_,_,_,_,_,_,(⟨_,_⟩:Pt),_,_,_,_,_⟩:O24) _) ?_;refine t5 ?_;exact rXF ((⟨_,_,(⟨_,_,_,_,_,_,_,(⟨_,_⟩:Pt),_,_,_,_,_⟩:O24),_⟩:S24),0) results232 (hp:=by exact ⟨wl0,by exact nZ _,by (rw [ho1];exact nZ _)⟩)
 refine t10 ?_;refine cN ?_ ?_<;>intro h10
 ·refine t15 ?_;exact rXF ((⟨_,_,(⟨_,_,_,_,_,_,_,(⟨_,_⟩:Pt),_,_,_,_,_⟩:O24),_⟩:S24),0) results232 (hp:=by exact ⟨wl0,by exact nZ _,by (rw [ho1];exact nZ _)⟩)
 refine t23 ?_;refine qao rfl (by ((refine qac call234 (qdl _ (⟨_,_,_,_,(⟨_,_⟩:Pt),_⟩:N24) ?_) ⟨qbg,⟨qbg,trivial⟩⟩);all_goals (first|first|assumption|exact qhu _ _ _ _|exact qfb _ ⟨de,de⟩))) ?_;refine t4 ?_;intro i12;refine t5 ?_;refine qfe (b:=i12) (fun _=>qaf) ?_;intro p12 hln12;refine t9 ?_;refine qao rfl (qa1 (size:=1) (qs:=[(0,_)]) rfl rfl rfl ⟨⟨rfl,_,(er rfl),qas⟩,trivial⟩ rf rf) ?_;refine t7 ?_;refine Z2 ?_;refine t6 ?_;exact rXF ((⟨_,_,(⟨_,_,_,_,_,_,_,(⟨_,_⟩:Pt),_,[],_,_,_⟩:O24),_⟩:S24),_) results232 (hp:=by exact ⟨wl1 (by assumption),nZ _,nZ _⟩)
theorem zcq (p:P24) (o:O24) (ks:List Pg) (hp:qiy p.node) (ho:o.check=[]∧o.done=false) (hpg:Ln p.page):FnF prog 232 [qwa p,qye o,qad tPg ks] (fun B=>qfc zao fun r=>qki B r):=(qri p o ks hp ho hpg).sub u_sub
theorem qne (op:Op24) (ks:List Pg):FnF prog 201 [qom op,qad tPg ks] (fun B=>qfc zao fun r=>qki B r):=by
 refine FnF.enter func201 ntmps201 rfl rfl ?_;intro c hX;refine t3 ?_;intro i2;refine s1 ?_;intro i4;refine t22 ?_;refine qbw [(1,_),(2,_),(4,_)] [blk i4 _ _,blk i2 _ _] (fun z:Unit=>op.kind=4->1<=op.limit∧op.limit<=64) (fun z=>[]) (fun z=>[]) qag qab ?_ ?_
 rotate_left
 focus
  refine t8 ?_;refine qbw [(1,_),(2,_),(4,_),(5,_),(24,_)] [blk i4 _ _,blk i2 _ _] (fun yc:Bool=>yc=true->op.kind≠4) (fun yc=>[(27,Ib yc)]) (fun yc=>[]) qag qab ?_ ?_
  rotate_left
  focus
   refine cN ?_ ?_<;>intro h4
   ·have hn4:(op.kind==1)=true->op.kind≠4:=fun h9 h8=>by rw [h8] at h9;exact absurd h9 de
    refine s1 ?_;refine qal _ ?_ qag qab
    ·exact (by exact hn4)
   refine t6 ?_;refine cN ?_ ?_<;>intro h5
   ·have hn4:(op.kind==3)=true->op.kind≠4:=fun h9 h8=>by rw [h8] at h9;exact absurd h9 de
    refine s1 ?_;refine qal _ ?_ qag qab
    ·exact (by exact hn4)
   refine t6 ?_;refine cN ?_ ?_<;>intro h6
   ·have hn4:(op.kind==7)=true->op.kind≠4:=fun h9 h8=>by rw [h8] at h9;exact absurd h9 de
    refine s1 ?_;refine qal _ ?_ qag qab
    ·exact (by exact hn4)
   have hn4:(op.kind==8)=true->op.kind≠4:=fun h9 h8=>by rw [h8] at h9;exact absurd h9 de
   refine t4 ?_;refine qal _ ?_ qag qab
   ·exact (by exact hn4)
  rintro b hI;refine cN ?_ ?_<;>intro h4b
  ·have hnk:op.kind=4->1<=op.limit∧op.limit<=64:=fun h=>absurd h (hI h4b);refine t6 ?_;refine cN ?_ ?_<;>intro h8
   ·refine t3 ?_;refine kXF call224 (qaz c.w.heap.size (⟨_,_,_,_,_,_,_,(⟨_,_⟩:Pt),_,_,_,_,_⟩:O24) _) ?_;refine t6 ?_;exact Z31
   refine t2 ?_;exact qal () hnk qag qab
  refine t6 ?_;refine cN ?_ ?_<;>intro h10
  ·have hk2:op.kind=2:=by simpa using h10
   have hnk:op.kind=4->1<=op.limit∧op.limit<=64:=fun h=>by omega
   refine t7 ?_;(refine qcg rfl rfl rfl (fun hg=>(by have hg0:=hg;(try simp at hg);exact qac call30 (qb5 _) ⟨qap,trivial⟩)) ?_);refine t4 ?_;refine cN ?_ ?_<;>intro h11
   ·refine t3 ?_;refine kXF call224 (qaz c.w.heap.size (⟨_,_,_,_,_,_,_,(⟨_,_⟩:Pt),_,_,_,_,_⟩:O24) _) ?_;refine t6 ?_;exact Z31
   refine t2 ?_;exact qal () hnk qag qab
  refine t6 ?_;refine cN ?_ ?_<;>intro h13
  ·refine t28 ?_;refine cN ?_ ?_<;>intro h14
   ·refine t3 ?_;refine kXF call224 (qaz c.w.heap.size (⟨_,_,_,_,_,_,_,(⟨_,_⟩:Pt),_,_,_,_,_⟩:O24) _) ?_;refine t6 ?_;exact Z31
   have hnk:op.kind=4->1<=op.limit∧op.limit<=64:=fun _=>by
    simp only [Bool.or_eq_false_iff,decide_eq_false_iff_not] at h14;omega
   refine t2 ?_;exact qal () hnk qag qab
  refine t6 ?_;refine cN ?_ ?_<;>intro h16
  ·refine t18 ?_;refine cN ?_ ?_<;>intro h17
   ·refine t3 ?_;refine kXF call224 (qaz c.w.heap.size (⟨_,_,_,_,_,_,_,(⟨_,_⟩:Pt),_,_,_,_,_⟩:O24) _) ?_;refine t7 ?_;exact Z31
   simp only [Bool.or_eq_false_iff,decide_eq_false_iff_not] at h17;have hl0:0<=op.level:=om;have hl7:op.level<=7:=om;refine t6 ?_;refine qao rfl (qau call225 (zdr op ks hl0 hl7) ⟨qap,⟨qap,trivial⟩⟩) ?_;(refine qbj 95 rfl ?_;intro x95 hx95);refine t6 ?_;exact rXF (⟨_,_,(⟨_,_,_,_,_,_,_,(⟨_,_⟩:Pt),_,_,_,_,_⟩:O24),_⟩:S24) results201 (hp:=by exact hx95)
  refine t6 ?_;refine cN ?_ ?_<;>intro h20
  ·refine t4 ?_;refine qao rfl (qau call226 (raise_ok op ks) ⟨qap,⟨qap,trivial⟩⟩) ?_;(refine qbj 100 rfl ?_;intro x100 hx100);refine t6 ?_;exact rXF (⟨_,_,(⟨_,_,_,_,_,_,_,(⟨_,_⟩:Pt),_,_,_,_,_⟩:O24),_⟩:S24) results201 (hp:=by exact hx100)
  refine t3 ?_;refine kXF call224 (qaz c.w.heap.size (⟨_,_,_,_,_,_,_,(⟨_,_⟩:Pt),_,_,_,_,_⟩:O24) _) ?_;refine t6 ?_;exact Z31
 rintro _ hnk;refine t5 ?_;refine qao rfl (by ((refine qac call199 (qi5 _ 0 _ ?_) ⟨qap,⟨qap,⟨qap,trivial⟩⟩⟩);all_goals (decide))) ?_;(refine qbj 104 rfl ?_;intro x104 hx104);refine s1 ?_;intro i6;refine t5 ?_;obtain ⟨hd1,hd2,hd3,hdp⟩:=hx104;obtain ⟨hq1,hq2,hq3⟩:=id hd2;refine t7 ?_;refine cN ?_ ?_<;>intro h23
 ·refine t10 ?_;exact rXF (⟨_,_,(⟨_,_,_,_,_,_,_,(⟨_,_⟩:Pt),_,_,_,_,_⟩:O24),_⟩:S24) results201 (hp:=by exact ⟨wl0,by exact hd1,by exact nZ _⟩)
 refine t9 ?_;refine cN ?_ ?_<;>intro h25
 ·refine t4 ?_;refine qao rfl (qau call227 (quy op ks) ⟨qap,⟨qap,trivial⟩⟩) ?_;(refine qbj 116 rfl ?_;intro x116 hx116);refine t5 ?_;exact rXF (⟨_,_,(⟨_,_,_,_,_,_,_,(⟨_,_⟩:Pt),_,_,_,_,_⟩:O24),_⟩:S24) results201 (hp:=by exact hx116.1)
 refine t6 ?_;intro i7;refine Z56 ?_;(refine qh0 119 rfl ?_;intro x119);refine t2 ?_;refine qbw [(1,_),(2,_),(4,_),(6,_),(7,_)] [blk i6 _ _,blk i4 _ _,blk i2 _ _] (fun yc:O24=>yc.check=[]∧yc.more=false∧yc.done=false) (fun yc=>[]) (fun yc=>[blk i7 326 [Ii yc.code,Ib yc.found,Ib yc.done,Ib yc.split,Ib yc.unposted,Ib yc.dead,Ib yc.more,Ii yc.to.line,Ii yc.to.gen,Is (.slice none 0 0),qad qaw yc.check,Ii yc.hops,Ii yc.fresh,Ii yc.height]]) qag qab ?_ ?_
 rotate_left
 focus
  refine cN ?_ ?_<;>intro h28
  ·refine Z84 ?_;(refine qbj 122 rfl ?_;intro x122 hx122);refine t2 ?_;refine qal (⟨_,_,_,_,_,_,_,(⟨_,_⟩:Pt),[],_,_,_,_⟩:O24) ?_ qag qab
   ·exact (by exact hx122)
  refine s1 ?_;refine qan (b:=i7) (As':=[Ii 0,Ib false,Ib false,Ib false,Ib false,Ib false,Ib false,Ii 0,Ii 0,Is (.slice none 0 0),qad qaw [],Ii 0,Ii 0,Ii 0]) qaf qbo ?_;exact qal (⟨0,false,false,false,false,false,false,⟨0,0⟩,[],[],0,0,0⟩:O24) ⟨rfl,rfl,rfl⟩ qag qab
 rintro o hI;refine t8 ?_;refine cN ?_ ?_<;>intro h30
 ·obtain ⟨hoc,hom,hod⟩:=id hI;refine t5 ?_;refine kXF call224 (qaz c.w.heap.size (⟨_,_,_,_,_,_,_,(⟨_,_⟩:Pt),_,_,_,_,_⟩:O24) _) ?_;refine t5 ?_;exact rXF (⟨_,_,(⟨_,_,_,_,_,_,_,(⟨_,_⟩:Pt),_,_,_,_,_⟩:O24),_⟩:S24) results201 (hp:=by exact ⟨wl0,by exact nZ _,by (rw [hoc];exact nZ _)⟩)
 obtain ⟨hoc,hom,hod⟩:=id hI;refine t16 ?_;refine cN ?_ ?_<;>intro h33
 ·have hlim:=hnk (by simpa using h33);refine t6 ?_;refine qao rfl (qau call230 (zdb op x104 o ks hlim hd2 hoc hom) ⟨qap,⟨qap,⟨qap,⟨qap,trivial⟩⟩⟩⟩) ?_;(refine qbj 138 rfl ?_;intro x138 hx138);refine t6 ?_;exact rXF (⟨_,_,(⟨_,_,_,_,_,_,_,(⟨_,_⟩:Pt),_,_,_,_,_⟩:O24),_⟩:S24) results201 (hp:=by exact hx138)
 refine t6 ?_;refine cN ?_ ?_<;>intro h35
 ·refine t6 ?_;refine qao rfl (by ((refine qau call231 (kill_ok op x104 (⟨_,_,_,_,_,_,_,(⟨_,_⟩:Pt),_,_,_,_,_⟩:O24) ks hd2 ?_ hdp) ⟨qbg,⟨qbg,⟨qbg,⟨qbg,trivial⟩⟩⟩⟩);all_goals (exact hoc))) ?_;(refine qbj 145 rfl ?_;intro x145 hx145);refine t6 ?_;exact rXF (⟨_,_,(⟨_,_,_,_,_,_,_,(⟨_,_⟩:Pt),_,_,_,_,_⟩:O24),_⟩:S24) results201 (hp:=by exact hx145)
 refine t6 ?_;refine cN ?_ ?_<;>intro h37
 ·refine t5 ?_;refine qao rfl (by ((refine qau call232 (zcq x104 (⟨_,_,_,_,_,_,_,(⟨_,_⟩:Pt),_,_,_,_,_⟩:O24) ks hd2 ?_ hdp) ⟨qbg,⟨qbg,⟨qbg,trivial⟩⟩⟩);all_goals (exact ⟨hoc,hod⟩))) ?_;(refine qbj 151 rfl ?_;intro x151 hx151);refine t6 ?_;exact rXF (⟨_,_,(⟨_,_,_,_,_,_,_,(⟨_,_⟩:Pt),_,_,_,_,_⟩:O24),_⟩:S24) results201 (hp:=by exact hx151)
 refine t10 ?_;refine qao rfl (by ((refine qac call233 (qsn _ _ ?_) ⟨qap,⟨qap,trivial⟩⟩);all_goals (omega))) ?_;(refine qbj 158 rfl ?_;intro x158 hx158);refine t8 ?_;obtain ⟨hi1,hi2,hi3⟩:=hx158;refine t4 ?_;refine Z1 ?_;refine t8 ?_;intro i11;refine t13 ?_;refine cN ?_ ?_<;>intro h42
 ·refine t16 ?_;refine cN ?_ ?_<;>intro h44
  ·have hz:x104.node.entries[x158.1]?=some _:=gE (hi2 h44);refine t21 ?_;exact rXF (⟨_,_,(⟨_,_,_,_,_,_,_,(⟨_,_⟩:Pt),_,_,_,_,_⟩:O24),_⟩:S24) results201 (hp:=by exact ⟨wl0,by exact nZ _,by (show 1<=300;omega)⟩)
  refine t12 ?_;exact rXF (⟨_,_,(⟨_,_,_,_,_,_,_,(⟨_,_⟩:Pt),_,_,_,_,_⟩:O24),_⟩:S24) results201 (hp:=by exact ⟨wl0,by exact nZ _,by (show 1<=300;omega)⟩)
 refine t12 ?_;refine cN ?_ ?_<;>intro h47
 ·refine t10 ?_;refine kXF call224 (qaz c.w.heap.size (⟨_,_,_,_,_,_,_,(⟨_,_⟩:Pt),_,_,_,_,_⟩:O24) _) ?_;refine t6 ?_;exact rXF (⟨_,_,(⟨_,_,_,_,_,_,_,(⟨_,_⟩:Pt),_,_,_,_,_⟩:O24),_⟩:S24) results201 (hp:=by exact ⟨wl0,by exact nZ _,by (show 1<=300;omega)⟩)
 refine t8 ?_;refine cN ?_ ?_<;>intro h50
 ·have hfo:x158.2=true:=by
   cases hq:x158.2 with
   | true=>rfl
   | false=>rw [hq,h50] at h47;cases h47
  have hz:x104.node.entries[x158.1]?=some _:=gE (hi2 hfo);have hlt:=hi2 hfo;refine t15 ?_;refine Z5 ?_;refine Z92 ?_;refine qbc (qe6 (er rfl) rfl rfl ⟨_,_,(er rfl),(show _=((x158.1+1:Nat):Int) by rfl)⟩ rfl om om) ?_;refine Z10 ?_;refine s1 ?_;refine ⟨rfl,?_⟩;intro i220;refine Z3 ?_;refine t2 ?_;refine qa7 hX (v:=slV _ i220) qaf ?_;refine t4 ?_;refine qao rfl (by ((refine qac call234 (qdl _ (⟨_,_,_,_,(⟨_,_⟩:Pt),_⟩:N24) ?_) ⟨qbg,⟨qbg,trivial⟩⟩);all_goals (first|first|assumption|exact qhu _ _ _ _|exact qfb _ ⟨de,de⟩))) ?_;refine t4 ?_;intro i12;refine t5 ?_;refine qfe (b:=i12) (fun _=>qaf) ?_;intro p12 hln12;refine t2 ?_;refine Z2 ?_;refine t8 ?_;exact rXF (⟨_,_,(⟨_,_,_,_,_,_,_,(⟨_,_⟩:Pt),_,_,_,_,_⟩:O24),_⟩:S24) results201 (hp:=by exact ⟨wl1 (by assumption),nZ _,by rw [hoc];exact nZ _⟩)
 refine t6 ?_;refine cN ?_ ?_<;>intro h55
 ·refine t10 ?_;refine kXF call224 (qaz c.w.heap.size (⟨_,_,_,_,_,_,_,(⟨_,_⟩:Pt),_,_,_,_,_⟩:O24) _) ?_;refine t6 ?_;exact rXF (⟨_,_,(⟨_,_,_,_,_,_,_,(⟨_,_⟩:Pt),_,_,_,_,_⟩:O24),_⟩:S24) results201 (hp:=by exact ⟨wl0,by exact nZ _,by (show 1<=300;omega)⟩)
 refine Z38 ?_;refine qaj 18 kr ?_;refine zbw (qb4 tEn rfl rfl) ?_;refine t3 ?_;refine Z37 ?_;refine t5 ?_;refine Z9 ?_;refine Z10 ?_;refine t3 ?_;refine qbc (qe6 (er rfl) rfl rfl ⟨_,_,(er rfl),rf⟩ rfl om om) ?_;refine Z10 ?_;refine ⟨rfl,?_⟩;intro i256;refine Z80 ?_;refine Z33 ?_;refine qa7 hX (v:=slV _ i256) qaf ?_;refine t8 ?_;refine qao rfl (by ((refine qau call235 (qrj _ (⟨_,_,_,_,(⟨_,_⟩:Pt),_⟩:N24) _ _ _ (⟨_,_,_,_,_,_,_,(⟨_,_⟩:Pt),_,_,_,_,_⟩:O24) ?_ ?_ ?_) ⟨qbg,⟨qbg,⟨qbg,⟨qbg,⟨qbg,⟨qbg,trivial⟩⟩⟩⟩⟩⟩);all_goals (first|simp;omega|rw [hoc];exact nZ _|assumption))) ?_;(refine qbj 264 rfl ?_;intro x264 hx264);refine t4 ?_;exact rXF (⟨_,_,(⟨_,_,_,_,_,_,_,(⟨_,_⟩:Pt),_,_,_,_,_⟩:O24),_⟩:S24) results201 (hp:=by exact hx264)
theorem Z40 {A B:Prop} (h:A) (f:Bx A→B:=by intro z;refine qao rfl (qau call201 (qne (⟨_,_,_,(⟨_,_⟩:Pt),_,_,_⟩:Op24) _) ⟨qbg,⟨qbg,trivial⟩⟩) ?_;exact z.out):B:=f ⟨h⟩
theorem zbu (key:BitVec 32) (ks:List Pg):FnF prog 201 [qom ⟨8,key,0#32,Pt.nil,0,0,[]⟩,qad tPg ks] (fun B=>qfc (fun r:S24×Int=>zao r.1) (zg0 B)):=by
 refine FnF.enter func201 ntmps201 rfl rfl ?_;intro c hX;refine t3 ?_;intro i2;refine s1 ?_;intro i4;refine t30 ?_;refine cN ?_ ?_<;>intro h4
 ·exact Bool.noConfusion (show false=true from h4)
 refine t6 ?_;refine cN ?_ ?_<;>intro h5
 ·exact Bool.noConfusion (show false=true from h5)
 refine t6 ?_;refine cN ?_ ?_<;>intro h6
 ·exact Bool.noConfusion (show false=true from h6)
 refine t5 ?_;refine cN ?_ ?_<;>intro h7
 ·refine t6 ?_;refine cN ?_ ?_<;>intro h8
  ·refine t3 ?_;refine kXF call224 (qaz c.w.heap.size (⟨_,_,_,_,_,_,_,(⟨_,_⟩:Pt),_,_,_,_,_⟩:O24) _) ?_;refine t6 ?_;exact rXF ((⟨_,_,(⟨_,_,_,_,_,_,_,(⟨_,_⟩:Pt),_,_,_,_,_⟩:O24),_⟩:S24),0) results201 (hp:=by exact ⟨wl0,by exact nZ _,by exact nZ _⟩)
  refine t8 ?_;refine qao rfl (by ((refine qac call199 (qi5 _ 0 _ ?_) ⟨qap,⟨qap,⟨qap,trivial⟩⟩⟩);all_goals (decide))) ?_;(refine qbj 104 rfl ?_;intro x104 hx104);refine s1 ?_;intro i6;refine t5 ?_;obtain ⟨hd1,hd2,hd3,hdp⟩:=hx104;refine t7 ?_;refine cN ?_ ?_<;>intro h23
  ·refine t10 ?_;exact rXF ((⟨_,_,(⟨_,_,_,_,_,_,_,(⟨_,_⟩:Pt),_,_,_,_,_⟩:O24),_⟩:S24),0) results201 (hp:=by exact ⟨wl0,by exact hd1,by exact nZ _⟩)
  refine t9 ?_;refine cN ?_ ?_<;>intro h25
  ·refine t4 ?_;refine qao rfl (qau call227 (quy (⟨_,_,_,(⟨_,_⟩:Pt),_,_,_⟩:Op24) ks) ⟨qbg,⟨qbg,trivial⟩⟩) ?_;(refine qbj 116 rfl ?_;intro x116 hx116);refine t5 ?_;have hdn:x116.out.done=false:=hx116.2 rfl;exact rXF ((⟨_,_,(⟨_,_,_,_,_,_,_,(⟨_,_⟩:Pt),_,_,_,_,_⟩:O24),_⟩:S24),0) results201 (hp:=by exact hx116.1)
  refine t6 ?_;intro i7;refine Z56 ?_;(refine qh0 119 rfl ?_;intro x119);refine t2 ?_;refine qbw [(1,_),(2,_),(4,_),(6,_),(7,_)] [blk i6 _ _,blk i4 _ _,blk i2 _ _] (fun yc:O24=>yc.check=[]∧yc.more=false∧yc.done=false) (fun yc=>[]) (fun yc=>[blk i7 326 [Ii yc.code,Ib yc.found,Ib yc.done,Ib yc.split,Ib yc.unposted,Ib yc.dead,Ib yc.more,Ii yc.to.line,Ii yc.to.gen,Is (.slice none 0 0),qad qaw yc.check,Ii yc.hops,Ii yc.fresh,Ii yc.height]]) qag qab ?_ ?_
  rotate_left
  focus
   refine cN ?_ ?_<;>intro h28
   ·refine Z84 ?_;(refine qbj 122 rfl ?_;intro x122 hx122);refine t2 ?_;refine qal (⟨_,_,_,_,_,_,_,(⟨_,_⟩:Pt),[],_,_,_,_⟩:O24) ?_ qag qab
    ·exact (by exact hx122)
   refine s1 ?_;refine qan (b:=i7) (As':=[Ii 0,Ib false,Ib false,Ib false,Ib false,Ib false,Ib false,Ii 0,Ii 0,Is (.slice none 0 0),qad qaw [],Ii 0,Ii 0,Ii 0]) qaf qbo ?_;exact qal (⟨0,false,false,false,false,false,false,⟨0,0⟩,[],[],0,0,0⟩:O24) ⟨rfl,rfl,rfl⟩ qag qab
  rintro o hI;refine t8 ?_;refine cN ?_ ?_<;>intro h30
  ·obtain ⟨hoc,hom,hod⟩:=id hI;refine t5 ?_;refine kXF call224 (qaz c.w.heap.size (⟨_,_,_,_,_,_,_,(⟨_,_⟩:Pt),_,_,_,_,_⟩:O24) _) ?_;refine t5 ?_;exact rXF ((⟨_,_,(⟨_,_,_,_,_,_,_,(⟨_,_⟩:Pt),_,_,_,_,_⟩:O24),_⟩:S24),0) results201 (hp:=by exact ⟨wl0,by exact nZ _,by (rw [hoc];exact nZ _)⟩)
  obtain ⟨hoc,hom,hod⟩:=id hI;refine t16 ?_;refine cN ?_ ?_<;>intro h33
  ·exact Bool.noConfusion (show false=true from h33)
  refine t6 ?_;refine cN ?_ ?_<;>intro h35
  ·exact Bool.noConfusion (show false=true from h35)
  refine t6 ?_;refine cN ?_ ?_<;>intro h37
  ·refine t5 ?_;refine qao rfl (by ((refine qau call232 (qri x104 (⟨_,_,_,_,_,_,_,(⟨_,_⟩:Pt),_,_,_,_,_⟩:O24) ks hd2 ?_ hdp) ⟨qbg,⟨qbg,⟨qbg,trivial⟩⟩⟩);all_goals (exact ⟨hoc,hod⟩))) ?_;(refine qbj 151 rfl ?_;intro x151 hx151);refine t6 ?_;exact rXF ((⟨_,_,(⟨_,_,_,_,_,_,_,(⟨_,_⟩:Pt),_,_,_,_,_⟩:O24),_⟩:S24),x151.2) results201 (hp:=by exact hx151)
  exact Bool.noConfusion (show true=false from h37)
 exact Bool.noConfusion (show true=false from h7)
end Go.Proofs.YteafmggidjjdgaaGreatDoor
