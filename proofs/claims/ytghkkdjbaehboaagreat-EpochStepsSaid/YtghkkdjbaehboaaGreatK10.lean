/- Walks of functions and plain laws, laid together. Own work. -/
import Derived.Test.YtghkkdjbaehboaaGreatK9
namespace Go.Proofs.YtghkkdjbaehboaaGreat
open Go.RowKit Tryz
set_option linter.unusedVariables false
set_option linter.unusedSimpArgs false
set_option maxRecDepth 100000
set_option maxHeartbeats 4000000
def vnL (n:N24):Bool:=if (decide (n.level>0)&&((n.entries.length:Int)==0||UV (enAt n.entries (n.entries.length-1)).key != UV n.high))=true then false else (!n.dead||(n.level==0&&(n.entries.length:Int)==0 && !n.leftmost && !decide (n.right=Pt.nil)))
def vnE (n:N24):Nat→List En→Bool
 | _,[]=>vnL n
 | k,e :: r=>if (decide (UV e.key<1)||decide (UV e.key>UV n.high)||(!qc5 e.to)||(n.level==0&&decide (UV e.key>4294967294))||(decide ((k:Int)>0)&&decide (UV (enAt n.entries (k-1)).key≥UV e.key)))=true then false else vnE n (k+1) r
theorem vnE_L (n:N24):∀ (l:List En) (k:Nat),vnE n k l=true→vnL n=true
 | [],k,h=>h
 | e :: r,k,h=>by
  unfold vnE at h
  split at h
  ·cases h
  ·exact vnE_L n r (k+1) h
def vN (n:N24):Bool:=if (decide (n.level<0)||decide (n.level>8)||decide (UV n.high<1)||(decide (n.right=Pt.nil) != (UV n.high==4294967295))||(!decide (n.right=Pt.nil) && !qc5 n.right)||decide ((n.entries.length:Int)>5))=true then false else vnE n 0 n.entries
def qid (n:N24):Prop:=n.entries.length≤5∧(0≤n.level∧n.level≤8)∧(0<n.level→∃ e,n.entries.getLast?=some e∧UV e.key=UV n.high)
theorem qdx:qid N24.nil:=⟨by decide,by decide,fun h=>absurd h (by decide)⟩
theorem vN_ok {n:N24} (h:vN n=true):qid n:=by
 unfold vN at h
 split at h
 ·cases h
 ·rename_i h1
  replace h:=vnE_L n _ _ h
  simp at h1
  refine ⟨by omega,by omega,fun hp=>?_⟩
  unfold vnL at h
  split at h
  ·cases h
  ·rename_i h3
   have hd:decide (n.level>0)=true:=decide_eq_true hp
   rw [hd,Bool.true_and] at h3
   simp at h3
   have hne:n.entries.length≠0:=by
    intro h0
    have:=h3.1
    exact this (List.eq_nil_of_length_eq_zero h0)
   refine ⟨enAt n.entries (n.entries.length-1),?_,by simpa using h3.2⟩
   rw [List.getLast?_eq_getElem?]
   exact qnq (by omega)
theorem ql3 (n:N24):FnP Tryz.prog 236 [qw0 n] (Is (.bool (vN n))):=by
 obtain ⟨W,hE⟩:∃ W,vN n=W:=⟨_,rfl⟩
 rw [hE]
 unfold vN at hE
 have hlast:0<n.entries.length→n.entries[n.entries.length-1]?=some (enAt n.entries (n.entries.length-1)):=fun h=>qnq (by omega)
 refine FnP.enter func236 ntmps236 rfl rfl ?_
 intro c hX
 refine t3 ?_
 intro i1
 refine t8 ?_
 refine qap rfl (qdt (er rfl) (er rfl)) ?_
 refine t32 ?_
 (refine JL_i rfl rfl rfl (fun hp hg=>(by have hpg:=Bool.and_eq_true_iff.2 ⟨hp,hg⟩;have hg0:=hg;(try simp at hg);exact qad call65 (qch _) ⟨qaq,trivial⟩)) ?_)
 refine t11 ?_
 refine cN ?_ ?_ <;> intro h2
 ·replace hE:=qa4 hE h2
  refine t7 ?_
  subst hE
  exact qan (Bs:=[_]) results236 eRF () SubL.rfl' (List.nil_sublist _)
 replace hE:=qba hE h2
 have hl5:n.entries.length≤5:=by
  rw [Bool.or_eq_false_iff] at h2
  have:=of_decide_eq_false h2.2
  omega
 clear h2
 refine t9 ?_
 refine qav [(1,_),(2,_),(3,_)] [blk i1 _ _] (fun k:Nat=>k≤(n.entries).length∧vnE n k (List.drop k (n.entries))=W) (fun k=>[(4,Is (.int .i64 (k:Nat)))]) (fun k=>[]) (fun k=>(n.entries).length-k) 0 ⟨by exact Nat.zero_le _,hE⟩ qa9 qab ?_
 clear hE
 rintro k ⟨hk,hE⟩
 refine t10 ?_
 refine cN ?_ ?_ <;> intro h5
 ·have hlt:k<(n.entries).length:=by have:=of_decide_eq_true h5;omega
  clear h5
  obtain ⟨z,hz⟩:∃ q,(n.entries)[k]?=some q:=⟨_,List.getElem?_eq_getElem hlt⟩
  rw [qeo hz,vnE] at hE
  (try dsimp only at hE)
  have hz1:0<k→n.entries[k-1]?=some (enAt n.entries (k-1)):=fun _=>qnq (by omega)
  refine t12 ?_
  intro i5
  refine t4 ?_
  refine qaz rfl (by kernel_rfl) ?_
  refine qaf 42 (by kernel_rfl) ?_
  refine t13 ?_
  (refine qd2 rfl rfl (fun hg=>(by have hg0:=hg;(try simp at hg);exact qad call65 (qch _) ⟨qaq,trivial⟩)) ?_)
  refine t20 ?_
  (refine zax rfl rfl (fun hp hg=>(by have hpg:=Bool.and_eq_true_iff.2 ⟨hp,hg⟩;have hg0:=hg;(try simp at hg);exact qam (j:=k-1) evG evG rfl rfl (by omega) (hz1 (by omega)))) ?_)
  refine t7 ?_
  refine ⟨rfl,?_⟩
  refine qar ?_
  refine s1 ?_
  refine cN ?_ ?_ <;> intro h8
  ·replace hE:=qa4 hE h8
   refine t11 ?_
   subst hE
   exact qan (Bs:=[_]) results236 eRF () SubL.rfl' (List.nil_sublist _)
  replace hE:=qba hE h8
  refine t8 ?_
  exact qaa (k+1) ⟨by omega,hE⟩ (by omega) qa9 qab
 have hke:k=(n.entries).length:=by have:=of_decide_eq_false h5;omega
 clear h5
 subst hke
 rw [List.drop_length,vnE] at hE
 unfold vnL at hE
 refine t7 ?_
 refine qaz rfl (by kernel_rfl) ?_
 refine qaf 23 (by kernel_rfl) ?_
 refine t15 ?_
 (refine zax rfl rfl (fun hp hg=>(by have hpg:=Bool.and_eq_true_iff.2 ⟨hp,hg⟩;have hg0:=hg;(try simp at hg);exact qam (j:=n.entries.length-1) evG evG rfl rfl (by have h9:=List.length_pos_iff.2 hg;omega) (hlast (List.length_pos_iff.2 hg)))) ?_)
 refine t7 ?_
 refine ⟨rfl,?_⟩
 refine qar ?_
 refine s1 ?_
 refine cN ?_ ?_ <;> intro h10
 ·replace hE:=qa4 hE h10
  refine t7 ?_
  subst hE
  exact qan (Bs:=[_]) results236 eRF () SubL.rfl' (List.nil_sublist _)
 replace hE:=qba hE h10
 refine t31 ?_
 subst hE
 exact qan (Bs:=[_]) results236 eRF () SubL.rfl' (List.nil_sublist _)
theorem qpb (p:Pg) (to:Pt) (lv:Int):FnP Tryz.prog 239 [qcr p,qks to,Is (.int .i64 lv)] (qes (fun r:Pg×Int=>Ln p→Ln r.1) fun r=>qbu [qcr r.1,Is (.int .i64 r.2)]):=by
 refine FnP.enter func239 ntmps239 rfl rfl ?_
 intro c hX
 refine t3 ?_
 intro i3
 refine s1 ?_
 intro i4
 refine s1 ?_
 intro i6
 refine t7 ?_
 refine qap rfl (qdt (er rfl) (er rfl)) ?_
 refine t29 ?_
 (refine JL_i rfl rfl rfl (fun hp hg=>(by have hpg:=Bool.and_eq_true_iff.2 ⟨hp,hg⟩;have hg0:=hg;(try simp at hg);exact qad call65 (qch _) ⟨qaq,trivial⟩)) ?_)
 refine t5 ?_
 refine cN ?_ ?_ <;> intro h2
 ·refine t9 ?_
  exact qn2 ((⟨_,_,_,_,_,_,_,_,_⟩:Pg),_) results239 (hp:=by exact fun _=>ln0)
 refine t6 ?_
 intro i9
 refine t6 ?_
 refine kRF call73 (qfw _) ?_
 refine t2 ?_
 refine qap rfl (qfg (er rfl) rfl rfl (qh4 _)) ?_
 refine qap rfl (by exact qed (k:=32) qgp (er rfl) (by omega) qct) ?_
 refine t7 ?_
 generalize BitVec.setWidth 64 (qhu to)+BitVec.ofInt 64 lv<<<32=w0
 refine t7 ?_
 exact qn2 ((⟨_,_,_,_,_,_,_,_,_⟩:Pg),_) results239 (hp:=by exact zab rfl)
theorem qsc (p:Pg) (n:N24):FnP Tryz.prog 204 [qcr p,qw0 n] (qes (fun r:Pg×Int=>Ln p→Ln r.1) fun r=>qbu [qcr r.1,Is (.int .i64 r.2)]):=by
 refine FnP.enter func204 ntmps204 rfl rfl ?_
 intro c hX
 refine t3 ?_
 intro i2
 refine s1 ?_
 intro i3
 refine s1 ?_
 intro i4
 refine t7 ?_
 refine kRF call113 (qeq _) ?_
 refine t3 ?_
 (refine qcp rfl rfl rfl (fun hg=>(by have hg0:=hg;(try simp at hg);exact qad call236 (ql3 n) ⟨qaq,trivial⟩)) ?_)
 refine t4 ?_
 refine cN ?_ ?_ <;> intro h1
 ·refine t9 ?_
  exact qn2 ((⟨_,_,_,_,_,_,_,_,_⟩:Pg),_) results204 (hp:=by exact fun _=>ln0)
 have hv:vN n=true:=by simp at h1;exact h1.2
 have hl:=(vN_ok hv).1
 refine t23 ?_
 refine qb1 [(2,_),(3,_),(4,_),(5,_)] [blk i4 _ _,blk i3 _ _,blk i2 _ _] (fun yc:(BitVec 32)=>True) (fun yc=>[(6,Is (.int .u32 (UV yc)))]) (fun yc=>[]) qaj qab ?_ ?_
 rotate_left
 focus
  refine cN ?_ ?_ <;> intro h4
  ·refine t5 ?_
   exact qai _ (trivial) qaj qab
  refine s1 ?_
  exact qai _ (trivial) qaj qab
 rintro a _
 refine t7 ?_
 refine qb1 [(2,_),(3,_),(4,_),(5,_)] [blk i4 _ _,blk i3 _ _,blk i2 _ _] (fun yc:(BitVec 32)=>True) (fun yc=>[(6,Is (.int .u32 (UV yc)))]) (fun yc=>[]) qaj qab ?_ ?_
 rotate_left
 focus
  refine cN ?_ ?_ <;> intro h6
  ·refine t5 ?_
   exact qai _ (trivial) qaj qab
  refine s1 ?_
  exact qai _ (trivial) qaj qab
 rintro a2 _
 refine t8 ?_
 intro i7
 refine t6 ?_
 refine kRF call8 (qgt _) ?_
 refine s1 ?_
 refine kRF call152 (qmt _ _ _) ?_
 refine t6 ?_
 refine qaz rfl (by kernel_rfl) ?_
 refine qaf 11 (by kernel_rfl) ?_
 refine t5 ?_
 refine qbh (qad call73 (qfw _) ⟨qaq,trivial⟩) ?_
 refine s1 ?_
 refine qbh (by exact qed (k:=32) qgp (er rfl) (by omega) qct) ?_
 refine t3 ?_
 refine ⟨rfl,?_⟩
 refine qeb (by kernel_rfl) rfl (qas (er rfl) (er rfl) qag qae qbm rf rf rf) ?_
 refine qar ?_
 refine t8 ?_
 refine qbr (b:=i7) (As':=tPg.cells (⟨_,_,_,_,_,_,_,_,_⟩:Pg)) qae qbf ?_
 refine qav [(3,_),(4,_),(5,_),(7,_)] [blk i4 _ _,blk i3 _ _] (fun y:Nat×Pg=>y.1≤(n.entries).length∧(y.2.l=p.l)) (fun y=>[(8,Is (.int .i64 (y.1:Nat)))]) (fun y=>[blk i7 48 (tPg.cells y.2)]) (fun y=>(n.entries).length-y.1) (0,(⟨_,_,_,_,_,_,_,_,_⟩:Pg)) ?_ qaj qab ?_
 ·exact ⟨by exact Nat.zero_le _,rfl⟩
 rintro ⟨k,q⟩ ⟨hk,hI⟩
 dsimp only at hk hI ⊢
 refine t10 ?_
 refine cN ?_ ?_ <;> intro h12
 ·have hlt:k<(n.entries).length:=by have:=of_decide_eq_true h12;omega
  clear h12
  obtain ⟨z,hz⟩:∃ q,(n.entries)[k]?=some q:=⟨_,List.getElem?_eq_getElem hlt⟩
  rcases (show k=0∨k=1∨k=2∨k=3∨k=4 by omega) with rfl|rfl|rfl|rfl|rfl
  all_goals
   refine t4 ?_
   refine qaz rfl (by kernel_rfl) ?_
   refine qaf 21 (by kernel_rfl) ?_
   refine t9 ?_
   refine qbh (by exact qed (k:=32) qgp (er rfl) (by omega) qct) ?_
   refine t6 ?_
   refine qbh (qad call73 (qfw _) ⟨qaq,trivial⟩) ?_
   refine t3 ?_
   refine qbh (qal (k:=_) (sz:=1) (er rfl) (er rfl) rfl rfl qct (by decide)) ?_
   refine ⟨rfl,?_⟩
   refine qeb (by kernel_rfl) rfl (qas (er rfl) (er rfl) qag qae qbm rf rf rf) ?_
   refine qar ?_
   refine t7 ?_
   refine qao (b:=i7) (As':=tPg.cells (⟨_,_,_,_,_,_,_,_,_⟩:Pg)) qae qbf ?_
   first|((guard_hyp hlt:(0:Nat)<(n.entries).length);refine qaa (1,(⟨_,_,_,_,_,_,_,_,_⟩:Pg)) ?_ ?_ qaj qab)|((guard_hyp hlt:(1:Nat)<(n.entries).length);refine qaa (2,(⟨_,_,_,_,_,_,_,_,_⟩:Pg)) ?_ ?_ qaj qab)|((guard_hyp hlt:(2:Nat)<(n.entries).length);refine qaa (3,(⟨_,_,_,_,_,_,_,_,_⟩:Pg)) ?_ ?_ qaj qab)|((guard_hyp hlt:(3:Nat)<(n.entries).length);refine qaa (4,(⟨_,_,_,_,_,_,_,_,_⟩:Pg)) ?_ ?_ qaj qab)|((guard_hyp hlt:(4:Nat)<(n.entries).length);refine qaa (5,(⟨_,_,_,_,_,_,_,_,_⟩:Pg)) ?_ ?_ qaj qab)
   ·exact ⟨by omega,hI⟩
   ·exact (by omega)
 have hke:k=(n.entries).length:=by have:=of_decide_eq_false h12;omega
 clear h12
 subst hke
 refine t13 ?_
 exact qn2 ((⟨_,_,_,_,_,_,_,_,_⟩:Pg),_) results204 (hp:=by exact zab hI)
theorem ql4 (p:Pg):FnP Tryz.prog 191 [qcr p] (VEx fun r:Pt×Int×Int=>qbu [qks r.1,Is (.int .i64 r.2.1),Is (.int .i64 r.2.2)]):=by
 refine FnP.enter func191 ntmps191 rfl rfl ?_
 intro c hX
 refine t3 ?_
 intro i1
 refine s1 ?_
 intro i2
 refine t12 ?_
 refine cN ?_ ?_ <;> intro h1
 ·refine t10 ?_
  exact qcj (Bs:=[_,_,_]) ((⟨_,_⟩:Pt),_,_) rfl results191 eXF (List.nil_sublist _)
 refine t11 ?_
 refine cN ?_ ?_ <;> intro h3
 ·refine t10 ?_
  exact qcj (Bs:=[_,_,_]) ((⟨_,_⟩:Pt),_,_) rfl results191 eXF (List.nil_sublist _)
 refine t8 ?_
 refine kRF call68 (qfk _) ?_
 refine s1 ?_
 intro i5
 refine t7 ?_
 refine kRF call65 (qch _) ?_
 refine t9 ?_
 refine cN ?_ ?_ <;> intro h6
 ·refine t10 ?_
  exact qcj (Bs:=[_,_,_]) ((⟨_,_⟩:Pt),_,_) rfl results191 eXF (List.nil_sublist _)
 refine t3 ?_
 refine qaz rfl (by kernel_rfl) ?_
 refine qc0 (it:=blk i2 _ _) (by repeat (first|exact Drop1.here _ _|apply Drop1.next)) ?_
 refine qc3 (its:=[_]) 9 (by kernel_rfl) ?_
 refine t4 ?_
 refine qbh (by exact qhw (k:=32) qgp (er rfl) (by omega) qct) ?_
 refine s1 ?_
 refine qcz (s:=36) rfl rfl rfl (by kernel_rfl) (fun c'=>by exact qa2 (er rfl) (er rfl) qag qae rf rf rf) ?_
 refine t2 ?_
 refine ⟨rfl,?_⟩
 intro _
 refine qar ?_
 refine t2 ?_
 exact qcj (Bs:=[_,_,_]) ((⟨_,_⟩:Pt),_,_) rfl results191 eXF (List.nil_sublist _)
theorem qdv (p:Pg) (n:N24) (hp:Ln p):FnP Tryz.prog 204 [qcr p,qw0 n] (qbu [qwy,IsIX]):=(qsc p n).px hp
theorem qjr (p:Pg) (to:Pt) (lv:Int) (hp:Ln p):FnP Tryz.prog 239 [qcr p,qks to,Is (.int .i64 lv)] (qbu [qwy,IsIX]):=(qpb p to lv).px hp
theorem qa1 (B:Nat) (o:O24) (e:Int):FnP Tryz.prog 194 [qwz o,Is (.int .i64 e)] (qjy B ⟨[],[],{ o with code:=e },true⟩):=by
 refine FnP.enter func194 ntmps194 rfl rfl ?_
 intro c hX
 refine t3 ?_
 intro i2
 refine s1 ?_
 intro i4
 refine t17 ?_
 exact qan (Bs:=[_]) results194 eRF () SubL.rfl' (List.nil_sublist _)
theorem child_ok (n:N24) (key:BitVec 32) (hn:n.entries.length≤1000):FnP Tryz.prog 193 [qw0 n,Is (.int .u32 (UV key))] (VEx fun r:En=>IsEn r):=by
 refine FnP.enter func193 ntmps193 rfl rfl ?_
 intro c hX
 refine t3 ?_
 intro i2
 refine s1 ?_
 intro i4
 refine t9 ?_
 refine qav [(1,_),(2,_),(4,_)] [blk i4 _ _,blk i2 _ _] (fun k:Nat=>k≤(n.entries).length) (fun k=>[(5,Is (.int .i64 (k:Nat)))]) (fun k=>[]) (fun k=>(n.entries).length-k) 0 (Nat.zero_le _) qaj qab ?_
 rintro k hk
 refine t10 ?_
 refine cN ?_ ?_ <;> intro h2
 ·have hlt:k<(n.entries).length:=by have:=of_decide_eq_true h2;omega
  clear h2
  obtain ⟨z,hz⟩:∃ q,(n.entries)[k]?=some q:=⟨_,List.getElem?_eq_getElem hlt⟩
  refine t16 ?_
  refine cN ?_ ?_ <;> intro h4
  ·refine t16 ?_
   exact qcj (Bs:=[_]) (⟨_,(⟨_,_⟩:Pt)⟩:En) rfl results193 eXF (List.nil_sublist _)
  refine t8 ?_
  exact qaa (k+1) (by omega) (by omega) qaj qab
 have hke:k=(n.entries).length:=by have:=of_decide_eq_false h2;omega
 clear h2
 subst hke
 refine t12 ?_
 exact qcj (Bs:=[_]) (⟨_,(⟨_,_⟩:Pt)⟩:En) rfl results193 eXF (List.nil_sublist _)
theorem qlx (p:P24):FnP Tryz.prog 198 [quz p] (VEx fun r:Bool=>Is (.bool r)):=by
 refine FnP.enter func198 ntmps198 rfl rfl ?_
 intro c hX
 refine t3 ?_
 intro i1
 refine t13 ?_
 exact qcj (Bs:=[_]) _ rfl results198 eXF (List.nil_sublist _)
theorem qze (o:O24) (p:P24):FnP Tryz.prog 199 [qwz o,quz p] (qes (fun r:O24=>r.check=o.check∧r.entries=o.entries) fun r=>qwz r):=by
 refine FnP.enter func199 ntmps199 rfl rfl ?_
 intro c hX
 refine t3 ?_
 intro i2
 refine s1 ?_
 intro i3
 refine s1 ?_
 intro i4
 refine t40 ?_
 refine s1 ?_
 refine kXF call198 (qlx (⟨_,_,_,_,(⟨_,_,_,_,_,_,_,_,_⟩:Pg),(⟨_,_,_,_,(⟨_,_⟩:Pt),_⟩:N24),(⟨_,_,_,_,(⟨_,_⟩:Pt),_⟩:N24),_,_,_⟩:P24)) ?_
 (refine qgm 26 rfl ?_;intro x26)
 refine t2 ?_
 refine cN ?_ ?_ <;> intro h4
 ·refine t16 ?_
  exact rXF (⟨_,_,_,_,_,_,_,(⟨_,_⟩:Pt),_,_,_,_,_⟩:O24) results199 (hp:=by exact ⟨rfl,rfl⟩)
 refine t9 ?_
 exact rXF (⟨_,_,_,_,_,_,_,(⟨_,_⟩:Pt),_,_,_,_,_⟩:O24) results199 (hp:=by exact ⟨rfl,rfl⟩)
theorem qq3 (l:List En) (key:BitVec 32) (hl:l.length≤1000):FnP Tryz.prog 203 [IsSl tEn l,Is (.int .u32 (UV key))] (qes (fun r:Nat×Bool=>r.1≤l.length∧(r.2=true→r.1<l.length)∧(∀ e,l.getLast?=some e→UV key≤UV e.key→r.1<l.length)) fun r=>qbu [Is (.int .i64 (r.1:Nat)),Is (.bool r.2)]):=by
 refine FnP.enter func203 ntmps203 rfl rfl ?_
 intro c hX
 refine qgv (t:=0) rfl (fun hlen=>?_)
 refine t13 ?_
 refine qav [(0,_),(1,_),(4,_),(5,_)] [] (fun k:Nat=>k≤(l).length∧(∀ j e,j<k→l[j]?=some e→UV e.key<UV key)) (fun k=>[(6,Is (.int .i64 (k:Nat)))]) (fun k=>[]) (fun k=>(l).length-k) 0 ⟨by exact Nat.zero_le _,fun j e h=>absurd h (Nat.not_lt_zero _)⟩ qaj qab ?_
 rintro k ⟨hk,hI⟩
 refine t9 ?_
 refine cN ?_ ?_ <;> intro h2
 ·have hlt:k<(l).length:=by have:=of_decide_eq_true h2;omega
  clear h2
  obtain ⟨z,hz⟩:∃ q,(l)[k]?=some q:=⟨_,List.getElem?_eq_getElem hlt⟩
  refine t15 ?_
  refine cN ?_ ?_ <;> intro h4
  ·refine s1 ?_
   refine qaz rfl (by kernel_rfl) ?_
   refine qaf 10 (by kernel_rfl) ?_
   refine t10 ?_
   refine ⟨rfl,?_⟩
   refine qar ?_
   refine t7 ?_
   exact qn2 (_,_) results203 (hp:=by exact ⟨by omega,fun _=>by omega,fun _ _ _=>by omega⟩)
  have hr:∀ j e,j<k+1→l[j]?=some e→UV e.key<UV key:=fun j e hj he=>by
   rcases Nat.lt_or_ge j k with h|h
   ·exact hI j e h he
   ·have:j=k:=by omega
    subst this
    rw [hz] at he;cases he
    have:=of_decide_eq_false h4
    omega
  refine t8 ?_
  exact qaa (k+1) ⟨by omega,hr⟩ (by omega) qaj qab
 have hke:k=(l).length:=by have:=of_decide_eq_false h2;omega
 clear h2
 subst hke
 refine t14 ?_
 exact qcg (Bs:=[_,_]) (_,_) rfl results203 eXF (List.nil_sublist _) (by exact ⟨Nat.le_refl _,fun h=>Bool.noConfusion h,fun e he hk=>by
 rw [List.getLast?_eq_getElem?] at he
 have h1:=(List.getElem?_eq_some_iff.1 he).1
 have h2:=hI _ e (by omega) he
 omega⟩)
theorem qjw (p:Pg):FnP Tryz.prog 192 [qcr p] (qes (fun r:N24×Int=>qid r.1) fun r=>qbu [qw0 r.1,Is (.int .i64 r.2)]):=by
 refine FnP.enter func192 ntmps192 rfl rfl ?_
 intro c hX
 refine t3 ?_
 intro i1
 refine s1 ?_
 intro i2
 refine t6 ?_
 refine kRF call206 (qo4 _) ?_
 refine t18 ?_
 refine qap rfl (by exact qfs (k:=16) qmq (er rfl) (by omega) qct) ?_
 refine t3 ?_
 refine qap rfl (by exact qfs (k:=17) qmq (er rfl) (by omega) qct) ?_
 refine t8 ?_
 intro i6
 refine t8 ?_
 refine qap rfl (by exact qhw (k:=32) qgp (er rfl) (by omega) qct) ?_
 refine t8 ?_
 refine kRF call113 (qeq _) ?_
 refine t3 ?_
 (refine qcp rfl rfl rfl (fun hg=>(by have hg0:=hg;(try simp at hg);exact qfs (k:=18) qi5 evG (by omega) qct)) ?_)
 refine t8 ?_
 refine cN ?_ ?_ <;> intro h5
 ·refine t9 ?_
  exact qn2 ((⟨_,_,_,_,(⟨_,_⟩:Pt),_⟩:N24),_) results192 (hp:=by exact qdx)
 refine t9 ?_
 refine qb1 [(1,_),(2,_),(3,_),(5,_),(6,_)] [blk i2 _ _,blk i1 _ _] (fun yc:Pt×Int×Bool×Bool×(BitVec 32)=>True) (fun yc=>[]) (fun yc=>[blk i6 264 [Is (.int .i64 yc.2.1),Is (.bool yc.2.2.1),Is (.bool yc.2.2.2.1),Is (.int .u32 (UV yc.2.2.2.2)),Is (.int .i64 yc.1.line),Is (.int .i64 yc.1.gen),Is (.slice none 0 0)]]) qaj qab ?_ ?_
 rotate_left
 focus
  refine cN ?_ ?_ <;> intro h7
  ·refine t3 ?_
   refine kRF call68 (qfk _) ?_
   refine t8 ?_
   refine kRF call65 (qch _) ?_
   refine t3 ?_
   refine cN ?_ ?_ <;> intro h9
   ·refine t9 ?_
    exact qn2 ((⟨_,_,_,_,(⟨_,_⟩:Pt),_⟩:N24),_) results192 (hp:=by exact qdx)
   refine s1 ?_
   exact qai ((⟨_,_⟩:Pt),_,_,_,_) (trivial) qaj qab
  refine s1 ?_
  exact qai ((⟨_,_⟩:Pt),_,_,_,_) (trivial) qaj qab
 rintro ⟨rt,lv,lm,dd,hg⟩ _
 dsimp only
 refine t7 ?_
 refine qcd 277 tEn ?_
 refine qav [(1,_),(2,_),(3,_),(5,_),(6,_)] [blk i2 _ _,blk i1 _ _] (fun y:Nat×(List En)×(Option Addr×Nat)=>y.1≤5∧(y.2.1.length≤y.1)) (fun y=>[(8,Is (.int .i64 (y.1:Nat)))]) (fun y=>[blk i6 264 [Is (.int .i64 lv),Is (.bool lm),Is (.bool dd),Is (.int .u32 (UV hg)),Is (.int .i64 rt.line),Is (.int .i64 rt.gen),Is (slV (y.2.1).length y.2.2)],buf (slV (y.2.1).length y.2.2) 277 tEn (y.2.1)]) (fun y=>5-y.1) (0,[],(none,0)) ?_ qaj qab ?_
 ·exact ⟨by exact Nat.zero_le _,Nat.le_refl 0⟩
 rintro ⟨k,es,v_0⟩ ⟨hk,hI⟩
 dsimp only at hk hI ⊢
 refine t7 ?_
 refine cN ?_ ?_ <;> intro h12
 ·have hlt:k<5:=by have:=of_decide_eq_true h12;omega
  clear h12
  rcases (show k=0∨k=1∨k=2∨k=3∨k=4 by omega) with rfl|rfl|rfl|rfl|rfl
  all_goals
   refine t9 ?_
   refine qap rfl (qal (k:=_) (sz:=1) (er rfl) (er rfl) rfl rfl qct (by decide)) ?_
   refine t16 ?_
   refine cN ?_ ?_ <;> intro h15
   ·refine t14 ?_
    exact qn2 ((⟨_,_,_,_,(⟨_,_⟩:Pt),_⟩:N24),_) results192 (hp:=by exact qdx)
   refine t9 ?_
   refine cN ?_ ?_ <;> intro h17
   ·refine qaz rfl (by kernel_rfl) ?_
    refine qaf 10 (by kernel_rfl) ?_
    refine t3 ?_
    refine qbh (by exact qhw (k:=32) qgp (er rfl) (by omega) qct) ?_
    refine t3 ?_
    refine qbh (qad call68 (qfk _) ⟨qaq,trivial⟩) ?_
    refine s1 ?_
    refine qbh (OpP.to (qac (size:=3) (qs:=[(0,_)]) rfl rfl rfl ⟨⟨rfl,_,(er rfl),qag⟩,trivial⟩ rf rf) (SubL.row1 (T:=tEn) (x:=(⟨_,(⟨_,_⟩:Pt)⟩:En)) rf rf rf qak)) ?_
    refine ⟨rfl,?_⟩
    (refine JD_s (by kernel_rfl) rfl rfl (qb6 (er rfl) (fun _=>qae) (by exact er rfl) (by exact qej rfl rfl rfl) qb8) ?_;intro i90)
    refine qaf 1 (by kernel_rfl) ?_
    refine s1 ?_
    refine ⟨rfl,?_⟩
    refine qeb (by kernel_rfl) rfl (qas (er rfl) (er rfl) qag qae qbm rf rf rf) ?_
    refine qar ?_
    refine t7 ?_
    first|((guard_hyp hlt:(0:Nat)<5);refine qaa (1,_,_) ?_ ?_ qaj qab)|((guard_hyp hlt:(1:Nat)<5);refine qaa (2,_,_) ?_ ?_ qaj qab)|((guard_hyp hlt:(2:Nat)<5);refine qaa (3,_,_) ?_ ?_ qaj qab)|((guard_hyp hlt:(3:Nat)<5);refine qaa (4,_,_) ?_ ?_ qaj qab)|((guard_hyp hlt:(4:Nat)<5);refine qaa (5,_,_) ?_ ?_ qaj qab)
    ·exact ⟨by omega,by (simp only [List.length_append,List.length_cons,List.length_nil];omega)⟩
    ·exact (by omega)
   refine t8 ?_
   first|((guard_hyp hlt:(0:Nat)<5);refine qaa (1,_,_) ?_ ?_ qaj qab)|((guard_hyp hlt:(1:Nat)<5);refine qaa (2,_,_) ?_ ?_ qaj qab)|((guard_hyp hlt:(2:Nat)<5);refine qaa (3,_,_) ?_ ?_ qaj qab)|((guard_hyp hlt:(3:Nat)<5);refine qaa (4,_,_) ?_ ?_ qaj qab)|((guard_hyp hlt:(4:Nat)<5);refine qaa (5,_,_) ?_ ?_ qaj qab)
   ·exact ⟨by omega,by (dsimp only;omega)⟩
   ·exact (by omega)
 have hke:k=5:=by have:=of_decide_eq_false h12;omega
 clear h12
 subst hke
 refine qa7 hX (v:=slV es.length v_0) qae ?_
 refine qbr (b:=i6) (As':=tN24.cells ⟨lv,lm,dd,hg,rt,es⟩) qae qbf ?_
 refine t9 ?_
 refine kRF call236 (ql3 ⟨lv,lm,dd,hg,rt,es⟩) ?_
 refine t3 ?_
 refine cN ?_ ?_ <;> intro h19
 ·refine t9 ?_
  exact qn2 ((⟨_,_,_,_,(⟨_,_⟩:Pt),_⟩:N24),_) results192 (hp:=by exact qdx)
 have hv:vN ⟨lv,lm,dd,hg,rt,es⟩=true:=by simpa using h19
 refine t10 ?_
 exact qn2 ((⟨_,_,_,_,(⟨_,_⟩:Pt),_⟩:N24),_) results192 (hp:=by exact vN_ok hv)
def PL24 (level:Int) (key:BitVec 32) (r:P24):Prop:=r.need.length≤1∧qid r.node∧(r.need=[]→r.noTree=false→r.none=false→r.code=0→r.node.level=level∧UV key≤UV r.node.high)∧Ln r.page
theorem qii (key:BitVec 32) (level:Int) (ks:List Pg) (h0:0≤level):FnP Tryz.prog 164 [Is (.int .u32 (UV key)),Is (.int .i64 level),IsSl tPg ks] (qes (PL24 level key) fun r=>quz r):=by
 refine FnP.enter func164 ntmps164 rfl rfl ?_
 intro c hX
 refine t3 ?_
 intro i6
 refine t5 ?_
 refine kRF call32 (qby _ _) ?_
 refine t4 ?_
 intro i7
 refine t11 ?_
 refine cN ?_ ?_ <;> intro h2
 ·refine t2 ?_
  refine qap rfl (OpP.to (qac (size:=1) (qs:=[(0,_)]) rfl rfl rfl ⟨⟨rfl,_,(er rfl),qag⟩,trivial⟩ rf rf) (SubL.row1 (T:=tI64) (x:=_) rf rf rf qak)) ?_
  refine t6 ?_
  exact rXF (⟨_,_,_,_,(⟨_,_,_,_,_,_,_,_,_⟩:Pg),(⟨_,_,_,_,(⟨_,_⟩:Pt),_⟩:N24),(⟨_,_,_,_,(⟨_,_⟩:Pt),_⟩:N24),_,_,_⟩:P24) results164 (hp:=by exact ⟨Nat.le_refl _,qdx,fun h=>absurd h (List.cons_ne_nil _ _),ln0⟩)
 refine t5 ?_
 refine kRF call191 (ql4 _) ?_
 (refine qgm 30 rfl ?_;intro x30)
 refine t5 ?_
 intro i9
 refine t12 ?_
 refine cN ?_ ?_ <;> intro h5
 ·refine t8 ?_
  exact rXF (⟨_,_,_,_,(⟨_,_,_,_,_,_,_,_,_⟩:Pg),(⟨_,_,_,_,(⟨_,_⟩:Pt),_⟩:N24),(⟨_,_,_,_,(⟨_,_⟩:Pt),_⟩:N24),_,_,_⟩:P24) results164 (hp:=by exact ⟨Nat.zero_le _,qdx,fun _ _ _ h=>absurd (show (14:Int)=0 from h) (by decide),ln0⟩)
 refine t7 ?_
 refine qap rfl (qdt (er rfl) (er rfl)) ?_
 refine t2 ?_
 refine cN ?_ ?_ <;> intro h7
 ·refine t8 ?_
  exact rXF (⟨_,_,_,_,(⟨_,_,_,_,_,_,_,_,_⟩:Pg),(⟨_,_,_,_,(⟨_,_⟩:Pt),_⟩:N24),(⟨_,_,_,_,(⟨_,_⟩:Pt),_⟩:N24),_,_,_⟩:P24) results164 (hp:=by exact ⟨Nat.zero_le _,qdx,fun _ h=>Bool.noConfusion h,ln0⟩)
 refine t6 ?_
 intro i12
 refine t9 ?_
 refine qbr (b:=i9) (As':=tPt.cells (⟨_,_⟩:Pt)) qae qbf ?_
 refine qbr (b:=i12) (As':=tP24.cells (⟨_,_,_,_,(⟨_,_,_,_,_,_,_,_,_⟩:Pg),(⟨_,_,_,_,(⟨_,_⟩:Pt),_⟩:N24),(⟨_,_,_,_,(⟨_,_⟩:Pt),_⟩:N24),_,_,_⟩:P24)) qae qbf ?_
 refine qav [(0,_),(1,_),(2,_),(6,_),(9,_),(12,_)] [blk i6 _ _] (fun y:Pt×P24×Int=>(y.2.1.need=[]∧Ln y.2.1.page)∧qid y.2.1.node∧(0≤y.2.1.hops∧y.2.1.hops≤256)∧(y.2.2 = -1∨(level≤y.2.2∧y.2.2≤8))) (fun y=>[(13,Is (.int .i64 y.2.2))]) (fun y=>[blk i9 55 (tPt.cells y.1),blk i12 266 (tP24.cells y.2.1)]) (fun y=>((if y.2.2<0 then 10 else y.2.2)+(257-y.2.1.hops)).toNat) ((⟨_,_⟩:Pt),(⟨_,_,_,_,(⟨_,_,_,_,_,_,_,_,_⟩:Pg),(⟨_,_,_,_,(⟨_,_⟩:Pt),_⟩:N24),(⟨_,_,_,_,(⟨_,_⟩:Pt),_⟩:N24),_,_,_⟩:P24),-1) ?_ qaj qab ?_
 ·exact (⟨⟨rfl,ln0⟩,qdx,⟨(show (0:Int)≤0 by omega),(show (0:Int)≤256 by omega)⟩,Or.inl rfl⟩)
 rintro ⟨a,o,w⟩ hI
 dsimp only at hI ⊢
 refine t5 ?_
 refine kRF call167 (qh3 _ _ _ _) ?_
 refine t5 ?_
 intro i14
 refine t7 ?_
 obtain ⟨⟨hi1,hip⟩,hi2,hi3,hi4⟩:=hI
 refine t5 ?_
 refine cN ?_ ?_ <;> intro h12
 ·have hc:(lkV ks a 4 false).2.2≠0:=by simpa using h12
  refine t18 ?_
  exact rXF (⟨_,_,_,_,(⟨_,_,_,_,_,_,_,_,_⟩:Pg),(⟨_,_,_,_,(⟨_,_⟩:Pt),_⟩:N24),(⟨_,_,_,_,(⟨_,_⟩:Pt),_⟩:N24),_,_,_⟩:P24) results164 (hp:=by exact ⟨by rw [hi1];exact Nat.zero_le _,hi2,fun _ _ _ h=>absurd h hc,hip⟩)
 refine t9 ?_
 refine cN ?_ ?_ <;> intro h15
 ·refine t4 ?_
  refine qap rfl (OpP.to (qac (size:=1) (qs:=[(0,_)]) rfl rfl rfl ⟨⟨rfl,_,(er rfl),qag⟩,trivial⟩ rf rf) (SubL.row1 (T:=tI64) (x:=_) rf rf rf qak)) ?_
  refine t9 ?_
  exact rXF (⟨_,_,_,_,(⟨_,_,_,_,_,_,_,_,_⟩:Pg),(⟨_,_,_,_,(⟨_,_⟩:Pt),_⟩:N24),(⟨_,_,_,_,(⟨_,_⟩:Pt),_⟩:N24),_,_,_⟩:P24) results164 (hp:=by exact ⟨Nat.le_refl _,qdx,fun h=>absurd h (List.cons_ne_nil _ _),ln0⟩)
 refine t5 ?_
 refine kRF call192 (qjw _) ?_
 (refine qa5 62 rfl ?_;intro x62 hx62)
 refine t4 ?_
 intro i17
 refine t6 ?_
 obtain ⟨hn1,hn2,hn3⟩:=id hx62
 refine t15 ?_
 refine cN ?_ ?_ <;> intro h18
 ·refine t17 ?_
  exact rXF (⟨_,_,_,_,(⟨_,_,_,_,_,_,_,_,_⟩:Pg),(⟨_,_,_,_,(⟨_,_⟩:Pt),_⟩:N24),(⟨_,_,_,_,(⟨_,_⟩:Pt),_⟩:N24),_,_,_⟩:P24) results164 (hp:=by exact ⟨by rw [hi1];exact Nat.zero_le _,hi2,fun _ _ _ h=>absurd (show (14:Int)=0 from h) (by decide),hip⟩)
 have hw:w<0∨x62.1.level=w:=by
  by_cases hw0:w<0
  ·exact Or.inl hw0
  ·refine Or.inr ?_
   rw [decide_eq_true (show w≥0 by omega),Bool.true_and,Bool.or_eq_false_iff] at h18
   simpa using h18.2
 clear h18
 refine t9 ?_
 refine qb1 [(0,_),(1,_),(2,_),(6,_),(9,_),(12,_),(13,_),(14,_),(15,_),(16,_),(17,_),(18,_),(42,_),(43,_),(44,_),(45,_),(46,_),(47,_),(48,_),(49,_),(54,_),(60,_),(61,_),(62,_),(63,_),(64,_),(65,_),(66,_),(67,_),(68,_),(69,_),(70,_),(71,_),(72,_),(73,_),(74,_),(75,_),(79,_)] [blk i17 _ _,blk i14 _ _,blk i9 _ _,blk i6 _ _] (fun yc:P24=>(yc.need=[]∧Ln yc.page)∧qid yc.node∧yc.hops=o.hops∧level≤x62.1.level) (fun yc=>[]) (fun yc=>[blk i12 266 (tP24.cells yc)]) qaj qab ?_ ?_
 rotate_left
 focus
  refine cN ?_ ?_ <;> intro h21
  ·refine t15 ?_
   refine cN ?_ ?_ <;> intro h23
   ·refine t11 ?_
    exact rXF (⟨_,_,_,_,(⟨_,_,_,_,_,_,_,_,_⟩:Pg),(⟨_,_,_,_,(⟨_,_⟩:Pt),_⟩:N24),(⟨_,_,_,_,(⟨_,_⟩:Pt),_⟩:N24),_,_,_⟩:P24) results164 (hp:=by exact ⟨Nat.zero_le _,qdx,fun _ _ h=>Bool.noConfusion h,ln0⟩)
   have hl0:=of_decide_eq_false h23
   refine s1 ?_
   refine qao (b:=i12) (As':=tP24.cells (⟨_,_,_,_,(⟨_,_,_,_,_,_,_,_,_⟩:Pg),(⟨_,_,_,_,(⟨_,_⟩:Pt),_⟩:N24),(⟨_,_,_,_,(⟨_,_⟩:Pt),_⟩:N24),_,_,_⟩:P24)) qae qbf ?_
   refine qai (⟨_,_,_,_,(⟨_,_,_,_,_,_,_,_,_⟩:Pg),(⟨_,_,_,_,(⟨_,_⟩:Pt),_⟩:N24),(⟨_,_,_,_,(⟨_,_⟩:Pt),_⟩:N24),_,_,_⟩:P24) ?_ qaj qab
   ·exact (⟨⟨hi1,hip⟩,hi2,rfl,by omega⟩)
  have hw0:=of_decide_eq_false h21
  refine s1 ?_
  refine qao (b:=i12) (As':=tP24.cells (⟨_,_,_,_,(⟨_,_,_,_,_,_,_,_,_⟩:Pg),(⟨_,_,_,_,(⟨_,_⟩:Pt),_⟩:N24),(⟨_,_,_,_,(⟨_,_⟩:Pt),_⟩:N24),_,_,_⟩:P24)) qae qbf ?_
  refine qai (⟨_,_,_,_,(⟨_,_,_,_,_,_,_,_,_⟩:Pg),(⟨_,_,_,_,(⟨_,_⟩:Pt),_⟩:N24),(⟨_,_,_,_,(⟨_,_⟩:Pt),_⟩:N24),_,_,_⟩:P24) ?_ qaj qab
  ·exact (⟨⟨hi1,hip⟩,hi2,rfl,by omega⟩)
 rintro o2 hI
 refine t9 ?_
 obtain ⟨⟨hq1,hqp⟩,hq2,hq3,hq4⟩:=hI
 refine t11 ?_
 refine cN ?_ ?_ <;> intro h26
 ·refine t40 ?_
  refine t4 ?_
  (refine qcp rfl rfl rfl (fun hg=>(by have hg0:=hg;(try simp at hg);exact qdt evG evG)) ?_)
  refine t3 ?_
  refine cN ?_ ?_ <;> intro h30
  ·refine t18 ?_
   exact rXF (⟨_,_,_,_,(⟨_,_,_,_,_,_,_,_,_⟩:Pg),(⟨_,_,_,_,(⟨_,_⟩:Pt),_⟩:N24),(⟨_,_,_,_,(⟨_,_⟩:Pt),_⟩:N24),_,_,_⟩:P24) results164 (hp:=by exact ⟨by rw [hq1];exact Nat.zero_le _,hq2,fun _ _ _ h=>absurd (show (14:Int)=0 from h) (by decide),hqp⟩)
  have hh:¬ (o2.hops+1>256):=by
   simp only [Bool.or_eq_false_iff] at h30
   have:=of_decide_eq_false h30.1
   exact this
  clear h30
  refine t12 ?_
  refine qao (b:=i9) (As':=tPt.cells (⟨_,_⟩:Pt)) qae qbf ?_
  refine qao (b:=i12) (As':=tP24.cells (⟨_,_,_,_,(⟨_,_,_,_,_,_,_,_,_⟩:Pg),(⟨_,_,_,_,(⟨_,_⟩:Pt),_⟩:N24),(⟨_,_,_,_,(⟨_,_⟩:Pt),_⟩:N24),_,_,_⟩:P24)) qae qbf ?_
  refine qaa ((⟨_,_⟩:Pt),(⟨_,_,_,_,(⟨_,_,_,_,_,_,_,_,_⟩:Pg),(⟨_,_,_,_,(⟨_,_⟩:Pt),_⟩:N24),(⟨_,_,_,_,(⟨_,_⟩:Pt),_⟩:N24),_,_,_⟩:P24),_) ?_ ?_ qaj qab
  ·exact ⟨⟨hq1,hqp⟩,hq2,⟨(show 0≤o2.hops+1 by omega),(show o2.hops+1≤256 by omega)⟩,Or.inr ⟨(show level≤x62.1.level by omega),(show x62.1.level≤8 by omega)⟩⟩
  ·(show ((if x62.1.level<0 then (10:Int) else x62.1.level)+(257-(o2.hops+1))).toNat<((if w<0 then (10:Int) else w)+(257-o.hops)).toNat;rw [if_neg (show ¬ x62.1.level<0 by omega)];split <;> omega)
 refine t11 ?_
 refine cN ?_ ?_ <;> intro h34
 ·refine qd8 (b:=i14) hX qae ?_
  refine qb0 14 (qc4 (tPg.cells (lkV ks a 4 false).1)) rfl qgw ?_
  refine qd8 (b:=i17) hX qae ?_
  refine qb0 17 (qc4 (tN24.cells x62.1)) rfl qgw ?_
  have hlv:x62.1.level=level:=by simpa using h34
  have hky:UV key≤UV x62.1.high:=by
   rw [Bool.or_eq_false_iff] at h26
   have:=of_decide_eq_false h26.2
   omega
  refine s1 ?_
  refine qaz rfl (by kernel_rfl) ?_
  refine qdm [0,0,0,2,0,2] (by kernel_rfl) (by kernel_rfl) ?_
  refine qc7 (by exact qb2 (n:=9) (er rfl) rfl rfl rfl rf qbm) ?_
  refine qc7 (by exact qb2 (n:=7) (er rfl) rfl rfl rfl rf qbm) ?_
  refine qc7 (by exact qbe (k:=4) (er rfl) rfl rfl rfl rfl) ?_
  refine qlb (qas (er rfl) (er rfl) qag qae qbm rf rf rf) ?_
  refine qc7 (by exact qbe (k:=13) (er rfl) rfl rfl rfl rfl) ?_
  refine qlb (qas (er rfl) (er rfl) qag qae qbm rf rf rf) ?_
  refine qfl ?_
  refine qar ?_
  refine t5 ?_
  refine kRF call33 (qcc _) ?_
  refine t2 ?_
  refine cN ?_ ?_ <;> intro h36
  ·refine t16 ?_
   exact rXF (⟨_,_,_,_,(⟨_,_,_,_,_,_,_,_,_⟩:Pg),(⟨_,_,_,_,(⟨_,_⟩:Pt),_⟩:N24),(⟨_,_,_,_,(⟨_,_⟩:Pt),_⟩:N24),_,_,_⟩:P24) results164 (hp:=by exact ⟨by rw [hq1];exact Nat.zero_le _,hx62,fun _ _ _ _=>⟨hlv,hky⟩,qfb _ _ _ _⟩)
  refine t13 ?_
  exact rXF (⟨_,_,_,_,(⟨_,_,_,_,_,_,_,_,_⟩:Pg),(⟨_,_,_,_,(⟨_,_⟩:Pt),_⟩:N24),(⟨_,_,_,_,(⟨_,_⟩:Pt),_⟩:N24),_,_,_⟩:P24) results164 (hp:=by exact ⟨by rw [hq1];exact Nat.zero_le _,hx62,fun _ _ _ _=>⟨hlv,hky⟩,qfb _ _ _ _⟩)
 have hne:x62.1.level≠level:=by simpa using h34
 refine t13 ?_
 refine qap rfl (by ((refine qad call193 (child_ok x62.1 _ ?_) ⟨qaq,⟨qaq,trivial⟩⟩);all_goals (omega))) ?_
 (refine qgm 147 rfl ?_;intro x147)
 refine qap rfl (qz1 (n:=2) (er rfl) rfl rfl rfl rfl rfl qbm) ?_
 refine t3 ?_
 refine qao (b:=i9) (As':=tPt.cells (⟨_,_⟩:Pt)) qae qbf ?_
 refine qao (b:=i12) (As':=tP24.cells (⟨_,_,_,_,(⟨_,_,_,_,_,_,_,_,_⟩:Pg),(⟨_,_,_,_,(⟨_,_⟩:Pt),_⟩:N24),(⟨_,_,_,_,(⟨_,_⟩:Pt),_⟩:N24),_,_,_⟩:P24)) qae qbf ?_
 refine qaa ((⟨_,_⟩:Pt),(⟨_,_,_,_,(⟨_,_,_,_,_,_,_,_,_⟩:Pg),(⟨_,_,_,_,(⟨_,_⟩:Pt),_⟩:N24),(⟨_,_,_,_,(⟨_,_⟩:Pt),_⟩:N24),_,_,_⟩:P24),_) ?_ ?_ qaj qab
 ·exact ⟨⟨hq1,hqp⟩,hq2,⟨(show 0≤o2.hops by omega),(show o2.hops≤256 by omega)⟩,Or.inr ⟨(show level≤x62.1.level-1 by omega),(show x62.1.level-1≤8 by omega)⟩⟩
 ·(show ((if x62.1.level-1<0 then (10:Int) else x62.1.level-1)+(257-o2.hops)).toNat<((if w<0 then (10:Int) else w)+(257-o.hops)).toNat;rw [if_neg (show ¬ x62.1.level-1<0 by omega)];split <;> omega)
@[reducible] def zfi (a:O24):VP:=IsAgg [Is (.int .i64 a.code),Is (.bool a.found),Is (.bool a.done),Is (.bool a.split),Is (.bool a.unposted),Is (.bool a.dead),Is (.bool a.more),Is (.int .i64 a.to.line),Is (.int .i64 a.to.gen),Is (.slice none 0 0),IsSl tI64 a.check,Is (.int .i64 a.hops),Is (.int .i64 a.fresh),Is (.int .i64 a.height)]
def qzj (r:S24):Prop:=WL 2 r.writes∧r.need.length≤1∧r.out.check.length≤300
theorem qpl (p:Pg) (n:N24) (l:List En) (fr:List Pg) (x:Int) (o:O24) (hl:l.length≤7) (ho:o.check.length≤1) (hp:Ln p):FnF Tryz.prog 205 [qcr p,qw0 n,IsSl tEn l,IsSl tPg fr,Is (.int .i64 x),qwz o] (fun B=>qes qzj fun r=>qjy B r):=by
 refine FnF.enter func205 ntmps205 rfl rfl ?_
 intro c hX
 refine t3 ?_
 intro i6
 refine s1 ?_
 intro i7
 refine s1 ?_
 intro i11
 refine s1 ?_
 intro i12
 refine t10 ?_
 refine cN ?_ ?_ <;> intro h1
 ·refine t11 ?_
  refine qap rfl (by ((refine qad call204 (qdv _ (⟨_,_,_,_,(⟨_,_⟩:Pt),_⟩:N24) ?_) ⟨qbc,⟨qbc,trivial⟩⟩);all_goals (first|first|assumption|exact qfb _ _ _ _|exact qdl _ ⟨by decide,by decide⟩))) ?_
  refine t4 ?_
  intro i13
  refine t5 ?_
  refine qc8 (b:=i13) (fun _=>qae) ?_
  intro p13 hln13
  refine t8 ?_
  refine qap rfl (OpP.fr (qa3 (size:=9) (qs:=[(0,_)]) rfl rfl rfl ⟨⟨rfl,_,(er rfl),qag⟩,trivial⟩ rf rf) qcq (SubL.row1 (T:=tPg) (x:=(⟨_,_,_,_,_,_,_,_,_⟩:Pg)) rf rf rf qak)) ?_
  refine t7 ?_
  exact rXF (⟨_,_,(⟨_,_,_,_,_,_,_,(⟨_,_⟩:Pt),_,_,_,_,_⟩:O24),_⟩:S24) results205 (hp:=by exact ⟨wl1 (by assumption),Nat.zero_le _,Nat.le_trans ho (by omega)⟩)
 have hl5:5<l.length:=by have:=of_decide_eq_false h1;omega
 have hz2:l[2]?=some _:=List.getElem?_eq_getElem (by omega)
 refine t5 ?_
 refine qap rfl (OpP.to (qac (size:=1) (qs:=[(0,_)]) rfl rfl rfl ⟨⟨rfl,_,(er rfl),qag⟩,trivial⟩ rf rf) (SubL.row1 (T:=tI64) (x:=_) rf rf rf qak)) ?_
 refine t3 ?_
 refine qap rfl (OpP.to (qac (size:=1) (qs:=[(0,_),(1,_)]) rfl rfl rfl ⟨⟨rfl,_,(er rfl),qag⟩,⟨⟨rfl,_,(er rfl),qag⟩,trivial⟩⟩ rf rf) (SubL.row2 (T:=tI64) (x:=_) (y:=_) rf rf rf rf qak qak)) ?_
 refine qap rfl (by ((refine qad call238 (qqc _ [4] [p.l,x] ?_ ?_) ⟨qaq,⟨qaq,⟨qaq,trivial⟩⟩⟩);all_goals (first|decide|simp))) ?_
 (refine qa5 45 rfl ?_;intro x45 hx45)
 refine t14 ?_
 refine cN ?_ ?_ <;> intro h7
 ·refine t16 ?_
  refine kXF call194 (qa1 c.w.heap.size (⟨_,_,_,_,_,_,_,(⟨_,_⟩:Pt),_,_,_,_,_⟩:O24) _) ?_
  refine t5 ?_
  exact rXF (⟨_,_,(⟨_,_,_,_,_,_,_,(⟨_,_⟩:Pt),_,_,_,_,_⟩:O24),_⟩:S24) results205 (hp:=by exact ⟨wl0,Nat.zero_le _,Nat.zero_le _⟩)
 refine t9 ?_
 refine cN ?_ ?_ <;> intro h11
 ·refine t10 ?_
  refine kXF call194 (qa1 c.w.heap.size (⟨_,_,_,_,_,_,_,(⟨_,_⟩:Pt),_,_,_,_,_⟩:O24) _) ?_
  refine t5 ?_
  exact rXF (⟨_,_,(⟨_,_,_,_,_,_,_,(⟨_,_⟩:Pt),_,_,_,_,_⟩:O24),_⟩:S24) results205 (hp:=by exact ⟨wl0,Nat.zero_le _,Nat.zero_le _⟩)
 obtain ⟨hlu,hlv⟩:=hx45 (by simpa using h11)
 obtain ⟨pa,hza⟩:=qtm hlu
 have hla:Ln pa:=hlv _ (List.mem_of_getElem? hza)
 refine t3 ?_
 refine qaz rfl (by kernel_rfl) ?_
 refine qaf 11 (by kernel_rfl) ?_
 refine t7 ?_
 refine qbh (qcx (er rfl) rfl rfl ⟨_,_,(er rfl),(show _=((3:Nat):Int) by rfl)⟩ rfl (by omega) (by omega)) ?_
 refine s1 ?_
 refine qkq (qbl rfl qbm rfl) ?_
 refine qcy rfl rfl rfl (by kernel_rfl) (qca qaq qag rfl rfl rfl qbm) ?_
 refine ⟨rfl,?_⟩
 intro i17
 refine qar ?_
 refine t4 ?_
 refine qap rfl (qcx (er rfl) rfl rfl rfl ⟨_,_,(er rfl),(show _=((3:Nat):Int) by rfl)⟩ (by omega) (by omega)) ?_
 refine t7 ?_
 refine qap rfl (by exact qam (j:=2) (er rfl) (er rfl) rfl rfl rf hz2) ?_
 refine t9 ?_
 refine qap rfl (by exact qam (j:=0) (er rfl) (er rfl) rfl rfl rf hza) ?_
 refine s1 ?_
 refine kRF call186 (qhr _) ?_
 refine t8 ?_
 refine qap rfl (by ((refine qad call204 (qdv _ (⟨_,_,_,_,(⟨_,_⟩:Pt),_⟩:N24) ?_) ⟨qbc,⟨qbc,trivial⟩⟩);all_goals (first|first|assumption|exact qfb _ _ _ _|exact qdl _ ⟨by decide,by decide⟩))) ?_
 refine t4 ?_
 intro i18
 refine t5 ?_
 refine qc8 (b:=i18) (fun _=>qae) ?_
 intro p18 hln18
 refine qaz rfl (by kernel_rfl) ?_
 refine qaf 11 (by kernel_rfl) ?_
 refine s1 ?_
 refine qbh (by exact qam (j:=0) (er rfl) (er rfl) rfl rfl rf hza) ?_
 refine t2 ?_
 refine qbh (by ((refine qad call204 (qdv _ (⟨_,_,_,_,(⟨_,_⟩:Pt),_⟩:N24) ?_) ⟨qbc,⟨qbc,trivial⟩⟩);all_goals (first|first|assumption|exact qfb _ _ _ _|exact qdl _ ⟨by decide,by decide⟩))) ?_
 refine t3 ?_
 refine qkq (qbl rfl qbm rfl) ?_
 refine qcy rfl rfl rfl (by kernel_rfl) (qca qaq qag rfl rfl rfl qbm) ?_
 refine s1 ?_
 refine ⟨rfl,?_⟩
 intro i20
 refine qar ?_
 refine t2 ?_
 refine qc8 (b:=i20) (fun _=>qae) ?_
 intro p20 hln20
 refine t8 ?_
 refine qaz rfl (by kernel_rfl) ?_
 refine qaf 6 (by kernel_rfl) ?_
 refine t2 ?_
 refine qbh (OpP.fr (qa3 (size:=9) (qs:=[(0,_),(1,_)]) rfl rfl rfl ⟨⟨rfl,_,(er rfl),qag⟩,⟨⟨rfl,_,(er rfl),qag⟩,trivial⟩⟩ rf rf) qcq (SubL.row2 (T:=tPg) (x:=(⟨_,_,_,_,_,_,_,_,_⟩:Pg)) (y:=(⟨_,_,_,_,_,_,_,_,_⟩:Pg)) rf rf rf rf qak qak)) ?_
 refine qbh (by ((refine qaw call72 (qcf _ _ ?_) ⟨qaq,⟨qaq,trivial⟩⟩);all_goals ((simp;done)))) ?_
 refine t2 ?_
 refine ⟨rfl,?_⟩
 refine qeb (by kernel_rfl) rfl (qas (er rfl) (er rfl) qag qae qbm rf rf rf) ?_
 refine qar ?_
 refine t2 ?_
 exact rXF (⟨_,_,(⟨_,_,_,_,_,_,_,(⟨_,_⟩:Pt),_,_,_,_,_⟩:O24),_⟩:S24) results205 (hp:=by exact ⟨qgn (n:=0) wl0 (wl2 (n:=0) (by assumption) (by assumption)) (by decide),Nat.zero_le _,Nat.le_trans ho (by omega)⟩)
theorem qtp (op:Op24) (ks:List Pg):FnF Tryz.prog 197 [qm9 op,IsSl tPg ks] (fun B=>qes (fun r=>qzj r∧(op.kind=8→r.out.done=false)) fun r=>qjy B r):=by
 refine FnF.enter func197 ntmps197 rfl rfl ?_
 intro c hX
 refine t3 ?_
 intro i2
 refine s1 ?_
 intro i4
 refine t15 ?_
 refine cN ?_ ?_ <;> intro h1
 ·refine t3 ?_
  refine kXF call194 (qa1 c.w.heap.size (⟨_,_,_,_,_,_,_,(⟨_,_⟩:Pt),_,_,_,_,_⟩:O24) _) ?_
  refine t5 ?_
  exact rXF (⟨_,_,(⟨_,_,_,_,_,_,_,(⟨_,_⟩:Pt),_,_,_,_,_⟩:O24),_⟩:S24) results197 (hp:=by exact ⟨⟨wl0,Nat.zero_le _,by exact Nat.zero_le _⟩,fun _=>rfl⟩)
 have h8:op.kind≠8:=by
  rw [Bool.or_eq_false_iff] at h1
  simpa using h1.2
 refine t5 ?_
 refine kRF call32 (qby _ _) ?_
 refine t4 ?_
 intro i5
 refine t8 ?_
 refine kRF call33 (qcc _) ?_
 refine t2 ?_
 refine cN ?_ ?_ <;> intro h4
 ·refine t3 ?_
  refine kXF call194 (qa1 c.w.heap.size (⟨_,_,_,_,_,_,_,(⟨_,_⟩:Pt),_,_,_,_,_⟩:O24) _) ?_
  refine t5 ?_
  exact rXF (⟨_,_,(⟨_,_,_,_,_,_,_,(⟨_,_⟩:Pt),_,_,_,_,_⟩:O24),_⟩:S24) results197 (hp:=by exact ⟨⟨wl0,Nat.zero_le _,by exact Nat.zero_le _⟩,fun _=>rfl⟩)
 refine t16 ?_
 refine cN ?_ ?_ <;> intro h7
 ·refine t2 ?_
  refine qap rfl (OpP.to (qac (size:=1) (qs:=[(0,_)]) rfl rfl rfl ⟨⟨rfl,_,(er rfl),qag⟩,trivial⟩ rf rf) (SubL.row1 (T:=tI64) (x:=_) rf rf rf qak)) ?_
  refine s1 ?_
  refine kXF call194 (qa1 c.w.heap.size (⟨_,_,_,_,_,_,_,(⟨_,_⟩:Pt),_,_,_,_,_⟩:O24) _) ?_
  refine t6 ?_
  exact rXF (⟨_,_,(⟨_,_,_,_,_,_,_,(⟨_,_⟩:Pt),_,_,_,_,_⟩:O24),_⟩:S24) results197 (hp:=by exact ⟨⟨wl0,Nat.zero_le _,by (show 1≤300;omega)⟩,fun _=>rfl⟩)
 refine t6 ?_
 refine cN ?_ ?_ <;> intro h9
 ·refine t4 ?_
  refine qap rfl (OpP.to (qac (size:=1) (qs:=[(0,_)]) rfl rfl rfl ⟨⟨rfl,_,(er rfl),qag⟩,trivial⟩ rf rf) (SubL.row1 (T:=tI64) (x:=_) rf rf rf qak)) ?_
  refine qap rfl (OpP.to (qac (size:=1) (qs:=[(0,_)]) rfl rfl rfl ⟨⟨rfl,_,(er rfl),qag⟩,trivial⟩ rf rf) (SubL.row1 (T:=tI64) (x:=_) rf rf rf qak)) ?_
  refine qap rfl (by ((refine qad call238 (qqc _ [4] [96] ?_ ?_) ⟨qaq,⟨qaq,⟨qaq,trivial⟩⟩⟩);all_goals (decide))) ?_
  (refine qa5 46 rfl ?_;intro x46 hx46)
  refine t14 ?_
  refine cN ?_ ?_ <;> intro h11
  ·refine t4 ?_
   refine kXF call194 (qa1 c.w.heap.size (⟨_,_,_,_,_,_,_,(⟨_,_⟩:Pt),_,_,_,_,_⟩:O24) _) ?_
   refine t7 ?_
   exact rXF (⟨_,_,(⟨_,_,_,_,_,_,_,(⟨_,_⟩:Pt),_,_,_,_,_⟩:O24),_⟩:S24) results197 (hp:=by exact ⟨⟨wl0,Nat.zero_le _,by exact Nat.zero_le _⟩,fun _=>rfl⟩)
  refine t9 ?_
  refine cN ?_ ?_ <;> intro h13
  ·refine t4 ?_
   refine kXF call194 (qa1 c.w.heap.size (⟨_,_,_,_,_,_,_,(⟨_,_⟩:Pt),_,_,_,_,_⟩:O24) _) ?_
   refine t7 ?_
   exact rXF (⟨_,_,(⟨_,_,_,_,_,_,_,(⟨_,_⟩:Pt),_,_,_,_,_⟩:O24),_⟩:S24) results197 (hp:=by exact ⟨⟨wl0,Nat.zero_le _,by exact Nat.zero_le _⟩,fun _=>rfl⟩)
  obtain ⟨hlu,hlv⟩:=hx46 (by simpa using h13)
  obtain ⟨pa,hza⟩:=qtm hlu
  have hla:Ln pa:=hlv _ (List.mem_of_getElem? hza)
  refine t3 ?_
  refine qaz rfl (by kernel_rfl) ?_
  refine qaf 17 (by kernel_rfl) ?_
  refine s1 ?_
  refine qbh (by exact qam (j:=0) (er rfl) (er rfl) rfl rfl rf hza) ?_
  refine t6 ?_
  refine qbh (OpP.to (qac (size:=3) (qs:=[(0,_)]) rfl rfl rfl ⟨⟨rfl,_,(er rfl),qag⟩,trivial⟩ rf rf) (SubL.row1 (T:=tEn) (x:=(⟨_,(⟨_,_⟩:Pt)⟩:En)) rf rf rf qak)) ?_
  refine s1 ?_
  refine qbh (by ((refine qad call204 (qdv _ (⟨_,_,_,_,(⟨_,_⟩:Pt),_⟩:N24) ?_) ⟨qbc,⟨qbc,trivial⟩⟩);all_goals (first|first|assumption|exact qfb _ _ _ _|exact qdl _ ⟨by decide,by decide⟩))) ?_
  refine t3 ?_
  refine qkq (qbl rfl qbm rfl) ?_
  refine qcy rfl rfl rfl (by kernel_rfl) (qca qaq qag rfl rfl rfl qbm) ?_
  refine s1 ?_
  refine ⟨rfl,?_⟩
  intro i9
  refine qar ?_
  refine t2 ?_
  refine qc8 (b:=i9) (fun _=>qae) ?_
  intro p9 hln9
  refine qaz rfl (by kernel_rfl) ?_
  refine qaf 12 (by kernel_rfl) ?_
  refine t2 ?_
  refine qbh (by exact qam (j:=0) (er rfl) (er rfl) rfl rfl rf hza) ?_
  refine s1 ?_
  refine qbh (qad call186 (qhr _) ⟨qaq,trivial⟩) ?_
  refine qbh (by ((refine qad call239 (qjr _ (⟨_,_⟩:Pt) _ ?_) ⟨qbc,⟨qbc,⟨qbc,trivial⟩⟩⟩);all_goals (exact qdl _ ⟨by decide,by decide⟩))) ?_
  refine t3 ?_
  refine qkq (qbl rfl qbm rfl) ?_
  refine qcy rfl rfl rfl (by kernel_rfl) (qca qaq qag rfl rfl rfl qbm) ?_
  refine s1 ?_
  refine ⟨rfl,?_⟩
  intro i11
  refine qar ?_
  refine t2 ?_
  refine qc8 (b:=i11) (fun _=>qae) ?_
  intro p11 hln11
  refine t3 ?_
  refine qap rfl (OpP.fr (qa3 (size:=9) (qs:=[(0,_),(1,_)]) rfl rfl rfl ⟨⟨rfl,_,(er rfl),qag⟩,⟨⟨rfl,_,(er rfl),qag⟩,trivial⟩⟩ rf rf) qcq (SubL.row2 (T:=tPg) (x:=(⟨_,_,_,_,_,_,_,_,_⟩:Pg)) (y:=(⟨_,_,_,_,_,_,_,_,_⟩:Pg)) rf rf rf rf qak qak)) ?_
  refine qap rfl (by ((refine qaw call72 (qcf _ _ ?_) ⟨qaq,⟨qaq,trivial⟩⟩);all_goals ((simp;done)))) ?_
  refine t8 ?_
  exact rXF (⟨_,_,(⟨_,_,_,_,_,_,_,(⟨_,_⟩:Pt),_,_,_,_,_⟩:O24),_⟩:S24) results197 (hp:=by exact ⟨⟨qgn (n:=0) wl0 (wl2 (n:=0) (by assumption) (by assumption)) (by decide),Nat.zero_le _,Nat.zero_le _⟩,fun h=>absurd h h8⟩)
 refine t5 ?_
 refine qap rfl (OpP.to (qac (size:=1) (qs:=[(0,_)]) rfl rfl rfl ⟨⟨rfl,_,(er rfl),qag⟩,trivial⟩ rf rf) (SubL.row1 (T:=tI64) (x:=_) rf rf rf qak)) ?_
 refine t6 ?_
 exact rXF (⟨_,_,(⟨_,_,_,_,_,_,_,(⟨_,_⟩:Pt),_,_,_,_,_⟩:O24),_⟩:S24) results197 (hp:=by exact ⟨⟨wl0,Nat.zero_le _,by (show 1≤300;omega)⟩,fun _=>rfl⟩)
theorem zeu (o:O24) (p:P24):FnP Tryz.prog 199 [zfi o,quz p] (qes (fun r:O24=>r.check=o.check∧r.more=o.more∧r.done=o.done) fun r=>zfi r):=by
 refine FnP.enter func199 ntmps199 rfl rfl ?_
 intro c hX
 refine t3 ?_
 intro i2
 refine s1 ?_
 intro i3
 refine s1 ?_
 intro i4
 refine t40 ?_
 refine s1 ?_
 refine kXF call198 (qlx (⟨_,_,_,_,(⟨_,_,_,_,_,_,_,_,_⟩:Pg),(⟨_,_,_,_,(⟨_,_⟩:Pt),_⟩:N24),(⟨_,_,_,_,(⟨_,_⟩:Pt),_⟩:N24),_,_,_⟩:P24)) ?_
 (refine qgm 26 rfl ?_;intro x26)
 refine t2 ?_
 refine cN ?_ ?_ <;> intro h4
 ·refine t16 ?_
  exact rXF (⟨_,_,_,_,_,_,_,(⟨_,_⟩:Pt),[],_,_,_,_⟩:O24) results199 (hp:=by exact ⟨rfl,rfl,rfl⟩)
 refine t9 ?_
 exact rXF (⟨_,_,_,_,_,_,_,(⟨_,_⟩:Pt),[],_,_,_,_⟩:O24) results199 (hp:=by exact ⟨rfl,rfl,rfl⟩)
theorem qn9 (ks:List Pg) (p:Pt) (level:Int):FnP Tryz.prog 237 [IsSl tPg ks,qks p,Is (.int .i64 level)] (qes (fun r:Pg×N24×List Int×Int=>r.2.2.1.length≤1∧qid r.2.1∧Ln r.1) fun r=>qbu [qcr r.1,qw0 r.2.1,IsSl tI64 r.2.2.1,Is (.int .i64 r.2.2.2)]):=by
 refine FnP.enter func237 ntmps237 rfl rfl ?_
 intro c hX
 refine t3 ?_
 intro i4
 refine s1 ?_
 intro i6
 refine s1 ?_
 intro i7
 refine t8 ?_
 refine kRF call167 (qh3 _ _ _ _) ?_
 refine t5 ?_
 intro i10
 refine t12 ?_
 refine cN ?_ ?_ <;> intro h2
 ·refine t13 ?_
  exact qcg (Bs:=[_,_,_,_]) ((⟨_,_,_,_,_,_,_,_,_⟩:Pg),(⟨_,_,_,_,(⟨_,_⟩:Pt),_⟩:N24),_,_) rfl results237 eXF (List.nil_sublist _) (by exact ⟨by exact Nat.zero_le _,qdx,qfb _ _ _ _⟩)
 refine t9 ?_
 refine cN ?_ ?_ <;> intro h4
 ·refine s1 ?_
  refine qaz rfl (by kernel_rfl) ?_
  refine qc0 (it:=blk i7 _ _) (by repeat (first|exact Drop1.here _ _|apply Drop1.next)) ?_
  refine qc0 (it:=blk i6 _ _) (by repeat (first|exact Drop1.here _ _|apply Drop1.next)) ?_
  refine qc3 (its:=[_,_]) 9 (by kernel_rfl) ?_
  refine t4 ?_
  refine qbh (OpP.to (qac (size:=1) (qs:=[(0,_)]) rfl rfl rfl ⟨⟨rfl,_,(er rfl),qag⟩,trivial⟩ rf rf) (SubL.row1 (T:=tI64) (x:=_) rf rf rf qak)) ?_
  refine qcz (s:=55) rfl rfl rfl (by kernel_rfl) (fun c'=>by exact qa2 (er rfl) (er rfl) qag qae rf rf rf) ?_
  refine qcz (s:=56) rfl rfl rfl (by kernel_rfl) (fun c'=>by exact qa2 (er rfl) (er rfl) qag qae rf rf rf) ?_
  refine t2 ?_
  refine ⟨rfl,?_⟩
  intro _ _
  refine qar ?_
  refine t3 ?_
  exact qcg (Bs:=[_,_,_,_]) ((⟨_,_,_,_,_,_,_,_,_⟩:Pg),(⟨_,_,_,_,(⟨_,_⟩:Pt),_⟩:N24),_,_) rfl results237 eXF (List.nil_sublist _) (by exact ⟨by exact Nat.le_refl 1,qdx,qfb _ _ _ _⟩)
 refine t5 ?_
 refine kRF call192 (qjw _) ?_
 (refine qa5 36 rfl ?_;intro x36 hx36)
 refine t4 ?_
 intro i13
 refine t21 ?_
 refine cN ?_ ?_ <;> intro h7
 ·refine t12 ?_
  exact qcg (Bs:=[_,_,_,_]) ((⟨_,_,_,_,_,_,_,_,_⟩:Pg),(⟨_,_,_,_,(⟨_,_⟩:Pt),_⟩:N24),_,_) rfl results237 eXF (List.nil_sublist _) (by exact ⟨by exact Nat.zero_le _,qdx,qfb _ _ _ _⟩)
 refine t3 ?_
 refine qaz rfl (by kernel_rfl) ?_
 refine qc0 (it:=blk i7 _ _) (by repeat (first|exact Drop1.here _ _|apply Drop1.next)) ?_
 refine qc0 (it:=blk i6 _ _) (by repeat (first|exact Drop1.here _ _|apply Drop1.next)) ?_
 refine qc3 (its:=[_,_]) 6 (by kernel_rfl) ?_
 refine t2 ?_
 refine qcz (s:=55) rfl rfl rfl (by kernel_rfl) (fun c'=>by exact qa2 (er rfl) (er rfl) qag qae rf rf rf) ?_
 refine qcz (s:=56) rfl rfl rfl (by kernel_rfl) (fun c'=>by exact qa2 (er rfl) (er rfl) qag qae rf rf rf) ?_
 refine t2 ?_
 refine ⟨rfl,?_⟩
 intro _ _
 refine qar ?_
 refine t2 ?_
 exact qcg (Bs:=[_,_,_,_]) ((⟨_,_,_,_,_,_,_,_,_⟩:Pg),(⟨_,_,_,_,(⟨_,_⟩:Pt),_⟩:N24),_,_) rfl results237 eXF (List.nil_sublist _) (by exact ⟨Nat.zero_le _,hx36,qfb _ _ _ _⟩)
abbrev SlA:=Option Addr×Nat
theorem zbx (op:Op24) (p:P24) (o:O24) (ks:List Pg) (hlim:1≤op.limit∧op.limit≤64) (hp:qid p.node) (ho:o.check=[]) (ho2:o.more=false):FnF Tryz.prog 200 [qm9 op,quz p,zfi o,IsSl tPg ks] (fun B=>qes qzj fun r=>qjy B r):=by
 obtain ⟨o1,o2,o3,o4,o5,o6,o7,o8,o9,o10,o11,o12,o13⟩:=o
 dsimp only at ho ho2
 subst ho ho2
 refine FnF.enter func200 ntmps200 rfl rfl ?_
 intro c hX
 refine t3 ?_
 intro i4
 refine s1 ?_
 intro i5
 refine s1 ?_
 intro i6
 refine s1 ?_
 intro i8
 refine t3 ?_
 refine qaz rfl (by kernel_rfl) ?_
 refine qaf 8 (by kernel_rfl) ?_
 refine t4 ?_
 refine qkq (qbl rfl qbm rfl) ?_
 refine qkq (qbl rfl qbm rfl) ?_
 refine qcy rfl rfl rfl (by kernel_rfl) (qca qaq qag rfl rfl rfl qbm) ?_
 refine qcy rfl rfl rfl (by kernel_rfl) (qca qaq qag rfl rfl rfl qbm) ?_
 refine ⟨rfl,?_⟩
 intro i10 i9
 refine qar ?_
 refine t7 ?_
 refine qcd 277 tEn ?_
 refine qbr (b:=i9) (As':=tPg.cells (⟨_,_,_,_,_,_,_,_,_⟩:Pg)) qae qbf ?_
 refine qbr (b:=i10) (As':=tN24.cells (⟨_,_,_,_,(⟨_,_⟩:Pt),_⟩:N24)) qae qbf ?_
 refine qav [(3,_),(4,_),(6,_),(8,_),(9,_),(10,_)] [blk i8 _ _,blk i4 _ _] (fun y:Pg×N24×O24×(List En)×Nat×(Option Addr×Nat)=>qid y.2.1∧(y.2.2.2.1.length:Int)<op.limit∧y.2.2.1.check.length≤y.2.2.2.2.1∧y.2.2.2.2.1≤256) (fun y=>[(11,Is (.int .i64 (y.2.2.2.2.1:Nat)))]) (fun y=>[blk i9 48 (tPg.cells y.1),blk i10 264 (tN24.cells y.2.1),blk i6 269 [Is (.int .i64 y.2.2.1.code),Is (.bool y.2.2.1.found),Is (.bool y.2.2.1.done),Is (.bool y.2.2.1.split),Is (.bool y.2.2.1.unposted),Is (.bool y.2.2.1.dead),Is (.bool false),Is (.int .i64 y.2.2.1.to.line),Is (.int .i64 y.2.2.1.to.gen),Is (slV (y.2.2.2.1).length y.2.2.2.2.2),IsSl tI64 y.2.2.1.check,Is (.int .i64 y.2.2.1.hops),Is (.int .i64 y.2.2.1.fresh),Is (.int .i64 y.2.2.1.height)],buf (slV (y.2.2.2.1).length y.2.2.2.2.2) 277 tEn (y.2.2.2.1)]) (fun y=>257-y.2.2.2.2.1) ((⟨_,_,_,_,_,_,_,_,_⟩:Pg),(⟨_,_,_,_,(⟨_,_⟩:Pt),_⟩:N24),(⟨_,_,_,_,_,_,_,(⟨_,_⟩:Pt),_,_,_,_,_⟩:O24),[],0,(none,0)) ?_ qaj qab ?_
 ·exact (⟨hp,by simp;omega,Nat.le_refl 0,by show (0:Nat)≤256;decide⟩)
 rintro ⟨pg,n,o1,es,m,v_0⟩ hI
 dsimp only at hI ⊢
 refine t9 ?_
 obtain ⟨hi1,hi2,hi3,hi4⟩:=hI
 obtain ⟨hn1,hn1b⟩:=id hi1
 refine qb1 [(3,_),(4,_),(6,_),(8,_),(9,_),(10,_),(11,_),(23,_),(24,_)] [blk i10 _ _,blk i9 _ _,blk i8 _ _,blk i4 _ _] (fun yc:O24×(List En)×SlA=>(yc.2.1.length:Int)<op.limit∧yc.1.check.length≤m+1) (fun yc=>[]) (fun yc=>[blk i6 269 [Is (.int .i64 yc.1.code),Is (.bool yc.1.found),Is (.bool yc.1.done),Is (.bool yc.1.split),Is (.bool yc.1.unposted),Is (.bool yc.1.dead),Is (.bool false),Is (.int .i64 yc.1.to.line),Is (.int .i64 yc.1.to.gen),Is (slV (yc.2.1).length yc.2.2),IsSl tI64 yc.1.check,Is (.int .i64 yc.1.hops),Is (.int .i64 yc.1.fresh),Is (.int .i64 yc.1.height)],buf (slV (yc.2.1).length yc.2.2) 277 tEn (yc.2.1)]) qaj qab ?_ ?_
 rotate_left
 focus
  refine cN ?_ ?_ <;> intro h3
  ·refine t4 ?_
   refine kRF call33 (qcc _) ?_
   refine t2 ?_
   refine cN ?_ ?_ <;> intro h4
   ·refine t11 ?_
    refine kXF call194 (qa1 c.w.heap.size (⟨_,_,_,_,_,_,_,(⟨_,_⟩:Pt),_,_,_,_,_⟩:O24) _) ?_
    refine t9 ?_
    exact rXF (⟨_,_,(⟨_,_,_,_,_,_,_,(⟨_,_⟩:Pt),_,_,_,_,_⟩:O24),_⟩:S24) results200 (hp:=by exact ⟨wl0,by exact Nat.zero_le _,Nat.zero_le _⟩)
   refine t8 ?_
   refine qap rfl (by ((refine qad call66 (qiz _ _ ?_) ⟨qaq,⟨qaq,trivial⟩⟩);all_goals (first|first|assumption|omega|(simp;omega)))) ?_
   refine t6 ?_
   have hq8:(qee o1.check pg.l).length≤m+1:=Nat.le_trans (qhe _ _) (by omega)
   refine t5 ?_
   refine qav [(3,_),(4,_),(6,_),(8,_),(9,_),(10,_),(11,_),(23,_),(24,_),(26,_),(38,_),(39,_),(40,_),(41,_),(42,_),(43,_)] [blk i10 _ _,blk i9 _ _,blk i8 _ _,blk i4 _ _] (fun ya:Nat×(List En)×Bool×(Option Addr×Nat)=>ya.1≤(n.entries).length∧((ya.2.1.length:Int)≤op.limit∧(ya.2.2.1=false→(ya.2.1.length:Int)<op.limit))) (fun ya=>[(12,Is (.int .i64 (ya.1:Nat)))]) (fun ya=>[blk i6 269 [Is (.int .i64 o1.code),Is (.bool o1.found),Is (.bool o1.done),Is (.bool o1.split),Is (.bool o1.unposted),Is (.bool o1.dead),Is (.bool ya.2.2.1),Is (.int .i64 o1.to.line),Is (.int .i64 o1.to.gen),Is (slV (ya.2.1).length ya.2.2.2),IsSl tI64 (qee o1.check pg.l),Is (.int .i64 o1.hops),Is (.int .i64 o1.fresh),Is (.int .i64 o1.height)],buf (slV (ya.2.1).length ya.2.2.2) 277 tEn (ya.2.1)]) (fun ya=>(n.entries).length-ya.1) (0,es,false,v_0) ?_ qaj qab ?_
   ·exact ⟨by exact Nat.zero_le _,⟨by dsimp only;omega,fun _=>hi2⟩⟩
   rintro ⟨ka,es2,mr,va_0⟩ ⟨hka,hIa⟩
   dsimp only at hka hIa ⊢
   refine t15 ?_
   refine cN ?_ ?_ <;> intro h8
   ·rw [Bool.and_eq_true] at h8
    have hlta:ka<n.entries.length:=by have:=of_decide_eq_true h8.1;omega
    have hmr:mr=false:=by simpa using h8.2
    have hl2:=hIa.2 hmr
    obtain ⟨za,hza⟩:∃ q,n.entries[ka]?=some q:=⟨_,List.getElem?_eq_getElem hlta⟩
    have hnew:((es2++[za]).length:Int)≤op.limit∧((((es2++[za]).length:Int)==op.limit)=false→((es2++[za]).length:Int)<op.limit):=by
     rw [List.length_append,List.length_singleton]
     exact ⟨by omega, fun h => by have : ¬ ((es2.length + 1 : Nat) : Int) = op.limit := by simpa using h
                                  omega⟩
    clear h8
    refine t5 ?_
    refine qaz rfl (by kernel_rfl) ?_
    refine qaf 20 (by kernel_rfl) ?_
    refine t3 ?_
    refine qbh (by exact qam (j:=_) (er rfl) (er rfl) rfl rfl rf hza) ?_
    refine t9 ?_
    (refine qd2 rfl rfl (fun hg=>(by have hg0:=hg;(try simp at hg);exact qam (j:=_) evG evG rfl rfl rf hza)) ?_)
    refine t6 ?_
    refine ⟨rfl,?_⟩
    refine qar ?_
    refine s1 ?_
    refine cN ?_ ?_ <;> intro h10
    ·refine s1 ?_
     refine qaz rfl (by kernel_rfl) ?_
     refine qaf 8 (by kernel_rfl) ?_
     refine t5 ?_
     refine qbh (by exact qam (j:=_) (er rfl) (er rfl) rfl rfl rf hza) ?_
     refine s1 ?_
     refine qbh (OpP.to (qac (size:=3) (qs:=[(0,_)]) rfl rfl rfl ⟨⟨rfl,_,(er rfl),qag⟩,trivial⟩ rf rf) (SubL.row1 (T:=tEn) (x:=(⟨_,(⟨_,_⟩:Pt)⟩:En)) rf rf rf qak)) ?_
     refine ⟨rfl,?_⟩
     (refine JD_s (by kernel_rfl) rfl rfl (qb6 (er rfl) (fun _=>qae) (by exact er rfl) (by exact qej rfl rfl rfl) qb8) ?_;intro i84)
     refine qaf 1 (by kernel_rfl) ?_
     refine s1 ?_
     refine ⟨rfl,?_⟩
     refine qeb (by kernel_rfl) rfl (qas (er rfl) (er rfl) qag qae qbm rf rf rf) ?_
     refine qar ?_
     refine t18 ?_
     refine qaa (ka+1,_,_,_) ?_ ?_ qaj qab
     ·exact ⟨by omega,by exact hnew⟩
     ·exact (by omega)
    refine t8 ?_
    refine qaa (ka+1,_,_,_) ?_ ?_ qaj qab
    ·exact ⟨by omega,by exact hIa⟩
    ·exact (by omega)
   skip
   refine t18 ?_
   refine cN ?_ ?_ <;> intro h13
   ·skip
    refine t12 ?_
    refine qgl hX (v:=slV es2.length va_0) qae ?_
    exact rXF (⟨_,_,(⟨_,_,_,_,_,_,_,(⟨_,_⟩:Pt),_,_,_,_,_⟩:O24),_⟩:S24) results200 (hp:=⟨wl0,Nat.zero_le _,Nat.le_trans hq8 (by omega)⟩)
   rw [Bool.or_eq_false_iff] at h13
   obtain ⟨h13a,h13b⟩:=h13
   subst h13a
   have hq9:=hIa.2 rfl
   refine s1 ?_
   exact qai ({ o1 with check:=qee o1.check pg.l,more:=false },es2,va_0) ⟨hq9,hq8⟩ qaj qab
  refine t4 ?_
  exact qai ({ o1 with dead:=true,more:=false },es,v_0) ⟨hi2,by dsimp only;omega⟩ qaj qab
 rintro ⟨o3,es3,v3⟩ hI
 dsimp only at hI ⊢
 obtain ⟨hq1,hq2⟩:=hI
 refine t12 ?_
 intro i13
 refine t37 ?_
 (refine qcp rfl rfl rfl (fun hg=>(by have hg0:=hg;(try simp at hg);exact qdt evG evG)) ?_)
 refine t3 ?_
 refine cN ?_ ?_ <;> intro h20
 ·refine t3 ?_
  refine kXF call194 (qa1 c.w.heap.size (⟨_,_,_,_,_,_,_,(⟨_,_⟩:Pt),_,_,_,_,_⟩:O24) _) ?_
  refine t8 ?_
  exact rXF (⟨_,_,(⟨_,_,_,_,_,_,_,(⟨_,_⟩:Pt),_,_,_,_,_⟩:O24),_⟩:S24) results200 (hp:=by exact ⟨wl0,by exact Nat.zero_le _,Nat.zero_le _⟩)
 rw [Bool.or_eq_false_iff] at h20
 have hm9:¬ ((m:Int)+1>256):=of_decide_eq_false h20.1
 refine t7 ?_
 refine kRF call167 (qh3 _ _ _ _) ?_
 refine t5 ?_
 intro i14
 refine t12 ?_
 refine cN ?_ ?_ <;> intro h23
 ·refine t4 ?_
  refine kXF call194 (qa1 c.w.heap.size (⟨_,_,_,_,_,_,_,(⟨_,_⟩:Pt),_,_,_,_,_⟩:O24) _) ?_
  refine t8 ?_
  exact rXF (⟨_,_,(⟨_,_,_,_,_,_,_,(⟨_,_⟩:Pt),_,_,_,_,_⟩:O24),_⟩:S24) results200 (hp:=by exact ⟨wl0,by exact Nat.zero_le _,Nat.zero_le _⟩)
 refine t9 ?_
 refine cN ?_ ?_ <;> intro h25
 ·refine t5 ?_
  refine qap rfl (OpP.to (qac (size:=1) (qs:=[(0,_)]) rfl rfl rfl ⟨⟨rfl,_,(er rfl),qag⟩,trivial⟩ rf rf) (SubL.row1 (T:=tI64) (x:=_) rf rf rf qak)) ?_
  refine t9 ?_
  exact rXF (⟨_,_,(⟨_,_,_,_,_,_,_,(⟨_,_⟩:Pt),_,_,_,_,_⟩:O24),_⟩:S24) results200 (hp:=by exact ⟨wl0,by exact Nat.le_refl 1,Nat.zero_le _⟩)
 refine t5 ?_
 refine kRF call192 (qjw _) ?_
 (refine qa5 156 rfl ?_;intro x156 hx156)
 refine t4 ?_
 intro i17
 refine t16 ?_
 refine cN ?_ ?_ <;> intro h28
 ·refine t3 ?_
  refine kXF call194 (qa1 c.w.heap.size (⟨_,_,_,_,_,_,_,(⟨_,_⟩:Pt),_,_,_,_,_⟩:O24) _) ?_
  refine t8 ?_
  exact rXF (⟨_,_,(⟨_,_,_,_,_,_,_,(⟨_,_⟩:Pt),_,_,_,_,_⟩:O24),_⟩:S24) results200 (hp:=by exact ⟨wl0,by exact Nat.zero_le _,Nat.zero_le _⟩)
 have hn2:qid x156.1:=hx156
 refine qd8 (b:=i14) hX qae ?_
 refine qb0 14 (qc4 (tPg.cells (lkV ks n.right 4 false).1)) rfl qgw ?_
 refine qd8 (b:=i17) hX qae ?_
 refine qb0 17 (qc4 (tN24.cells x156.1)) rfl qgw ?_
 refine t2 ?_
 refine qaz rfl (by kernel_rfl) ?_
 refine qdm [0,0,2,2] (by kernel_rfl) (by kernel_rfl) ?_
 refine qc7 (by exact qb2 (n:=9) (er rfl) rfl rfl rfl rf qbm) ?_
 refine qc7 (by exact qb2 (n:=7) (er rfl) rfl rfl rfl rf qbm) ?_
 refine qlb (qas (er rfl) (er rfl) qag qae qbm rf rf rf) ?_
 refine qlb (qas (er rfl) (er rfl) qag qae qbm rf rf rf) ?_
 refine qfl ?_
 refine qar ?_
 refine s1 ?_
 refine qao (b:=i9) (As':=tPg.cells (⟨_,_,_,_,_,_,_,_,_⟩:Pg)) qae qbf ?_
 refine qao (b:=i10) (As':=tN24.cells (⟨_,_,_,_,(⟨_,_⟩:Pt),_⟩:N24)) qae qbf ?_
 refine qaa (_,_,{ o3 with hops:=IntKind.i64.wrap (o3.hops+1) },es3,m+1,v3) ?_ ?_ qaj qab
 ·exact ⟨hn2,hq1,by dsimp only;omega,by dsimp only;omega⟩
 ·(dsimp only;omega)
theorem zb6 (op:Op24) (ks:List Pg) (h0:0≤op.level) (h7:op.level≤7):FnF Tryz.prog 195 [qm9 op,IsSl tPg ks] (fun B=>qes qzj fun r=>qjy B r):=by
 refine FnF.enter func195 ntmps195 rfl rfl ?_
 intro c hX
 refine t3 ?_
 intro i2
 refine s1 ?_
 intro i4
 refine t10 ?_
 refine qap rfl (by ((refine qad call164 (qii _ _ _ ?_) ⟨qaq,⟨qaq,⟨qaq,trivial⟩⟩⟩);all_goals (omega))) ?_
 (refine qa5 21 rfl ?_;intro x21 hx21)
 refine s1 ?_
 intro i5
 refine t5 ?_
 obtain ⟨hd1,hd2,hd3,hdp⟩:=hx21
 refine t7 ?_
 refine cN ?_ ?_ <;> intro h2
 ·refine t10 ?_
  exact rXF (⟨_,_,(⟨_,_,_,_,_,_,_,(⟨_,_⟩:Pt),_,_,_,_,_⟩:O24),_⟩:S24) results195 (hp:=by exact ⟨wl0,by exact hd1,by exact Nat.zero_le _⟩)
 refine t13 ?_
 refine cN ?_ ?_ <;> intro h4
 ·refine t3 ?_
  refine kXF call194 (qa1 c.w.heap.size (⟨_,_,_,_,_,_,_,(⟨_,_⟩:Pt),_,_,_,_,_⟩:O24) _) ?_
  refine t5 ?_
  exact rXF (⟨_,_,(⟨_,_,_,_,_,_,_,(⟨_,_⟩:Pt),_,_,_,_,_⟩:O24),_⟩:S24) results195 (hp:=by exact ⟨wl0,by exact Nat.zero_le _,by exact Nat.zero_le _⟩)
 refine t6 ?_
 intro i6
 refine t7 ?_
 refine kXF call198 (qlx (⟨_,_,_,_,(⟨_,_,_,_,_,_,_,_,_⟩:Pg),(⟨_,_,_,_,(⟨_,_⟩:Pt),_⟩:N24),(⟨_,_,_,_,(⟨_,_⟩:Pt),_⟩:N24),_,_,_⟩:P24)) ?_
 (refine qgm 39 rfl ?_;intro x39)
 refine t2 ?_
 refine qb1 [(1,_),(2,_),(4,_),(5,_),(6,_)] [blk i5 _ _,blk i4 _ _,blk i2 _ _] (fun yc:O24=>yc.check=[]) (fun yc=>[]) (fun yc=>[blk i6 269 (tO24.cells yc)]) qaj qab ?_ ?_
 rotate_left
 focus
  refine cN ?_ ?_ <;> intro h7
  ·refine t3 ?_
   refine kXF call199 (qze (⟨_,_,_,_,_,_,_,(⟨_,_⟩:Pt),_,_,_,_,_⟩:O24) (⟨_,_,_,_,(⟨_,_,_,_,_,_,_,_,_⟩:Pg),(⟨_,_,_,_,(⟨_,_⟩:Pt),_⟩:N24),(⟨_,_,_,_,(⟨_,_⟩:Pt),_⟩:N24),_,_,_⟩:P24)) ?_
   (refine qa5 42 rfl ?_;intro x42 hx42)
   refine t2 ?_
   refine qao (b:=i6) (As':=tO24.cells (⟨_,_,_,_,_,_,_,(⟨_,_⟩:Pt),_,_,_,_,_⟩:O24)) qae qbf ?_
   refine qai (⟨_,_,_,_,_,_,_,(⟨_,_⟩:Pt),_,_,_,_,_⟩:O24) ?_ qaj qab
   ·exact (by exact hx42.1)
  refine s1 ?_
  refine qao (b:=i6) (As':=tO24.cells (⟨_,_,_,_,_,_,_,(⟨_,_⟩:Pt),_,_,_,_,_⟩:O24)) qae qbf ?_
  refine qai (⟨_,_,_,_,_,_,_,(⟨_,_⟩:Pt),_,_,_,_,_⟩:O24) ?_ qaj qab
  ·exact rf
 rintro o hI
 refine t8 ?_
 refine cN ?_ ?_ <;> intro h9
 ·refine t5 ?_
  refine kXF call194 (qa1 c.w.heap.size (⟨_,_,_,_,_,_,_,(⟨_,_⟩:Pt),_,_,_,_,_⟩:O24) _) ?_
  refine t5 ?_
  exact rXF (⟨_,_,(⟨_,_,_,_,_,_,_,(⟨_,_⟩:Pt),_,_,_,_,_⟩:O24),_⟩:S24) results195 (hp:=by exact ⟨wl0,by exact Nat.zero_le _,by (rw [hI];exact Nat.zero_le _)⟩)
 have hnn:x21.need=[]:=List.eq_nil_of_length_eq_zero (by have:=of_decide_eq_false h2;omega)
 rw [Bool.or_eq_false_iff] at h4
 have hds:=hd3 hnn h4.1 h4.2 (by simpa using h9)
 obtain ⟨hq1,hq2,hq3⟩:=hd2
 obtain ⟨e,he1,he2⟩:=hq3 (by omega)
 refine t9 ?_
 refine qap rfl (by ((refine qad call203 (qq3 _ _ ?_) ⟨qaq,⟨qaq,trivial⟩⟩);all_goals (omega))) ?_
 (refine qa5 56 rfl ?_;intro x56 hx56)
 refine t8 ?_
 obtain ⟨hi1,hi2,hi3⟩:=hx56
 have hlt:=hi3 e he1 (by omega)
 have hz:x21.node.entries[x56.1]?=some _:=List.getElem?_eq_getElem hlt
 have hlp:x56.1-1<x21.node.entries.length:=Nat.lt_of_le_of_lt (Nat.sub_le _ _) hlt
 have hzp:x21.node.entries[x56.1-1]?=some _:=List.getElem?_eq_getElem hlp
 refine t8 ?_
 intro i9
 refine t10 ?_
 refine kXF call237 (qn9 _ (⟨_,_⟩:Pt) _) ?_
 (refine qa5 71 rfl ?_;intro x71 hx71)
 refine t6 ?_
 intro i10
 refine s1 ?_
 intro i11
 refine t8 ?_
 obtain ⟨hk1,hk2,hkp⟩:=hx71
 refine t6 ?_
 refine cN ?_ ?_ <;> intro h14
 ·refine t9 ?_
  exact rXF (⟨_,_,(⟨_,_,_,_,_,_,_,(⟨_,_⟩:Pt),_,_,_,_,_⟩:O24),_⟩:S24) results195 (hp:=by exact ⟨wl0,by exact hk1,by exact Nat.zero_le _⟩)
 refine t9 ?_
 refine cN ?_ ?_ <;> intro h16
 ·refine t4 ?_
  refine kXF call194 (qa1 c.w.heap.size (⟨_,_,_,_,_,_,_,(⟨_,_⟩:Pt),_,_,_,_,_⟩:O24) _) ?_
  refine t5 ?_
  exact rXF (⟨_,_,(⟨_,_,_,_,_,_,_,(⟨_,_⟩:Pt),_,_,_,_,_⟩:O24),_⟩:S24) results195 (hp:=by exact ⟨wl0,by exact Nat.zero_le _,by (rw [hI];exact Nat.zero_le _)⟩)
 refine t9 ?_
 refine cN ?_ ?_ <;> intro h18
 ·refine t3 ?_
  refine kXF call194 (qa1 c.w.heap.size (⟨_,_,_,_,_,_,_,(⟨_,_⟩:Pt),_,_,_,_,_⟩:O24) _) ?_
  refine t5 ?_
  exact rXF (⟨_,_,(⟨_,_,_,_,_,_,_,(⟨_,_⟩:Pt),_,_,_,_,_⟩:O24),_⟩:S24) results195 (hp:=by exact ⟨wl0,by exact Nat.zero_le _,by (rw [hI];exact Nat.zero_le _)⟩)
 refine t12 ?_
 refine cN ?_ ?_ <;> intro h20
 ·refine t15 ?_
  exact rXF (⟨_,_,(⟨_,_,_,_,_,_,_,(⟨_,_⟩:Pt),_,_,_,_,_⟩:O24),_⟩:S24) results195 (hp:=by exact ⟨wl0,by exact Nat.zero_le _,by (rw [hI];exact Nat.zero_le _)⟩)
 refine t4 ?_
 refine qaz rfl (by kernel_rfl) ?_
 refine qaf 15 (by kernel_rfl) ?_
 refine t8 ?_
 (refine qd2 rfl rfl (fun hg=>(by have hg0:=hg;(try simp at hg);exact qam (j:=x56.1-1) evG evG rfl rfl (by omega) hzp)) ?_)
 refine t6 ?_
 refine ⟨rfl,?_⟩
 refine qar ?_
 refine s1 ?_
 refine cN ?_ ?_ <;> intro h23
 ·refine t3 ?_
  refine kXF call194 (qa1 c.w.heap.size (⟨_,_,_,_,_,_,_,(⟨_,_⟩:Pt),_,_,_,_,_⟩:O24) _) ?_
  refine t5 ?_
  exact rXF (⟨_,_,(⟨_,_,_,_,_,_,_,(⟨_,_⟩:Pt),_,_,_,_,_⟩:O24),_⟩:S24) results195 (hp:=by exact ⟨wl0,by exact Nat.zero_le _,by (rw [hI];exact Nat.zero_le _)⟩)
 refine t4 ?_
 (refine qwx rfl (qb3 tEn rfl rfl) ?_;intro i115)
 refine t4 ?_
 refine qap rfl (qcx (er rfl) rfl rfl rfl ⟨_,_,(er rfl),rf⟩ (by omega) (by omega)) ?_
 (refine qew rfl (qb6 (er rfl) (fun _=>qae) qaq (by exact qej rfl rfl rfl) qb8) ?_;intro i121)
 refine t16 ?_
 refine qap rfl (OpP.to (qac (size:=3) (qs:=[(0,_),(1,_)]) rfl rfl rfl ⟨⟨rfl,_,(er rfl),qag⟩,⟨⟨rfl,_,(er rfl),qag⟩,trivial⟩⟩ rf rf) (SubL.row2 (T:=tEn) (x:=(⟨x71.2.1.high,⟨_,_⟩⟩:En)) (y:=(⟨_,x71.2.1.right⟩:En)) rf rf rf rf qak qak)) ?_
 (refine qew rfl (qb6 (er rfl) (fun _=>qae) qaq (by exact qej rfl rfl rfl) qb8) ?_;intro i134)
 refine t11 ?_
 refine qap rfl (qcx (er rfl) rfl rfl ⟨_,_,(er rfl),(show _=((x56.1+1:Nat):Int) by rfl)⟩ rfl (by omega) (by omega)) ?_
 (refine qew rfl (qb6 (er rfl) (fun _=>qae) qaq (by exact qej rfl rfl rfl) qb8) ?_;intro i142)
 refine t4 ?_
 refine qa7 hX (v:=slV _ i142) qae ?_
 refine t3 ?_
 refine qap rfl (OpP.to (qac (size:=1) (qs:=[(0,_)]) rfl rfl rfl ⟨⟨rfl,_,(er rfl),qag⟩,trivial⟩ rf rf) (SubL.row1 (T:=tI64) (x:=_) rf rf rf qak)) ?_
 refine t16 ?_
 refine qap rfl (by ((refine qaw call205 (qpl (⟨_,_,_,_,_,_,_,_,_⟩:Pg) (⟨_,_,_,_,(⟨_,_⟩:Pt),_⟩:N24) _ _ _ (⟨_,_,_,_,_,_,_,(⟨_,_⟩:Pt),_,_,_,_,_⟩:O24) ?_ ?_ ?_) ⟨qbc,⟨qbc,⟨qbc,⟨qbc,⟨qbc,⟨qbc,trivial⟩⟩⟩⟩⟩⟩);all_goals (first|simp;omega|exact Nat.le_refl 1|assumption))) ?_
 (refine qa5 157 rfl ?_;intro x157 hx157)
 refine t4 ?_
 exact rXF (⟨_,_,(⟨_,_,_,_,_,_,_,(⟨_,_⟩:Pt),_,_,_,_,_⟩:O24),_⟩:S24) results195 (hp:=by exact hx157)
theorem raise_ok (op:Op24) (ks:List Pg):FnF Tryz.prog 196 [qm9 op,IsSl tPg ks] (fun B=>qes qzj fun r=>qjy B r):=by
 refine FnF.enter func196 ntmps196 rfl rfl ?_
 intro c hX
 refine t3 ?_
 intro i2
 refine s1 ?_
 intro i4
 refine t5 ?_
 refine kRF call32 (qby _ _) ?_
 refine t4 ?_
 intro i5
 refine t11 ?_
 refine cN ?_ ?_ <;> intro h2
 ·refine t2 ?_
  refine qap rfl (OpP.to (qac (size:=1) (qs:=[(0,_)]) rfl rfl rfl ⟨⟨rfl,_,(er rfl),qag⟩,trivial⟩ rf rf) (SubL.row1 (T:=tI64) (x:=_) rf rf rf qak)) ?_
  refine t6 ?_
  exact rXF (⟨_,_,(⟨_,_,_,_,_,_,_,(⟨_,_⟩:Pt),_,_,_,_,_⟩:O24),_⟩:S24) results196 (hp:=by exact ⟨wl0,by exact Nat.le_refl 1,Nat.zero_le _⟩)
 refine t6 ?_
 refine kRF call33 (qcc _) ?_
 refine t2 ?_
 refine cN ?_ ?_ <;> intro h4
 ·refine t3 ?_
  refine kXF call194 (qa1 c.w.heap.size (⟨_,_,_,_,_,_,_,(⟨_,_⟩:Pt),_,_,_,_,_⟩:O24) _) ?_
  refine t5 ?_
  exact rXF (⟨_,_,(⟨_,_,_,_,_,_,_,(⟨_,_⟩:Pt),_,_,_,_,_⟩:O24),_⟩:S24) results196 (hp:=by exact ⟨wl0,by exact Nat.zero_le _,Nat.zero_le _⟩)
 refine t5 ?_
 refine kRF call191 (ql4 _) ?_
 (refine qgm 36 rfl ?_;intro x36)
 refine t5 ?_
 intro i7
 refine t12 ?_
 refine cN ?_ ?_ <;> intro h7
 ·refine t3 ?_
  refine kXF call194 (qa1 c.w.heap.size (⟨_,_,_,_,_,_,_,(⟨_,_⟩:Pt),_,_,_,_,_⟩:O24) _) ?_
  refine t5 ?_
  exact rXF (⟨_,_,(⟨_,_,_,_,_,_,_,(⟨_,_⟩:Pt),_,_,_,_,_⟩:O24),_⟩:S24) results196 (hp:=by exact ⟨wl0,by exact Nat.zero_le _,Nat.zero_le _⟩)
 refine t7 ?_
 refine qap rfl (qdt (er rfl) (er rfl)) ?_
 refine t2 ?_
 refine cN ?_ ?_ <;> intro h9
 ·refine t3 ?_
  refine kXF call194 (qa1 c.w.heap.size (⟨_,_,_,_,_,_,_,(⟨_,_⟩:Pt),_,_,_,_,_⟩:O24) _) ?_
  refine t5 ?_
  exact rXF (⟨_,_,(⟨_,_,_,_,_,_,_,(⟨_,_⟩:Pt),_,_,_,_,_⟩:O24),_⟩:S24) results196 (hp:=by exact ⟨wl0,by exact Nat.zero_le _,Nat.zero_le _⟩)
 refine t6 ?_
 refine kXF call237 (qn9 _ (⟨_,_⟩:Pt) _) ?_
 (refine qa5 52 rfl ?_;intro x52 hx52)
 refine t6 ?_
 intro i10
 refine s1 ?_
 intro i11
 refine t8 ?_
 obtain ⟨hk1,hk2,hkp⟩:=hx52
 refine t6 ?_
 refine cN ?_ ?_ <;> intro h12
 ·refine t9 ?_
  exact rXF (⟨_,_,(⟨_,_,_,_,_,_,_,(⟨_,_⟩:Pt),_,_,_,_,_⟩:O24),_⟩:S24) results196 (hp:=by exact ⟨wl0,by exact hk1,Nat.zero_le _⟩)
 refine t9 ?_
 refine cN ?_ ?_ <;> intro h14
 ·refine t4 ?_
  refine kXF call194 (qa1 c.w.heap.size (⟨_,_,_,_,_,_,_,(⟨_,_⟩:Pt),_,_,_,_,_⟩:O24) _) ?_
  refine t5 ?_
  exact rXF (⟨_,_,(⟨_,_,_,_,_,_,_,(⟨_,_⟩:Pt),_,_,_,_,_⟩:O24),_⟩:S24) results196 (hp:=by exact ⟨wl0,by exact Nat.zero_le _,Nat.zero_le _⟩)
 refine t8 ?_
 refine qap rfl (qdt (er rfl) (er rfl)) ?_
 refine t2 ?_
 refine cN ?_ ?_ <;> intro h16
 ·refine t9 ?_
  exact rXF (⟨_,_,(⟨_,_,_,_,_,_,_,(⟨_,_⟩:Pt),_,_,_,_,_⟩:O24),_⟩:S24) results196 (hp:=by exact ⟨wl0,by exact Nat.zero_le _,Nat.zero_le _⟩)
 refine t10 ?_
 refine cN ?_ ?_ <;> intro h18
 ·refine t3 ?_
  refine kXF call194 (qa1 c.w.heap.size (⟨_,_,_,_,_,_,_,(⟨_,_⟩:Pt),_,_,_,_,_⟩:O24) _) ?_
  refine t5 ?_
  exact rXF (⟨_,_,(⟨_,_,_,_,_,_,_,(⟨_,_⟩:Pt),_,_,_,_,_⟩:O24),_⟩:S24) results196 (hp:=by exact ⟨wl0,by exact Nat.zero_le _,Nat.zero_le _⟩)
 refine t6 ?_
 refine qap rfl (OpP.to (qac (size:=1) (qs:=[(0,_)]) rfl rfl rfl ⟨⟨rfl,_,(er rfl),qag⟩,trivial⟩ rf rf) (SubL.row1 (T:=tI64) (x:=_) rf rf rf qak)) ?_
 refine t2 ?_
 refine qap rfl (OpP.to (qac (size:=1) (qs:=[(0,_),(1,_)]) rfl rfl rfl ⟨⟨rfl,_,(er rfl),qag⟩,⟨⟨rfl,_,(er rfl),qag⟩,trivial⟩⟩ rf rf) (SubL.row2 (T:=tI64) (x:=_) (y:=_) rf rf rf rf qak qak)) ?_
 refine qap rfl (by ((refine qad call238 (qqc _ [4] [96,x52.1.l] ?_ ?_) ⟨qaq,⟨qaq,⟨qaq,trivial⟩⟩⟩);all_goals (first|decide|simp))) ?_
 (refine qa5 85 rfl ?_;intro x85 hx85)
 refine t14 ?_
 refine cN ?_ ?_ <;> intro h21
 ·refine t4 ?_
  refine kXF call194 (qa1 c.w.heap.size (⟨_,_,_,_,_,_,_,(⟨_,_⟩:Pt),_,_,_,_,_⟩:O24) _) ?_
  refine t5 ?_
  exact rXF (⟨_,_,(⟨_,_,_,_,_,_,_,(⟨_,_⟩:Pt),_,_,_,_,_⟩:O24),_⟩:S24) results196 (hp:=by exact ⟨wl0,by exact Nat.zero_le _,Nat.zero_le _⟩)
 refine t9 ?_
 refine cN ?_ ?_ <;> intro h23
 ·refine t4 ?_
  refine kXF call194 (qa1 c.w.heap.size (⟨_,_,_,_,_,_,_,(⟨_,_⟩:Pt),_,_,_,_,_⟩:O24) _) ?_
  refine t5 ?_
  exact rXF (⟨_,_,(⟨_,_,_,_,_,_,_,(⟨_,_⟩:Pt),_,_,_,_,_⟩:O24),_⟩:S24) results196 (hp:=by exact ⟨wl0,by exact Nat.zero_le _,Nat.zero_le _⟩)
 obtain ⟨hlu,hlv⟩:=hx85 (by simpa using h23)
 obtain ⟨pa,hza⟩:=qtm hlu
 have hla:Ln pa:=hlv _ (List.mem_of_getElem? hza)
 refine t14 ?_
 refine qap rfl (OpP.to (qac (size:=3) (qs:=[(0,_),(1,_)]) rfl rfl rfl ⟨⟨rfl,_,(er rfl),qag⟩,⟨⟨rfl,_,(er rfl),qag⟩,trivial⟩⟩ rf rf) (SubL.row2 (T:=tEn) (x:=(⟨_,(⟨_,_⟩:Pt)⟩:En)) (y:=(⟨_,(⟨_,_⟩:Pt)⟩:En)) rf rf rf rf qak qak)) ?_
 refine t2 ?_
 intro i16
 refine t4 ?_
 refine qaz rfl (by kernel_rfl) ?_
 refine qaf 11 (by kernel_rfl) ?_
 refine s1 ?_
 refine qbh (by exact qam (j:=0) (er rfl) (er rfl) rfl rfl rf hza) ?_
 refine t2 ?_
 refine qbh (by ((refine qad call204 (qdv _ (⟨_,_,_,_,(⟨_,_⟩:Pt),_⟩:N24) ?_) ⟨qbc,⟨qbc,trivial⟩⟩);all_goals (first|first|assumption|exact qfb _ _ _ _|exact qdl _ ⟨by decide,by decide⟩))) ?_
 refine t3 ?_
 refine qkq (qbl rfl qbm rfl) ?_
 refine qcy rfl rfl rfl (by kernel_rfl) (qca qaq qag rfl rfl rfl qbm) ?_
 refine s1 ?_
 refine ⟨rfl,?_⟩
 intro i17
 refine qar ?_
 refine t2 ?_
 refine qc8 (b:=i17) (fun _=>qae) ?_
 intro p17 hln17
 refine qaz rfl (by kernel_rfl) ?_
 refine qaf 15 (by kernel_rfl) ?_
 refine t2 ?_
 refine qbh (by exact qam (j:=0) (er rfl) (er rfl) rfl rfl rf hza) ?_
 refine s1 ?_
 refine qbh (qad call186 (qhr _) ⟨qaq,trivial⟩) ?_
 refine t3 ?_
 refine qbh (by ((refine qad call239 (qjr _ (⟨_,_⟩:Pt) _ ?_) ⟨qbc,⟨qbc,⟨qbc,trivial⟩⟩⟩);all_goals (exact qdl _ ⟨by decide,by decide⟩))) ?_
 refine t3 ?_
 refine qkq (qbl rfl qbm rfl) ?_
 refine qcy rfl rfl rfl (by kernel_rfl) (qca qaq qag rfl rfl rfl qbm) ?_
 refine s1 ?_
 refine ⟨rfl,?_⟩
 intro i19
 refine qar ?_
 refine t2 ?_
 refine qc8 (b:=i19) (fun _=>qae) ?_
 intro p19 hln19
 refine qaz rfl (by kernel_rfl) ?_
 refine qaf 9 (by kernel_rfl) ?_
 refine t2 ?_
 refine qbh (OpP.fr (qa3 (size:=9) (qs:=[(0,_),(1,_)]) rfl rfl rfl ⟨⟨rfl,_,(er rfl),qag⟩,⟨⟨rfl,_,(er rfl),qag⟩,trivial⟩⟩ rf rf) qcq (SubL.row2 (T:=tPg) (x:=(⟨_,_,_,_,_,_,_,_,_⟩:Pg)) (y:=(⟨_,_,_,_,_,_,_,_,_⟩:Pg)) rf rf rf rf qak qak)) ?_
 refine qbh (by ((refine qaw call72 (qcf _ _ ?_) ⟨qaq,⟨qaq,trivial⟩⟩);all_goals ((simp;done)))) ?_
 refine t2 ?_
 refine qbh (OpP.to (qac (size:=1) (qs:=[(0,_)]) rfl rfl rfl ⟨⟨rfl,_,(er rfl),qag⟩,trivial⟩ rf rf) (SubL.row1 (T:=tI64) (x:=_) rf rf rf qak)) ?_
 refine t2 ?_
 refine ⟨rfl,?_⟩
 refine qeb (by kernel_rfl) rfl (qas (er rfl) (er rfl) qag qae qbm rf rf rf) ?_
 refine qar ?_
 refine t2 ?_
 exact rXF (⟨_,_,(⟨_,_,_,_,_,_,_,(⟨_,_⟩:Pt),_,_,_,_,_⟩:O24),_⟩:S24) results196 (hp:=by exact ⟨qgn (n:=0) wl0 (wl2 (n:=0) (by assumption) (by assumption)) (by decide),Nat.zero_le _,by show 1≤300;omega⟩)
theorem kill_ok (op:Op24) (p:P24) (o:O24) (ks:List Pg) (hp:qid p.node) (ho:o.check=[]) (hpg:Ln p.page):FnF Tryz.prog 201 [qm9 op,quz p,qwz o,IsSl tPg ks] (fun B=>qes qzj fun r=>qjy B r):=by
 refine FnF.enter func201 ntmps201 rfl rfl ?_
 intro c hX
 refine t3 ?_
 intro i4
 refine s1 ?_
 intro i5
 refine s1 ?_
 intro i6
 refine s1 ?_
 intro i8
 refine t7 ?_
 intro i9
 refine t18 ?_
 (refine qcp rfl rfl rfl (fun hg=>(by have hg0:=hg;(try simp at hg);exact qdt evG evG)) ?_)
 refine t3 ?_
 refine cN ?_ ?_ <;> intro h2
 ·refine t15 ?_
  exact rXF (⟨_,_,(⟨_,_,_,_,_,_,_,(⟨_,_⟩:Pt),_,_,_,_,_⟩:O24),_⟩:S24) results201 (hp:=by exact ⟨by exact wl0,by exact Nat.zero_le _,by (rw [ho];exact Nat.zero_le _)⟩)
 refine t7 ?_
 refine qap rfl (by ((refine qad call164 (qii _ 1 _ ?_) ⟨qaq,⟨qaq,⟨qaq,trivial⟩⟩⟩);all_goals (decide))) ?_
 (refine qa5 41 rfl ?_;intro x41 hx41)
 refine s1 ?_
 intro i10
 refine t5 ?_
 obtain ⟨hd1,hd2,hd3,hdp⟩:=hx41
 refine t7 ?_
 refine cN ?_ ?_ <;> intro h6
 ·refine t10 ?_
  exact rXF (⟨_,_,(⟨_,_,_,_,_,_,_,(⟨_,_⟩:Pt),_,_,_,_,_⟩:O24),_⟩:S24) results201 (hp:=by exact ⟨by exact wl0,by exact hd1,by exact Nat.zero_le _⟩)
 refine t6 ?_
 refine kXF call199 (qze (⟨_,_,_,_,_,_,_,(⟨_,_⟩:Pt),_,_,_,_,_⟩:O24) (⟨_,_,_,_,(⟨_,_,_,_,_,_,_,_,_⟩:Pg),(⟨_,_,_,_,(⟨_,_⟩:Pt),_⟩:N24),(⟨_,_,_,_,(⟨_,_⟩:Pt),_⟩:N24),_,_,_⟩:P24)) ?_
 (refine qa5 51 rfl ?_;intro x51 hx51)
 refine t5 ?_
 obtain ⟨ha1,ha2⟩:=hx51
 have hac:x51.check.length≤300:=by rw [ha1,ho];exact Nat.zero_le _
 refine t9 ?_
 refine cN ?_ ?_ <;> intro h9
 ·refine t3 ?_
  refine kXF call194 (qa1 c.w.heap.size (⟨_,_,_,_,_,_,_,(⟨_,_⟩:Pt),_,_,_,_,_⟩:O24) _) ?_
  refine t5 ?_
  exact rXF (⟨_,_,(⟨_,_,_,_,_,_,_,(⟨_,_⟩:Pt),_,_,_,_,_⟩:O24),_⟩:S24) results201 (hp:=by exact ⟨by exact wl0,by exact Nat.zero_le _,by exact hac⟩)
 refine t10 ?_
 refine cN ?_ ?_ <;> intro h11
 ·refine t5 ?_
  refine kXF call194 (qa1 c.w.heap.size (⟨_,_,_,_,_,_,_,(⟨_,_⟩:Pt),_,_,_,_,_⟩:O24) _) ?_
  refine t5 ?_
  exact rXF (⟨_,_,(⟨_,_,_,_,_,_,_,(⟨_,_⟩:Pt),_,_,_,_,_⟩:O24),_⟩:S24) results201 (hp:=by exact ⟨by exact wl0,by exact Nat.zero_le _,by exact hac⟩)
 have hnn:x41.need=[]:=List.eq_nil_of_length_eq_zero (by have:=of_decide_eq_false h6;omega)
 rw [Bool.or_eq_false_iff] at h9
 have hds:=hd3 hnn h9.1 h9.2 (by simpa using h11)
 obtain ⟨hq1,hq2,hq3⟩:=hd2
 obtain ⟨e,he1,he2⟩:=hq3 (by omega)
 refine t9 ?_
 refine qap rfl (by ((refine qad call203 (qq3 _ _ ?_) ⟨qaq,⟨qaq,trivial⟩⟩);all_goals (omega))) ?_
 (refine qa5 73 rfl ?_;intro x73 hx73)
 refine t8 ?_
 obtain ⟨hi1,hi2,hi3⟩:=hx73
 have hlt:=hi3 e he1 (by omega)
 have hz:x41.node.entries[x73.1]?=some _:=List.getElem?_eq_getElem hlt
 refine t8 ?_
 intro i13
 refine t5 ?_
 refine qaz rfl (by kernel_rfl) ?_
 refine qaf 13 (by kernel_rfl) ?_
 refine t4 ?_
 refine qbh (qad call186 (qhr _) ⟨qaq,trivial⟩) ?_
 refine qbh (qgx (er rfl) (er rfl)) ?_
 refine t7 ?_
 refine ⟨rfl,?_⟩
 refine qar ?_
 refine s1 ?_
 refine cN ?_ ?_ <;> intro h15
 ·refine t3 ?_
  refine kXF call194 (qa1 c.w.heap.size (⟨_,_,_,_,_,_,_,(⟨_,_⟩:Pt),_,_,_,_,_⟩:O24) _) ?_
  refine t5 ?_
  exact rXF (⟨_,_,(⟨_,_,_,_,_,_,_,(⟨_,_⟩:Pt),_,_,_,_,_⟩:O24),_⟩:S24) results201 (hp:=by exact ⟨by exact wl0,by exact Nat.zero_le _,by exact hac⟩)
 refine t14 ?_
 refine cN ?_ ?_ <;> intro h17
 ·refine t15 ?_
  exact rXF (⟨_,_,(⟨_,_,_,_,_,_,_,(⟨_,_⟩:Pt),_,_,_,_,_⟩:O24),_⟩:S24) results201 (hp:=by exact ⟨by exact wl0,by exact Nat.zero_le _,by exact hac⟩)
 refine t13 ?_
 intro i14
 refine t4 ?_
 refine qaz rfl (by kernel_rfl) ?_
 refine qaf 13 (by kernel_rfl) ?_
 refine qkq (qb3 tEn rfl rfl) ?_
 refine t3 ?_
 refine qbh (qcx (er rfl) rfl rfl rfl ⟨_,_,(er rfl),rf⟩ (by omega) (by omega)) ?_
 refine qd7 rfl rfl rfl rf (by kernel_rfl) (qd4 qaq (by exact qej rfl rfl rfl) qb8) ?_
 refine t4 ?_
 refine qbh (qcx (er rfl) rfl rfl ⟨_,_,(er rfl),(show _=((x73.1+1:Nat):Int) by rfl)⟩ rfl (by omega) (by omega)) ?_
 refine qd7 rfl rfl rfl rf (by kernel_rfl) (qd4 qaq (by exact qej rfl rfl rfl) qb8) ?_
 refine s1 ?_
 refine ⟨rfl,?_⟩
 intro i121
 refine qeb (by kernel_rfl) rfl (qas (er rfl) (er rfl) qag qae qbm rf rf rf) ?_
 refine qar ?_
 refine t2 ?_
 refine qa7 hX (v:=slV _ i121) qae ?_
 refine t4 ?_
 refine qap rfl (by ((refine qad call204 (qdv _ (⟨_,_,_,_,(⟨_,_⟩:Pt),_⟩:N24) ?_) ⟨qbc,⟨qbc,trivial⟩⟩);all_goals (first|first|assumption|exact qfb _ _ _ _|exact qdl _ ⟨by decide,by decide⟩))) ?_
 refine t4 ?_
 intro i15
 refine t5 ?_
 refine qc8 (b:=i15) (fun _=>qae) ?_
 intro p15 hln15
 refine t4 ?_
 refine qap rfl (by ((refine qad call204 (qdv _ (⟨_,_,_,_,(⟨_,_⟩:Pt),_⟩:N24) ?_) ⟨qbc,⟨qbc,trivial⟩⟩);all_goals (first|first|assumption|exact qfb _ _ _ _|exact qdl _ ⟨by decide,by decide⟩))) ?_
 refine t4 ?_
 intro i17
 refine t5 ?_
 refine qc8 (b:=i17) (fun _=>qae) ?_
 intro p17 hln17
 refine t6 ?_
 refine qaz rfl (by kernel_rfl) ?_
 refine qaf 6 (by kernel_rfl) ?_
 refine t2 ?_
 refine qbh (OpP.fr (qa3 (size:=9) (qs:=[(0,_),(1,_)]) rfl rfl rfl ⟨⟨rfl,_,(er rfl),qag⟩,⟨⟨rfl,_,(er rfl),qag⟩,trivial⟩⟩ rf rf) qcq (SubL.row2 (T:=tPg) (x:=(⟨_,_,_,_,_,_,_,_,_⟩:Pg)) (y:=(⟨_,_,_,_,_,_,_,_,_⟩:Pg)) rf rf rf rf qak qak)) ?_
 refine qbh (by ((refine qaw call72 (qcf _ _ ?_) ⟨qaq,⟨qaq,trivial⟩⟩);all_goals ((simp;done)))) ?_
 refine t2 ?_
 refine ⟨rfl,?_⟩
 refine qeb (by kernel_rfl) rfl (qas (er rfl) (er rfl) qag qae qbm rf rf rf) ?_
 refine qar ?_
 refine t2 ?_
 exact rXF (⟨_,_,(⟨_,_,_,_,_,_,_,(⟨_,_⟩:Pt),_,_,_,_,_⟩:O24),_⟩:S24) results201 (hp:=by exact ⟨by exact qgn (n:=0) wl0 (wl2 (n:=0) (by assumption) (by assumption)) (by decide),by exact Nat.zero_le _,by exact hac⟩)
@[reducible] def zfg (B:Nat) (r:S24×Int):VP:=IsAgg [IsSl tI64 r.1.need,qbd B (IsSl tPg r.1.writes),Is (.int .i64 r.1.out.code),Is (.bool r.1.out.found),Is (.bool r.1.out.done),Is (.bool r.1.out.split),Is (.bool r.1.out.unposted),Is (.bool r.1.out.dead),Is (.bool r.1.out.more),Is (.int .i64 r.1.out.to.line),Is (.int .i64 r.1.out.to.gen),IsSl tEn r.1.out.entries,qds r.1.out.done (qeu 1 1 [Is (.int .i64 r.2)]) (IsSl tI64 r.1.out.check),Is (.int .i64 r.1.out.hops),Is (.int .i64 r.1.out.fresh),Is (.int .i64 r.1.out.height),Is (.bool r.1.over)]
theorem u_sub (B:Nat):Sub (qes (fun r:S24×Int=>qzj r.1) (zfg B)) (qes qzj fun r=>qjy B r):=fun φ v ⟨r,hp,vs,e,k,o⟩=>by
 refine ⟨{ r.1 with out:={ r.1.out with check:=if r.1.out.done then [r.2] else r.1.out.check } },⟨hp.1,hp.2.1,?_⟩,vs,e,?_,o⟩
 ·show (if r.1.out.done then [r.2] else r.1.out.check).length≤300
  split
  ·simp
  ·exact hp.2.2
 ·refine Subs.alls ?_ k
  cases hd:r.1.out.done
  ·exact ⟨Sub.rfl',Sub.rfl',Sub.rfl',Sub.rfl',by rw [hd];exact Sub.rfl',Sub.rfl',Sub.rfl',Sub.rfl',Sub.rfl',Sub.rfl',Sub.rfl',Sub.rfl',fun φ v h=>h,Sub.rfl',Sub.rfl',Sub.rfl',Sub.rfl',trivial⟩
  ·exact ⟨Sub.rfl',Sub.rfl',Sub.rfl',Sub.rfl',by rw [hd];exact Sub.rfl',Sub.rfl',Sub.rfl',Sub.rfl',Sub.rfl',Sub.rfl',Sub.rfl',Sub.rfl',fun φ v h=>SubL.row (L:=[]) (T:=tI64) (xs:=[r.2]) (As:=[Is (.int .i64 r.2)]) rfl rfl (show SubLs [] [Is (.int .i64 r.2)] [Is (.int .i64 r.2)] from ⟨SubL.rfl',trivial⟩) φ v (fun _ hi=>absurd hi List.not_mem_nil) h,Sub.rfl',Sub.rfl',Sub.rfl',Sub.rfl',trivial⟩
theorem qpk (p:P24) (o:O24) (ks:List Pg) (hp:qid p.node) (ho:o.check=[]∧o.done=false) (hpg:Ln p.page):FnF Tryz.prog 202 [quz p,qwz o,IsSl tPg ks] (fun B=>qes (fun r:S24×Int=>qzj r.1) (zfg B)):=by
 obtain ⟨ho1,ho2⟩:=ho
 refine FnF.enter func202 ntmps202 rfl rfl ?_
 intro c hX
 refine t3 ?_
 intro i3
 refine s1 ?_
 intro i4
 refine s1 ?_
 intro i6
 refine t7 ?_
 intro i7
 refine t9 ?_
 refine qap rfl (qdt (er rfl) (er rfl)) ?_
 refine t2 ?_
 refine cN ?_ ?_ <;> intro h2
 ·refine t15 ?_
  exact rXF ((⟨_,_,(⟨_,_,_,_,_,_,_,(⟨_,_⟩:Pt),_,_,_,_,_⟩:O24),_⟩:S24),0) results202 (hp:=by exact ⟨wl0,by exact Nat.zero_le _,by (rw [ho1];exact Nat.zero_le _)⟩)
 refine t7 ?_
 refine kXF call237 (qn9 _ (⟨_,_⟩:Pt) _) ?_
 (refine qa5 27 rfl ?_;intro x27 hx27)
 refine t6 ?_
 intro i8
 refine s1 ?_
 intro i9
 refine t8 ?_
 obtain ⟨hk1,hk2,hkp⟩:=hx27
 refine t6 ?_
 refine cN ?_ ?_ <;> intro h6
 ·refine t9 ?_
  exact rXF ((⟨_,_,(⟨_,_,_,_,_,_,_,(⟨_,_⟩:Pt),_,_,_,_,_⟩:O24),_⟩:S24),0) results202 (hp:=by exact ⟨wl0,by exact hk1,by exact Nat.zero_le _⟩)
 refine t9 ?_
 refine cN ?_ ?_ <;> intro h8
 ·refine t4 ?_
  refine kXF call194 (qa1 c.w.heap.size (⟨_,_,_,_,_,_,_,(⟨_,_⟩:Pt),_,_,_,_,_⟩:O24) _) ?_
  refine t5 ?_
  exact rXF ((⟨_,_,(⟨_,_,_,_,_,_,_,(⟨_,_⟩:Pt),_,_,_,_,_⟩:O24),_⟩:S24),0) results202 (hp:=by exact ⟨wl0,by exact Nat.zero_le _,by (rw [ho1];exact Nat.zero_le _)⟩)
 refine t10 ?_
 refine cN ?_ ?_ <;> intro h10
 ·refine t15 ?_
  exact rXF ((⟨_,_,(⟨_,_,_,_,_,_,_,(⟨_,_⟩:Pt),_,_,_,_,_⟩:O24),_⟩:S24),0) results202 (hp:=by exact ⟨wl0,by exact Nat.zero_le _,by (rw [ho1];exact Nat.zero_le _)⟩)
 refine t23 ?_
 refine qap rfl (by ((refine qad call204 (qdv _ (⟨_,_,_,_,(⟨_,_⟩:Pt),_⟩:N24) ?_) ⟨qbc,⟨qbc,trivial⟩⟩);all_goals (first|first|assumption|exact qfb _ _ _ _|exact qdl _ ⟨by decide,by decide⟩))) ?_
 refine t4 ?_
 intro i12
 refine t5 ?_
 refine qc8 (b:=i12) (fun _=>qae) ?_
 intro p12 hln12
 refine t9 ?_
 refine qap rfl (qac (size:=1) (qs:=[(0,_)]) rfl rfl rfl ⟨⟨rfl,_,(er rfl),qag⟩,trivial⟩ rf rf) ?_
 refine t7 ?_
 refine qap rfl (OpP.fr (qa3 (size:=9) (qs:=[(0,_)]) rfl rfl rfl ⟨⟨rfl,_,(er rfl),qag⟩,trivial⟩ rf rf) qcq (SubL.row1 (T:=tPg) (x:=(⟨_,_,_,_,_,_,_,_,_⟩:Pg)) rf rf rf qak)) ?_
 refine t6 ?_
 exact rXF ((⟨_,_,(⟨_,_,_,_,_,_,_,(⟨_,_⟩:Pt),_,[],_,_,_⟩:O24),_⟩:S24),_) results202 (hp:=by exact ⟨wl1 (by assumption),Nat.zero_le _,Nat.zero_le _⟩)
theorem zbc (p:P24) (o:O24) (ks:List Pg) (hp:qid p.node) (ho:o.check=[]∧o.done=false) (hpg:Ln p.page):FnF Tryz.prog 202 [quz p,qwz o,IsSl tPg ks] (fun B=>qes qzj fun r=>qjy B r):=(qpk p o ks hp ho hpg).sub u_sub
theorem qgk (op:Op24) (ks:List Pg):FnF Tryz.prog 166 [qm9 op,IsSl tPg ks] (fun B=>qes qzj fun r=>qjy B r):=by
 refine FnF.enter func166 ntmps166 rfl rfl ?_
 intro c hX
 refine t3 ?_
 intro i2
 refine s1 ?_
 intro i4
 refine t22 ?_
 refine qb1 [(1,_),(2,_),(4,_)] [blk i4 _ _,blk i2 _ _] (fun z:Unit=>op.kind=4→1≤op.limit∧op.limit≤64) (fun z=>[]) (fun z=>[]) qaj qab ?_ ?_
 rotate_left
 focus
  refine t8 ?_
  refine qb1 [(1,_),(2,_),(4,_),(5,_),(24,_)] [blk i4 _ _,blk i2 _ _] (fun yc:Bool=>yc=true→op.kind≠4) (fun yc=>[(27,Is (.bool yc))]) (fun yc=>[]) qaj qab ?_ ?_
  rotate_left
  focus
   refine cN ?_ ?_ <;> intro h4
   ·have hn4:(op.kind==1)=true→op.kind≠4:=fun h9 h8=>by rw [h8] at h9;exact absurd h9 (by decide)
    refine s1 ?_
    refine qai _ ?_ qaj qab
    ·exact (by exact hn4)
   refine t6 ?_
   refine cN ?_ ?_ <;> intro h5
   ·have hn4:(op.kind==3)=true→op.kind≠4:=fun h9 h8=>by rw [h8] at h9;exact absurd h9 (by decide)
    refine s1 ?_
    refine qai _ ?_ qaj qab
    ·exact (by exact hn4)
   refine t6 ?_
   refine cN ?_ ?_ <;> intro h6
   ·have hn4:(op.kind==7)=true→op.kind≠4:=fun h9 h8=>by rw [h8] at h9;exact absurd h9 (by decide)
    refine s1 ?_
    refine qai _ ?_ qaj qab
    ·exact (by exact hn4)
   have hn4:(op.kind==8)=true→op.kind≠4:=fun h9 h8=>by rw [h8] at h9;exact absurd h9 (by decide)
   refine t4 ?_
   refine qai _ ?_ qaj qab
   ·exact (by exact hn4)
  rintro b hI
  refine cN ?_ ?_ <;> intro h4b
  ·have hnk:op.kind=4→1≤op.limit∧op.limit≤64:=fun h=>absurd h (hI h4b)
   refine t6 ?_
   refine cN ?_ ?_ <;> intro h8
   ·refine t3 ?_
    refine kXF call194 (qa1 c.w.heap.size (⟨_,_,_,_,_,_,_,(⟨_,_⟩:Pt),_,_,_,_,_⟩:O24) _) ?_
    refine t6 ?_
    exact rXF (⟨_,_,(⟨_,_,_,_,_,_,_,(⟨_,_⟩:Pt),_,_,_,_,_⟩:O24),_⟩:S24) results166 (hp:=by exact ⟨wl0,by exact Nat.zero_le _,by exact Nat.zero_le _⟩)
   refine t2 ?_
   exact qai () hnk qaj qab
  refine t6 ?_
  refine cN ?_ ?_ <;> intro h10
  ·have hk2:op.kind=2:=by simpa using h10
   have hnk:op.kind=4→1≤op.limit∧op.limit≤64:=fun h=>by omega
   refine t7 ?_
   (refine qcp rfl rfl rfl (fun hg=>(by have hg0:=hg;(try simp at hg);exact qad call65 (qch _) ⟨qaq,trivial⟩)) ?_)
   refine t4 ?_
   refine cN ?_ ?_ <;> intro h11
   ·refine t3 ?_
    refine kXF call194 (qa1 c.w.heap.size (⟨_,_,_,_,_,_,_,(⟨_,_⟩:Pt),_,_,_,_,_⟩:O24) _) ?_
    refine t6 ?_
    exact rXF (⟨_,_,(⟨_,_,_,_,_,_,_,(⟨_,_⟩:Pt),_,_,_,_,_⟩:O24),_⟩:S24) results166 (hp:=by exact ⟨wl0,by exact Nat.zero_le _,by exact Nat.zero_le _⟩)
   refine t2 ?_
   exact qai () hnk qaj qab
  refine t6 ?_
  refine cN ?_ ?_ <;> intro h13
  ·refine t28 ?_
   refine cN ?_ ?_ <;> intro h14
   ·refine t3 ?_
    refine kXF call194 (qa1 c.w.heap.size (⟨_,_,_,_,_,_,_,(⟨_,_⟩:Pt),_,_,_,_,_⟩:O24) _) ?_
    refine t6 ?_
    exact rXF (⟨_,_,(⟨_,_,_,_,_,_,_,(⟨_,_⟩:Pt),_,_,_,_,_⟩:O24),_⟩:S24) results166 (hp:=by exact ⟨wl0,by exact Nat.zero_le _,by exact Nat.zero_le _⟩)
   have hnk:op.kind=4→1≤op.limit∧op.limit≤64:=fun _=>by
    simp only [Bool.or_eq_false_iff,decide_eq_false_iff_not] at h14
    omega
   refine t2 ?_
   exact qai () hnk qaj qab
  refine t6 ?_
  refine cN ?_ ?_ <;> intro h16
  ·refine t18 ?_
   refine cN ?_ ?_ <;> intro h17
   ·refine t3 ?_
    refine kXF call194 (qa1 c.w.heap.size (⟨_,_,_,_,_,_,_,(⟨_,_⟩:Pt),_,_,_,_,_⟩:O24) _) ?_
    refine t7 ?_
    exact rXF (⟨_,_,(⟨_,_,_,_,_,_,_,(⟨_,_⟩:Pt),_,_,_,_,_⟩:O24),_⟩:S24) results166 (hp:=by exact ⟨wl0,by exact Nat.zero_le _,by exact Nat.zero_le _⟩)
   simp only [Bool.or_eq_false_iff,decide_eq_false_iff_not] at h17
   have hl0:0≤op.level:=by omega
   have hl7:op.level≤7:=by omega
   refine t6 ?_
   refine qap rfl (qaw call195 (zb6 op ks hl0 hl7) ⟨qaq,⟨qaq,trivial⟩⟩) ?_
   (refine qa5 95 rfl ?_;intro x95 hx95)
   refine t6 ?_
   exact rXF (⟨_,_,(⟨_,_,_,_,_,_,_,(⟨_,_⟩:Pt),_,_,_,_,_⟩:O24),_⟩:S24) results166 (hp:=by exact hx95)
  refine t6 ?_
  refine cN ?_ ?_ <;> intro h20
  ·refine t4 ?_
   refine qap rfl (qaw call196 (raise_ok op ks) ⟨qaq,⟨qaq,trivial⟩⟩) ?_
   (refine qa5 100 rfl ?_;intro x100 hx100)
   refine t6 ?_
   exact rXF (⟨_,_,(⟨_,_,_,_,_,_,_,(⟨_,_⟩:Pt),_,_,_,_,_⟩:O24),_⟩:S24) results166 (hp:=by exact hx100)
  refine t3 ?_
  refine kXF call194 (qa1 c.w.heap.size (⟨_,_,_,_,_,_,_,(⟨_,_⟩:Pt),_,_,_,_,_⟩:O24) _) ?_
  refine t6 ?_
  exact rXF (⟨_,_,(⟨_,_,_,_,_,_,_,(⟨_,_⟩:Pt),_,_,_,_,_⟩:O24),_⟩:S24) results166 (hp:=by exact ⟨wl0,by exact Nat.zero_le _,by exact Nat.zero_le _⟩)
 rintro _ hnk
 refine t5 ?_
 refine qap rfl (by ((refine qad call164 (qii _ 0 _ ?_) ⟨qaq,⟨qaq,⟨qaq,trivial⟩⟩⟩);all_goals (decide))) ?_
 (refine qa5 104 rfl ?_;intro x104 hx104)
 refine s1 ?_
 intro i6
 refine t5 ?_
 obtain ⟨hd1,hd2,hd3,hdp⟩:=hx104
 obtain ⟨hq1,hq2,hq3⟩:=id hd2
 refine t7 ?_
 refine cN ?_ ?_ <;> intro h23
 ·refine t10 ?_
  exact rXF (⟨_,_,(⟨_,_,_,_,_,_,_,(⟨_,_⟩:Pt),_,_,_,_,_⟩:O24),_⟩:S24) results166 (hp:=by exact ⟨wl0,by exact hd1,by exact Nat.zero_le _⟩)
 refine t9 ?_
 refine cN ?_ ?_ <;> intro h25
 ·refine t4 ?_
  refine qap rfl (qaw call197 (qtp op ks) ⟨qaq,⟨qaq,trivial⟩⟩) ?_
  (refine qa5 116 rfl ?_;intro x116 hx116)
  refine t5 ?_
  exact rXF (⟨_,_,(⟨_,_,_,_,_,_,_,(⟨_,_⟩:Pt),_,_,_,_,_⟩:O24),_⟩:S24) results166 (hp:=by exact hx116.1)
 refine t6 ?_
 intro i7
 refine t7 ?_
 refine kXF call198 (qlx (⟨_,_,_,_,(⟨_,_,_,_,_,_,_,_,_⟩:Pg),(⟨_,_,_,_,(⟨_,_⟩:Pt),_⟩:N24),(⟨_,_,_,_,(⟨_,_⟩:Pt),_⟩:N24),_,_,_⟩:P24)) ?_
 (refine qgm 119 rfl ?_;intro x119)
 refine t2 ?_
 refine qb1 [(1,_),(2,_),(4,_),(6,_),(7,_)] [blk i6 _ _,blk i4 _ _,blk i2 _ _] (fun yc:O24=>yc.check=[]∧yc.more=false∧yc.done=false) (fun yc=>[]) (fun yc=>[blk i7 269 [Is (.int .i64 yc.code),Is (.bool yc.found),Is (.bool yc.done),Is (.bool yc.split),Is (.bool yc.unposted),Is (.bool yc.dead),Is (.bool yc.more),Is (.int .i64 yc.to.line),Is (.int .i64 yc.to.gen),Is (.slice none 0 0),IsSl tI64 yc.check,Is (.int .i64 yc.hops),Is (.int .i64 yc.fresh),Is (.int .i64 yc.height)]]) qaj qab ?_ ?_
 rotate_left
 focus
  refine cN ?_ ?_ <;> intro h28
  ·refine t3 ?_
   refine kXF call199 (zeu (⟨_,_,_,_,_,_,_,(⟨_,_⟩:Pt),[],_,_,_,_⟩:O24) (⟨_,_,_,_,(⟨_,_,_,_,_,_,_,_,_⟩:Pg),(⟨_,_,_,_,(⟨_,_⟩:Pt),_⟩:N24),(⟨_,_,_,_,(⟨_,_⟩:Pt),_⟩:N24),_,_,_⟩:P24)) ?_
   (refine qa5 122 rfl ?_;intro x122 hx122)
   refine t2 ?_
   refine qai (⟨_,_,_,_,_,_,_,(⟨_,_⟩:Pt),[],_,_,_,_⟩:O24) ?_ qaj qab
   ·exact (by exact hx122)
  refine s1 ?_
  refine qao (b:=i7) (As':=[Is (.int .i64 0),Is (.bool false),Is (.bool false),Is (.bool false),Is (.bool false),Is (.bool false),Is (.bool false),Is (.int .i64 0),Is (.int .i64 0),Is (.slice none 0 0),IsSl tI64 [],Is (.int .i64 0),Is (.int .i64 0),Is (.int .i64 0)]) qae qbf ?_
  exact qai (⟨0,false,false,false,false,false,false,⟨0,0⟩,[],[],0,0,0⟩:O24) ⟨rfl,rfl,rfl⟩ qaj qab
 rintro o hI
 refine t8 ?_
 refine cN ?_ ?_ <;> intro h30
 ·obtain ⟨hoc,hom,hod⟩:=id hI
  refine t5 ?_
  refine kXF call194 (qa1 c.w.heap.size (⟨_,_,_,_,_,_,_,(⟨_,_⟩:Pt),_,_,_,_,_⟩:O24) _) ?_
  refine t5 ?_
  exact rXF (⟨_,_,(⟨_,_,_,_,_,_,_,(⟨_,_⟩:Pt),_,_,_,_,_⟩:O24),_⟩:S24) results166 (hp:=by exact ⟨wl0,by exact Nat.zero_le _,by (rw [hoc];exact Nat.zero_le _)⟩)
 obtain ⟨hoc,hom,hod⟩:=id hI
 refine t16 ?_
 refine cN ?_ ?_ <;> intro h33
 ·have hlim:=hnk (by simpa using h33)
  refine t6 ?_
  refine qap rfl (qaw call200 (zbx op x104 o ks hlim hd2 hoc hom) ⟨qaq,⟨qaq,⟨qaq,⟨qaq,trivial⟩⟩⟩⟩) ?_
  (refine qa5 138 rfl ?_;intro x138 hx138)
  refine t6 ?_
  exact rXF (⟨_,_,(⟨_,_,_,_,_,_,_,(⟨_,_⟩:Pt),_,_,_,_,_⟩:O24),_⟩:S24) results166 (hp:=by exact hx138)
 refine t6 ?_
 refine cN ?_ ?_ <;> intro h35
 ·refine t6 ?_
  refine qap rfl (by ((refine qaw call201 (kill_ok op x104 (⟨_,_,_,_,_,_,_,(⟨_,_⟩:Pt),_,_,_,_,_⟩:O24) ks hd2 ?_ hdp) ⟨qbc,⟨qbc,⟨qbc,⟨qbc,trivial⟩⟩⟩⟩);all_goals (exact hoc))) ?_
  (refine qa5 145 rfl ?_;intro x145 hx145)
  refine t6 ?_
  exact rXF (⟨_,_,(⟨_,_,_,_,_,_,_,(⟨_,_⟩:Pt),_,_,_,_,_⟩:O24),_⟩:S24) results166 (hp:=by exact hx145)
 refine t6 ?_
 refine cN ?_ ?_ <;> intro h37
 ·refine t5 ?_
  refine qap rfl (by ((refine qaw call202 (zbc x104 (⟨_,_,_,_,_,_,_,(⟨_,_⟩:Pt),_,_,_,_,_⟩:O24) ks hd2 ?_ hdp) ⟨qbc,⟨qbc,⟨qbc,trivial⟩⟩⟩);all_goals (exact ⟨hoc,hod⟩))) ?_
  (refine qa5 151 rfl ?_;intro x151 hx151)
  refine t6 ?_
  exact rXF (⟨_,_,(⟨_,_,_,_,_,_,_,(⟨_,_⟩:Pt),_,_,_,_,_⟩:O24),_⟩:S24) results166 (hp:=by exact hx151)
 refine t10 ?_
 refine qap rfl (by ((refine qad call203 (qq3 _ _ ?_) ⟨qaq,⟨qaq,trivial⟩⟩);all_goals (omega))) ?_
 (refine qa5 158 rfl ?_;intro x158 hx158)
 refine t8 ?_
 obtain ⟨hi1,hi2,hi3⟩:=hx158
 refine t4 ?_
 refine qap rfl (OpP.to (qac (size:=1) (qs:=[(0,_)]) rfl rfl rfl ⟨⟨rfl,_,(er rfl),qag⟩,trivial⟩ rf rf) (SubL.row1 (T:=tI64) (x:=_) rf rf rf qak)) ?_
 refine t8 ?_
 intro i11
 refine t13 ?_
 refine cN ?_ ?_ <;> intro h42
 ·refine t16 ?_
  refine cN ?_ ?_ <;> intro h44
  ·have hz:x104.node.entries[x158.1]?=some _:=List.getElem?_eq_getElem (hi2 h44)
   refine t21 ?_
   exact rXF (⟨_,_,(⟨_,_,_,_,_,_,_,(⟨_,_⟩:Pt),_,_,_,_,_⟩:O24),_⟩:S24) results166 (hp:=by exact ⟨wl0,by exact Nat.zero_le _,by (show 1≤300;omega)⟩)
  refine t12 ?_
  exact rXF (⟨_,_,(⟨_,_,_,_,_,_,_,(⟨_,_⟩:Pt),_,_,_,_,_⟩:O24),_⟩:S24) results166 (hp:=by exact ⟨wl0,by exact Nat.zero_le _,by (show 1≤300;omega)⟩)
 refine t12 ?_
 refine cN ?_ ?_ <;> intro h47
 ·refine t10 ?_
  refine kXF call194 (qa1 c.w.heap.size (⟨_,_,_,_,_,_,_,(⟨_,_⟩:Pt),_,_,_,_,_⟩:O24) _) ?_
  refine t6 ?_
  exact rXF (⟨_,_,(⟨_,_,_,_,_,_,_,(⟨_,_⟩:Pt),_,_,_,_,_⟩:O24),_⟩:S24) results166 (hp:=by exact ⟨wl0,by exact Nat.zero_le _,by (show 1≤300;omega)⟩)
 refine t8 ?_
 refine cN ?_ ?_ <;> intro h50
 ·have hfo:x158.2=true:=by
   cases hq:x158.2 with
   | true=>rfl
   | false=>rw [hq,h50] at h47;cases h47
  have hz:x104.node.entries[x158.1]?=some _:=List.getElem?_eq_getElem (hi2 hfo)
  have hlt:=hi2 hfo
  refine t15 ?_
  refine qaz rfl (by kernel_rfl) ?_
  refine qaf 13 (by kernel_rfl) ?_
  refine qkq (qb3 tEn rfl rfl) ?_
  refine t3 ?_
  refine qbh (qcx (er rfl) rfl rfl rfl ⟨_,_,(er rfl),rf⟩ (by omega) (by omega)) ?_
  refine qd7 rfl rfl rfl rf (by kernel_rfl) (qd4 qaq (by exact qej rfl rfl rfl) qb8) ?_
  refine t4 ?_
  refine qbh (qcx (er rfl) rfl rfl ⟨_,_,(er rfl),(show _=((x158.1+1:Nat):Int) by rfl)⟩ rfl (by omega) (by omega)) ?_
  refine qd7 rfl rfl rfl rf (by kernel_rfl) (qd4 qaq (by exact qej rfl rfl rfl) qb8) ?_
  refine s1 ?_
  refine ⟨rfl,?_⟩
  intro i220
  refine qeb (by kernel_rfl) rfl (qas (er rfl) (er rfl) qag qae qbm rf rf rf) ?_
  refine qar ?_
  refine t2 ?_
  refine qa7 hX (v:=slV _ i220) qae ?_
  refine t4 ?_
  refine qap rfl (by ((refine qad call204 (qdv _ (⟨_,_,_,_,(⟨_,_⟩:Pt),_⟩:N24) ?_) ⟨qbc,⟨qbc,trivial⟩⟩);all_goals (first|first|assumption|exact qfb _ _ _ _|exact qdl _ ⟨by decide,by decide⟩))) ?_
  refine t4 ?_
  intro i12
  refine t5 ?_
  refine qc8 (b:=i12) (fun _=>qae) ?_
  intro p12 hln12
  refine t2 ?_
  refine qap rfl (OpP.fr (qa3 (size:=9) (qs:=[(0,_)]) rfl rfl rfl ⟨⟨rfl,_,(er rfl),qag⟩,trivial⟩ rf rf) qcq (SubL.row1 (T:=tPg) (x:=(⟨_,_,_,_,_,_,_,_,_⟩:Pg)) rf rf rf qak)) ?_
  refine t8 ?_
  exact rXF (⟨_,_,(⟨_,_,_,_,_,_,_,(⟨_,_⟩:Pt),_,_,_,_,_⟩:O24),_⟩:S24) results166 (hp:=by exact ⟨wl1 (by assumption),Nat.zero_le _,by rw [hoc];exact Nat.zero_le _⟩)
 refine t6 ?_
 refine cN ?_ ?_ <;> intro h55
 ·refine t10 ?_
  refine kXF call194 (qa1 c.w.heap.size (⟨_,_,_,_,_,_,_,(⟨_,_⟩:Pt),_,_,_,_,_⟩:O24) _) ?_
  refine t6 ?_
  exact rXF (⟨_,_,(⟨_,_,_,_,_,_,_,(⟨_,_⟩:Pt),_,_,_,_,_⟩:O24),_⟩:S24) results166 (hp:=by exact ⟨wl0,by exact Nat.zero_le _,by (show 1≤300;omega)⟩)
 refine t4 ?_
 refine qaz rfl (by kernel_rfl) ?_
 refine qaf 18 (by kernel_rfl) ?_
 refine qkq (qb3 tEn rfl rfl) ?_
 refine t3 ?_
 refine qbh (qcx (er rfl) rfl rfl rfl ⟨_,_,(er rfl),rf⟩ (by omega) (by omega)) ?_
 refine qd7 rfl rfl rfl rf (by kernel_rfl) (qd4 qaq (by exact qej rfl rfl rfl) qb8) ?_
 refine t5 ?_
 refine qbh (OpP.to (qac (size:=3) (qs:=[(0,_)]) rfl rfl rfl ⟨⟨rfl,_,(er rfl),qag⟩,trivial⟩ rf rf) (SubL.row1 (T:=tEn) (x:=(⟨_,(⟨_,_⟩:Pt)⟩:En)) rf rf rf qak)) ?_
 refine qd7 rfl rfl rfl rf (by kernel_rfl) (qd4 qaq (by exact qej rfl rfl rfl) qb8) ?_
 refine t3 ?_
 refine qbh (qcx (er rfl) rfl rfl ⟨_,_,(er rfl),rf⟩ rfl (by omega) (by omega)) ?_
 refine qd7 rfl rfl rfl rf (by kernel_rfl) (qd4 qaq (by exact qej rfl rfl rfl) qb8) ?_
 refine ⟨rfl,?_⟩
 intro i256
 refine JD_1 (by kernel_rfl) rfl rfl (qei rfl) ?_
 refine qar ?_
 refine t2 ?_
 refine qa7 hX (v:=slV _ i256) qae ?_
 refine t8 ?_
 refine qap rfl (by ((refine qaw call205 (qpl _ (⟨_,_,_,_,(⟨_,_⟩:Pt),_⟩:N24) _ _ _ (⟨_,_,_,_,_,_,_,(⟨_,_⟩:Pt),_,_,_,_,_⟩:O24) ?_ ?_ ?_) ⟨qbc,⟨qbc,⟨qbc,⟨qbc,⟨qbc,⟨qbc,trivial⟩⟩⟩⟩⟩⟩);all_goals (first|simp;omega|rw [hoc];exact Nat.zero_le _|assumption))) ?_
 (refine qa5 264 rfl ?_;intro x264 hx264)
 refine t4 ?_
 exact rXF (⟨_,_,(⟨_,_,_,_,_,_,_,(⟨_,_⟩:Pt),_,_,_,_,_⟩:O24),_⟩:S24) results166 (hp:=by exact hx264)
theorem zaw (key:BitVec 32) (ks:List Pg):FnF Tryz.prog 166 [qm9 ⟨8,key,0#32,Pt.nil,0,0,[]⟩,IsSl tPg ks] (fun B=>qes (fun r:S24×Int=>qzj r.1) (zfg B)):=by
 refine FnF.enter func166 ntmps166 rfl rfl ?_
 intro c hX
 refine t3 ?_
 intro i2
 refine s1 ?_
 intro i4
 refine t30 ?_
 refine cN ?_ ?_ <;> intro h4
 ·exact Bool.noConfusion (show false=true from h4)
 refine t6 ?_
 refine cN ?_ ?_ <;> intro h5
 ·exact Bool.noConfusion (show false=true from h5)
 refine t6 ?_
 refine cN ?_ ?_ <;> intro h6
 ·exact Bool.noConfusion (show false=true from h6)
 refine t5 ?_
 refine cN ?_ ?_ <;> intro h7
 ·refine t6 ?_
  refine cN ?_ ?_ <;> intro h8
  ·refine t3 ?_
   refine kXF call194 (qa1 c.w.heap.size (⟨_,_,_,_,_,_,_,(⟨_,_⟩:Pt),_,_,_,_,_⟩:O24) _) ?_
   refine t6 ?_
   exact rXF ((⟨_,_,(⟨_,_,_,_,_,_,_,(⟨_,_⟩:Pt),_,_,_,_,_⟩:O24),_⟩:S24),0) results166 (hp:=by exact ⟨wl0,by exact Nat.zero_le _,by exact Nat.zero_le _⟩)
  refine t8 ?_
  refine qap rfl (by ((refine qad call164 (qii _ 0 _ ?_) ⟨qaq,⟨qaq,⟨qaq,trivial⟩⟩⟩);all_goals (decide))) ?_
  (refine qa5 104 rfl ?_;intro x104 hx104)
  refine s1 ?_
  intro i6
  refine t5 ?_
  obtain ⟨hd1,hd2,hd3,hdp⟩:=hx104
  refine t7 ?_
  refine cN ?_ ?_ <;> intro h23
  ·refine t10 ?_
   exact rXF ((⟨_,_,(⟨_,_,_,_,_,_,_,(⟨_,_⟩:Pt),_,_,_,_,_⟩:O24),_⟩:S24),0) results166 (hp:=by exact ⟨wl0,by exact hd1,by exact Nat.zero_le _⟩)
  refine t9 ?_
  refine cN ?_ ?_ <;> intro h25
  ·refine t4 ?_
   refine qap rfl (qaw call197 (qtp (⟨_,_,_,(⟨_,_⟩:Pt),_,_,_⟩:Op24) ks) ⟨qbc,⟨qbc,trivial⟩⟩) ?_
   (refine qa5 116 rfl ?_;intro x116 hx116)
   refine t5 ?_
   have hdn:x116.out.done=false:=hx116.2 rfl
   exact rXF ((⟨_,_,(⟨_,_,_,_,_,_,_,(⟨_,_⟩:Pt),_,_,_,_,_⟩:O24),_⟩:S24),0) results166 (hp:=by exact hx116.1)
  refine t6 ?_
  intro i7
  refine t7 ?_
  refine kXF call198 (qlx (⟨_,_,_,_,(⟨_,_,_,_,_,_,_,_,_⟩:Pg),(⟨_,_,_,_,(⟨_,_⟩:Pt),_⟩:N24),(⟨_,_,_,_,(⟨_,_⟩:Pt),_⟩:N24),_,_,_⟩:P24)) ?_
  (refine qgm 119 rfl ?_;intro x119)
  refine t2 ?_
  refine qb1 [(1,_),(2,_),(4,_),(6,_),(7,_)] [blk i6 _ _,blk i4 _ _,blk i2 _ _] (fun yc:O24=>yc.check=[]∧yc.more=false∧yc.done=false) (fun yc=>[]) (fun yc=>[blk i7 269 [Is (.int .i64 yc.code),Is (.bool yc.found),Is (.bool yc.done),Is (.bool yc.split),Is (.bool yc.unposted),Is (.bool yc.dead),Is (.bool yc.more),Is (.int .i64 yc.to.line),Is (.int .i64 yc.to.gen),Is (.slice none 0 0),IsSl tI64 yc.check,Is (.int .i64 yc.hops),Is (.int .i64 yc.fresh),Is (.int .i64 yc.height)]]) qaj qab ?_ ?_
  rotate_left
  focus
   refine cN ?_ ?_ <;> intro h28
   ·refine t3 ?_
    refine kXF call199 (zeu (⟨_,_,_,_,_,_,_,(⟨_,_⟩:Pt),[],_,_,_,_⟩:O24) (⟨_,_,_,_,(⟨_,_,_,_,_,_,_,_,_⟩:Pg),(⟨_,_,_,_,(⟨_,_⟩:Pt),_⟩:N24),(⟨_,_,_,_,(⟨_,_⟩:Pt),_⟩:N24),_,_,_⟩:P24)) ?_
    (refine qa5 122 rfl ?_;intro x122 hx122)
    refine t2 ?_
    refine qai (⟨_,_,_,_,_,_,_,(⟨_,_⟩:Pt),[],_,_,_,_⟩:O24) ?_ qaj qab
    ·exact (by exact hx122)
   refine s1 ?_
   refine qao (b:=i7) (As':=[Is (.int .i64 0),Is (.bool false),Is (.bool false),Is (.bool false),Is (.bool false),Is (.bool false),Is (.bool false),Is (.int .i64 0),Is (.int .i64 0),Is (.slice none 0 0),IsSl tI64 [],Is (.int .i64 0),Is (.int .i64 0),Is (.int .i64 0)]) qae qbf ?_
   exact qai (⟨0,false,false,false,false,false,false,⟨0,0⟩,[],[],0,0,0⟩:O24) ⟨rfl,rfl,rfl⟩ qaj qab
  rintro o hI
  refine t8 ?_
  refine cN ?_ ?_ <;> intro h30
  ·obtain ⟨hoc,hom,hod⟩:=id hI
   refine t5 ?_
   refine kXF call194 (qa1 c.w.heap.size (⟨_,_,_,_,_,_,_,(⟨_,_⟩:Pt),_,_,_,_,_⟩:O24) _) ?_
   refine t5 ?_
   exact rXF ((⟨_,_,(⟨_,_,_,_,_,_,_,(⟨_,_⟩:Pt),_,_,_,_,_⟩:O24),_⟩:S24),0) results166 (hp:=by exact ⟨wl0,by exact Nat.zero_le _,by (rw [hoc];exact Nat.zero_le _)⟩)
  obtain ⟨hoc,hom,hod⟩:=id hI
  refine t16 ?_
  refine cN ?_ ?_ <;> intro h33
  ·exact Bool.noConfusion (show false=true from h33)
  refine t6 ?_
  refine cN ?_ ?_ <;> intro h35
  ·exact Bool.noConfusion (show false=true from h35)
  refine t6 ?_
  refine cN ?_ ?_ <;> intro h37
  ·refine t5 ?_
   refine qap rfl (by ((refine qaw call202 (qpk x104 (⟨_,_,_,_,_,_,_,(⟨_,_⟩:Pt),_,_,_,_,_⟩:O24) ks hd2 ?_ hdp) ⟨qbc,⟨qbc,⟨qbc,trivial⟩⟩⟩);all_goals (exact ⟨hoc,hod⟩))) ?_
   (refine qa5 151 rfl ?_;intro x151 hx151)
   refine t6 ?_
   exact rXF ((⟨_,_,(⟨_,_,_,_,_,_,_,(⟨_,_⟩:Pt),_,_,_,_,_⟩:O24),_⟩:S24),x151.2) results166 (hp:=by exact hx151)
  exact Bool.noConfusion (show true=false from h37)
 exact Bool.noConfusion (show true=false from h7)
end Go.Proofs.YtghkkdjbaehboaaGreat
