/- Texts laid together: walks of functions, what they compute, and plain laws of it. Own work. -/
import Derived.Test.YtmgoplaamlignaaGreatK27
import Derived.Test.YtmgoplaamlignaaGreatK1
namespace Go.Proofs.YtmgoplaamlignaaGreat
open Go.RowKit Tryz
set_option linter.unusedVariables false
set_option linter.unusedSimpArgs false
set_option maxRecDepth 100000
set_option maxHeartbeats 4000000
theorem rem32 (x:BitVec 64):(UV x).tmod 4294967296=UV (x&&&BitVec.ofInt 64 4294967295):=by
 rw [Int.tmod_eq_emod_of_nonneg (qbj x)]
 exact (qir 64 32 x _ rfl).symm
theorem qor (p:Pg) (b:Bk):FnP Tryz.prog 213 [qdw p,IsBk b] (qek (fun r:Pg×Int=>Ln p→Ln r.1) fun r=>qbv [qdw r.1,Is (.int .i64 r.2)]):=by
 refine FnP.enter func213 ntmps213 rfl rfl ?_
 intro c hX
 refine t3 ?_
 intro i2
 refine s1 ?_
 intro i3
 refine s1 ?_
 intro i4
 refine t7 ?_
 refine kR call63 (qel _) ?_
 refine t3 ?_
 (refine qcq rfl rfl rfl (fun hg=>(by have hg0:=hg;(try simp at hg);exact qac call230 (qji b) ⟨evR,trivial⟩)) ?_)
 refine t4 ?_
 refine cN ?_ ?_ <;> intro h1
 ·refine t9 ?_
  exact qcd (Bs:=[_,_]) ((⟨_,_,_,_,_,_,_,_,_⟩:Pg),_) rfl results213 eX (List.nil_sublist _) (by exact by exact fun _=>ln0)
 have hv:vB b=true:=by simp at h1;exact h1.2
 have hl:=(vB_ok hv).2
 refine t10 ?_
 intro i6
 refine t4 ?_
 refine qa0 rfl (by kernel_rfl) ?_
 refine qag 18 (by kernel_rfl) ?_
 refine s1 ?_
 refine qbc (qac call26 (qg8 _) ⟨evR,trivial⟩) ?_
 refine t11 ?_
 refine qbc (by exact qg3 (k:=16) ql1 (er rfl) (by omega) qca) ?_
 refine s1 ?_
 refine qbc (qac call98 (qmj _ _ _) ⟨evR,⟨evR,⟨evR,trivial⟩⟩⟩) ?_
 refine t2 ?_
 refine ⟨rfl,?_⟩
 refine qef (by kernel_rfl) rfl (qav (er rfl) (er rfl) qbn qae qbo rf rf rf) ?_
 refine qat ?_
 refine t5 ?_
 refine kR call82 (qfr _) ?_
 refine t13 ?_
 refine qbq (b:=i6) (As':=tPg.cells (⟨_,_,_,_,_,_,_,_,_⟩:Pg)) qae qkh ?_
 refine qaz [(3,_),(4,_),(5,_),(6,_)] [blk i4 _ _,blk i3 _ _] (fun y:Nat×Pg=>y.1≤(b.es).length∧(y.2.l=p.l)) (fun y=>[(7,Is (.int .i64 (y.1:Nat)))]) (fun y=>[blk i6 53 (tPg.cells y.2)]) (fun y=>(b.es).length-y.1) (0,(⟨_,_,_,_,_,_,_,_,_⟩:Pg)) ?_ qdl qab ?_
 ·exact ⟨by exact Nat.zero_le _,rfl⟩
 rintro ⟨k,q⟩ ⟨hk,hI⟩
 dsimp only at hk hI ⊢
 refine t10 ?_
 refine cN ?_ ?_ <;> intro h7
 ·have hlt:k<(b.es).length:=by have:=of_decide_eq_true h7;omega
  clear h7
  obtain ⟨z,hz⟩:∃ q,(b.es)[k]?=some q:=⟨_,List.getElem?_eq_getElem hlt⟩
  rcases (show k=0∨k=1∨k=2∨k=3∨k=4 by omega) with rfl|rfl|rfl|rfl|rfl
  all_goals
   refine t4 ?_
   refine qa0 rfl (by kernel_rfl) ?_
   refine qag 21 (by kernel_rfl) ?_
   refine t9 ?_
   refine qbc (by exact qd5 (k:=32) qgi (er rfl) (by omega) qca) ?_
   refine t6 ?_
   refine qbc (qac call82 (qfr _) ⟨evR,trivial⟩) ?_
   refine t3 ?_
   refine qbc (qan (k:=_) (sz:=1) (er rfl) (er rfl) rfl rfl qca (by decide)) ?_
   refine ⟨rfl,?_⟩
   refine qef (by kernel_rfl) rfl (qav (er rfl) (er rfl) qbn qae qbo rf rf rf) ?_
   refine qat ?_
   refine t7 ?_
   refine qam (b:=i6) (As':=tPg.cells (⟨_,_,_,_,_,_,_,_,_⟩:Pg)) qae qkh ?_
   first|((guard_hyp hlt:(0:Nat)<(b.es).length);refine qaa (1,(⟨_,_,_,_,_,_,_,_,_⟩:Pg)) ?_ ?_ qdl qab)|((guard_hyp hlt:(1:Nat)<(b.es).length);refine qaa (2,(⟨_,_,_,_,_,_,_,_,_⟩:Pg)) ?_ ?_ qdl qab)|((guard_hyp hlt:(2:Nat)<(b.es).length);refine qaa (3,(⟨_,_,_,_,_,_,_,_,_⟩:Pg)) ?_ ?_ qdl qab)|((guard_hyp hlt:(3:Nat)<(b.es).length);refine qaa (4,(⟨_,_,_,_,_,_,_,_,_⟩:Pg)) ?_ ?_ qdl qab)|((guard_hyp hlt:(4:Nat)<(b.es).length);refine qaa (5,(⟨_,_,_,_,_,_,_,_,_⟩:Pg)) ?_ ?_ qdl qab)
   ·exact ⟨by omega,hI⟩
   ·exact (by omega)
 have hke:k=(b.es).length:=by have:=of_decide_eq_false h7;omega
 clear h7
 subst hke
 refine t13 ?_
 exact qcd (Bs:=[_,_]) ((⟨_,_,_,_,_,_,_,_,_⟩:Pg),_) rfl results213 eX (List.nil_sublist _) (by exact by exact qvl hI)
theorem qjj (p:Pg):FnP Tryz.prog 171 [qdw p] (qek (fun r:Rt×Int=>0≤r.1.depth∧r.1.depth≤5) fun r=>qbv [IsRt r.1,Is (.int .i64 r.2)]):=by
 refine FnP.enter func171 ntmps171 rfl rfl ?_
 intro c hX
 refine t3 ?_
 intro i1
 refine s1 ?_
 intro i2
 refine t11 ?_
 refine cN ?_ ?_ <;> intro h1
 ·refine t9 ?_
  exact qcd (Bs:=[_,_]) ((⟨(⟨_,_⟩:Pt),_,(⟨_,_⟩:Pt),(⟨_,_⟩:Pt),(⟨_,_⟩:Pt),(⟨_,_⟩:Pt)⟩:Rt),_) rfl results171 eX (List.nil_sublist _) (by exact by decide)
 refine t5 ?_
 intro i4
 refine t11 ?_
 refine cN ?_ ?_ <;> intro h4
 ·refine t9 ?_
  exact qcd (Bs:=[_,_]) ((⟨(⟨_,_⟩:Pt),_,(⟨_,_⟩:Pt),(⟨_,_⟩:Pt),(⟨_,_⟩:Pt),(⟨_,_⟩:Pt)⟩:Rt),_) rfl results171 eX (List.nil_sublist _) (by exact by decide)
 refine t7 ?_
 refine qap rfl (by exact qhi (k:=32) qgi (er rfl) (by omega) qca) ?_
 refine t16 ?_
 rw [rem32]
 refine kR call215 (qjt _) ?_
 refine t15 ?_
 refine qbq (b:=i4) (As':=tRt.cells (⟨(⟨_,_⟩:Pt),_,(⟨_,_⟩:Pt),(⟨_,_⟩:Pt),(⟨_,_⟩:Pt),(⟨_,_⟩:Pt)⟩:Rt)) qae qkh ?_
 refine qaz [(1,_),(2,_),(3,_),(4,_)] [blk i2 _ _,blk i1 _ _] (fun y:Nat×Rt×Bool=>y.1≤4) (fun y=>[(5,Is (.bool y.2.2)),(6,Is (.int .i64 (y.1:Nat)))]) (fun y=>[blk i4 294 (tRt.cells y.2.1)]) (fun y=>4-y.1) (0,(⟨(⟨_,_⟩:Pt),_,(⟨_,_⟩:Pt),(⟨_,_⟩:Pt),(⟨_,_⟩:Pt),(⟨_,_⟩:Pt)⟩:Rt),_) (Nat.zero_le _) qdl qab ?_
 rintro ⟨k,r,ok⟩ hk
 dsimp only at hk ⊢
 refine t7 ?_
 refine cN ?_ ?_ <;> intro h10
 ·have hlt:k<4:=by have:=of_decide_eq_true h10;omega
  clear h10
  rcases (show k=0∨k=1∨k=2∨k=3 by omega) with rfl|rfl|rfl|rfl
  all_goals
   refine t16 ?_
   refine qap rfl (qan (k:=_) (sz:=1) (er rfl) (er rfl) rfl rfl qca (by decide)) ?_
   refine t7 ?_
   rw [rem32]
   refine kR call215 (qjt _) ?_
   refine t4 ?_
   refine qap rfl (qan (k:=_) (sz:=2) (er rfl) (er rfl) rfl rfl qca (by decide)) ?_
   refine t18 ?_
   refine qam (b:=i4) (As':=tRt.cells (⟨(⟨_,_⟩:Pt),_,(⟨_,_⟩:Pt),(⟨_,_⟩:Pt),(⟨_,_⟩:Pt),(⟨_,_⟩:Pt)⟩:Rt)) qae qkh ?_
   first|((guard_hyp hlt:(0:Nat)<4);refine qaa (1,(⟨(⟨_,_⟩:Pt),_,(⟨_,_⟩:Pt),(⟨_,_⟩:Pt),(⟨_,_⟩:Pt),(⟨_,_⟩:Pt)⟩:Rt),_) ?_ ?_ qdl qab)|((guard_hyp hlt:(1:Nat)<4);refine qaa (2,(⟨(⟨_,_⟩:Pt),_,(⟨_,_⟩:Pt),(⟨_,_⟩:Pt),(⟨_,_⟩:Pt),(⟨_,_⟩:Pt)⟩:Rt),_) ?_ ?_ qdl qab)|((guard_hyp hlt:(2:Nat)<4);refine qaa (3,(⟨(⟨_,_⟩:Pt),_,(⟨_,_⟩:Pt),(⟨_,_⟩:Pt),(⟨_,_⟩:Pt),(⟨_,_⟩:Pt)⟩:Rt),_) ?_ ?_ qdl qab)|((guard_hyp hlt:(3:Nat)<4);refine qaa (4,(⟨(⟨_,_⟩:Pt),_,(⟨_,_⟩:Pt),(⟨_,_⟩:Pt),(⟨_,_⟩:Pt),(⟨_,_⟩:Pt)⟩:Rt),_) ?_ ?_ qdl qab)
   ·exact (by omega)
   ·exact (by omega)
 have hke:k=4:=by have:=of_decide_eq_false h10;omega
 clear h10
 subst hke
 refine t12 ?_
 (refine qcq rfl rfl rfl (fun hg=>(by have hg0:=hg;(try simp at hg);exact qac call216 (qls r) ⟨evR,trivial⟩)) ?_)
 refine t4 ?_
 refine cN ?_ ?_ <;> intro h15
 ·refine t9 ?_
  exact qcd (Bs:=[_,_]) ((⟨(⟨_,_⟩:Pt),_,(⟨_,_⟩:Pt),(⟨_,_⟩:Pt),(⟨_,_⟩:Pt),(⟨_,_⟩:Pt)⟩:Rt),_) rfl results171 eX (List.nil_sublist _) (by exact by decide)
 have hv:vR r=true:=by simp at h15;exact h15.2
 refine t10 ?_
 exact qcd (Bs:=[_,_]) ((⟨(⟨_,_⟩:Pt),_,(⟨_,_⟩:Pt),(⟨_,_⟩:Pt),(⟨_,_⟩:Pt),(⟨_,_⟩:Pt)⟩:Rt),_) rfl results171 eX (List.nil_sublist _) (by exact vR_ok hv)
theorem qr6 (p:Pg) (r:Rt):FnP Tryz.prog 228 [qdw p,IsRt r] (qek (fun r:Pg×Int=>Ln p→Ln r.1) fun r=>qbv [qdw r.1,Is (.int .i64 r.2)]):=by
 refine FnP.enter func228 ntmps228 rfl rfl ?_
 intro c hX
 refine t3 ?_
 intro i2
 refine s1 ?_
 intro i3
 refine s1 ?_
 intro i4
 refine t11 ?_
 (refine qcq rfl rfl rfl (fun hg=>(by have hg0:=hg;(try simp at hg);exact qac call216 (qls r) ⟨evR,trivial⟩)) ?_)
 refine t4 ?_
 refine cN ?_ ?_ <;> intro h1
 ·refine t9 ?_
  exact qcd (Bs:=[_,_]) ((⟨_,_,_,_,_,_,_,_,_⟩:Pg),_) rfl results228 eX (List.nil_sublist _) (by exact by exact fun _=>ln0)
 refine t6 ?_
 intro i6
 refine t4 ?_
 refine qa0 rfl (by kernel_rfl) ?_
 refine qag 11 (by kernel_rfl) ?_
 refine t2 ?_
 refine qbc (qac call82 (qfr _) ⟨evR,trivial⟩) ?_
 refine t4 ?_
 refine qbc (by exact qd5 (k:=32) qgi (er rfl) (by omega) qca) ?_
 refine t3 ?_
 refine ⟨rfl,?_⟩
 refine qef (by kernel_rfl) rfl (qav (er rfl) (er rfl) qbn qae qbo rf rf rf) ?_
 refine qat ?_
 refine t8 ?_
 refine qbq (b:=i6) (As':=tPg.cells (⟨_,_,_,_,_,_,_,_,_⟩:Pg)) qae qkh ?_
 refine qaz [(3,_),(4,_),(5,_),(6,_)] [blk i4 _ _,blk i3 _ _] (fun y:Nat×Pg=>y.1≤2∧(y.2.l=p.l)) (fun y=>[(7,Is (.int .i64 (y.1:Nat)))]) (fun y=>[blk i6 53 (tPg.cells y.2)]) (fun y=>2-y.1) (0,(⟨_,_,_,_,_,_,_,_,_⟩:Pg)) ?_ qdl qab ?_
 ·exact ⟨by exact Nat.zero_le _,rfl⟩
 rintro ⟨k,q⟩ ⟨hk,hI⟩
 dsimp only at hk hI ⊢
 refine t7 ?_
 refine cN ?_ ?_ <;> intro h6
 ·have hlt:k<2:=by have:=of_decide_eq_true h6;omega
  clear h6
  rcases (show k=0∨k=1 by omega) with rfl|rfl
  all_goals
   refine t4 ?_
   refine qa0 rfl (by kernel_rfl) ?_
   refine qag 21 (by kernel_rfl) ?_
   refine t5 ?_
   refine qbc (qan (k:=_) (sz:=2) (er rfl) (er rfl) rfl rfl qca (by decide)) ?_
   refine s1 ?_
   refine qbc (qac call82 (qfr _) ⟨evR,trivial⟩) ?_
   refine t5 ?_
   refine qbc (qan (k:=_) (sz:=2) (er rfl) (er rfl) rfl rfl qca (by decide)) ?_
   refine s1 ?_
   refine qbc (qac call82 (qfr _) ⟨evR,trivial⟩) ?_
   refine s1 ?_
   refine qbc (by exact qd5 (k:=32) qgi (er rfl) (by omega) qca) ?_
   refine t2 ?_
   refine qbc (qan (k:=_) (sz:=1) (er rfl) (er rfl) rfl rfl qca (by decide)) ?_
   refine ⟨rfl,?_⟩
   refine qef (by kernel_rfl) rfl (qav (er rfl) (er rfl) qbn qae qbo rf rf rf) ?_
   refine qat ?_
   refine t7 ?_
   refine qam (b:=i6) (As':=tPg.cells (⟨_,_,_,_,_,_,_,_,_⟩:Pg)) qae qkh ?_
   first|((guard_hyp hlt:(0:Nat)<2);refine qaa (1,(⟨_,_,_,_,_,_,_,_,_⟩:Pg)) ?_ ?_ qdl qab)|((guard_hyp hlt:(1:Nat)<2);refine qaa (2,(⟨_,_,_,_,_,_,_,_,_⟩:Pg)) ?_ ?_ qdl qab)
   ·exact ⟨by omega,hI⟩
   ·exact (by omega)
 have hke:k=2:=by have:=of_decide_eq_false h6;omega
 clear h6
 subst hke
 refine t13 ?_
 exact qcd (Bs:=[_,_]) ((⟨_,_,_,_,_,_,_,_,_⟩:Pg),_) rfl results228 eX (List.nil_sublist _) (by exact by exact qvl hI)
theorem qgu (p:Pg):FnP Tryz.prog 219 [qdw p] (VEx fun r:S8×Int=>qbv [IsS8 r.1,Is (.int .i64 r.2)]):=by
 refine FnP.enter func219 ntmps219 rfl rfl ?_
 intro c hX
 refine t3 ?_
 intro i1
 refine s1 ?_
 intro i2
 refine t6 ?_
 intro i4
 refine t6 ?_
 refine kR call63 (qel _) ?_
 refine t3 ?_
 (refine qcq rfl rfl rfl (fun hg=>(by have hg0:=hg;(try simp at hg);exact qac call204 (qoz _) ⟨evR,trivial⟩)) ?_)
 refine t16 ?_
 refine cN ?_ ?_ <;> intro h2
 ·refine t9 ?_
  exact qci (Bs:=[_,_]) ((⟨(⟨_,_⟩:Pt),(⟨_,_⟩:Pt),(⟨_,_⟩:Pt),(⟨_,_⟩:Pt),(⟨_,_⟩:Pt),(⟨_,_⟩:Pt),(⟨_,_⟩:Pt),(⟨_,_⟩:Pt)⟩:S8),_) rfl results219 eX (List.nil_sublist _)
 refine t9 ?_
 refine qbq (b:=i4) (As':=tS8.cells (⟨(⟨_,_⟩:Pt),(⟨_,_⟩:Pt),(⟨_,_⟩:Pt),(⟨_,_⟩:Pt),(⟨_,_⟩:Pt),(⟨_,_⟩:Pt),(⟨_,_⟩:Pt),(⟨_,_⟩:Pt)⟩:S8)) qae qkh ?_
 refine qaz [(1,_),(2,_),(3,_),(4,_)] [blk i2 _ _,blk i1 _ _] (fun y:Nat×S8=>y.1≤8) (fun y=>[(5,Is (.int .i64 (y.1:Nat)))]) (fun y=>[blk i4 351 (tS8.cells y.2)]) (fun y=>8-y.1) (0,(⟨(⟨_,_⟩:Pt),(⟨_,_⟩:Pt),(⟨_,_⟩:Pt),(⟨_,_⟩:Pt),(⟨_,_⟩:Pt),(⟨_,_⟩:Pt),(⟨_,_⟩:Pt),(⟨_,_⟩:Pt)⟩:S8)) (Nat.zero_le _) qdl qab ?_
 rintro ⟨k,s⟩ hk
 dsimp only at hk ⊢
 refine t7 ?_
 refine cN ?_ ?_ <;> intro h5
 ·have hlt:k<8:=by have:=of_decide_eq_true h5;omega
  clear h5
  rcases (show k=0∨k=1∨k=2∨k=3∨k=4∨k=5∨k=6∨k=7 by omega) with rfl|rfl|rfl|rfl|rfl|rfl|rfl|rfl
  all_goals
   refine t16 ?_
   refine qap rfl (qan (k:=_) (sz:=1) (er rfl) (er rfl) rfl rfl qca (by decide)) ?_
   refine t7 ?_
   rw [rem32]
   refine kR call215 (qjt _) ?_
   refine t3 ?_
   refine qap rfl (qan (k:=_) (sz:=2) (er rfl) (er rfl) rfl rfl qca (by decide)) ?_
   refine t10 ?_
   refine cN ?_ ?_ <;> intro h9
   ·refine t2 ?_
    refine qap rfl (qd6 (size:=2) (qs:=[]) rfl rfl rfl rfl trivial rf qbo) ?_
    refine t10 ?_
    exact qci (Bs:=[_,_]) ((⟨(⟨_,_⟩:Pt),(⟨_,_⟩:Pt),(⟨_,_⟩:Pt),(⟨_,_⟩:Pt),(⟨_,_⟩:Pt),(⟨_,_⟩:Pt),(⟨_,_⟩:Pt),(⟨_,_⟩:Pt)⟩:S8),_) rfl results219 eX (List.nil_sublist _)
   refine t8 ?_
   refine qam (b:=i4) (As':=tS8.cells (⟨(⟨_,_⟩:Pt),(⟨_,_⟩:Pt),(⟨_,_⟩:Pt),(⟨_,_⟩:Pt),(⟨_,_⟩:Pt),(⟨_,_⟩:Pt),(⟨_,_⟩:Pt),(⟨_,_⟩:Pt)⟩:S8)) qae qkh ?_
   first|((guard_hyp hlt:(0:Nat)<8);refine qaa (1,(⟨(⟨_,_⟩:Pt),(⟨_,_⟩:Pt),(⟨_,_⟩:Pt),(⟨_,_⟩:Pt),(⟨_,_⟩:Pt),(⟨_,_⟩:Pt),(⟨_,_⟩:Pt),(⟨_,_⟩:Pt)⟩:S8)) ?_ ?_ qdl qab)|((guard_hyp hlt:(1:Nat)<8);refine qaa (2,(⟨(⟨_,_⟩:Pt),(⟨_,_⟩:Pt),(⟨_,_⟩:Pt),(⟨_,_⟩:Pt),(⟨_,_⟩:Pt),(⟨_,_⟩:Pt),(⟨_,_⟩:Pt),(⟨_,_⟩:Pt)⟩:S8)) ?_ ?_ qdl qab)|((guard_hyp hlt:(2:Nat)<8);refine qaa (3,(⟨(⟨_,_⟩:Pt),(⟨_,_⟩:Pt),(⟨_,_⟩:Pt),(⟨_,_⟩:Pt),(⟨_,_⟩:Pt),(⟨_,_⟩:Pt),(⟨_,_⟩:Pt),(⟨_,_⟩:Pt)⟩:S8)) ?_ ?_ qdl qab)|((guard_hyp hlt:(3:Nat)<8);refine qaa (4,(⟨(⟨_,_⟩:Pt),(⟨_,_⟩:Pt),(⟨_,_⟩:Pt),(⟨_,_⟩:Pt),(⟨_,_⟩:Pt),(⟨_,_⟩:Pt),(⟨_,_⟩:Pt),(⟨_,_⟩:Pt)⟩:S8)) ?_ ?_ qdl qab)|((guard_hyp hlt:(4:Nat)<8);refine qaa (5,(⟨(⟨_,_⟩:Pt),(⟨_,_⟩:Pt),(⟨_,_⟩:Pt),(⟨_,_⟩:Pt),(⟨_,_⟩:Pt),(⟨_,_⟩:Pt),(⟨_,_⟩:Pt),(⟨_,_⟩:Pt)⟩:S8)) ?_ ?_ qdl qab)|((guard_hyp hlt:(5:Nat)<8);refine qaa (6,(⟨(⟨_,_⟩:Pt),(⟨_,_⟩:Pt),(⟨_,_⟩:Pt),(⟨_,_⟩:Pt),(⟨_,_⟩:Pt),(⟨_,_⟩:Pt),(⟨_,_⟩:Pt),(⟨_,_⟩:Pt)⟩:S8)) ?_ ?_ qdl qab)|((guard_hyp hlt:(6:Nat)<8);refine qaa (7,(⟨(⟨_,_⟩:Pt),(⟨_,_⟩:Pt),(⟨_,_⟩:Pt),(⟨_,_⟩:Pt),(⟨_,_⟩:Pt),(⟨_,_⟩:Pt),(⟨_,_⟩:Pt),(⟨_,_⟩:Pt)⟩:S8)) ?_ ?_ qdl qab)|((guard_hyp hlt:(7:Nat)<8);refine qaa (8,(⟨(⟨_,_⟩:Pt),(⟨_,_⟩:Pt),(⟨_,_⟩:Pt),(⟨_,_⟩:Pt),(⟨_,_⟩:Pt),(⟨_,_⟩:Pt),(⟨_,_⟩:Pt),(⟨_,_⟩:Pt)⟩:S8)) ?_ ?_ qdl qab)
   ·exact (by omega)
   ·exact (by omega)
 have hke:k=8:=by have:=of_decide_eq_false h5;omega
 clear h5
 subst hke
 refine t13 ?_
 exact qci (Bs:=[_,_]) ((⟨(⟨_,_⟩:Pt),(⟨_,_⟩:Pt),(⟨_,_⟩:Pt),(⟨_,_⟩:Pt),(⟨_,_⟩:Pt),(⟨_,_⟩:Pt),(⟨_,_⟩:Pt),(⟨_,_⟩:Pt)⟩:S8),_) rfl results219 eX (List.nil_sublist _)
theorem qpa (p:Pg) (s:S8):FnP Tryz.prog 227 [qdw p,IsS8 s] (qek (fun r:Pg×Int=>Ln p→Ln r.1) fun r=>qbv [qdw r.1,Is (.int .i64 r.2)]):=by
 refine FnP.enter func227 ntmps227 rfl rfl ?_
 intro c hX
 refine t3 ?_
 intro i2
 refine s1 ?_
 intro i3
 refine s1 ?_
 intro i4
 refine t7 ?_
 refine kR call63 (qel _) ?_
 refine t3 ?_
 refine cN ?_ ?_ <;> intro h1
 ·refine t9 ?_
  exact qcd (Bs:=[_,_]) ((⟨_,_,_,_,_,_,_,_,_⟩:Pg),_) rfl results227 eX (List.nil_sublist _) (by exact by exact fun _=>ln0)
 refine t10 ?_
 intro i6
 refine t6 ?_
 refine kR call26 (qg8 _) ?_
 refine kR call98 (qmj _ _ 0#32) ?_
 refine t12 ?_
 refine qbq (b:=i6) (As':=tPg.cells (⟨_,_,_,_,_,_,_,_,_⟩:Pg)) qae qkh ?_
 refine qaz [(3,_),(4,_),(5,_),(6,_)] [blk i4 _ _,blk i3 _ _] (fun y:Nat×Pg=>y.1≤8∧(y.2.l=p.l)) (fun y=>[(7,Is (.int .i64 (y.1:Nat)))]) (fun y=>[blk i6 53 (tPg.cells y.2)]) (fun y=>8-y.1) (0,(⟨_,_,_,_,_,_,_,_,_⟩:Pg)) ?_ qdl qab ?_
 ·exact ⟨by exact Nat.zero_le _,rfl⟩
 rintro ⟨k,q⟩ ⟨hk,hI⟩
 dsimp only at hk hI ⊢
 refine t7 ?_
 refine cN ?_ ?_ <;> intro h6
 ·have hlt:k<8:=by have:=of_decide_eq_true h6;omega
  clear h6
  rcases (show k=0∨k=1∨k=2∨k=3∨k=4∨k=5∨k=6∨k=7 by omega) with rfl|rfl|rfl|rfl|rfl|rfl|rfl|rfl
  all_goals
   refine t8 ?_
   refine qap rfl (qan (k:=_) (sz:=2) (er rfl) (er rfl) rfl rfl qca (by decide)) ?_
   refine s1 ?_
   refine kR call232 (qvs _) ?_
   refine t3 ?_
   refine cN ?_ ?_ <;> intro h8
   ·refine t14 ?_
    exact qcd (Bs:=[_,_]) ((⟨_,_,_,_,_,_,_,_,_⟩:Pg),_) rfl results227 eX (List.nil_sublist _) (by exact by exact fun _=>ln0)
   refine t2 ?_
   refine qa0 rfl (by kernel_rfl) ?_
   refine qag 19 (by kernel_rfl) ?_
   refine t4 ?_
   refine qbc (qan (k:=_) (sz:=1) (er rfl) (er rfl) rfl rfl qca (by decide)) ?_
   refine t2 ?_
   refine qbc (qan (k:=_) (sz:=2) (er rfl) (er rfl) rfl rfl qca (by decide)) ?_
   refine s1 ?_
   refine qbc (qac call82 (qfr _) ⟨evR,trivial⟩) ?_
   refine t8 ?_
   refine qbc (qan (k:=_) (sz:=1) (er rfl) (er rfl) rfl rfl qca (by decide)) ?_
   refine ⟨rfl,?_⟩
   refine qef (by kernel_rfl) rfl (qav (er rfl) (er rfl) qbn qae qbo rf rf rf) ?_
   refine qat ?_
   refine t7 ?_
   refine qam (b:=i6) (As':=tPg.cells (⟨_,_,_,_,_,_,_,_,_⟩:Pg)) qae qkh ?_
   first|((guard_hyp hlt:(0:Nat)<8);refine qaa (1,(⟨_,_,_,_,_,_,_,_,_⟩:Pg)) ?_ ?_ qdl qab)|((guard_hyp hlt:(1:Nat)<8);refine qaa (2,(⟨_,_,_,_,_,_,_,_,_⟩:Pg)) ?_ ?_ qdl qab)|((guard_hyp hlt:(2:Nat)<8);refine qaa (3,(⟨_,_,_,_,_,_,_,_,_⟩:Pg)) ?_ ?_ qdl qab)|((guard_hyp hlt:(3:Nat)<8);refine qaa (4,(⟨_,_,_,_,_,_,_,_,_⟩:Pg)) ?_ ?_ qdl qab)|((guard_hyp hlt:(4:Nat)<8);refine qaa (5,(⟨_,_,_,_,_,_,_,_,_⟩:Pg)) ?_ ?_ qdl qab)|((guard_hyp hlt:(5:Nat)<8);refine qaa (6,(⟨_,_,_,_,_,_,_,_,_⟩:Pg)) ?_ ?_ qdl qab)|((guard_hyp hlt:(6:Nat)<8);refine qaa (7,(⟨_,_,_,_,_,_,_,_,_⟩:Pg)) ?_ ?_ qdl qab)|((guard_hyp hlt:(7:Nat)<8);refine qaa (8,(⟨_,_,_,_,_,_,_,_,_⟩:Pg)) ?_ ?_ qdl qab)
   ·exact ⟨by omega,hI⟩
   ·exact (by omega)
 have hke:k=8:=by have:=of_decide_eq_false h6;omega
 clear h6
 subst hke
 refine t13 ?_
 exact qcd (Bs:=[_,_]) ((⟨_,_,_,_,_,_,_,_,_⟩:Pg),_) rfl results227 eX (List.nil_sublist _) (by exact by exact qvl hI)
end Go.Proofs.YtmgoplaamlignaaGreat
