/- Texts laid together: walks of functions, what they compute, and plain laws of it. Own work. -/
import Derived.Test.YtmgoplaamlignaaGreatK32
import Derived.Test.YtmgoplaamlignaaGreatK12
import Derived.Test.YtmgoplaamlignaaGreatK8
import Derived.Test.YtmgoplaamlignaaGreatK10
import Derived.Test.YtmgoplaamlignaaGreatK1
namespace Go.Proofs.YtmgoplaamlignaaGreat
open Go.RowKit Tryz
set_option linter.unusedVariables false
set_option linter.unusedSimpArgs false
set_option maxRecDepth 100000
set_option maxHeartbeats 4000000
theorem qjk (p:Pg):FnP Tryz.prog 190 [qdw p] (qek (fun r:N24×Int=>qhy r.1) fun r=>qbv [qv5 r.1,Is (.int .i64 r.2)]):=by
 refine FnP.enter func190 ntmps190 rfl rfl ?_
 intro c hX
 refine t3 ?_
 intro i1
 refine s1 ?_
 intro i2
 refine t6 ?_
 refine kRF call204 (qoz _) ?_
 refine t18 ?_
 refine qap rfl (by exact qex (k:=16) ql1 (er rfl) (by omega) qca) ?_
 refine t3 ?_
 refine qap rfl (by exact qex (k:=17) ql1 (er rfl) (by omega) qca) ?_
 refine t8 ?_
 intro i6
 refine t8 ?_
 refine qap rfl (by exact qhi (k:=32) qgi (er rfl) (by omega) qca) ?_
 refine t8 ?_
 refine kRF call63 (qel _) ?_
 refine t3 ?_
 (refine qcq rfl rfl rfl (fun hg=>(by have hg0:=hg;(try simp at hg);exact qex (k:=18) qiw evG (by omega) qca)) ?_)
 refine t8 ?_
 refine cN ?_ ?_ <;> intro h5
 ·refine t9 ?_
  exact qmn ((⟨_,_,_,_,(⟨_,_⟩:Pt),_⟩:N24),_) results190 (hp:=by exact qdt)
 refine t9 ?_
 refine qb3 [(1,_),(2,_),(3,_),(5,_),(6,_)] [blk i2 _ _,blk i1 _ _] (fun yc:Pt×Int×Bool×Bool×(BitVec 32)=>True) (fun yc=>[]) (fun yc=>[blk i6 268 [Is (.int .i64 yc.2.1),Is (.bool yc.2.2.1),Is (.bool yc.2.2.2.1),Is (.int .u32 (UV yc.2.2.2.2)),Is (.int .i64 yc.1.line),Is (.int .i64 yc.1.gen),Is (.slice none 0 0)]]) qah qab ?_ ?_
 rotate_left
 focus
  refine cN ?_ ?_ <;> intro h7
  ·refine t3 ?_
   refine kRF call103 (qfg _) ?_
   refine t8 ?_
   refine kRF call70 (qb8 _) ?_
   refine t3 ?_
   refine cN ?_ ?_ <;> intro h9
   ·refine t9 ?_
    exact qmn ((⟨_,_,_,_,(⟨_,_⟩:Pt),_⟩:N24),_) results190 (hp:=by exact qdt)
   refine s1 ?_
   exact qak ((⟨_,_⟩:Pt),_,_,_,_) (trivial) qah qab
  refine s1 ?_
  exact qak ((⟨_,_⟩:Pt),_,_,_,_) (trivial) qah qab
 rintro ⟨rt,lv,lm,dd,hg⟩ _
 dsimp only
 refine t7 ?_
 refine qcn 281 tEn ?_
 refine qaz [(1,_),(2,_),(3,_),(5,_),(6,_)] [blk i2 _ _,blk i1 _ _] (fun y:Nat×(List En)×(Option Addr×Nat)=>y.1≤5∧(y.2.1.length≤y.1)) (fun y=>[(8,Is (.int .i64 (y.1:Nat)))]) (fun y=>[blk i6 268 [Is (.int .i64 lv),Is (.bool lm),Is (.bool dd),Is (.int .u32 (UV hg)),Is (.int .i64 rt.line),Is (.int .i64 rt.gen),Is (slV (y.2.1).length y.2.2)],buf (slV (y.2.1).length y.2.2) 281 tEn (y.2.1)]) (fun y=>5-y.1) (0,[],(none,0)) ?_ qah qab ?_
 ·exact ⟨by exact Nat.zero_le _,Nat.le_refl 0⟩
 rintro ⟨k,es,v_0⟩ ⟨hk,hI⟩
 dsimp only at hk hI ⊢
 refine t7 ?_
 refine cN ?_ ?_ <;> intro h12
 ·have hlt:k<5:=by have:=of_decide_eq_true h12;omega
  clear h12
  rcases (show k=0∨k=1∨k=2∨k=3∨k=4 by omega) with rfl|rfl|rfl|rfl|rfl
  all_goals
   refine t9 ?_
   refine qap rfl (qan (k:=_) (sz:=1) (er rfl) (er rfl) rfl rfl qca (by decide)) ?_
   refine t16 ?_
   refine cN ?_ ?_ <;> intro h15
   ·refine t14 ?_
    exact qmn ((⟨_,_,_,_,(⟨_,_⟩:Pt),_⟩:N24),_) results190 (hp:=by exact qdt)
   refine t9 ?_
   refine cN ?_ ?_ <;> intro h17
   ·refine qa0 rfl (by kernel_rfl) ?_
    refine qag 10 (by kernel_rfl) ?_
    refine t3 ?_
    refine qbc (by exact qhi (k:=32) qgi (er rfl) (by omega) qca) ?_
    refine t3 ?_
    refine qbc (qac call103 (qfg _) ⟨qar,trivial⟩) ?_
    refine s1 ?_
    refine qbc (OpP.to (qad (size:=3) (qs:=[(0,_)]) rfl rfl rfl ⟨⟨rfl,_,(er rfl),qaf⟩,trivial⟩ rf rf) (SubL.row1 (T:=tEn) (x:=(⟨_,(⟨_,_⟩:Pt)⟩:En)) rf rf rf qaj)) ?_
    refine ⟨rfl,?_⟩
    (refine JD_s (by kernel_rfl) rfl rfl (qb9 (er rfl) (fun _=>qae) (by exact er rfl) (by exact qep rfl rfl rfl) qbt) ?_;intro i90)
    refine qag 1 (by kernel_rfl) ?_
    refine s1 ?_
    refine ⟨rfl,?_⟩
    refine qef (by kernel_rfl) rfl (qav (er rfl) (er rfl) qaf qae qbo rf rf rf) ?_
    refine qat ?_
    refine t7 ?_
    first|((guard_hyp hlt:(0:Nat)<5);refine qaa (1,_,_) ?_ ?_ qah qab)|((guard_hyp hlt:(1:Nat)<5);refine qaa (2,_,_) ?_ ?_ qah qab)|((guard_hyp hlt:(2:Nat)<5);refine qaa (3,_,_) ?_ ?_ qah qab)|((guard_hyp hlt:(3:Nat)<5);refine qaa (4,_,_) ?_ ?_ qah qab)|((guard_hyp hlt:(4:Nat)<5);refine qaa (5,_,_) ?_ ?_ qah qab)
    ·exact ⟨by omega,by (simp only [List.length_append,List.length_cons,List.length_nil];omega)⟩
    ·exact (by omega)
   refine t8 ?_
   first|((guard_hyp hlt:(0:Nat)<5);refine qaa (1,_,_) ?_ ?_ qah qab)|((guard_hyp hlt:(1:Nat)<5);refine qaa (2,_,_) ?_ ?_ qah qab)|((guard_hyp hlt:(2:Nat)<5);refine qaa (3,_,_) ?_ ?_ qah qab)|((guard_hyp hlt:(3:Nat)<5);refine qaa (4,_,_) ?_ ?_ qah qab)|((guard_hyp hlt:(4:Nat)<5);refine qaa (5,_,_) ?_ ?_ qah qab)
   ·exact ⟨by omega,by (dsimp only;omega)⟩
   ·exact (by omega)
 have hke:k=5:=by have:=of_decide_eq_false h12;omega
 clear h12
 subst hke
 refine qa8 hX (v:=slV es.length v_0) qae ?_
 refine qbq (b:=i6) (As':=tN24.cells ⟨lv,lm,dd,hg,rt,es⟩) qae qba ?_
 refine t9 ?_
 refine kRF call222 (qlt ⟨lv,lm,dd,hg,rt,es⟩) ?_
 refine t3 ?_
 refine cN ?_ ?_ <;> intro h19
 ·refine t9 ?_
  exact qmn ((⟨_,_,_,_,(⟨_,_⟩:Pt),_⟩:N24),_) results190 (hp:=by exact qdt)
 have hv:vN ⟨lv,lm,dd,hg,rt,es⟩=true:=by simpa using h19
 refine t10 ?_
 exact qmn ((⟨_,_,_,_,(⟨_,_⟩:Pt),_⟩:N24),_) results190 (hp:=by exact vN_ok hv)
section
variable {P:Program} {c:Ctx} {A:Nat→Option VP} {L:List Item} {d:Option Tmp} {ty:TypeId} {pos:String} {af:Array Edge} {g:Option (Nat×Bool)}
theorem qyl {s:TypeId} {x:Operand} {i n:Nat} {fs:Array Field} {f:Field} {As Rs:List VP} {D:TypeDesc} (hx:Ev A L x (IsAgg As)) (hu:P.underlying s=some (.struct fs)) (hf:fs[i]?=some f) (hD:P.underlying f.type=some D) (hd:qr4 D=true) (hn:(P.info? f.type).map (·.size)=some n) (hR:(As.drop f.offset).take n=Rs) :
  OpP P c ⟨d,.field s x i,ty,pos,af,g⟩ A L (IsAgg Rs):=
 opp fun φ a w hm he=>by
  obtain ⟨vs,h1,h2,h3⟩:(IsAgg As).ok φ (a.eval x):=he x (by simp [Op.operands]) _ hx
  obtain ⟨v,h4,h5⟩:=qs4 (w:=w) h2 h3 hD hd hn hR
  refine ⟨v,?_,h5⟩
  simp only [execOp,h1]
  refine qcg ?_
  simp only [Instr.field,asAgg,Sem.run_bind,Sem.run_pure,run_underlying hu,Result.andThen_ok,hf]
  exact h4
end
def PL24 (level:Int) (key:BitVec 32) (r:P24):Prop:=r.need.length≤1∧qhy r.node∧(r.need=[]→r.noTree=false→r.none=false→r.code=0→r.node.level=level∧UV key≤UV r.node.high)∧Ln r.page
theorem qh8 (key:BitVec 32) (level:Int) (ks:List Pg) (h0:0≤level):FnP Tryz.prog 164 [Is (.int .u32 (UV key)),Is (.int .i64 level),qal tPg ks] (qek (PL24 level key) fun r=>qum r):=by
 refine FnP.enter func164 ntmps164 rfl rfl ?_
 intro c hX
 refine t3 ?_
 intro i6
 refine t5 ?_
 refine kRF call19 (qbu _ _) ?_
 refine t4 ?_
 intro i7
 refine t11 ?_
 refine cN ?_ ?_ <;> intro h2
 ·refine t2 ?_
  refine qap rfl (OpP.to (qad (size:=1) (qs:=[(0,_)]) rfl rfl rfl ⟨⟨rfl,_,(er rfl),qaf⟩,trivial⟩ rf rf) (SubL.row1 (T:=tI64) (x:=_) rf rf rf qaj)) ?_
  refine t6 ?_
  exact rXF (⟨_,_,_,_,(⟨_,_,_,_,_,_,_,_,_⟩:Pg),(⟨_,_,_,_,(⟨_,_⟩:Pt),_⟩:N24),(⟨_,_,_,_,(⟨_,_⟩:Pt),_⟩:N24),_,_,_⟩:P24) results164 (hp:=by exact ⟨Nat.le_refl _,qdt,fun h=>absurd h (List.cons_ne_nil _ _),ln0⟩)
 refine t5 ?_
 refine kRF call189 (qlv _) ?_
 (refine qf1 30 rfl ?_;intro x30)
 refine t5 ?_
 intro i9
 refine t12 ?_
 refine cN ?_ ?_ <;> intro h5
 ·refine t8 ?_
  exact rXF (⟨_,_,_,_,(⟨_,_,_,_,_,_,_,_,_⟩:Pg),(⟨_,_,_,_,(⟨_,_⟩:Pt),_⟩:N24),(⟨_,_,_,_,(⟨_,_⟩:Pt),_⟩:N24),_,_,_⟩:P24) results164 (hp:=by exact ⟨Nat.zero_le _,qdt,fun _ _ _ h=>absurd (show (14:Int)=0 from h) (by decide),ln0⟩)
 refine t7 ?_
 refine qap rfl (qdc (er rfl) (er rfl)) ?_
 refine t2 ?_
 refine cN ?_ ?_ <;> intro h7
 ·refine t8 ?_
  exact rXF (⟨_,_,_,_,(⟨_,_,_,_,_,_,_,_,_⟩:Pg),(⟨_,_,_,_,(⟨_,_⟩:Pt),_⟩:N24),(⟨_,_,_,_,(⟨_,_⟩:Pt),_⟩:N24),_,_,_⟩:P24) results164 (hp:=by exact ⟨Nat.zero_le _,qdt,fun _ h=>Bool.noConfusion h,ln0⟩)
 refine t6 ?_
 intro i12
 refine t9 ?_
 refine qbq (b:=i9) (As':=tPt.cells (⟨_,_⟩:Pt)) qae qba ?_
 refine qbq (b:=i12) (As':=tP24.cells (⟨_,_,_,_,(⟨_,_,_,_,_,_,_,_,_⟩:Pg),(⟨_,_,_,_,(⟨_,_⟩:Pt),_⟩:N24),(⟨_,_,_,_,(⟨_,_⟩:Pt),_⟩:N24),_,_,_⟩:P24)) qae qba ?_
 refine qaz [(0,_),(1,_),(2,_),(6,_),(9,_),(12,_)] [blk i6 _ _] (fun y:Pt×P24×Int=>(y.2.1.need=[]∧Ln y.2.1.page)∧qhy y.2.1.node∧(0≤y.2.1.hops∧y.2.1.hops≤256)∧(y.2.2 = -1∨(level≤y.2.2∧y.2.2≤8))) (fun y=>[(13,Is (.int .i64 y.2.2))]) (fun y=>[blk i9 88 (tPt.cells y.1),blk i12 270 (tP24.cells y.2.1)]) (fun y=>((if y.2.2<0 then 10 else y.2.2)+(257-y.2.1.hops)).toNat) ((⟨_,_⟩:Pt),(⟨_,_,_,_,(⟨_,_,_,_,_,_,_,_,_⟩:Pg),(⟨_,_,_,_,(⟨_,_⟩:Pt),_⟩:N24),(⟨_,_,_,_,(⟨_,_⟩:Pt),_⟩:N24),_,_,_⟩:P24),-1) ?_ qah qab ?_
 ·exact (⟨⟨rfl,ln0⟩,qdt,⟨(show (0:Int)≤0 by omega),(show (0:Int)≤256 by omega)⟩,Or.inl rfl⟩)
 rintro ⟨a,o,w⟩ hI
 dsimp only at hI ⊢
 refine t5 ?_
 refine kRF call167 (qhp _ _ _ _) ?_
 refine t5 ?_
 intro i14
 refine t7 ?_
 obtain ⟨⟨hi1,hip⟩,hi2,hi3,hi4⟩:=hI
 refine t5 ?_
 refine cN ?_ ?_ <;> intro h12
 ·have hc:(lkV ks a 4 false).2.2≠0:=by simpa using h12
  refine t18 ?_
  exact rXF (⟨_,_,_,_,(⟨_,_,_,_,_,_,_,_,_⟩:Pg),(⟨_,_,_,_,(⟨_,_⟩:Pt),_⟩:N24),(⟨_,_,_,_,(⟨_,_⟩:Pt),_⟩:N24),_,_,_⟩:P24) results164 (hp:=by exact ⟨by rw [hi1];exact Nat.zero_le _,hi2,fun _ _ _ h=>absurd h hc,hip⟩)
 refine t9 ?_
 refine cN ?_ ?_ <;> intro h15
 ·refine t4 ?_
  refine qap rfl (OpP.to (qad (size:=1) (qs:=[(0,_)]) rfl rfl rfl ⟨⟨rfl,_,(er rfl),qaf⟩,trivial⟩ rf rf) (SubL.row1 (T:=tI64) (x:=_) rf rf rf qaj)) ?_
  refine t9 ?_
  exact rXF (⟨_,_,_,_,(⟨_,_,_,_,_,_,_,_,_⟩:Pg),(⟨_,_,_,_,(⟨_,_⟩:Pt),_⟩:N24),(⟨_,_,_,_,(⟨_,_⟩:Pt),_⟩:N24),_,_,_⟩:P24) results164 (hp:=by exact ⟨Nat.le_refl _,qdt,fun h=>absurd h (List.cons_ne_nil _ _),ln0⟩)
 refine t5 ?_
 refine kRF call190 (qjk _) ?_
 (refine qa5 62 rfl ?_;intro x62 hx62)
 refine t4 ?_
 intro i17
 refine t6 ?_
 obtain ⟨hn1,hn2,hn3⟩:=id hx62
 refine t15 ?_
 refine cN ?_ ?_ <;> intro h18
 ·refine t17 ?_
  exact rXF (⟨_,_,_,_,(⟨_,_,_,_,_,_,_,_,_⟩:Pg),(⟨_,_,_,_,(⟨_,_⟩:Pt),_⟩:N24),(⟨_,_,_,_,(⟨_,_⟩:Pt),_⟩:N24),_,_,_⟩:P24) results164 (hp:=by exact ⟨by rw [hi1];exact Nat.zero_le _,hi2,fun _ _ _ h=>absurd (show (14:Int)=0 from h) (by decide),hip⟩)
 have hw:w<0∨x62.1.level=w:=by
  by_cases hw0:w<0
  ·exact Or.inl hw0
  ·refine Or.inr ?_
   rw [decide_eq_true (show w≥0 by omega),Bool.true_and,Bool.or_eq_false_iff] at h18
   simpa using h18.2
 clear h18
 refine t9 ?_
 refine qb3 [(0,_),(1,_),(2,_),(6,_),(9,_),(12,_),(13,_),(14,_),(15,_),(16,_),(17,_),(18,_),(42,_),(43,_),(44,_),(45,_),(46,_),(47,_),(48,_),(49,_),(54,_),(60,_),(61,_),(62,_),(63,_),(64,_),(65,_),(66,_),(67,_),(68,_),(69,_),(70,_),(71,_),(72,_),(73,_),(74,_),(75,_),(79,_)] [blk i17 _ _,blk i14 _ _,blk i9 _ _,blk i6 _ _] (fun yc:P24=>(yc.need=[]∧Ln yc.page)∧qhy yc.node∧yc.hops=o.hops∧level≤x62.1.level) (fun yc=>[]) (fun yc=>[blk i12 270 (tP24.cells yc)]) qah qab ?_ ?_
 rotate_left
 focus
  refine cN ?_ ?_ <;> intro h21
  ·refine t15 ?_
   refine cN ?_ ?_ <;> intro h23
   ·refine t11 ?_
    exact rXF (⟨_,_,_,_,(⟨_,_,_,_,_,_,_,_,_⟩:Pg),(⟨_,_,_,_,(⟨_,_⟩:Pt),_⟩:N24),(⟨_,_,_,_,(⟨_,_⟩:Pt),_⟩:N24),_,_,_⟩:P24) results164 (hp:=by exact ⟨Nat.zero_le _,qdt,fun _ _ h=>Bool.noConfusion h,ln0⟩)
   have hl0:=of_decide_eq_false h23
   refine s1 ?_
   refine qam (b:=i12) (As':=tP24.cells (⟨_,_,_,_,(⟨_,_,_,_,_,_,_,_,_⟩:Pg),(⟨_,_,_,_,(⟨_,_⟩:Pt),_⟩:N24),(⟨_,_,_,_,(⟨_,_⟩:Pt),_⟩:N24),_,_,_⟩:P24)) qae qba ?_
   refine qak (⟨_,_,_,_,(⟨_,_,_,_,_,_,_,_,_⟩:Pg),(⟨_,_,_,_,(⟨_,_⟩:Pt),_⟩:N24),(⟨_,_,_,_,(⟨_,_⟩:Pt),_⟩:N24),_,_,_⟩:P24) ?_ qah qab
   ·exact (⟨⟨hi1,hip⟩,hi2,rfl,by omega⟩)
  have hw0:=of_decide_eq_false h21
  refine s1 ?_
  refine qam (b:=i12) (As':=tP24.cells (⟨_,_,_,_,(⟨_,_,_,_,_,_,_,_,_⟩:Pg),(⟨_,_,_,_,(⟨_,_⟩:Pt),_⟩:N24),(⟨_,_,_,_,(⟨_,_⟩:Pt),_⟩:N24),_,_,_⟩:P24)) qae qba ?_
  refine qak (⟨_,_,_,_,(⟨_,_,_,_,_,_,_,_,_⟩:Pg),(⟨_,_,_,_,(⟨_,_⟩:Pt),_⟩:N24),(⟨_,_,_,_,(⟨_,_⟩:Pt),_⟩:N24),_,_,_⟩:P24) ?_ qah qab
  ·exact (⟨⟨hi1,hip⟩,hi2,rfl,by omega⟩)
 rintro o2 hI
 refine t9 ?_
 obtain ⟨⟨hq1,hqp⟩,hq2,hq3,hq4⟩:=hI
 refine t11 ?_
 refine cN ?_ ?_ <;> intro h26
 ·refine t40 ?_
  refine t4 ?_
  (refine qcq rfl rfl rfl (fun hg=>(by have hg0:=hg;(try simp at hg);exact qdc evG evG)) ?_)
  refine t3 ?_
  refine cN ?_ ?_ <;> intro h30
  ·refine t18 ?_
   exact rXF (⟨_,_,_,_,(⟨_,_,_,_,_,_,_,_,_⟩:Pg),(⟨_,_,_,_,(⟨_,_⟩:Pt),_⟩:N24),(⟨_,_,_,_,(⟨_,_⟩:Pt),_⟩:N24),_,_,_⟩:P24) results164 (hp:=by exact ⟨by rw [hq1];exact Nat.zero_le _,hq2,fun _ _ _ h=>absurd (show (14:Int)=0 from h) (by decide),hqp⟩)
  have hh:¬ (o2.hops+1>256):=by
   simp only [Bool.or_eq_false_iff] at h30
   have:=of_decide_eq_false h30.1
   exact this
  clear h30
  refine t12 ?_
  refine qam (b:=i9) (As':=tPt.cells (⟨_,_⟩:Pt)) qae qba ?_
  refine qam (b:=i12) (As':=tP24.cells (⟨_,_,_,_,(⟨_,_,_,_,_,_,_,_,_⟩:Pg),(⟨_,_,_,_,(⟨_,_⟩:Pt),_⟩:N24),(⟨_,_,_,_,(⟨_,_⟩:Pt),_⟩:N24),_,_,_⟩:P24)) qae qba ?_
  refine qaa ((⟨_,_⟩:Pt),(⟨_,_,_,_,(⟨_,_,_,_,_,_,_,_,_⟩:Pg),(⟨_,_,_,_,(⟨_,_⟩:Pt),_⟩:N24),(⟨_,_,_,_,(⟨_,_⟩:Pt),_⟩:N24),_,_,_⟩:P24),_) ?_ ?_ qah qab
  ·exact ⟨⟨hq1,hqp⟩,hq2,⟨(show 0≤o2.hops+1 by omega),(show o2.hops+1≤256 by omega)⟩,Or.inr ⟨(show level≤x62.1.level by omega),(show x62.1.level≤8 by omega)⟩⟩
  ·(show ((if x62.1.level<0 then (10:Int) else x62.1.level)+(257-(o2.hops+1))).toNat<((if w<0 then (10:Int) else w)+(257-o.hops)).toNat;rw [if_neg (show ¬ x62.1.level<0 by omega)];split <;> omega)
 refine t11 ?_
 refine cN ?_ ?_ <;> intro h34
 ·refine qd2 (b:=i14) hX qae ?_
  refine qb0 14 (qdo (tPg.cells (lkV ks a 4 false).1)) rfl qfm ?_
  refine qd2 (b:=i17) hX qae ?_
  refine qb0 17 (qdo (tN24.cells x62.1)) rfl qfm ?_
  have hlv:x62.1.level=level:=by simpa using h34
  have hky:UV key≤UV x62.1.high:=by
   rw [Bool.or_eq_false_iff] at h26
   have:=of_decide_eq_false h26.2
   omega
  refine s1 ?_
  refine qa0 rfl (by kernel_rfl) ?_
  refine qct [0,0,0,2,0,2] (by kernel_rfl) (by kernel_rfl) ?_
  refine qb7 (by exact qcm (n:=9) (er rfl) rfl rfl rfl rf qbo) ?_
  refine qb7 (by exact qcm (n:=7) (er rfl) rfl rfl rfl rf qbo) ?_
  refine qb7 (by exact qbf (k:=4) (er rfl) rfl rfl rfl rfl) ?_
  refine qiy (qav (er rfl) (er rfl) qaf qae qbo rf rf rf) ?_
  refine qb7 (by exact qbf (k:=13) (er rfl) rfl rfl rfl rfl) ?_
  refine qiy (qav (er rfl) (er rfl) qaf qae qbo rf rf rf) ?_
  refine qeu ?_
  refine qat ?_
  refine t5 ?_
  refine kRF call49 (qb5 _) ?_
  refine t2 ?_
  refine cN ?_ ?_ <;> intro h36
  ·refine t16 ?_
   exact rXF (⟨_,_,_,_,(⟨_,_,_,_,_,_,_,_,_⟩:Pg),(⟨_,_,_,_,(⟨_,_⟩:Pt),_⟩:N24),(⟨_,_,_,_,(⟨_,_⟩:Pt),_⟩:N24),_,_,_⟩:P24) results164 (hp:=by exact ⟨by rw [hq1];exact Nat.zero_le _,hx62,fun _ _ _ _=>⟨hlv,hky⟩,qe7 _ _ _ _⟩)
  refine t13 ?_
  exact rXF (⟨_,_,_,_,(⟨_,_,_,_,_,_,_,_,_⟩:Pg),(⟨_,_,_,_,(⟨_,_⟩:Pt),_⟩:N24),(⟨_,_,_,_,(⟨_,_⟩:Pt),_⟩:N24),_,_,_⟩:P24) results164 (hp:=by exact ⟨by rw [hq1];exact Nat.zero_le _,hx62,fun _ _ _ _=>⟨hlv,hky⟩,qe7 _ _ _ _⟩)
 have hne:x62.1.level≠level:=by simpa using h34
 refine t13 ?_
 refine qap rfl (by ((refine qac call191 (child_ok x62.1 _ ?_) ⟨qar,⟨qar,trivial⟩⟩);all_goals (omega))) ?_
 (refine qf1 147 rfl ?_;intro x147)
 refine qap rfl (qyl (n:=2) (er rfl) rfl rfl rfl rfl rfl qbo) ?_
 refine t3 ?_
 refine qam (b:=i9) (As':=tPt.cells (⟨_,_⟩:Pt)) qae qba ?_
 refine qam (b:=i12) (As':=tP24.cells (⟨_,_,_,_,(⟨_,_,_,_,_,_,_,_,_⟩:Pg),(⟨_,_,_,_,(⟨_,_⟩:Pt),_⟩:N24),(⟨_,_,_,_,(⟨_,_⟩:Pt),_⟩:N24),_,_,_⟩:P24)) qae qba ?_
 refine qaa ((⟨_,_⟩:Pt),(⟨_,_,_,_,(⟨_,_,_,_,_,_,_,_,_⟩:Pg),(⟨_,_,_,_,(⟨_,_⟩:Pt),_⟩:N24),(⟨_,_,_,_,(⟨_,_⟩:Pt),_⟩:N24),_,_,_⟩:P24),_) ?_ ?_ qah qab
 ·exact ⟨⟨hq1,hqp⟩,hq2,⟨(show 0≤o2.hops by omega),(show o2.hops≤256 by omega)⟩,Or.inr ⟨(show level≤x62.1.level-1 by omega),(show x62.1.level-1≤8 by omega)⟩⟩
 ·(show ((if x62.1.level-1<0 then (10:Int) else x62.1.level-1)+(257-o2.hops)).toNat<((if w<0 then (10:Int) else w)+(257-o.hops)).toNat;rw [if_neg (show ¬ x62.1.level-1<0 by omega)];split <;> omega)
@[reducible] def zdg (a:O24):VP:=IsAgg [Is (.int .i64 a.code),Is (.bool a.found),Is (.bool a.done),Is (.bool a.split),Is (.bool a.unposted),Is (.bool a.dead),Is (.bool a.more),Is (.int .i64 a.to.line),Is (.int .i64 a.to.gen),Is (.slice none 0 0),qal tI64 a.check,Is (.int .i64 a.hops),Is (.int .i64 a.fresh),Is (.int .i64 a.height)]
def qx2 (r:S24):Prop:=WL 2 r.writes∧r.need.length≤1∧r.out.check.length≤300
theorem qpj (p:Pg) (n:N24) (l:List En) (fr:List Pg) (x:Int) (o:O24) (hl:l.length≤7) (ho:o.check.length≤1) (hp:Ln p):FnF Tryz.prog 203 [qdw p,qv5 n,qal tEn l,qal tPg fr,Is (.int .i64 x),qv4 o] (fun B=>qek qx2 fun r=>qjm B r):=by
 refine FnF.enter func203 ntmps203 rfl rfl ?_
 intro c hX
 refine t3 ?_
 intro i6
 refine s1 ?_
 intro i7
 refine s1 ?_
 intro i11
 refine s1 ?_
 intro i12
 refine t10 ?_
 refine cN ?_ ?_ <;> intro h1
 ·refine t11 ?_
  refine qap rfl (by ((refine qac call202 (qdq _ (⟨_,_,_,_,(⟨_,_⟩:Pt),_⟩:N24) ?_) ⟨qbb,⟨qbb,trivial⟩⟩);all_goals (first|first|assumption|exact qe7 _ _ _ _|exact qdd _ ⟨by decide,by decide⟩))) ?_
  refine t4 ?_
  intro i13
  refine t5 ?_
  refine qcw (b:=i13) (fun _=>qae) ?_
  intro p13 hln13
  refine t8 ?_
  refine qap rfl (OpP.fr (qa2 (size:=9) (qs:=[(0,_)]) rfl rfl rfl ⟨⟨rfl,_,(er rfl),qaf⟩,trivial⟩ rf rf) qcf (SubL.row1 (T:=tPg) (x:=(⟨_,_,_,_,_,_,_,_,_⟩:Pg)) rf rf rf qaj)) ?_
  refine t7 ?_
  exact rXF (⟨_,_,(⟨_,_,_,_,_,_,_,(⟨_,_⟩:Pt),_,_,_,_,_⟩:O24),_⟩:S24) results203 (hp:=by exact ⟨wl1 (by assumption),Nat.zero_le _,Nat.le_trans ho (by omega)⟩)
 have hl5:5<l.length:=by have:=of_decide_eq_false h1;omega
 have hz2:l[2]?=some _:=List.getElem?_eq_getElem (by omega)
 refine t5 ?_
 refine qap rfl (OpP.to (qad (size:=1) (qs:=[(0,_)]) rfl rfl rfl ⟨⟨rfl,_,(er rfl),qaf⟩,trivial⟩ rf rf) (SubL.row1 (T:=tI64) (x:=_) rf rf rf qaj)) ?_
 refine t3 ?_
 refine qap rfl (OpP.to (qad (size:=1) (qs:=[(0,_),(1,_)]) rfl rfl rfl ⟨⟨rfl,_,(er rfl),qaf⟩,⟨⟨rfl,_,(er rfl),qaf⟩,trivial⟩⟩ rf rf) (SubL.row2 (T:=tI64) (x:=_) (y:=_) rf rf rf rf qaj qaj)) ?_
 refine qap rfl (by ((refine qac call224 (qqc _ [4] [p.l,x] ?_ ?_) ⟨qar,⟨qar,⟨qar,trivial⟩⟩⟩);all_goals (first|decide|simp))) ?_
 (refine qa5 45 rfl ?_;intro x45 hx45)
 refine t14 ?_
 refine cN ?_ ?_ <;> intro h7
 ·refine t16 ?_
  refine kXF call192 (qa3 c.w.heap.size (⟨_,_,_,_,_,_,_,(⟨_,_⟩:Pt),_,_,_,_,_⟩:O24) _) ?_
  refine t5 ?_
  exact rXF (⟨_,_,(⟨_,_,_,_,_,_,_,(⟨_,_⟩:Pt),_,_,_,_,_⟩:O24),_⟩:S24) results203 (hp:=by exact ⟨wl0,Nat.zero_le _,Nat.zero_le _⟩)
 refine t9 ?_
 refine cN ?_ ?_ <;> intro h11
 ·refine t10 ?_
  refine kXF call192 (qa3 c.w.heap.size (⟨_,_,_,_,_,_,_,(⟨_,_⟩:Pt),_,_,_,_,_⟩:O24) _) ?_
  refine t5 ?_
  exact rXF (⟨_,_,(⟨_,_,_,_,_,_,_,(⟨_,_⟩:Pt),_,_,_,_,_⟩:O24),_⟩:S24) results203 (hp:=by exact ⟨wl0,Nat.zero_le _,Nat.zero_le _⟩)
 obtain ⟨hlu,hlv⟩:=hx45 (by simpa using h11)
 obtain ⟨pa,hza⟩:=qtc hlu
 have hla:Ln pa:=hlv _ (List.mem_of_getElem? hza)
 refine t3 ?_
 refine qa0 rfl (by kernel_rfl) ?_
 refine qag 11 (by kernel_rfl) ?_
 refine t7 ?_
 refine qbc (qdb (er rfl) rfl rfl ⟨_,_,(er rfl),(show _=((3:Nat):Int) by rfl)⟩ rfl (by omega) (by omega)) ?_
 refine s1 ?_
 refine qka (qbi rfl qbo rfl) ?_
 refine qcp rfl rfl rfl (by kernel_rfl) (qbz qar qaf rfl rfl rfl qbo) ?_
 refine ⟨rfl,?_⟩
 intro i17
 refine qat ?_
 refine t4 ?_
 refine qap rfl (qdb (er rfl) rfl rfl rfl ⟨_,_,(er rfl),(show _=((3:Nat):Int) by rfl)⟩ (by omega) (by omega)) ?_
 refine t7 ?_
 refine qap rfl (by exact qau (j:=2) (er rfl) (er rfl) rfl rfl rf hz2) ?_
 refine t9 ?_
 refine qap rfl (by exact qau (j:=0) (er rfl) (er rfl) rfl rfl rf hza) ?_
 refine s1 ?_
 refine kRF call184 (qhg _) ?_
 refine t8 ?_
 refine qap rfl (by ((refine qac call202 (qdq _ (⟨_,_,_,_,(⟨_,_⟩:Pt),_⟩:N24) ?_) ⟨qbb,⟨qbb,trivial⟩⟩);all_goals (first|first|assumption|exact qe7 _ _ _ _|exact qdd _ ⟨by decide,by decide⟩))) ?_
 refine t4 ?_
 intro i18
 refine t5 ?_
 refine qcw (b:=i18) (fun _=>qae) ?_
 intro p18 hln18
 refine qa0 rfl (by kernel_rfl) ?_
 refine qag 11 (by kernel_rfl) ?_
 refine s1 ?_
 refine qbc (by exact qau (j:=0) (er rfl) (er rfl) rfl rfl rf hza) ?_
 refine t2 ?_
 refine qbc (by ((refine qac call202 (qdq _ (⟨_,_,_,_,(⟨_,_⟩:Pt),_⟩:N24) ?_) ⟨qbb,⟨qbb,trivial⟩⟩);all_goals (first|first|assumption|exact qe7 _ _ _ _|exact qdd _ ⟨by decide,by decide⟩))) ?_
 refine t3 ?_
 refine qka (qbi rfl qbo rfl) ?_
 refine qcp rfl rfl rfl (by kernel_rfl) (qbz qar qaf rfl rfl rfl qbo) ?_
 refine s1 ?_
 refine ⟨rfl,?_⟩
 intro i20
 refine qat ?_
 refine t2 ?_
 refine qcw (b:=i20) (fun _=>qae) ?_
 intro p20 hln20
 refine t8 ?_
 refine qa0 rfl (by kernel_rfl) ?_
 refine qag 6 (by kernel_rfl) ?_
 refine t2 ?_
 refine qbc (OpP.fr (qa2 (size:=9) (qs:=[(0,_),(1,_)]) rfl rfl rfl ⟨⟨rfl,_,(er rfl),qaf⟩,⟨⟨rfl,_,(er rfl),qaf⟩,trivial⟩⟩ rf rf) qcf (SubL.row2 (T:=tPg) (x:=(⟨_,_,_,_,_,_,_,_,_⟩:Pg)) (y:=(⟨_,_,_,_,_,_,_,_,_⟩:Pg)) rf rf rf rf qaj qaj)) ?_
 refine qbc (by ((refine qaw call52 (qcc _ _ ?_) ⟨qar,⟨qar,trivial⟩⟩);all_goals ((simp;done)))) ?_
 refine t2 ?_
 refine ⟨rfl,?_⟩
 refine qef (by kernel_rfl) rfl (qav (er rfl) (er rfl) qaf qae qbo rf rf rf) ?_
 refine qat ?_
 refine t2 ?_
 exact rXF (⟨_,_,(⟨_,_,_,_,_,_,_,(⟨_,_⟩:Pt),_,_,_,_,_⟩:O24),_⟩:S24) results203 (hp:=by exact ⟨qgf (n:=0) wl0 (wl2 (n:=0) (by assumption) (by assumption)) (by decide),Nat.zero_le _,Nat.le_trans ho (by omega)⟩)
theorem qtf (op:Op24) (ks:List Pg):FnF Tryz.prog 195 [qmy op,qal tPg ks] (fun B=>qek (fun r=>qx2 r∧(op.kind=8→r.out.done=false)) fun r=>qjm B r):=by
 refine FnF.enter func195 ntmps195 rfl rfl ?_
 intro c hX
 refine t3 ?_
 intro i2
 refine s1 ?_
 intro i4
 refine t15 ?_
 refine cN ?_ ?_ <;> intro h1
 ·refine t3 ?_
  refine kXF call192 (qa3 c.w.heap.size (⟨_,_,_,_,_,_,_,(⟨_,_⟩:Pt),_,_,_,_,_⟩:O24) _) ?_
  refine t5 ?_
  exact rXF (⟨_,_,(⟨_,_,_,_,_,_,_,(⟨_,_⟩:Pt),_,_,_,_,_⟩:O24),_⟩:S24) results195 (hp:=by exact ⟨⟨wl0,Nat.zero_le _,by exact Nat.zero_le _⟩,fun _=>rfl⟩)
 have h8:op.kind≠8:=by
  rw [Bool.or_eq_false_iff] at h1
  simpa using h1.2
 refine t5 ?_
 refine kRF call19 (qbu _ _) ?_
 refine t4 ?_
 intro i5
 refine t8 ?_
 refine kRF call49 (qb5 _) ?_
 refine t2 ?_
 refine cN ?_ ?_ <;> intro h4
 ·refine t3 ?_
  refine kXF call192 (qa3 c.w.heap.size (⟨_,_,_,_,_,_,_,(⟨_,_⟩:Pt),_,_,_,_,_⟩:O24) _) ?_
  refine t5 ?_
  exact rXF (⟨_,_,(⟨_,_,_,_,_,_,_,(⟨_,_⟩:Pt),_,_,_,_,_⟩:O24),_⟩:S24) results195 (hp:=by exact ⟨⟨wl0,Nat.zero_le _,by exact Nat.zero_le _⟩,fun _=>rfl⟩)
 refine t16 ?_
 refine cN ?_ ?_ <;> intro h7
 ·refine t2 ?_
  refine qap rfl (OpP.to (qad (size:=1) (qs:=[(0,_)]) rfl rfl rfl ⟨⟨rfl,_,(er rfl),qaf⟩,trivial⟩ rf rf) (SubL.row1 (T:=tI64) (x:=_) rf rf rf qaj)) ?_
  refine s1 ?_
  refine kXF call192 (qa3 c.w.heap.size (⟨_,_,_,_,_,_,_,(⟨_,_⟩:Pt),_,_,_,_,_⟩:O24) _) ?_
  refine t6 ?_
  exact rXF (⟨_,_,(⟨_,_,_,_,_,_,_,(⟨_,_⟩:Pt),_,_,_,_,_⟩:O24),_⟩:S24) results195 (hp:=by exact ⟨⟨wl0,Nat.zero_le _,by (show 1≤300;omega)⟩,fun _=>rfl⟩)
 refine t6 ?_
 refine cN ?_ ?_ <;> intro h9
 ·refine t4 ?_
  refine qap rfl (OpP.to (qad (size:=1) (qs:=[(0,_)]) rfl rfl rfl ⟨⟨rfl,_,(er rfl),qaf⟩,trivial⟩ rf rf) (SubL.row1 (T:=tI64) (x:=_) rf rf rf qaj)) ?_
  refine qap rfl (OpP.to (qad (size:=1) (qs:=[(0,_)]) rfl rfl rfl ⟨⟨rfl,_,(er rfl),qaf⟩,trivial⟩ rf rf) (SubL.row1 (T:=tI64) (x:=_) rf rf rf qaj)) ?_
  refine qap rfl (by ((refine qac call224 (qqc _ [4] [96] ?_ ?_) ⟨qar,⟨qar,⟨qar,trivial⟩⟩⟩);all_goals (decide))) ?_
  (refine qa5 46 rfl ?_;intro x46 hx46)
  refine t14 ?_
  refine cN ?_ ?_ <;> intro h11
  ·refine t4 ?_
   refine kXF call192 (qa3 c.w.heap.size (⟨_,_,_,_,_,_,_,(⟨_,_⟩:Pt),_,_,_,_,_⟩:O24) _) ?_
   refine t7 ?_
   exact rXF (⟨_,_,(⟨_,_,_,_,_,_,_,(⟨_,_⟩:Pt),_,_,_,_,_⟩:O24),_⟩:S24) results195 (hp:=by exact ⟨⟨wl0,Nat.zero_le _,by exact Nat.zero_le _⟩,fun _=>rfl⟩)
  refine t9 ?_
  refine cN ?_ ?_ <;> intro h13
  ·refine t4 ?_
   refine kXF call192 (qa3 c.w.heap.size (⟨_,_,_,_,_,_,_,(⟨_,_⟩:Pt),_,_,_,_,_⟩:O24) _) ?_
   refine t7 ?_
   exact rXF (⟨_,_,(⟨_,_,_,_,_,_,_,(⟨_,_⟩:Pt),_,_,_,_,_⟩:O24),_⟩:S24) results195 (hp:=by exact ⟨⟨wl0,Nat.zero_le _,by exact Nat.zero_le _⟩,fun _=>rfl⟩)
  obtain ⟨hlu,hlv⟩:=hx46 (by simpa using h13)
  obtain ⟨pa,hza⟩:=qtc hlu
  have hla:Ln pa:=hlv _ (List.mem_of_getElem? hza)
  refine t3 ?_
  refine qa0 rfl (by kernel_rfl) ?_
  refine qag 17 (by kernel_rfl) ?_
  refine s1 ?_
  refine qbc (by exact qau (j:=0) (er rfl) (er rfl) rfl rfl rf hza) ?_
  refine t6 ?_
  refine qbc (OpP.to (qad (size:=3) (qs:=[(0,_)]) rfl rfl rfl ⟨⟨rfl,_,(er rfl),qaf⟩,trivial⟩ rf rf) (SubL.row1 (T:=tEn) (x:=(⟨_,(⟨_,_⟩:Pt)⟩:En)) rf rf rf qaj)) ?_
  refine s1 ?_
  refine qbc (by ((refine qac call202 (qdq _ (⟨_,_,_,_,(⟨_,_⟩:Pt),_⟩:N24) ?_) ⟨qbb,⟨qbb,trivial⟩⟩);all_goals (first|first|assumption|exact qe7 _ _ _ _|exact qdd _ ⟨by decide,by decide⟩))) ?_
  refine t3 ?_
  refine qka (qbi rfl qbo rfl) ?_
  refine qcp rfl rfl rfl (by kernel_rfl) (qbz qar qaf rfl rfl rfl qbo) ?_
  refine s1 ?_
  refine ⟨rfl,?_⟩
  intro i9
  refine qat ?_
  refine t2 ?_
  refine qcw (b:=i9) (fun _=>qae) ?_
  intro p9 hln9
  refine qa0 rfl (by kernel_rfl) ?_
  refine qag 12 (by kernel_rfl) ?_
  refine t2 ?_
  refine qbc (by exact qau (j:=0) (er rfl) (er rfl) rfl rfl rf hza) ?_
  refine s1 ?_
  refine qbc (qac call184 (qhg _) ⟨qar,trivial⟩) ?_
  refine qbc (by ((refine qac call225 (qjg _ (⟨_,_⟩:Pt) _ ?_) ⟨qbb,⟨qbb,⟨qbb,trivial⟩⟩⟩);all_goals (exact qdd _ ⟨by decide,by decide⟩))) ?_
  refine t3 ?_
  refine qka (qbi rfl qbo rfl) ?_
  refine qcp rfl rfl rfl (by kernel_rfl) (qbz qar qaf rfl rfl rfl qbo) ?_
  refine s1 ?_
  refine ⟨rfl,?_⟩
  intro i11
  refine qat ?_
  refine t2 ?_
  refine qcw (b:=i11) (fun _=>qae) ?_
  intro p11 hln11
  refine t3 ?_
  refine qap rfl (OpP.fr (qa2 (size:=9) (qs:=[(0,_),(1,_)]) rfl rfl rfl ⟨⟨rfl,_,(er rfl),qaf⟩,⟨⟨rfl,_,(er rfl),qaf⟩,trivial⟩⟩ rf rf) qcf (SubL.row2 (T:=tPg) (x:=(⟨_,_,_,_,_,_,_,_,_⟩:Pg)) (y:=(⟨_,_,_,_,_,_,_,_,_⟩:Pg)) rf rf rf rf qaj qaj)) ?_
  refine qap rfl (by ((refine qaw call52 (qcc _ _ ?_) ⟨qar,⟨qar,trivial⟩⟩);all_goals ((simp;done)))) ?_
  refine t8 ?_
  exact rXF (⟨_,_,(⟨_,_,_,_,_,_,_,(⟨_,_⟩:Pt),_,_,_,_,_⟩:O24),_⟩:S24) results195 (hp:=by exact ⟨⟨qgf (n:=0) wl0 (wl2 (n:=0) (by assumption) (by assumption)) (by decide),Nat.zero_le _,Nat.zero_le _⟩,fun h=>absurd h h8⟩)
 refine t5 ?_
 refine qap rfl (OpP.to (qad (size:=1) (qs:=[(0,_)]) rfl rfl rfl ⟨⟨rfl,_,(er rfl),qaf⟩,trivial⟩ rf rf) (SubL.row1 (T:=tI64) (x:=_) rf rf rf qaj)) ?_
 refine t6 ?_
 exact rXF (⟨_,_,(⟨_,_,_,_,_,_,_,(⟨_,_⟩:Pt),_,_,_,_,_⟩:O24),_⟩:S24) results195 (hp:=by exact ⟨⟨wl0,Nat.zero_le _,by (show 1≤300;omega)⟩,fun _=>rfl⟩)
theorem zcw (o:O24) (p:P24):FnP Tryz.prog 197 [zdg o,qum p] (qek (fun r:O24=>r.check=o.check∧r.more=o.more∧r.done=o.done) fun r=>zdg r):=by
 refine FnP.enter func197 ntmps197 rfl rfl ?_
 intro c hX
 refine t3 ?_
 intro i2
 refine s1 ?_
 intro i3
 refine s1 ?_
 intro i4
 refine t40 ?_
 refine s1 ?_
 refine kXF call196 (qln (⟨_,_,_,_,(⟨_,_,_,_,_,_,_,_,_⟩:Pg),(⟨_,_,_,_,(⟨_,_⟩:Pt),_⟩:N24),(⟨_,_,_,_,(⟨_,_⟩:Pt),_⟩:N24),_,_,_⟩:P24)) ?_
 (refine qf1 26 rfl ?_;intro x26)
 refine t2 ?_
 refine cN ?_ ?_ <;> intro h4
 ·refine t16 ?_
  exact rXF (⟨_,_,_,_,_,_,_,(⟨_,_⟩:Pt),[],_,_,_,_⟩:O24) results197 (hp:=by exact ⟨rfl,rfl,rfl⟩)
 refine t9 ?_
 exact rXF (⟨_,_,_,_,_,_,_,(⟨_,_⟩:Pt),[],_,_,_,_⟩:O24) results197 (hp:=by exact ⟨rfl,rfl,rfl⟩)
theorem qn7 (ks:List Pg) (p:Pt) (level:Int):FnP Tryz.prog 223 [qal tPg ks,qm6 p,Is (.int .i64 level)] (qek (fun r:Pg×N24×List Int×Int=>r.2.2.1.length≤1∧qhy r.2.1∧Ln r.1) fun r=>qbv [qdw r.1,qv5 r.2.1,qal tI64 r.2.2.1,Is (.int .i64 r.2.2.2)]):=by
 refine FnP.enter func223 ntmps223 rfl rfl ?_
 intro c hX
 refine t3 ?_
 intro i4
 refine s1 ?_
 intro i6
 refine s1 ?_
 intro i7
 refine t8 ?_
 refine kRF call167 (qhp _ _ _ _) ?_
 refine t5 ?_
 intro i10
 refine t12 ?_
 refine cN ?_ ?_ <;> intro h2
 ·refine t13 ?_
  exact qcd (Bs:=[_,_,_,_]) ((⟨_,_,_,_,_,_,_,_,_⟩:Pg),(⟨_,_,_,_,(⟨_,_⟩:Pt),_⟩:N24),_,_) rfl results223 eXF (List.nil_sublist _) (by exact ⟨by exact Nat.zero_le _,qdt,qe7 _ _ _ _⟩)
 refine t9 ?_
 refine cN ?_ ?_ <;> intro h4
 ·refine s1 ?_
  refine qa0 rfl (by kernel_rfl) ?_
  refine qdf (it:=blk i7 _ _) (by repeat (first|exact Drop1.here _ _|apply Drop1.next)) ?_
  refine qdf (it:=blk i6 _ _) (by repeat (first|exact Drop1.here _ _|apply Drop1.next)) ?_
  refine qdj (its:=[_,_]) 9 (by kernel_rfl) ?_
  refine t4 ?_
  refine qbc (OpP.to (qad (size:=1) (qs:=[(0,_)]) rfl rfl rfl ⟨⟨rfl,_,(er rfl),qaf⟩,trivial⟩ rf rf) (SubL.row1 (T:=tI64) (x:=_) rf rf rf qaj)) ?_
  refine qc6 (s:=55) rfl rfl rfl (by kernel_rfl) (fun c'=>by exact qa9 (er rfl) (er rfl) qaf qae rf rf rf) ?_
  refine qc6 (s:=56) rfl rfl rfl (by kernel_rfl) (fun c'=>by exact qa9 (er rfl) (er rfl) qaf qae rf rf rf) ?_
  refine t2 ?_
  refine ⟨rfl,?_⟩
  intro _ _
  refine qat ?_
  refine t3 ?_
  exact qcd (Bs:=[_,_,_,_]) ((⟨_,_,_,_,_,_,_,_,_⟩:Pg),(⟨_,_,_,_,(⟨_,_⟩:Pt),_⟩:N24),_,_) rfl results223 eXF (List.nil_sublist _) (by exact ⟨by exact Nat.le_refl 1,qdt,qe7 _ _ _ _⟩)
 refine t5 ?_
 refine kRF call190 (qjk _) ?_
 (refine qa5 36 rfl ?_;intro x36 hx36)
 refine t4 ?_
 intro i13
 refine t21 ?_
 refine cN ?_ ?_ <;> intro h7
 ·refine t12 ?_
  exact qcd (Bs:=[_,_,_,_]) ((⟨_,_,_,_,_,_,_,_,_⟩:Pg),(⟨_,_,_,_,(⟨_,_⟩:Pt),_⟩:N24),_,_) rfl results223 eXF (List.nil_sublist _) (by exact ⟨by exact Nat.zero_le _,qdt,qe7 _ _ _ _⟩)
 refine t3 ?_
 refine qa0 rfl (by kernel_rfl) ?_
 refine qdf (it:=blk i7 _ _) (by repeat (first|exact Drop1.here _ _|apply Drop1.next)) ?_
 refine qdf (it:=blk i6 _ _) (by repeat (first|exact Drop1.here _ _|apply Drop1.next)) ?_
 refine qdj (its:=[_,_]) 6 (by kernel_rfl) ?_
 refine t2 ?_
 refine qc6 (s:=55) rfl rfl rfl (by kernel_rfl) (fun c'=>by exact qa9 (er rfl) (er rfl) qaf qae rf rf rf) ?_
 refine qc6 (s:=56) rfl rfl rfl (by kernel_rfl) (fun c'=>by exact qa9 (er rfl) (er rfl) qaf qae rf rf rf) ?_
 refine t2 ?_
 refine ⟨rfl,?_⟩
 intro _ _
 refine qat ?_
 refine t2 ?_
 exact qcd (Bs:=[_,_,_,_]) ((⟨_,_,_,_,_,_,_,_,_⟩:Pg),(⟨_,_,_,_,(⟨_,_⟩:Pt),_⟩:N24),_,_) rfl results223 eXF (List.nil_sublist _) (by exact ⟨Nat.zero_le _,hx36,qe7 _ _ _ _⟩)
end Go.Proofs.YtmgoplaamlignaaGreat
