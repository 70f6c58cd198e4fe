/- Texts laid together: walks of functions, what they compute, and plain laws of it. Own work. -/
import Derived.Test.YtmgoplaamlignaaGreatK19
import Derived.Test.YtmgoplaamlignaaGreatK6
import Derived.Test.YtmgoplaamlignaaGreatK8
import Derived.Test.YtmgoplaamlignaaGreatK1
namespace Go.Proofs.YtmgoplaamlignaaGreat
open Go.RowKit Tryz
set_option linter.unusedVariables false
set_option linter.unusedSimpArgs false
set_option maxRecDepth 100000
set_option maxHeartbeats 4000000
theorem qbx {P:Program} {c:Ctx} {A:Nat→Option VP} {L:List Item} {d:Option Tmp} {ty:TypeId} {pos:String} {af:Array Edge} {g:Option (Nat×Bool)} {α:Type} {t:TypeId} {size:Nat} {et:TypeId} (T:Ty α) (hu:P.underlying t=some (.slice et)) (hs:(P.info? et).map (·.size)=some size) :
  OpN P c ⟨d,.buildSlice t 0 #[],ty,pos,af,g⟩ A L (slV ([]:List α).length) (fun i=>buf (slV ([]:List α).length i) et T ([]:List α)):=
 fun φ a w K Q hm he hk=>qkc T hu hs φ a w K Q hm he fun b φ' w' hp=>hk (some ⟨b,0,none⟩,0) φ' w' hp
def qd7:List Int→Int→List Int
 | [],x=>[x]
 | y :: l,x=>if y<x then y :: qd7 l x else if y=x then y :: l else x :: y :: l
theorem qpv:∀ {W:List Int} {x:Int} (k:Nat),(∀ (j:Nat) q,j<k→W[j]?=some q→q<x)→W[k]?=some x→qd7 W x=W
 | [],x,k,_,hq=>by simp at hq
 | y :: W,x,0,_,hq=>by
  simp at hq;subst hq
  unfold qd7
  rw [if_neg (by omega),if_pos rfl]
 | y :: W,x,k+1,h,hq=>by
  have h0:=h 0 y (by omega) rfl
  unfold qd7
  rw [if_pos h0,qpv k (fun j q hj hq=>h (j+1) q (by omega) (by simpa using hq)) (by simpa using hq)]
theorem qtl:∀ {W:List Int} {x:Int} (k:Nat),k≤W.length→(∀ (j:Nat) q,j<k→W[j]?=some q→q<x)→(∀ q,W[k]?=some q→x<q)→qd7 W x=W.take k++([x]++W.drop k)
 | [],x,k,hk,_,_=>by
  have:k=0:=by simpa using hk
  subst this;rfl
 | y :: W,x,0,_,_,h2=>by
  have:=h2 y rfl
  unfold qd7
  rw [if_neg (by omega),if_neg (by omega)];rfl
 | y :: W,x,k+1,hk,h,h2=>by
  have h0:=h 0 y (by omega) rfl
  unfold qd7
  rw [if_pos h0,qtl k (by simpa using hk) (fun j q hj hq=>h (j+1) q (by omega) (by simpa using hq)) (fun q hq=>h2 q (by simpa using hq))];rfl
theorem qg6:∀ (W:List Int) (x:Int),(qd7 W x).length≤W.length+1
 | [],x=>by simp [qd7]
 | y :: W,x=>by
  unfold qd7
  have:=qg6 W x
  split
  ·simp only [List.length_cons];omega
  ·split <;> simp
theorem qim (W:List Int) (x:Int) (hn:W.length≤1000000):FnP Tryz.prog 78 [qal tI64 W,Is (.int .i64 x)] (qal tI64 (qd7 W x)):=by
 refine FnP.enter func78 ntmps78 rfl rfl ?_
 intro c hX
 refine qgn (t:=0) rfl (fun hlen=>?_)
 refine t12 ?_
 refine qbr (fun k:Nat=>k≤W.length∧∀ (j:Nat) q,j<k→W[j]?=some q→q<x) (fun k=>[(0,qal tI64 W),(1,Is (.int .i64 x)),(5,Is (.int .i64 (k:Nat)))]) (fun _=>[]) (fun k=>W.length-k) 0 ⟨Nat.zero_le _,fun j q hj _=>by omega⟩ qbl qab ?_
 rintro k ⟨hk,hlo⟩
 obtain ⟨q,hq0⟩:∃ q,W.getD k 0=q:=⟨_,rfl⟩
 have hq:k<W.length→W[k]?=some q:=fun h=>by rw [← hq0,List.getD_eq_getElem?_getD,List.getElem?_eq_getElem h];rfl
 refine t10 ?_
 (refine qcq rfl rfl rfl (fun hg=>(by have hg0:=hg;(try simp at hg);exact qau (j:=_) evG evG rfl rfl rf (hq (by omega)))) ?_)
 refine t6 ?_
 refine cN ?_ ?_ <;> intro h2
 ·have h':k<W.length∧q<x:=by
   rw [Bool.and_eq_true] at h2
   have h8:=of_decide_eq_true h2.1
   exact ⟨by omega,of_decide_eq_true h2.2⟩
  clear h2
  refine t9 ?_
  exact qaa (k+1) ⟨by omega,fun i q' hi hq'=>by
   by_cases hij:i=k
   ·subst hij;rw [hq h'.1] at hq';cases hq';exact h'.2
   ·exact hlo i q' (by omega) hq'⟩ (by omega) qbl qab
 have h':k=W.length∨¬ q<x:=by
  by_cases hjl:k=W.length
  ·exact .inl hjl
  ·refine .inr fun hh=>?_
   have e1:decide ((k:Int)<(W.length:Int))=true:=decide_eq_true (by omega)
   rw [e1,Bool.true_and,decide_eq_true hh] at h2
   cases h2
 clear h2
 refine t15 ?_
 (refine qcq rfl rfl rfl (fun hg=>(by have hg0:=hg;(try simp at hg);exact qau (j:=_) evG evG rfl rfl rf (hq (by omega)))) ?_)
 refine t6 ?_
 refine cN ?_ ?_ <;> intro h4
 ·have h2:k<W.length∧q=x:=by
   rw [Bool.and_eq_true] at h4
   have h8:=of_decide_eq_true h4.1
   exact ⟨by omega,by simpa using h4.2⟩
  clear h4
  obtain ⟨h2a,rfl⟩:=h2
  rw [qpv k hlo (hq h2a)]
  refine t8 ?_
  exact qaq (Bs:=[qal tI64 W]) results78 eT () SubL.rfl' (List.nil_sublist _)
 have h2:∀ q',W[k]?=some q'→x<q':=fun q' hq'=>by
  have hjl:=(List.getElem?_eq_some_iff.1 hq').1
  rw [hq hjl] at hq';cases hq'
  have e1:decide ((k:Int)<(W.length:Int))=true:=decide_eq_true (by omega)
  rw [e1,Bool.true_and] at h4
  have h10:¬ q=x:=by simpa using h4
  rcases h' with h' | h'
  ·omega
  ·omega
 clear h4
 rw [qtl k hk hlo h2]
 refine t3 ?_
 refine qa0 rfl (by kernel_rfl) ?_
 refine qag 12 (by kernel_rfl) ?_
 refine qka (qbx tI64 rfl rfl) ?_
 refine t2 ?_
 refine qbc (qdb (er rfl) rfl rfl rfl ⟨_,_,(er rfl),rf⟩ (by omega) (by omega)) ?_
 refine qd1 rfl rfl rfl rf (by kernel_rfl) (qd0 evS (by exact qep rfl rfl rfl) qbt) ?_
 refine s1 ?_
 refine qbc (qcb (size:=1) (qs:=[(0,_)]) rfl rfl rfl ⟨⟨rfl,_,(er rfl),qbn⟩,trivial⟩ rf rf) ?_
 refine qd1 rfl rfl rfl rf (by kernel_rfl) (qd0 (by exact Ev.sub rfl (by exact SubL.row (xs:=[x]) rf rf qev)) (by exact qep rfl rfl rfl) qbt) ?_
 refine t2 ?_
 refine qbc (qdb (er rfl) rfl rfl ⟨_,_,(er rfl),rf⟩ rfl (by omega) (by omega)) ?_
 refine qd1 rfl rfl rfl rf (by kernel_rfl) (qd0 evS (by exact qep rfl rfl rfl) qbt) ?_
 refine ⟨rfl,?_⟩
 intro i44
 refine JD_1 (by kernel_rfl) rfl rfl (qeb rfl) ?_
 refine qat ?_
 refine t2 ?_
 refine qee hX qae ?_
 rw [show ([]++List.drop 0 (List.take k W)++[x]++List.drop k (List.take W.length W))=W.take k++([x]++W.drop k) by rw [List.take_length,List.drop_zero,List.nil_append,List.append_assoc]]
 exact qaq (Bs:=[qal tI64 (W.take k++([x]++W.drop k))]) results78 eT () SubL.rfl' (List.nil_sublist _)
theorem lat_take {xs:List Pg} {k:Nat} {p:Pg} (h:xs[k]?=some p) (l:Int):qgh (xs.take (k+1)) l=if p.l=l then some p else qgh (xs.take k) l:=by
 unfold qgh
 rw [List.take_add_one,h,List.filter_append]
 by_cases g:p.l=l
 ·rw [if_pos g];simp [g]
 ·rw [if_neg g];simp [g]
theorem qbu (xs:List Pg) (l:Int):FnP Tryz.prog 19 [qal tPg xs,Is (.int .i64 l)] (qbv [qdw (qb6 xs l),Is (.bool (qe5 xs l))]):=by
 refine FnP.enter func19 ntmps19 rfl rfl ?_
 intro c hX
 refine qgn (t:=0) rfl (fun hlen=>?_)
 refine t3 ?_
 intro i4
 refine t6 ?_
 intro i6
 refine t14 ?_
 refine qbr (fun k:Nat=>k≤xs.length) (fun k=>[(0,qal tPg xs),(1,Is (.int .i64 l)),(4,Is (.pointer (some ⟨i4,0,none⟩))),(6,Is (.pointer (some ⟨i6,0,none⟩))),(7,Is (.bool (qe5 (xs.take k) l))),(8,Is (.int .i64 (k:Nat)))]) (fun k=>[blk i4 53 (tPg.cells Pg.nil),blk i6 53 (tPg.cells (qb6 (xs.take k) l))]) (fun k=>xs.length-k) 0 (Nat.zero_le _) qbl qab ?_
 rintro k hk
 refine t9 ?_
 refine cN ?_ ?_ <;> intro h4
 ·have hlt:k<xs.length:=by have:=of_decide_eq_true h4;omega
  clear h4
  obtain ⟨z,hz⟩:∃ z,xs[k]?=some z:=⟨xs[k],List.getElem?_eq_getElem hlt⟩
  have hlk:=lat_take hz l
  refine t15 ?_
  refine cN ?_ ?_ <;> intro h6
  ·have g:z.l=l:=by simpa using h6
   have e1:qb6 (xs.take (k+1)) l=z:=by unfold qb6;rw [hlk,if_pos g];rfl
   have e2:qe5 (xs.take (k+1)) l=true:=by unfold qe5;rw [hlk,if_pos g];rfl
   clear h6
   refine t15 ?_
   exact qaa (k+1) (by omega) (by omega) ⟨⟨_,rfl,SubL.rfl'⟩,⟨_,rfl,SubL.rfl'⟩,⟨_,rfl,SubL.rfl'⟩,⟨_,rfl,SubL.rfl'⟩,⟨_,rfl,SubL.eq (by rw [e2])⟩,⟨_,rfl,SubL.rfl'⟩,trivial⟩ (by rw [e1];exact qab)
  have g:¬ z.l=l:=by simpa using h6
  have e1:qb6 (xs.take (k+1)) l=qb6 (xs.take k) l:=by unfold qb6;rw [hlk,if_neg g]
  have e2:qe5 (xs.take (k+1)) l=qe5 (xs.take k) l:=by unfold qe5;rw [hlk,if_neg g]
  clear h6
  refine t8 ?_
  exact qaa (k+1) (by omega) (by omega) ⟨⟨_,rfl,SubL.rfl'⟩,⟨_,rfl,SubL.rfl'⟩,⟨_,rfl,SubL.rfl'⟩,⟨_,rfl,SubL.rfl'⟩,⟨_,rfl,SubL.eq (by rw [e2])⟩,⟨_,rfl,SubL.rfl'⟩,trivial⟩ (by rw [e1];exact qab)
 have hke:k=xs.length:=by have:=of_decide_eq_false h4;omega
 subst hke
 clear h4
 rw [List.take_length]
 refine t14 ?_
 exact qaq (Bs:=[qdw (qb6 xs l),Is (.bool (qe5 xs l))]) results19 eT () SubL.rfl' (List.nil_sublist _)
theorem ifT {α:Sort _} {b:Bool} {x y:α} (h:b=true):(if b=true then x else y)=x:=if_pos h
theorem ifF {α:Sort _} {b:Bool} {x y:α} (h:b=false):(if b=true then x else y)=y:=if_neg (by rw [h];exact Bool.false_ne_true)
theorem rem8 (x:BitVec 64):(UV x).tmod 256=UV (x&&&BitVec.ofInt 64 255):=by
 rw [Int.tmod_eq_emod_of_nonneg (qbj x)]
 exact (qir 64 8 x _ rfl).symm
theorem rem24 (x:BitVec 64):(UV x).tmod 16777216=UV (x&&&BitVec.ofInt 64 16777215):=by
 rw [Int.tmod_eq_emod_of_nonneg (qbj x)]
 exact (qir 64 24 x _ rfl).symm
theorem qel (p:Pg):FnP Tryz.prog 63 [qdw p] (Is (.int .i64 (qh1 p.d0))):=by
 have e:IntKind.i64.wrap ((UV p.d0).tmod 256)=qh1 p.d0:=by
  rw [zbq,Int.tmod_eq_emod_of_nonneg (qbj _),qo3 (by omega)]
 refine FnP.enter func63 ntmps63 rfl rfl ?_
 intro c hX
 refine t3 ?_
 intro i1
 refine t14 ?_
 refine qa4 results63 rfl () (SubL.eq ?_) (List.nil_sublist _)
 rw [← e]
theorem qoz (p:Pg):FnP Tryz.prog 204 [qdw p] (Is (.int .u32 (UV (auxV p.d0)))):=by
 refine FnP.enter func204 ntmps204 rfl rfl ?_
 intro c hX
 refine t3 ?_
 intro i1
 refine t14 ?_
 refine qa4 results204 rfl () (SubL.eq ?_) (List.nil_sublist _)
 rfl
theorem qg8 (p:Pg):FnP Tryz.prog 26 [qdw p] (Is (.int .i64 (qm3 p.d0))):=by
 have e:IntKind.i64.wrap ((IntKind.u64.wrap ((UV p.d0).tdiv 256)).tmod 16777216)=qm3 p.d0:=by
  have h1:=qbj p.d0
  have h2:=UV_lt p.d0
  rw [qxj,Int.tdiv_eq_ediv_of_nonneg h1,wU64 (n:=UV p.d0 / 256) (by omega),Int.tmod_eq_emod_of_nonneg (by omega),qo3 (by omega)]
 refine FnP.enter func26 ntmps26 rfl rfl ?_
 intro c hX
 refine t3 ?_
 intro i1
 refine t15 ?_
 refine qa4 results26 rfl () (SubL.eq ?_) (List.nil_sublist _)
 rw [← e]
theorem or_nat (a b:BitVec 64) (n:Nat) (ha:a.toNat<2 ^ n) (hb:b.toNat*2 ^ n<2 ^ 64):(a|||b<<<n).toNat=a.toNat+b.toNat*2 ^ n:=by
 rw [BitVec.toNat_or,BitVec.toNat_shiftLeft,Nat.shiftLeft_eq,Nat.mod_eq_of_lt hb,Nat.mul_comm,Nat.or_comm,← Nat.two_pow_add_eq_or_of_lt ha,Nat.add_comm]
theorem tag_add (k g:BitVec 64) (z:BitVec 32):(k&&&BitVec.ofInt 64 255)+(g&&&BitVec.ofInt 64 16777215)*BitVec.ofInt 64 256+z.setWidth 64<<<32=(k&&&BitVec.ofInt 64 255)|||((g&&&BitVec.ofInt 64 16777215)<<<8)|||(z.setWidth 64<<<32):=by
 have h1:(k&&&BitVec.ofInt 64 255).toNat<256:=by
  rw [BitVec.toNat_and]
  exact Nat.lt_of_le_of_lt Nat.and_le_right (by decide)
 have h2:(g&&&BitVec.ofInt 64 16777215).toNat<16777216:=by
  rw [BitVec.toNat_and]
  exact Nat.lt_of_le_of_lt Nat.and_le_right (by decide)
 generalize (k&&&BitVec.ofInt 64 255)=a at *
 generalize (g&&&BitVec.ofInt 64 16777215)=b at *
 have h3:=or_nat a b 8 (by omega) (by omega)
 have hz:(z.setWidth 64).toNat=z.toNat:=by rw [BitVec.toNat_setWidth];have:=z.isLt;omega
 have h4:=or_nat (a|||b<<<8) (z.setWidth 64) 32 (by omega) (by have:=z.isLt;omega)
 apply BitVec.eq_of_toNat_eq
 rw [h4,h3]
 simp only [BitVec.toNat_add,BitVec.toNat_mul,BitVec.toNat_shiftLeft,Nat.shiftLeft_eq,hz,show (BitVec.ofInt 64 256).toNat=256 from rfl]
 have:=z.isLt
 omega
theorem qmj (k g:Int) (a:BitVec 32):FnP Tryz.prog 98 [Is (.int .i64 k),Is (.int .i64 g),Is (.int .u32 (UV a))] (Is (.int .u64 (UV (packT ⟨k,g,a⟩)))):=by
 refine FnP.enter func98 ntmps98 rfl rfl ?_
 intro c hX
 refine t10 ?_
 rw [rem8]
 refine t3 ?_
 rw [rem24]
 refine t4 ?_
 refine qap rfl (by exact qd5 (k:=32) qgi (er rfl) (by omega) qca) ?_
 refine t5 ?_
 refine qa4 results98 rfl () (SubL.eq ?_) (List.nil_sublist _)
 unfold packT;rw [← tag_add]
theorem qb5 (p:Pg):FnP Tryz.prog 49 [qdw p] (Is (.bool (qeo p))):=by
 have e:((UV p.h).tmod 256 != 0)=qeo p:=by unfold qeo;rw [rem8];rfl
 refine FnP.enter func49 ntmps49 rfl rfl ?_
 intro c hX
 refine t3 ?_
 intro i1
 refine t13 ?_
 refine qa4 results49 rfl () (SubL.eq ?_) (List.nil_sublist _)
 rw [← e]
def atR (p:Pg):Pt:=⟨p.l,qm3 p.d0⟩
theorem qhg (p:Pg):FnP Tryz.prog 184 [qdw p] (qm6 (atR p)):=by
 refine FnP.enter func184 ntmps184 rfl rfl ?_
 intro c hX
 refine t3 ?_
 intro i1
 refine s1 ?_
 intro i2
 refine t3 ?_
 refine qa0 rfl (by kernel_rfl) ?_
 refine qag 5 (by kernel_rfl) ?_
 refine t3 ?_
 refine qbc (qac call26 (qg8 _) ⟨evS,trivial⟩) ?_
 refine s1 ?_
 refine ⟨rfl,?_⟩
 refine qef (by kernel_rfl) rfl (qav (er rfl) (er rfl) qbn qae qbo rf rf rf) ?_
 refine qat ?_
 refine t2 ?_
 exact qaq (Bs:=[qm6 (atR p)]) results184 eT () SubL.rfl' (List.nil_sublist _)
theorem qcr (e:Int):FnP Tryz.prog 44 [Is (.int .i64 e)] (qza { S19.nil with code:=e,over:=true }):=by
 refine FnP.enter func44 ntmps44 rfl rfl ?_
 intro c hX
 refine t3 ?_
 intro i2
 refine t10 ?_
 exact qaq (Bs:=[qza { S19.nil with code:=e,over:=true }]) results44 eT () SubL.rfl' (List.nil_sublist _)
def clB (c l:Int):Bool:=decide (c≥0)&&decide (c<6)&&decide (l≥104)&&decide (l≤256)
theorem qfz (e l:Int):FnP Tryz.prog 43 [Is (.int .i64 e),Is (.int .i64 l)] (Is (.bool (clB e l))):=by
 refine FnP.enter func43 ntmps43 rfl rfl ?_
 intro c hX
 refine t25 ?_
 refine qa4 results43 rfl () (SubL.eq ?_) (List.nil_sublist _)
 rfl
def lkV (ks:List Pg) (p:Pt) (kind:Int) (op:Bool):Pg×Bool×Int:=
 if (!qdz p)=true then (Pg.nil,false,1) else
 if (!qe5 ks p.line)=true then (Pg.nil,false,0) else
 if (op&&qeo (qb6 ks p.line))=true then (Pg.nil,false,3) else
 if (qh1 (qb6 ks p.line).d0==0||qm3 (qb6 ks p.line).d0 != p.gen)=true then (Pg.nil,false,11) else
 if (qh1 (qb6 ks p.line).d0 != kind)=true then (Pg.nil,false,14) else (qb6 ks p.line,true,0)
theorem qhp (ks:List Pg) (p:Pt) (kind:Int) (op:Bool):FnP Tryz.prog 167 [qal tPg ks,qm6 p,Is (.int .i64 kind),Is (.bool op)] (qbv [qdw (lkV ks p kind op).1,Is (.bool (lkV ks p kind op).2.1),Is (.int .i64 (lkV ks p kind op).2.2)]):=by
 unfold lkV
 refine FnP.enter func167 ntmps167 rfl rfl ?_
 intro c hX
 refine t3 ?_
 intro i5
 refine s1 ?_
 intro i8
 refine t8 ?_
 refine qap rfl (qac call70 (qb8 _) ⟨evS,trivial⟩) ?_
 refine t3 ?_
 refine cN ?_ ?_ <;> intro h1
 ·rw [ifT h1]
  refine t10 ?_
  exact qaq (Bs:=[_,_,_]) results167 eT () SubL.rfl' (List.nil_sublist _)
 rw [ifF h1]
 refine t7 ?_
 refine qap rfl (qac call19 (qbu _ _) ⟨evS,⟨evS,trivial⟩⟩) ?_
 refine t4 ?_
 intro i11
 refine t11 ?_
 refine cN ?_ ?_ <;> intro h4
 ·rw [ifT h4]
  refine t10 ?_
  exact qaq (Bs:=[_,_,_]) results167 eT () SubL.rfl' (List.nil_sublist _)
 rw [ifF h4]
 refine t8 ?_
 (refine qcq rfl rfl rfl (fun hg=>(by have hg0:=hg;(try simp at hg);exact qac call49 (qb5 _) ⟨evS,trivial⟩)) ?_)
 refine t3 ?_
 refine cN ?_ ?_ <;> intro h6
 ·rw [ifT h6]
  refine t10 ?_
  exact qaq (Bs:=[_,_,_]) results167 eT () SubL.rfl' (List.nil_sublist _)
 rw [ifF h6]
 refine t4 ?_
 refine qa0 rfl (by kernel_rfl) ?_
 refine qag 10 (by kernel_rfl) ?_
 refine s1 ?_
 refine qbc (qac call63 (qel _) ⟨evS,trivial⟩) ?_
 refine t3 ?_
 (refine qem rfl rfl (fun hg=>(by have hg0:=hg;(try simp at hg);exact qac call26 (qg8 _) ⟨evS,trivial⟩)) ?_)
 refine t4 ?_
 refine ⟨rfl,?_⟩
 refine qat ?_
 refine s1 ?_
 refine cN ?_ ?_ <;> intro h8
 ·rw [ifT h8]
  refine t10 ?_
  exact qaq (Bs:=[_,_,_]) results167 eT () SubL.rfl' (List.nil_sublist _)
 rw [ifF h8]
 refine t6 ?_
 refine qap rfl (qac call63 (qel _) ⟨evS,trivial⟩) ?_
 refine t4 ?_
 refine cN ?_ ?_ <;> intro h10
 ·rw [ifT h10]
  refine t10 ?_
  exact qaq (Bs:=[_,_,_]) results167 eT () SubL.rfl' (List.nil_sublist _)
 rw [ifF h10]
 refine t11 ?_
 exact qaq (Bs:=[_,_,_]) results167 eT () SubL.rfl' (List.nil_sublist _)
def allR (p:Pg) (kind:Int) (aux:BitVec 32):Pg×Int:=
 if (!qob p.l||decide (kind<1)||decide (kind>4))=true then (Pg.nil,1) else
 if qeo p=true then (Pg.nil,3) else
 if (qh1 p.d0 != 0)=true then (Pg.nil,17) else
 if (qm3 p.d0==16777215)=true then (Pg.nil,18) else (tagP p ⟨kind,qm3 p.d0+1,aux⟩,0)
theorem qjq (p:Pg) (kind:Int) (aux:BitVec 32):FnP Tryz.prog 183 [qdw p,Is (.int .i64 kind),Is (.int .u32 (UV aux))] (qbv [qdw (allR p kind aux).1,Is (.int .i64 (allR p kind aux).2)]):=by
 have hgr:0≤qm3 p.d0∧qm3 p.d0≤16777215:=by have hgen:=qxj p.d0;rw [hgen];have:=qbj p.d0;omega
 unfold allR
 refine FnP.enter func183 ntmps183 rfl rfl ?_
 intro c hX
 refine t3 ?_
 intro i3
 refine s1 ?_
 intro i6
 refine t8 ?_
 refine qap rfl (qac call97 (qj1 _) ⟨evS,trivial⟩) ?_
 refine t11 ?_
 refine cN ?_ ?_ <;> intro h1
 ·rw [ifT h1]
  refine t9 ?_
  exact qaq (Bs:=[_,_]) results183 eT () SubL.rfl' (List.nil_sublist _)
 rw [ifF h1]
 refine t6 ?_
 refine qap rfl (qac call49 (qb5 _) ⟨evS,trivial⟩) ?_
 refine t2 ?_
 refine cN ?_ ?_ <;> intro h3
 ·rw [ifT h3]
  refine t9 ?_
  exact qaq (Bs:=[_,_]) results183 eT () SubL.rfl' (List.nil_sublist _)
 rw [ifF h3]
 refine t6 ?_
 refine qap rfl (qac call63 (qel _) ⟨evS,trivial⟩) ?_
 refine t3 ?_
 refine cN ?_ ?_ <;> intro h5
 ·rw [ifT h5]
  refine t9 ?_
  exact qaq (Bs:=[_,_]) results183 eT () SubL.rfl' (List.nil_sublist _)
 rw [ifF h5]
 refine t6 ?_
 refine qap rfl (qac call26 (qg8 _) ⟨evS,trivial⟩) ?_
 refine t3 ?_
 refine cN ?_ ?_ <;> intro h7
 ·rw [ifT h7]
  refine t9 ?_
  exact qaq (Bs:=[_,_]) results183 eT () SubL.rfl' (List.nil_sublist _)
 rw [ifF h7]
 refine t10 ?_
 intro i8
 refine t7 ?_
 refine qap rfl (qac call26 (qg8 _) ⟨evS,trivial⟩) ?_
 refine qap rfl (qft (er rfl) (er rfl) (qo3 (n:=qm3 p.d0+1) (by omega))) ?_
 refine s1 ?_
 refine qap rfl (qac call98 (qmj _ _ _) ⟨evS,⟨evS,⟨evS,trivial⟩⟩⟩) ?_
 refine t13 ?_
 exact qaq (Bs:=[_,_]) results183 eT () SubL.rfl' (List.nil_sublist _)
def relR (p:Pg):Pg×Int:=
 if (!qob p.l)=true then (Pg.nil,1) else
 if qeo p=true then (Pg.nil,3) else
 if (qh1 p.d0==0)=true then (Pg.nil,16) else (tagP p ⟨0,qm3 p.d0,0#32⟩,0)
theorem qv0 (p:Pg):FnP Tryz.prog 71 [qdw p] (qbv [qdw (relR p).1,Is (.int .i64 (relR p).2)]):=by
 unfold relR
 refine FnP.enter func71 ntmps71 rfl rfl ?_
 intro c hX
 refine t3 ?_
 intro i1
 refine s1 ?_
 intro i2
 refine t8 ?_
 refine qap rfl (qac call97 (qj1 _) ⟨evS,trivial⟩) ?_
 refine t3 ?_
 refine cN ?_ ?_ <;> intro h1
 ·rw [ifT h1]
  refine t9 ?_
  exact qaq (Bs:=[_,_]) results71 eT () SubL.rfl' (List.nil_sublist _)
 rw [ifF h1]
 refine t6 ?_
 refine qap rfl (qac call49 (qb5 _) ⟨evS,trivial⟩) ?_
 refine t2 ?_
 refine cN ?_ ?_ <;> intro h3
 ·rw [ifT h3]
  refine t9 ?_
  exact qaq (Bs:=[_,_]) results71 eT () SubL.rfl' (List.nil_sublist _)
 rw [ifF h3]
 refine t6 ?_
 refine qap rfl (qac call63 (qel _) ⟨evS,trivial⟩) ?_
 refine t3 ?_
 refine cN ?_ ?_ <;> intro h5
 ·rw [ifT h5]
  refine t9 ?_
  exact qaq (Bs:=[_,_]) results71 eT () SubL.rfl' (List.nil_sublist _)
 rw [ifF h5]
 refine t10 ?_
 intro i4
 refine t6 ?_
 refine qap rfl (qac call26 (qg8 _) ⟨evS,trivial⟩) ?_
 refine qap rfl (qac call98 (qmj _ _ 0#32) ⟨evS,⟨evS,⟨evS,trivial⟩⟩⟩) ?_
 refine t13 ?_
 exact qaq (Bs:=[_,_]) results71 eT () SubL.rfl' (List.nil_sublist _)
theorem kS {P:Program} {c:Ctx} {N:Nat} {E:Env} {L:List Item} {Q:Exit→Go.Act→World→Prop} {ops:Array Oper} {rest:List Oper} {ty:TypeId} {pos:String} {af:Array Edge} {tt:Tmp} {f:FuncId} {xs:List Operand} {ts:Array TypeId} {As:List VP} {R:VP} (hc:∀ (args:Array Value) (w:World),(callFunc f args).run P w = .ok (.enter f args) w) (hF:FnP P f As R) (h:JL P ops Q c N rest ((tt,R) :: E) L) (hd:Nat.blt tt N=true:=by exact rfl) (ha:ArgsE (look E) L xs As:=by repeat (first|exact trivial|refine ⟨evS,?_⟩)):JL P ops Q c N (⟨some tt,.call { callee:=.value (.func f),args:=xs.toArray,argTypes:=ts },ty,pos,af,none⟩ :: rest) E L:=qap hd (qac hc hF ha) h
variable {P:Program} {c:Ctx} {N:Nat} {E:Env} {L:List Item} {Q:Exit→Act→World→Prop}
theorem qaz {x:Code} {ι:Type} (A:Env) (M:List Item) (I:ι→Prop) (F:ι→Env) (G:ι→List Item) (μ:ι→Nat) (i0:ι) (h0:I i0) (hE:ESub L E (F i0++A)) (hL:SubP (G i0++M) L)
  (round:∀ i,I i→JC P c N x (F i++A) (G i++M) (Exit.then (Round c N I (fun i=>F i++A) (fun i=>G i++M) μ (μ i)) Q)):JC P c N (Code.loop x) E L Q:=
 qbr I (fun i=>F i++A) (fun i=>G i++M) μ i0 h0 hE hL round
theorem qb3 {x y:Code} {ι:Type} {Q':Exit→Act→World→Prop} (A:Env) (M:List Item) (I:ι→Prop) (F:ι→Env) (G:ι→List Item) (_hA:ESub L E A) (_hM:SubP M L) (h2:∀ i,I i→JC P c N y (F i++A) (G i++M) Q) (h1:JC P c N x E L (Exit.then (Meet c N I (fun i=>F i++A) (fun i=>G i++M)) Q')):JC P c N x E L (Exit.then (y.wp P Q) Q'):=
 qin I (fun i=>F i++A) (fun i=>G i++M) h2 h1
section
variable {P:Program} {ops:Array Oper} {c:Ctx} {N:Nat} {L:List Item}
theorem LocOp.more {o:Oper} {A:Nat→Option Out} {F:Out} {kl:Option Tmp} {it:Item} (h:LocOp P ops c L o A F kl):LocOp P ops c (it :: L) o A F kl:=fun φ a w K Q M hm ht hl hk =>
 h φ a w K Q M (hm.less (List.Sublist.append (List.Sublist.refl M) (List.sublist_cons_self it L))) ht hl hk
theorem SS.openT {A:Nat→Option Out} {φ:Fz} {a:Act} {w:World} {t:Tmp} {ι:Type} {val:ι→Value} {I:ι→Item} (h:SS c N A L φ a w) (ht:A t=some (.own val I)) :
  ∃ i,SS c N (fun s=>if s=t then some (.v (Is (val i))) else A s) (I i :: L) φ a w:=by
 obtain ⟨β,hβ,hap⟩:=h.own
 obtain ⟨⟨i,h1,h2⟩,h3,h4⟩:=hβ t ι val I ht
 have key:∀ (s:Tmp) (ι':Type) (val':ι'→Value) (I':ι'→Item),(if s=t then some (Out.v (Is (val i))) else A s)=some (.own val' I')→s≠t∧A s=some (.own val' I'):=fun s ι' val' I' hs=>by
  by_cases e:s=t
  ·rw [if_pos e] at hs;cases hs
  ·rw [if_neg e] at hs;exact ⟨e,hs⟩
 refine ⟨i,h.defers,h.size,fun s B hB=>?_,⟨⟨h.mem.mem.base,fun it hi=>?_,List.pairwise_cons.2 ⟨fun y hy b hb hyb=>?_,h.mem.mem.sep⟩⟩,h.mem.kept,fun b hb=>?_,h.mem.old⟩,β,fun s ι' val' I' hs=>?_,fun s s' ι' ι'' val' I' val'' I'' hne hs hs'=>?_⟩
 ·by_cases e:s=t
  ·subst e
   rw [if_pos rfl] at hB
   injection hB with hB
   injection hB with hB
   subst hB
   exact h1
  ·rw [if_neg e] at hB;exact h.env s B hB
 ·rcases List.mem_cons.1 hi with rfl|hi
  ·rw [← h2];exact h3
  ·exact h.mem.mem.items it hi
 ·exact (h4 b (by rw [h2];exact hb)).2 (mem_names.2 ⟨y,hy,hyb⟩)
 ·obtain ⟨x,hx,hxb⟩:=mem_names.1 hb
  rcases List.mem_cons.1 hx with rfl|hx
  ·exact (h4 b (by rw [h2];exact hxb)).1
  ·exact h.mem.mine b (mem_names.2 ⟨x,hx,hxb⟩)
 ·obtain ⟨e,hs⟩:=key s _ _ _ hs
  obtain ⟨g1,g2,g3⟩:=hβ s ι' val' I' hs
  refine ⟨g1,g2,fun b hb=>⟨(g3 b hb).1,fun hn=>?_⟩⟩
  obtain ⟨x,hx,hxb⟩:=mem_names.1 hn
  rcases List.mem_cons.1 hx with rfl|hx
  ·exact hap s t _ _ val' I' val I e hs ht b hb (by rw [h2];exact hxb)
  ·exact (g3 b hb).2 (mem_names.2 ⟨x,hx,hxb⟩)
 ·obtain ⟨_,hs⟩:=key s _ _ _ hs
  obtain ⟨_,hs'⟩:=key s' _ _ _ hs'
  exact hap s s' _ _ val' I' val'' I'' hne hs hs'
def JWG (P:Program) (ops:Array Oper) (c:Ctx) (nd:List Nat) (G:Option Tmp→Prop) (K:EnvO→Prop) (k:Nat):Nat→List Oper→EnvO→List Item→Prop
 | 0,_,EO,_=>K EO
 | _+1,[],_,_=>False
 | n+1,o :: rest,EO,L=>∃ F kl,G kl∧qke ops nd k o (qcs EO) kl∧LocOp P ops c L o (qcs EO) F kl∧JWG P ops c nd G K (k+1) n rest (qki (qo7 EO kl) (tgt o kl) F) L
theorem JWG.out {nd:List Nat} {G:Option Tmp→Prop} {K:EnvO→Prop}:∀ {n k:Nat} {rest:List Oper} {EO:EnvO},JWG P ops c nd G K k n rest EO L →
  ∃ m:List Ent,m.length=n∧n≤rest.length∧(∀ i x,m[i]?=some x→x.i=k+i∧rest[i]?=some x.o∧G x.kl) ∧
   (∀ m1 x m2,m=m1++x :: m2→LocOp P ops c L x.o (acc (fun _=>true) m1 (qcs EO)) x.F x.kl∧qke ops nd x.i x.o (acc (fun _=>true) m1 (qcs EO)) x.kl)∧∃ E',qcs E'=acc (fun _=>true) m (qcs EO)∧K E'
 | 0,k,rest,EO,h=>⟨[],rfl,Nat.zero_le _,fun i x hx=>by simp at hx,fun m1 x m2 hm=>by simp at hm,EO,rfl,h⟩
 | n+1,k,[],EO,h=>h.elim
 | n+1,k,o :: rest,EO,⟨F,kl,hG,h0,h1,h2⟩=>by
  obtain ⟨m,e1,e0,e2,e3,E',e4,e5⟩:=JWG.out h2
  have hA:qcs (qki (qo7 EO kl) (tgt o kl) F)=(⟨k,o,F,kl⟩:Ent).app (qcs EO):=by rw [qi8,qj0];rfl
  rw [hA] at e3 e4
  refine ⟨⟨k,o,F,kl⟩ :: m,by simp [e1],by simp;omega,fun i x hx=>?_,fun m1 x m2 hm=>?_,E',e4,e5⟩
  ·cases i with
   | zero=>simp at hx;subst hx;exact ⟨rfl,rfl,hG⟩
   | succ i =>
    obtain ⟨h3,h4,h5⟩:=e2 i x (by simpa using hx)
    exact ⟨by omega,by simpa using h4,h5⟩
  ·cases m1 with
   | nil =>
    simp only [List.nil_append,List.cons.injEq] at hm
    obtain ⟨rfl,rfl⟩:=hm
    exact ⟨h1,h0⟩
   | cons y m1 =>
    simp only [List.cons_append,List.cons.injEq] at hm
    obtain ⟨rfl,hm⟩:=hm
    exact e3 m1 x m2 hm
theorem zcy {p:Nat→Bool} {s:Nat}:∀ {m m':List Ent} {A:Nat→Option Out},m.length=m'.length→(∀ (j:Nat) (x x':Ent),m[j]?=some x→m'[j]?=some x'→x'.i=x.i∧∀ A B:Nat→Option Out,A s=B s→x.app A s=x'.app B s)→∀ {B:Nat→Option Out},A s=B s→acc p m A s=acc p m' B s
 | [],[],A,_,_,B,hA=>hA
 | [],_ :: _,A,h,_,B,hA=>by simp at h
 | _ :: _,[],A,h,_,B,hA=>by simp at h
 | x :: m,x' :: m',A,h,hx,B,hA=>by
  refine zcy (m:=m) (m':=m') (by simpa using h) (fun j y y' h1 h2=>hx (j+1) y y' (by simpa using h1) (by simpa using h2)) ?_
  obtain ⟨e1,e2⟩:=hx 0 x x' (by simp) (by simp)
  rw [e1]
  cases p x.i
  ·exact hA
  ·exact e2 A B hA
theorem acc_at {p:Nat→Bool} {t d:Nat} {F:Out} (hp:p d=true):∀ {m:List Ent} {A:Nat→Option Out},(∀ x,x∈m→(x.i=d→∀ A,x.app A t=some F)∧(x.i≠d→¬ x.tch t))→(A t=some F∨∃ x,x∈m∧x.i=d)→acc p m A t=some F
 | [],A,_,h=>h.elim id fun ⟨x,hx,_⟩=>by cases hx
 | x :: m,A,hm,h=>by
  refine acc_at hp (m:=m) (fun y hy=>hm y (List.mem_cons_of_mem _ hy)) ?_
  by_cases hx:x.i=d
  ·refine .inl ?_
   rw [hx,hp]
   exact (hm x (List.mem_cons_self ..)).1 hx A
  ·rcases h with h|⟨y,hy,hyd⟩
   ·refine .inl ?_
    cases p x.i
    ·exact h
    ·exact (Ent.app_ne ((hm x (List.mem_cons_self ..)).2 hx)).trans h
   ·rcases List.mem_cons.1 hy with rfl|hy
    ·exact absurd hyd hx
    ·exact .inr ⟨y,hy,hyd⟩
section
variable {nd:List Nat} {G:Option Tmp→Prop} {K:EnvO→Prop} {k n:Nat} {rest:List Oper} {EO:EnvO} {t:Tmp} {op:Op} {ty:TypeId} {pos:String} {af:Array Edge}
end
end
section
variable {P:Program} {c:Ctx} {A:Nat→Option VP} {L:List Item} {d:Option Tmp} {ty:TypeId} {pos:String} {af:Array Edge} {g:Option (Nat×Bool)} {x y:Operand} {t e:TypeId} {α:Type}
end
end Go.Proofs.YtmgoplaamlignaaGreat
