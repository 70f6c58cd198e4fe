/- Walks of functions and plain laws, laid together. Own work. -/
import Derived.Test.YtghkkdjbaehboaaGreatK8
namespace Go.Proofs.YtghkkdjbaehboaaGreat
open Go.RowKit Tryz
set_option linter.unusedVariables false
set_option linter.unusedSimpArgs false
set_option maxRecDepth 100000
set_option maxHeartbeats 4000000
@[reducible] def hashV (x:BitVec 32):BitVec 32:=(x*2654435769#32) ^^^ (x*2654435769#32)>>>16
def lowV (h:BitVec 32) (d:Int):BitVec 32:=h&&&(BitVec.ofInt 32 1<<<d.toNat-BitVec.ofInt 32 1)
theorem qv8 (h:BitVec 32) {d:Int} (hd:0≤d∧d≤16):(lowV h d).toNat=h.toNat % 2 ^ d.toNat:=by
 unfold lowV
 have h1:(2:Nat) ^ d.toNat≤2 ^ 16:=Nat.pow_le_pow_right (by omega) (by omega)
 have h2:0<(2:Nat) ^ d.toNat:=Nat.pow_pos (by omega)
 have e:(BitVec.ofInt 32 1<<<d.toNat-BitVec.ofInt 32 1:BitVec 32).toNat=2 ^ d.toNat-1:=by
  rw [BitVec.toNat_sub,BitVec.toNat_shiftLeft]
  show (2 ^ 32-1+1<<<d.toNat % 2 ^ 32) % 2 ^ 32=2 ^ d.toNat-1
  rw [Nat.shiftLeft_eq,Nat.one_mul]
  generalize (2:Nat) ^ d.toNat=m at *
  have h1':m≤65536:=h1
  rw [Nat.mod_eq_of_lt (show m<2 ^ 32 by omega)]
  omega
 rw [BitVec.toNat_and,e,Nat.and_two_pow_sub_one_eq_mod]
theorem pow_UV {d:Int} (hd:0≤d∧d≤16):UV (BitVec.ofInt 64 1<<<d.toNat)=((2 ^ d.toNat:Nat):Int)∧0<2 ^ d.toNat∧2 ^ d.toNat≤65536:=by
 have h1:(2:Nat) ^ d.toNat≤2 ^ 16:=Nat.pow_le_pow_right (by omega) (by omega)
 have h2:0<(2:Nat) ^ d.toNat:=Nat.pow_pos (by omega)
 have h3:(2:Nat) ^ d.toNat≤65536:=h1
 refine ⟨?_,h2,h3⟩
 unfold UV
 rw [BitVec.toNat_shiftLeft]
 show ((1<<<d.toNat % 2 ^ 64:Nat):Int)=_
 rw [Nat.shiftLeft_eq,Nat.one_mul]
 generalize (2:Nat) ^ d.toNat=m at *
 rw [Nat.mod_eq_of_lt (by omega)]
theorem wide_UV (h:BitVec 32):UV (h.setWidth 64)=UV h:=by
 unfold UV
 rw [BitVec.toNat_setWidth]
 have:=h.isLt
 omega
theorem qmi (h:BitVec 32) (d:Int) (hd:0≤d∧d≤16):FnP Tryz.prog 220 [Is (.int .u32 (UV h)),Is (.int .i64 d)] (Is (.int .u32 (UV (lowV h d)))):=by
 obtain ⟨hp,hp0,hp1⟩:=pow_UV hd
 have hne:UV (BitVec.ofInt 64 1<<<d.toNat)≠0:=by rw [hp];omega
 have e:UV (BitVec.ofInt 32 ((UV (h.setWidth 64)).tmod (UV (BitVec.ofInt 64 1<<<d.toNat))))=UV (lowV h d):=by
  rw [hp,wide_UV,Int.tmod_eq_emod_of_nonneg (qbq h)]
  have h3:=qv8 h hd
  have h1:=qbq h
  have h2:UV (lowV h d)=UV h % ((2 ^ d.toNat:Nat):Int):=by
   unfold UV
   rw [h3]
   simp
  generalize (2:Nat) ^ d.toNat=m at *
  have h4:=Int.emod_nonneg (UV h) (show (m:Int)≠0 by omega)
  have h5:=Int.emod_lt_of_pos (UV h) (show (0:Int)<m by omega)
  rw [qki (by omega),h2]
 refine FnP.enter func220 ntmps220 rfl rfl ?_
 intro c hX
 refine t11 ?_
 refine qap rfl (by exact qed (k:=d.toNat) qgp (er rfl) (by omega) qct) ?_
 refine t6 ?_
 refine qay results220 rfl () (SubL.eq ?_) (List.nil_sublist _)
 rw [← e]
theorem qnt (x:BitVec 32):FnP Tryz.prog 212 [Is (.int .u32 (UV x))] (Is (.int .u32 (UV (hashV x)))):=by
 refine FnP.enter func212 ntmps212 rfl rfl ?_
 intro c hX
 refine t16 ?_
 refine qap rfl (by exact qfs (k:=16) qmq (er rfl) (by omega) qct) ?_
 refine t5 ?_
 refine qay results212 rfl () (SubL.eq ?_) (List.nil_sublist _)
 rfl
def zd5 (p:Pt):Bool:=decide (p=Pt.nil)||qc5 p
def okW (x:BitVec 32):Bool:=(UV x==0)||qc5 (qd3 x)
theorem qwd (p:Pt):FnP Tryz.prog 246 [qks p] (Is (.bool (zd5 p))):=by
 refine FnP.enter func246 ntmps246 rfl rfl ?_
 intro c hX
 refine t3 ?_
 intro i1
 refine t7 ?_
 refine qap rfl (qdu (vs:=Pt.cells p) (ws:=Pt.cells Pt.nil) (er rfl) (er rfl) (qk1 _ _ _ p Pt.nil) (quc p Pt.nil)) ?_
 refine t2 ?_
 (refine qcp rfl rfl rfl (fun hg=>(by have hg0:=hg;(try simp at hg);exact qad call65 (qch _) ⟨evR,trivial⟩)) ?_)
 refine t5 ?_
 refine qay results246 rfl () (SubL.eq ?_) (List.nil_sublist _)
 rfl
theorem qj6 (w:BitVec 64):FnP Tryz.prog 217 [Is (.int .u64 (UV w))] (qbu [qks (qd3 (w.setWidth 32)),Is (.bool (okW (w.setWidth 32)))]):=by
 refine FnP.enter func217 ntmps217 rfl rfl ?_
 intro c hX
 refine t3 ?_
 intro i2
 refine t7 ?_
 refine kR call68 (qfk _) ?_
 refine s1 ?_
 intro i4
 refine t11 ?_
 refine cN ?_ ?_ <;> intro h2
 ·have h3:UV (w.setWidth 32)=0:=by simpa using h2
  have h4:(w.setWidth 32).toNat=0:=by unfold UV at h3;omega
  have e:w.setWidth 32=0#32:=BitVec.eq_of_toNat_eq h4
  rw [e]
  refine t9 ?_
  exact qan (Bs:=[qks Pt.nil,Is (.bool true)]) results217 eR () SubL.rfl' (List.nil_sublist _)
 have e:okW (w.setWidth 32)=qc5 (qd3 (w.setWidth 32)):=by unfold okW;rw [h2];rfl
 rw [e]
 refine t3 ?_
 refine qaz rfl (by kernel_rfl) ?_
 refine qc0 (it:=blk i2 _ _) (by repeat (first|exact Drop1.here _ _|apply Drop1.next)) ?_
 refine qc3 (its:=[_]) 5 (by kernel_rfl) ?_
 refine t2 ?_
 refine qbh (qad call65 (qch _) ⟨evR,trivial⟩) ?_
 refine qcz (s:=15) rfl rfl rfl (by kernel_rfl) (fun c'=>by exact qa2 (er rfl) (er rfl) qa6 qae rf rf rf) ?_
 refine s1 ?_
 refine ⟨rfl,?_⟩
 intro _
 refine qar ?_
 refine t2 ?_
 exact qan (Bs:=[qks (qd3 (w.setWidth 32)),Is (.bool (qc5 (qd3 (w.setWidth 32))))]) results217 eR () SubL.rfl' (List.nil_sublist _)
def qxw (d:Int):Int:=if d≤3 then 1 else if d=4 then 2 else 4
theorem qxv (d:Int) (h:0≤d∧d≤5):FnP Tryz.prog 243 [Is (.int .i64 d)] (Is (.int .i64 (qxw d))):=by
 have h6:d=0∨d=1∨d=2∨d=3∨d=4∨d=5:=by omega
 refine FnP.enter func243 ntmps243 rfl rfl ?_
 intro c hX
 refine t11 ?_
 refine qap rfl (op_max (er rfl) (er rfl)) ?_
 refine t4 ?_
 refine qay results243 rfl () (SubL.eq ?_) (List.nil_sublist _)
 rcases h6 with rfl|rfl|rfl|rfl|rfl|rfl <;> rfl
def enAt (es:List En) (k:Nat):En:=(es[k]?).getD ⟨0#32,Pt.nil⟩
theorem qnq {es:List En} {k:Nat} (h:k<es.length):es[k]?=some (enAt es k):=by
 unfold enAt
 rw [List.getElem?_eq_getElem h]
 rfl
def vbE (b:Bk):Nat→List En→Bool
 | _,[]=>true
 | k,e :: r=>if (decide (UV e.key<1)||decide (UV e.key>4294967294)||(!qc5 e.to)||(UV (lowV (hashV e.key) b.depth) != UV b.pat)||(decide ((k:Int)>0)&&decide (UV (enAt b.es (k-1)).key≥UV e.key)))=true then false else vbE b (k+1) r
def vB (b:Bk):Bool:=if (decide (b.depth<0)||decide (b.depth>16)||decide (UV (b.pat.setWidth 64)≥UV (BitVec.ofInt 64 1<<<b.depth.toNat))||(!zd5 b.next)||decide ((b.es.length:Int)>5))=true then false else vbE b 0 b.es
def okBk (b:Bk):Prop:=(0≤b.depth∧b.depth≤16)∧b.es.length≤5
theorem vB_ok {b:Bk} (h:vB b=true):okBk b:=by
 unfold vB at h
 split at h
 ·cases h
 ·rename_i h1
  simp at h1
  exact ⟨by omega,by omega⟩
theorem qju (b:Bk):FnP Tryz.prog 244 [IsBk b] (Is (.bool (vB b))):=by
 obtain ⟨W,hE⟩:∃ W,vB b=W:=⟨_,rfl⟩
 rw [hE]
 unfold vB at hE
 refine FnP.enter func244 ntmps244 rfl rfl ?_
 intro c hX
 refine t3 ?_
 intro i1
 refine t21 ?_
 (refine qcp rfl rfl rfl (fun hg=>(by have hg0:=hg;(try simp at hg);exact qed (k:=b.depth.toNat) qi4 evG (by omega) qct)) ?_)
 refine t5 ?_
 (refine qcp rfl rfl rfl (fun hg=>(by have hg0:=hg;(try simp at hg);exact qad call246 (qwd _) ⟨evR,trivial⟩)) ?_)
 refine t10 ?_
 refine cN ?_ ?_ <;> intro h1
 ·replace hE:=qa4 hE h1
  refine t7 ?_
  subst hE
  exact qan (Bs:=[_]) results244 eR () SubL.rfl' (List.nil_sublist _)
 rw [ifF h1] at hE
 have hok:(0≤b.depth∧b.depth≤16)∧b.es.length≤5:=by simp at h1;exact ⟨by omega,by omega⟩
 obtain ⟨hd,hl⟩:=hok
 clear h1
 refine t9 ?_
 refine qav [(1,_),(2,_)] [blk i1 _ _] (fun k:Nat=>k≤(b.es).length∧vbE b k (List.drop k (b.es))=W) (fun k=>[(3,Is (.int .i64 (k:Nat)))]) (fun k=>[]) (fun k=>(b.es).length-k) 0 ⟨by exact Nat.zero_le _,hE⟩ qbz qab ?_
 clear hE
 rintro k ⟨hk,hE⟩
 refine t10 ?_
 refine cN ?_ ?_ <;> intro h4
 ·have hlt:k<(b.es).length:=by have:=of_decide_eq_true h4;omega
  clear h4
  obtain ⟨z,hz⟩:∃ q,(b.es)[k]?=some q:=⟨_,List.getElem?_eq_getElem hlt⟩
  rw [qeo hz,vbE] at hE
  (try dsimp only at hE)
  have hz1:0<k→b.es[k-1]?=some (enAt b.es (k-1)):=fun _=>qnq (by omega)
  refine t12 ?_
  intro i4
  refine t4 ?_
  refine qaz rfl (by kernel_rfl) ?_
  refine qaf 41 (by kernel_rfl) ?_
  refine t11 ?_
  (refine qd2 rfl rfl (fun hg=>(by have hg0:=hg;(try simp at hg);exact qad call65 (qch _) ⟨evR,trivial⟩)) ?_)
  refine t5 ?_
  (refine qd2 rfl rfl (fun hg=>(by have hg0:=hg;(try simp at hg);exact qad call212 (qnt _) ⟨evR,trivial⟩)) ?_)
  refine t2 ?_
  (refine qd2 rfl rfl (fun hg=>(by have hg0:=hg;(try simp at hg);((refine qad call220 (qmi _ _ ?_) ⟨evR,⟨evR,trivial⟩⟩);all_goals (omega)))) ?_)
  refine t12 ?_
  (refine zax rfl rfl (fun hp hg=>(by have hpg:=Bool.and_eq_true_iff.2 ⟨hp,hg⟩;have hg0:=hg;(try simp at hg);exact qam (j:=k-1) evG evG rfl rfl (by omega) (hz1 (by omega)))) ?_)
  refine t7 ?_
  refine ⟨rfl,?_⟩
  refine qar ?_
  refine s1 ?_
  refine cN ?_ ?_ <;> intro h7
  ·replace hE:=qa4 hE h7
   refine t11 ?_
   subst hE
   exact qan (Bs:=[_]) results244 eR () SubL.rfl' (List.nil_sublist _)
  replace hE:=qba hE h7
  refine t8 ?_
  exact qaa (k+1) ⟨by omega,hE⟩ (by omega) qbz qab
 have hke:k=(b.es).length:=by have:=of_decide_eq_false h4;omega
 clear h4
 subst hke
 rw [List.drop_length,vbE] at hE
 (try dsimp only at hE)
 refine t11 ?_
 subst hE
 exact qan (Bs:=[_]) results244 eR () SubL.rfl' (List.nil_sublist _)
def pgAt (r:Rt):Nat→Pt
 | 0=>r.p0
 | 1=>r.p1
 | 2=>r.p2
 | _=>r.p3
def vrL (r:Rt):Nat→Nat→Bool
 | 0,_=>true
 | m+1,k=>if (!zd5 (pgAt r k)||(decide ((k:Int)<qxw r.depth)&&decide (pgAt r k=Pt.nil)))=true then false else vrL r m (k+1)
def vR (r:Rt):Bool:=if decide (r.first=Pt.nil)=true then decide (r=Rt.nil) else if (!qc5 r.first||decide (r.depth<0)||decide (r.depth>5))=true then false else vrL r 4 0
theorem vR_ok {r:Rt} (h:vR r=true):0≤r.depth∧r.depth≤5:=by
 unfold vR at h
 split at h
 ·have:=of_decide_eq_true h
  subst this
  decide
 ·split at h
  ·cases h
  ·rename_i h1
   simp at h1
   omega
theorem ql2 (r:Rt):FnP Tryz.prog 218 [IsRt r] (Is (.bool (vR r))):=by
 obtain ⟨W,hE⟩:∃ W,vR r=W:=⟨_,rfl⟩
 rw [hE]
 unfold vR at hE
 refine FnP.enter func218 ntmps218 rfl rfl ?_
 intro c hX
 refine t3 ?_
 intro i1
 refine t9 ?_
 refine qap rfl (qdt (er rfl) (er rfl)) ?_
 refine t2 ?_
 refine cN ?_ ?_ <;> intro h1
 ·replace hE:=qa4 hE h1
  refine t4 ?_
  refine qap rfl (qdu (vs:=Rt.cells r) (ws:=Rt.cells Rt.nil) (er rfl) (er rfl) (qwe _ _ _ r Rt.nil) (zd7 r Rt.nil)) ?_
  refine t5 ?_
  subst hE
  exact qan (Bs:=[_]) results218 eR () SubL.rfl' (List.nil_sublist _)
 replace hE:=qba hE h1
 refine t7 ?_
 refine kR call65 (qch _) ?_
 refine t13 ?_
 refine cN ?_ ?_ <;> intro h3
 ·replace hE:=qa4 hE h3
  refine t7 ?_
  subst hE
  exact qan (Bs:=[_]) results218 eR () SubL.rfl' (List.nil_sublist _)
 rw [ifF h3] at hE
 have hd:0≤r.depth∧r.depth≤5:=by simp at h3;omega
 clear h3
 refine t9 ?_
 refine qav [(1,_),(2,_)] [blk i1 _ _] (fun k:Nat=>k≤4∧vrL r (4-k) k=W) (fun k=>[(3,Is (.int .i64 (k:Nat)))]) (fun k=>[]) (fun k=>4-k) 0 ⟨by exact Nat.zero_le _,hE⟩ qbz qab ?_
 clear hE
 rintro k ⟨hk,hE⟩
 refine t7 ?_
 refine cN ?_ ?_ <;> intro h6
 ·have hlt:k<4:=by have:=of_decide_eq_true h6;omega
  clear h6
  rw [show 4-k=(4-(k+1))+1 by omega,vrL] at hE
  (try dsimp only at hE)
  rcases (show k=0∨k=1∨k=2∨k=3 by omega) with rfl|rfl|rfl|rfl
  all_goals
   refine t8 ?_
   refine qap rfl (qal (k:=_) (sz:=2) (er rfl) (er rfl) rfl rfl qct (by decide)) ?_
   refine s1 ?_
   refine kR call246 (qwd _) ?_
   refine t5 ?_
   (refine qcp rfl rfl rfl (fun hg=>(by have hg0:=hg;(try simp at hg);((refine qad call243 (qxv _ ?_) ⟨evR,trivial⟩);all_goals (omega)))) ?_)
   refine t4 ?_
   (refine JL_i rfl rfl rfl (fun hp hg=>(by have hpg:=Bool.and_eq_true_iff.2 ⟨hp,hg⟩;have hg0:=hg;(try simp at hg);exact qal (k:=_) (sz:=2) evG evG rfl rfl qct (by decide))) ?_)
   refine t2 ?_
   (refine JL_i rfl rfl rfl (fun hp hg=>(by have hpg:=Bool.and_eq_true_iff.2 ⟨hp,hg⟩;have hg0:=hg;(try simp at hg);exact qdt evG evG)) ?_)
   refine t4 ?_
   refine cN ?_ ?_ <;> intro h8
   ·replace hE:=qa4 hE h8
    refine t11 ?_
    subst hE
    exact qan (Bs:=[_]) results218 eR () SubL.rfl' (List.nil_sublist _)
   replace hE:=qba hE h8
   refine t8 ?_
   first|((guard_hyp hlt:(0:Nat)<4);exact qaa (1) ⟨by omega,hE⟩ (by omega) qbz qab)|((guard_hyp hlt:(1:Nat)<4);exact qaa (2) ⟨by omega,hE⟩ (by omega) qbz qab)|((guard_hyp hlt:(2:Nat)<4);exact qaa (3) ⟨by omega,hE⟩ (by omega) qbz qab)|((guard_hyp hlt:(3:Nat)<4);exact qaa (4) ⟨by omega,hE⟩ (by omega) qbz qab)
 have hke:k=4:=by have:=of_decide_eq_false h6;omega
 clear h6
 subst hke
 rw [Nat.sub_self,vrL] at hE
 (try dsimp only at hE)
 refine t11 ?_
 subst hE
 exact qan (Bs:=[_]) results218 eR () SubL.rfl' (List.nil_sublist _)
theorem qpf (p:Pg):FnP Tryz.prog 247 [qcr p] (qes (fun r:Bk×Int=>r.2=0→okBk r.1) fun r=>qbu [IsBk r.1,Is (.int .i64 r.2)]):=by
 refine FnP.enter func247 ntmps247 rfl rfl ?_
 intro c hX
 refine t3 ?_
 intro i1
 refine s1 ?_
 intro i2
 refine t6 ?_
 refine kR call206 (qo4 _) ?_
 refine t17 ?_
 refine kR call217 (qj6 _) ?_
 refine t4 ?_
 intro i6
 refine t8 ?_
 refine kR call113 (qeq _) ?_
 refine t22 ?_
 refine cN ?_ ?_ <;> intro h4
 ·refine t9 ?_
  exact qcg (Bs:=[_,_]) ((⟨_,_,(⟨_,_⟩:Pt),_⟩:Bk),_) rfl results247 eX (List.nil_sublist _) (by exact fun h=>absurd h (by decide))
 refine t12 ?_
 intro i8
 refine t10 ?_
 refine qcd 277 tEn ?_
 refine qav [(1,_),(2,_),(3,_),(5,_),(8,_)] [blk i2 _ _,blk i1 _ _] (fun y:Nat×Int×(BitVec 32)×Pt×(List En)×(Option Addr×Nat)=>y.1≤5∧(y.2.2.2.2.1.length≤y.1)) (fun y=>[(9,Is (.int .i64 (y.1:Nat)))]) (fun y=>[blk i8 293 [Is (.int .i64 y.2.1),Is (.int .u32 (UV y.2.2.1)),Is (.int .i64 y.2.2.2.1.line),Is (.int .i64 y.2.2.2.1.gen),Is (slV (y.2.2.2.2.1).length y.2.2.2.2.2)],buf (slV (y.2.2.2.2.1).length y.2.2.2.2.2) 277 tEn (y.2.2.2.2.1)]) (fun y=>5-y.1) (0,_,_,(⟨_,_⟩:Pt),[],(none,0)) ?_ qdq qab ?_
 ·exact ⟨by exact Nat.zero_le _,Nat.le_refl 0⟩
 rintro ⟨k,d,pt,nx,es,v_0⟩ ⟨hk,hI⟩
 dsimp only at hk hI ⊢
 refine t7 ?_
 refine cN ?_ ?_ <;> intro h8
 ·have hlt:k<5:=by have:=of_decide_eq_true h8;omega
  clear h8
  rcases (show k=0∨k=1∨k=2∨k=3∨k=4 by omega) with rfl|rfl|rfl|rfl|rfl
  all_goals
   refine t9 ?_
   refine qap rfl (qal (k:=_) (sz:=1) (er rfl) (er rfl) rfl rfl qct (by decide)) ?_
   refine t12 ?_
   refine cN ?_ ?_ <;> intro h11
   ·refine t7 ?_
    refine cN ?_ ?_ <;> intro h12
    ·refine t15 ?_
     exact qcg (Bs:=[_,_]) ((⟨_,_,(⟨_,_⟩:Pt),_⟩:Bk),_) rfl results247 eX (List.nil_sublist _) (by exact fun h=>absurd h (by decide))
    refine t11 ?_
    first|((guard_hyp hlt:(0:Nat)<5);refine qaa (1,_,_,(⟨_,_⟩:Pt),_,_) ?_ ?_ qdq qab)|((guard_hyp hlt:(1:Nat)<5);refine qaa (2,_,_,(⟨_,_⟩:Pt),_,_) ?_ ?_ qdq qab)|((guard_hyp hlt:(2:Nat)<5);refine qaa (3,_,_,(⟨_,_⟩:Pt),_,_) ?_ ?_ qdq qab)|((guard_hyp hlt:(3:Nat)<5);refine qaa (4,_,_,(⟨_,_⟩:Pt),_,_) ?_ ?_ qdq qab)|((guard_hyp hlt:(4:Nat)<5);refine qaa (5,_,_,(⟨_,_⟩:Pt),_,_) ?_ ?_ qdq qab)
    ·exact ⟨by omega,by (dsimp only;omega)⟩
    ·exact (by omega)
   refine t2 ?_
   refine qaz rfl (by kernel_rfl) ?_
   refine qaf 10 (by kernel_rfl) ?_
   refine t7 ?_
   refine qbh (qad call68 (qfk _) ⟨evR,trivial⟩) ?_
   refine s1 ?_
   refine qbh (qac (size:=3) (qs:=[(0,_)]) rfl rfl rfl ⟨⟨rfl,_,(er rfl),qa6⟩,trivial⟩ rf rf) ?_
   refine ⟨rfl,?_⟩
   (refine JD_s (by kernel_rfl) rfl rfl (qb6 (er rfl) (fun _=>qae) (by exact Ev.sub rfl (by exact SubL.row (xs:=[(⟨_,_⟩:En)]) rf rf qg9)) (by exact qej rfl rfl rfl) qb8) ?_;intro i79)
   refine qaf 1 (by kernel_rfl) ?_
   refine s1 ?_
   refine ⟨rfl,?_⟩
   refine qeb (by kernel_rfl) rfl (qas (er rfl) (er rfl) qa6 qae qbm rf rf rf) ?_
   refine qar ?_
   refine t7 ?_
   first|((guard_hyp hlt:(0:Nat)<5);refine qaa (1,_,_,(⟨_,_⟩:Pt),_,_) ?_ ?_ qdq qab)|((guard_hyp hlt:(1:Nat)<5);refine qaa (2,_,_,(⟨_,_⟩:Pt),_,_) ?_ ?_ qdq qab)|((guard_hyp hlt:(2:Nat)<5);refine qaa (3,_,_,(⟨_,_⟩:Pt),_,_) ?_ ?_ qdq qab)|((guard_hyp hlt:(3:Nat)<5);refine qaa (4,_,_,(⟨_,_⟩:Pt),_,_) ?_ ?_ qdq qab)|((guard_hyp hlt:(4:Nat)<5);refine qaa (5,_,_,(⟨_,_⟩:Pt),_,_) ?_ ?_ qdq qab)
   ·exact ⟨by omega,by (simp only [List.length_append,List.length_cons,List.length_nil];omega)⟩
   ·exact (by omega)
 have hke:k=5:=by have:=of_decide_eq_false h8;omega
 clear h8
 subst hke
 refine qa7 hX (v:=slV es.length v_0) qae ?_
 refine qbr (b:=i8) (As':=tBk.cells ⟨d,pt,nx,es⟩) qae qim ?_
 refine t9 ?_
 refine kR call244 (qju ⟨d,pt,nx,es⟩) ?_
 refine t3 ?_
 refine cN ?_ ?_ <;> intro h15
 ·refine t9 ?_
  exact qcg (Bs:=[_,_]) ((⟨_,_,(⟨_,_⟩:Pt),_⟩:Bk),_) rfl results247 eX (List.nil_sublist _) (by exact fun h=>absurd h (by decide))
 have hv:vB ⟨d,pt,nx,es⟩=true:=by simpa using h15
 refine t10 ?_
 exact qcg (Bs:=[_,_]) ((⟨_,_,(⟨_,_⟩:Pt),_⟩:Bk),_) rfl results247 eX (List.nil_sublist _) (by exact fun _=>vB_ok hv)
theorem rem32 (x:BitVec 64):(UV x).tmod 4294967296=UV (x&&&BitVec.ofInt 64 4294967295):=by
 rw [Int.tmod_eq_emod_of_nonneg (qbq x)]
 exact (qm7 64 32 x _ rfl).symm
theorem qov (p:Pg) (b:Bk):FnP Tryz.prog 215 [qcr p,IsBk b] (qes (fun r:Pg×Int=>Ln p→Ln r.1) fun r=>qbu [qcr r.1,Is (.int .i64 r.2)]):=by
 refine FnP.enter func215 ntmps215 rfl rfl ?_
 intro c hX
 refine t3 ?_
 intro i2
 refine s1 ?_
 intro i3
 refine s1 ?_
 intro i4
 refine t7 ?_
 refine kR call113 (qeq _) ?_
 refine t3 ?_
 (refine qcp rfl rfl rfl (fun hg=>(by have hg0:=hg;(try simp at hg);exact qad call244 (qju b) ⟨evR,trivial⟩)) ?_)
 refine t4 ?_
 refine cN ?_ ?_ <;> intro h1
 ·refine t9 ?_
  exact qcg (Bs:=[_,_]) ((⟨_,_,_,_,_,_,_,_,_⟩:Pg),_) rfl results215 eX (List.nil_sublist _) (by exact by exact fun _=>ln0)
 have hv:vB b=true:=by simp at h1;exact h1.2
 have hl:=(vB_ok hv).2
 refine t10 ?_
 intro i6
 refine t4 ?_
 refine qaz rfl (by kernel_rfl) ?_
 refine qaf 18 (by kernel_rfl) ?_
 refine s1 ?_
 refine qbh (qad call8 (qgt _) ⟨evR,trivial⟩) ?_
 refine t11 ?_
 refine qbh (by exact qgf (k:=16) qmq (er rfl) (by omega) qct) ?_
 refine s1 ?_
 refine qbh (qad call152 (qmt _ _ _) ⟨evR,⟨evR,⟨evR,trivial⟩⟩⟩) ?_
 refine t2 ?_
 refine ⟨rfl,?_⟩
 refine qeb (by kernel_rfl) rfl (qas (er rfl) (er rfl) qa6 qae qbm rf rf rf) ?_
 refine qar ?_
 refine t5 ?_
 refine kR call73 (qfw _) ?_
 refine t13 ?_
 refine qbr (b:=i6) (As':=tPg.cells (⟨_,_,_,_,_,_,_,_,_⟩:Pg)) qae qim ?_
 refine qav [(3,_),(4,_),(5,_),(6,_)] [blk i4 _ _,blk i3 _ _] (fun y:Nat×Pg=>y.1≤(b.es).length∧(y.2.l=p.l)) (fun y=>[(7,Is (.int .i64 (y.1:Nat)))]) (fun y=>[blk i6 48 (tPg.cells y.2)]) (fun y=>(b.es).length-y.1) (0,(⟨_,_,_,_,_,_,_,_,_⟩:Pg)) ?_ qdq qab ?_
 ·exact ⟨by exact Nat.zero_le _,rfl⟩
 rintro ⟨k,q⟩ ⟨hk,hI⟩
 dsimp only at hk hI ⊢
 refine t10 ?_
 refine cN ?_ ?_ <;> intro h7
 ·have hlt:k<(b.es).length:=by have:=of_decide_eq_true h7;omega
  clear h7
  obtain ⟨z,hz⟩:∃ q,(b.es)[k]?=some q:=⟨_,List.getElem?_eq_getElem hlt⟩
  rcases (show k=0∨k=1∨k=2∨k=3∨k=4 by omega) with rfl|rfl|rfl|rfl|rfl
  all_goals
   refine t4 ?_
   refine qaz rfl (by kernel_rfl) ?_
   refine qaf 21 (by kernel_rfl) ?_
   refine t9 ?_
   refine qbh (by exact qed (k:=32) qgp (er rfl) (by omega) qct) ?_
   refine t6 ?_
   refine qbh (qad call73 (qfw _) ⟨evR,trivial⟩) ?_
   refine t3 ?_
   refine qbh (qal (k:=_) (sz:=1) (er rfl) (er rfl) rfl rfl qct (by decide)) ?_
   refine ⟨rfl,?_⟩
   refine qeb (by kernel_rfl) rfl (qas (er rfl) (er rfl) qa6 qae qbm rf rf rf) ?_
   refine qar ?_
   refine t7 ?_
   refine qao (b:=i6) (As':=tPg.cells (⟨_,_,_,_,_,_,_,_,_⟩:Pg)) qae qim ?_
   first|((guard_hyp hlt:(0:Nat)<(b.es).length);refine qaa (1,(⟨_,_,_,_,_,_,_,_,_⟩:Pg)) ?_ ?_ qdq qab)|((guard_hyp hlt:(1:Nat)<(b.es).length);refine qaa (2,(⟨_,_,_,_,_,_,_,_,_⟩:Pg)) ?_ ?_ qdq qab)|((guard_hyp hlt:(2:Nat)<(b.es).length);refine qaa (3,(⟨_,_,_,_,_,_,_,_,_⟩:Pg)) ?_ ?_ qdq qab)|((guard_hyp hlt:(3:Nat)<(b.es).length);refine qaa (4,(⟨_,_,_,_,_,_,_,_,_⟩:Pg)) ?_ ?_ qdq qab)|((guard_hyp hlt:(4:Nat)<(b.es).length);refine qaa (5,(⟨_,_,_,_,_,_,_,_,_⟩:Pg)) ?_ ?_ qdq qab)
   ·exact ⟨by omega,hI⟩
   ·exact (by omega)
 have hke:k=(b.es).length:=by have:=of_decide_eq_false h7;omega
 clear h7
 subst hke
 refine t13 ?_
 exact qcg (Bs:=[_,_]) ((⟨_,_,_,_,_,_,_,_,_⟩:Pg),_) rfl results215 eX (List.nil_sublist _) (by exact by exact zab hI)
theorem qjv (p:Pg):FnP Tryz.prog 170 [qcr p] (qes (fun r:Rt×Int=>0≤r.1.depth∧r.1.depth≤5) fun r=>qbu [IsRt r.1,Is (.int .i64 r.2)]):=by
 refine FnP.enter func170 ntmps170 rfl rfl ?_
 intro c hX
 refine t3 ?_
 intro i1
 refine s1 ?_
 intro i2
 refine t11 ?_
 refine cN ?_ ?_ <;> intro h1
 ·refine t9 ?_
  exact qcg (Bs:=[_,_]) ((⟨(⟨_,_⟩:Pt),_,(⟨_,_⟩:Pt),(⟨_,_⟩:Pt),(⟨_,_⟩:Pt),(⟨_,_⟩:Pt)⟩:Rt),_) rfl results170 eX (List.nil_sublist _) (by exact by decide)
 refine t5 ?_
 intro i4
 refine t11 ?_
 refine cN ?_ ?_ <;> intro h4
 ·refine t9 ?_
  exact qcg (Bs:=[_,_]) ((⟨(⟨_,_⟩:Pt),_,(⟨_,_⟩:Pt),(⟨_,_⟩:Pt),(⟨_,_⟩:Pt),(⟨_,_⟩:Pt)⟩:Rt),_) rfl results170 eX (List.nil_sublist _) (by exact by decide)
 refine t7 ?_
 refine qap rfl (by exact qhw (k:=32) qgp (er rfl) (by omega) qct) ?_
 refine t16 ?_
 rw [rem32]
 refine kR call217 (qj6 _) ?_
 refine t15 ?_
 refine qbr (b:=i4) (As':=tRt.cells (⟨(⟨_,_⟩:Pt),_,(⟨_,_⟩:Pt),(⟨_,_⟩:Pt),(⟨_,_⟩:Pt),(⟨_,_⟩:Pt)⟩:Rt)) qae qim ?_
 refine qav [(1,_),(2,_),(3,_),(4,_)] [blk i2 _ _,blk i1 _ _] (fun y:Nat×Rt×Bool=>y.1≤4) (fun y=>[(5,Is (.bool y.2.2)),(6,Is (.int .i64 (y.1:Nat)))]) (fun y=>[blk i4 289 (tRt.cells y.2.1)]) (fun y=>4-y.1) (0,(⟨(⟨_,_⟩:Pt),_,(⟨_,_⟩:Pt),(⟨_,_⟩:Pt),(⟨_,_⟩:Pt),(⟨_,_⟩:Pt)⟩:Rt),_) (Nat.zero_le _) qdq qab ?_
 rintro ⟨k,r,ok⟩ hk
 dsimp only at hk ⊢
 refine t7 ?_
 refine cN ?_ ?_ <;> intro h10
 ·have hlt:k<4:=by have:=of_decide_eq_true h10;omega
  clear h10
  rcases (show k=0∨k=1∨k=2∨k=3 by omega) with rfl|rfl|rfl|rfl
  all_goals
   refine t16 ?_
   refine qap rfl (qal (k:=_) (sz:=1) (er rfl) (er rfl) rfl rfl qct (by decide)) ?_
   refine t7 ?_
   rw [rem32]
   refine kR call217 (qj6 _) ?_
   refine t4 ?_
   refine qap rfl (qal (k:=_) (sz:=2) (er rfl) (er rfl) rfl rfl qct (by decide)) ?_
   refine t18 ?_
   refine qao (b:=i4) (As':=tRt.cells (⟨(⟨_,_⟩:Pt),_,(⟨_,_⟩:Pt),(⟨_,_⟩:Pt),(⟨_,_⟩:Pt),(⟨_,_⟩:Pt)⟩:Rt)) qae qim ?_
   first|((guard_hyp hlt:(0:Nat)<4);refine qaa (1,(⟨(⟨_,_⟩:Pt),_,(⟨_,_⟩:Pt),(⟨_,_⟩:Pt),(⟨_,_⟩:Pt),(⟨_,_⟩:Pt)⟩:Rt),_) ?_ ?_ qdq qab)|((guard_hyp hlt:(1:Nat)<4);refine qaa (2,(⟨(⟨_,_⟩:Pt),_,(⟨_,_⟩:Pt),(⟨_,_⟩:Pt),(⟨_,_⟩:Pt),(⟨_,_⟩:Pt)⟩:Rt),_) ?_ ?_ qdq qab)|((guard_hyp hlt:(2:Nat)<4);refine qaa (3,(⟨(⟨_,_⟩:Pt),_,(⟨_,_⟩:Pt),(⟨_,_⟩:Pt),(⟨_,_⟩:Pt),(⟨_,_⟩:Pt)⟩:Rt),_) ?_ ?_ qdq qab)|((guard_hyp hlt:(3:Nat)<4);refine qaa (4,(⟨(⟨_,_⟩:Pt),_,(⟨_,_⟩:Pt),(⟨_,_⟩:Pt),(⟨_,_⟩:Pt),(⟨_,_⟩:Pt)⟩:Rt),_) ?_ ?_ qdq qab)
   ·exact (by omega)
   ·exact (by omega)
 have hke:k=4:=by have:=of_decide_eq_false h10;omega
 clear h10
 subst hke
 refine t12 ?_
 (refine qcp rfl rfl rfl (fun hg=>(by have hg0:=hg;(try simp at hg);exact qad call218 (ql2 r) ⟨evR,trivial⟩)) ?_)
 refine t4 ?_
 refine cN ?_ ?_ <;> intro h15
 ·refine t9 ?_
  exact qcg (Bs:=[_,_]) ((⟨(⟨_,_⟩:Pt),_,(⟨_,_⟩:Pt),(⟨_,_⟩:Pt),(⟨_,_⟩:Pt),(⟨_,_⟩:Pt)⟩:Rt),_) rfl results170 eX (List.nil_sublist _) (by exact by decide)
 have hv:vR r=true:=by simp at h15;exact h15.2
 refine t10 ?_
 exact qcg (Bs:=[_,_]) ((⟨(⟨_,_⟩:Pt),_,(⟨_,_⟩:Pt),(⟨_,_⟩:Pt),(⟨_,_⟩:Pt),(⟨_,_⟩:Pt)⟩:Rt),_) rfl results170 eX (List.nil_sublist _) (by exact vR_ok hv)
theorem qsb (p:Pg) (r:Rt):FnP Tryz.prog 242 [qcr p,IsRt r] (qes (fun r:Pg×Int=>Ln p→Ln r.1) fun r=>qbu [qcr r.1,Is (.int .i64 r.2)]):=by
 refine FnP.enter func242 ntmps242 rfl rfl ?_
 intro c hX
 refine t3 ?_
 intro i2
 refine s1 ?_
 intro i3
 refine s1 ?_
 intro i4
 refine t11 ?_
 (refine qcp rfl rfl rfl (fun hg=>(by have hg0:=hg;(try simp at hg);exact qad call218 (ql2 r) ⟨evR,trivial⟩)) ?_)
 refine t4 ?_
 refine cN ?_ ?_ <;> intro h1
 ·refine t9 ?_
  exact qcg (Bs:=[_,_]) ((⟨_,_,_,_,_,_,_,_,_⟩:Pg),_) rfl results242 eX (List.nil_sublist _) (by exact by exact fun _=>ln0)
 refine t6 ?_
 intro i6
 refine t4 ?_
 refine qaz rfl (by kernel_rfl) ?_
 refine qaf 11 (by kernel_rfl) ?_
 refine t2 ?_
 refine qbh (qad call73 (qfw _) ⟨evR,trivial⟩) ?_
 refine t4 ?_
 refine qbh (by exact qed (k:=32) qgp (er rfl) (by omega) qct) ?_
 refine t3 ?_
 refine ⟨rfl,?_⟩
 refine qeb (by kernel_rfl) rfl (qas (er rfl) (er rfl) qa6 qae qbm rf rf rf) ?_
 refine qar ?_
 refine t8 ?_
 refine qbr (b:=i6) (As':=tPg.cells (⟨_,_,_,_,_,_,_,_,_⟩:Pg)) qae qim ?_
 refine qav [(3,_),(4,_),(5,_),(6,_)] [blk i4 _ _,blk i3 _ _] (fun y:Nat×Pg=>y.1≤2∧(y.2.l=p.l)) (fun y=>[(7,Is (.int .i64 (y.1:Nat)))]) (fun y=>[blk i6 48 (tPg.cells y.2)]) (fun y=>2-y.1) (0,(⟨_,_,_,_,_,_,_,_,_⟩:Pg)) ?_ qdq qab ?_
 ·exact ⟨by exact Nat.zero_le _,rfl⟩
 rintro ⟨k,q⟩ ⟨hk,hI⟩
 dsimp only at hk hI ⊢
 refine t7 ?_
 refine cN ?_ ?_ <;> intro h6
 ·have hlt:k<2:=by have:=of_decide_eq_true h6;omega
  clear h6
  rcases (show k=0∨k=1 by omega) with rfl|rfl
  all_goals
   refine t4 ?_
   refine qaz rfl (by kernel_rfl) ?_
   refine qaf 21 (by kernel_rfl) ?_
   refine t5 ?_
   refine qbh (qal (k:=_) (sz:=2) (er rfl) (er rfl) rfl rfl qct (by decide)) ?_
   refine s1 ?_
   refine qbh (qad call73 (qfw _) ⟨evR,trivial⟩) ?_
   refine t5 ?_
   refine qbh (qal (k:=_) (sz:=2) (er rfl) (er rfl) rfl rfl qct (by decide)) ?_
   refine s1 ?_
   refine qbh (qad call73 (qfw _) ⟨evR,trivial⟩) ?_
   refine s1 ?_
   refine qbh (by exact qed (k:=32) qgp (er rfl) (by omega) qct) ?_
   refine t2 ?_
   refine qbh (qal (k:=_) (sz:=1) (er rfl) (er rfl) rfl rfl qct (by decide)) ?_
   refine ⟨rfl,?_⟩
   refine qeb (by kernel_rfl) rfl (qas (er rfl) (er rfl) qa6 qae qbm rf rf rf) ?_
   refine qar ?_
   refine t7 ?_
   refine qao (b:=i6) (As':=tPg.cells (⟨_,_,_,_,_,_,_,_,_⟩:Pg)) qae qim ?_
   first|((guard_hyp hlt:(0:Nat)<2);refine qaa (1,(⟨_,_,_,_,_,_,_,_,_⟩:Pg)) ?_ ?_ qdq qab)|((guard_hyp hlt:(1:Nat)<2);refine qaa (2,(⟨_,_,_,_,_,_,_,_,_⟩:Pg)) ?_ ?_ qdq qab)
   ·exact ⟨by omega,hI⟩
   ·exact (by omega)
 have hke:k=2:=by have:=of_decide_eq_false h6;omega
 clear h6
 subst hke
 refine t13 ?_
 exact qcg (Bs:=[_,_]) ((⟨_,_,_,_,_,_,_,_,_⟩:Pg),_) rfl results242 eX (List.nil_sublist _) (by exact by exact zab hI)
theorem qg2 (p:Pg):FnP Tryz.prog 221 [qcr p] (VEx fun r:S8×Int=>qbu [IsS8 r.1,Is (.int .i64 r.2)]):=by
 refine FnP.enter func221 ntmps221 rfl rfl ?_
 intro c hX
 refine t3 ?_
 intro i1
 refine s1 ?_
 intro i2
 refine t6 ?_
 intro i4
 refine t6 ?_
 refine kR call113 (qeq _) ?_
 refine t3 ?_
 (refine qcp rfl rfl rfl (fun hg=>(by have hg0:=hg;(try simp at hg);exact qad call206 (qo4 _) ⟨evR,trivial⟩)) ?_)
 refine t16 ?_
 refine cN ?_ ?_ <;> intro h2
 ·refine t9 ?_
  exact qcj (Bs:=[_,_]) ((⟨(⟨_,_⟩:Pt),(⟨_,_⟩:Pt),(⟨_,_⟩:Pt),(⟨_,_⟩:Pt),(⟨_,_⟩:Pt),(⟨_,_⟩:Pt),(⟨_,_⟩:Pt),(⟨_,_⟩:Pt)⟩:S8),_) rfl results221 eX (List.nil_sublist _)
 refine t9 ?_
 refine qbr (b:=i4) (As':=tS8.cells (⟨(⟨_,_⟩:Pt),(⟨_,_⟩:Pt),(⟨_,_⟩:Pt),(⟨_,_⟩:Pt),(⟨_,_⟩:Pt),(⟨_,_⟩:Pt),(⟨_,_⟩:Pt),(⟨_,_⟩:Pt)⟩:S8)) qae qim ?_
 refine qav [(1,_),(2,_),(3,_),(4,_)] [blk i2 _ _,blk i1 _ _] (fun y:Nat×S8=>y.1≤8) (fun y=>[(5,Is (.int .i64 (y.1:Nat)))]) (fun y=>[blk i4 351 (tS8.cells y.2)]) (fun y=>8-y.1) (0,(⟨(⟨_,_⟩:Pt),(⟨_,_⟩:Pt),(⟨_,_⟩:Pt),(⟨_,_⟩:Pt),(⟨_,_⟩:Pt),(⟨_,_⟩:Pt),(⟨_,_⟩:Pt),(⟨_,_⟩:Pt)⟩:S8)) (Nat.zero_le _) qdq qab ?_
 rintro ⟨k,s⟩ hk
 dsimp only at hk ⊢
 refine t7 ?_
 refine cN ?_ ?_ <;> intro h5
 ·have hlt:k<8:=by have:=of_decide_eq_true h5;omega
  clear h5
  rcases (show k=0∨k=1∨k=2∨k=3∨k=4∨k=5∨k=6∨k=7 by omega) with rfl|rfl|rfl|rfl|rfl|rfl|rfl|rfl
  all_goals
   refine t16 ?_
   refine qap rfl (qal (k:=_) (sz:=1) (er rfl) (er rfl) rfl rfl qct (by decide)) ?_
   refine t7 ?_
   rw [rem32]
   refine kR call217 (qj6 _) ?_
   refine t3 ?_
   refine qap rfl (qal (k:=_) (sz:=2) (er rfl) (er rfl) rfl rfl qct (by decide)) ?_
   refine t10 ?_
   refine cN ?_ ?_ <;> intro h9
   ·refine t2 ?_
    refine qap rfl (qdo (size:=2) (qs:=[]) rfl rfl rfl rfl trivial rf qbm) ?_
    refine t10 ?_
    exact qcj (Bs:=[_,_]) ((⟨(⟨_,_⟩:Pt),(⟨_,_⟩:Pt),(⟨_,_⟩:Pt),(⟨_,_⟩:Pt),(⟨_,_⟩:Pt),(⟨_,_⟩:Pt),(⟨_,_⟩:Pt),(⟨_,_⟩:Pt)⟩:S8),_) rfl results221 eX (List.nil_sublist _)
   refine t8 ?_
   refine qao (b:=i4) (As':=tS8.cells (⟨(⟨_,_⟩:Pt),(⟨_,_⟩:Pt),(⟨_,_⟩:Pt),(⟨_,_⟩:Pt),(⟨_,_⟩:Pt),(⟨_,_⟩:Pt),(⟨_,_⟩:Pt),(⟨_,_⟩:Pt)⟩:S8)) qae qim ?_
   first|((guard_hyp hlt:(0:Nat)<8);refine qaa (1,(⟨(⟨_,_⟩:Pt),(⟨_,_⟩:Pt),(⟨_,_⟩:Pt),(⟨_,_⟩:Pt),(⟨_,_⟩:Pt),(⟨_,_⟩:Pt),(⟨_,_⟩:Pt),(⟨_,_⟩:Pt)⟩:S8)) ?_ ?_ qdq qab)|((guard_hyp hlt:(1:Nat)<8);refine qaa (2,(⟨(⟨_,_⟩:Pt),(⟨_,_⟩:Pt),(⟨_,_⟩:Pt),(⟨_,_⟩:Pt),(⟨_,_⟩:Pt),(⟨_,_⟩:Pt),(⟨_,_⟩:Pt),(⟨_,_⟩:Pt)⟩:S8)) ?_ ?_ qdq qab)|((guard_hyp hlt:(2:Nat)<8);refine qaa (3,(⟨(⟨_,_⟩:Pt),(⟨_,_⟩:Pt),(⟨_,_⟩:Pt),(⟨_,_⟩:Pt),(⟨_,_⟩:Pt),(⟨_,_⟩:Pt),(⟨_,_⟩:Pt),(⟨_,_⟩:Pt)⟩:S8)) ?_ ?_ qdq qab)|((guard_hyp hlt:(3:Nat)<8);refine qaa (4,(⟨(⟨_,_⟩:Pt),(⟨_,_⟩:Pt),(⟨_,_⟩:Pt),(⟨_,_⟩:Pt),(⟨_,_⟩:Pt),(⟨_,_⟩:Pt),(⟨_,_⟩:Pt),(⟨_,_⟩:Pt)⟩:S8)) ?_ ?_ qdq qab)|((guard_hyp hlt:(4:Nat)<8);refine qaa (5,(⟨(⟨_,_⟩:Pt),(⟨_,_⟩:Pt),(⟨_,_⟩:Pt),(⟨_,_⟩:Pt),(⟨_,_⟩:Pt),(⟨_,_⟩:Pt),(⟨_,_⟩:Pt),(⟨_,_⟩:Pt)⟩:S8)) ?_ ?_ qdq qab)|((guard_hyp hlt:(5:Nat)<8);refine qaa (6,(⟨(⟨_,_⟩:Pt),(⟨_,_⟩:Pt),(⟨_,_⟩:Pt),(⟨_,_⟩:Pt),(⟨_,_⟩:Pt),(⟨_,_⟩:Pt),(⟨_,_⟩:Pt),(⟨_,_⟩:Pt)⟩:S8)) ?_ ?_ qdq qab)|((guard_hyp hlt:(6:Nat)<8);refine qaa (7,(⟨(⟨_,_⟩:Pt),(⟨_,_⟩:Pt),(⟨_,_⟩:Pt),(⟨_,_⟩:Pt),(⟨_,_⟩:Pt),(⟨_,_⟩:Pt),(⟨_,_⟩:Pt),(⟨_,_⟩:Pt)⟩:S8)) ?_ ?_ qdq qab)|((guard_hyp hlt:(7:Nat)<8);refine qaa (8,(⟨(⟨_,_⟩:Pt),(⟨_,_⟩:Pt),(⟨_,_⟩:Pt),(⟨_,_⟩:Pt),(⟨_,_⟩:Pt),(⟨_,_⟩:Pt),(⟨_,_⟩:Pt),(⟨_,_⟩:Pt)⟩:S8)) ?_ ?_ qdq qab)
   ·exact (by omega)
   ·exact (by omega)
 have hke:k=8:=by have:=of_decide_eq_false h5;omega
 clear h5
 subst hke
 refine t13 ?_
 exact qcj (Bs:=[_,_]) ((⟨(⟨_,_⟩:Pt),(⟨_,_⟩:Pt),(⟨_,_⟩:Pt),(⟨_,_⟩:Pt),(⟨_,_⟩:Pt),(⟨_,_⟩:Pt),(⟨_,_⟩:Pt),(⟨_,_⟩:Pt)⟩:S8),_) rfl results221 eX (List.nil_sublist _)
theorem qpa (p:Pg) (s:S8):FnP Tryz.prog 241 [qcr p,IsS8 s] (qes (fun r:Pg×Int=>Ln p→Ln r.1) fun r=>qbu [qcr r.1,Is (.int .i64 r.2)]):=by
 refine FnP.enter func241 ntmps241 rfl rfl ?_
 intro c hX
 refine t3 ?_
 intro i2
 refine s1 ?_
 intro i3
 refine s1 ?_
 intro i4
 refine t7 ?_
 refine kR call113 (qeq _) ?_
 refine t3 ?_
 refine cN ?_ ?_ <;> intro h1
 ·refine t9 ?_
  exact qcg (Bs:=[_,_]) ((⟨_,_,_,_,_,_,_,_,_⟩:Pg),_) rfl results241 eX (List.nil_sublist _) (by exact by exact fun _=>ln0)
 refine t10 ?_
 intro i6
 refine t6 ?_
 refine kR call8 (qgt _) ?_
 refine kR call152 (qmt _ _ 0#32) ?_
 refine t12 ?_
 refine qbr (b:=i6) (As':=tPg.cells (⟨_,_,_,_,_,_,_,_,_⟩:Pg)) qae qim ?_
 refine qav [(3,_),(4,_),(5,_),(6,_)] [blk i4 _ _,blk i3 _ _] (fun y:Nat×Pg=>y.1≤8∧(y.2.l=p.l)) (fun y=>[(7,Is (.int .i64 (y.1:Nat)))]) (fun y=>[blk i6 48 (tPg.cells y.2)]) (fun y=>8-y.1) (0,(⟨_,_,_,_,_,_,_,_,_⟩:Pg)) ?_ qdq qab ?_
 ·exact ⟨by exact Nat.zero_le _,rfl⟩
 rintro ⟨k,q⟩ ⟨hk,hI⟩
 dsimp only at hk hI ⊢
 refine t7 ?_
 refine cN ?_ ?_ <;> intro h6
 ·have hlt:k<8:=by have:=of_decide_eq_true h6;omega
  clear h6
  rcases (show k=0∨k=1∨k=2∨k=3∨k=4∨k=5∨k=6∨k=7 by omega) with rfl|rfl|rfl|rfl|rfl|rfl|rfl|rfl
  all_goals
   refine t8 ?_
   refine qap rfl (qal (k:=_) (sz:=2) (er rfl) (er rfl) rfl rfl qct (by decide)) ?_
   refine s1 ?_
   refine kR call246 (qwd _) ?_
   refine t3 ?_
   refine cN ?_ ?_ <;> intro h8
   ·refine t14 ?_
    exact qcg (Bs:=[_,_]) ((⟨_,_,_,_,_,_,_,_,_⟩:Pg),_) rfl results241 eX (List.nil_sublist _) (by exact by exact fun _=>ln0)
   refine t2 ?_
   refine qaz rfl (by kernel_rfl) ?_
   refine qaf 19 (by kernel_rfl) ?_
   refine t4 ?_
   refine qbh (qal (k:=_) (sz:=1) (er rfl) (er rfl) rfl rfl qct (by decide)) ?_
   refine t2 ?_
   refine qbh (qal (k:=_) (sz:=2) (er rfl) (er rfl) rfl rfl qct (by decide)) ?_
   refine s1 ?_
   refine qbh (qad call73 (qfw _) ⟨evR,trivial⟩) ?_
   refine t8 ?_
   refine qbh (qal (k:=_) (sz:=1) (er rfl) (er rfl) rfl rfl qct (by decide)) ?_
   refine ⟨rfl,?_⟩
   refine qeb (by kernel_rfl) rfl (qas (er rfl) (er rfl) qa6 qae qbm rf rf rf) ?_
   refine qar ?_
   refine t7 ?_
   refine qao (b:=i6) (As':=tPg.cells (⟨_,_,_,_,_,_,_,_,_⟩:Pg)) qae qim ?_
   first|((guard_hyp hlt:(0:Nat)<8);refine qaa (1,(⟨_,_,_,_,_,_,_,_,_⟩:Pg)) ?_ ?_ qdq qab)|((guard_hyp hlt:(1:Nat)<8);refine qaa (2,(⟨_,_,_,_,_,_,_,_,_⟩:Pg)) ?_ ?_ qdq qab)|((guard_hyp hlt:(2:Nat)<8);refine qaa (3,(⟨_,_,_,_,_,_,_,_,_⟩:Pg)) ?_ ?_ qdq qab)|((guard_hyp hlt:(3:Nat)<8);refine qaa (4,(⟨_,_,_,_,_,_,_,_,_⟩:Pg)) ?_ ?_ qdq qab)|((guard_hyp hlt:(4:Nat)<8);refine qaa (5,(⟨_,_,_,_,_,_,_,_,_⟩:Pg)) ?_ ?_ qdq qab)|((guard_hyp hlt:(5:Nat)<8);refine qaa (6,(⟨_,_,_,_,_,_,_,_,_⟩:Pg)) ?_ ?_ qdq qab)|((guard_hyp hlt:(6:Nat)<8);refine qaa (7,(⟨_,_,_,_,_,_,_,_,_⟩:Pg)) ?_ ?_ qdq qab)|((guard_hyp hlt:(7:Nat)<8);refine qaa (8,(⟨_,_,_,_,_,_,_,_,_⟩:Pg)) ?_ ?_ qdq qab)
   ·exact ⟨by omega,hI⟩
   ·exact (by omega)
 have hke:k=8:=by have:=of_decide_eq_false h6;omega
 clear h6
 subst hke
 refine t13 ?_
 exact qcg (Bs:=[_,_]) ((⟨_,_,_,_,_,_,_,_,_⟩:Pg),_) rfl results241 eX (List.nil_sublist _) (by exact by exact zab hI)
theorem qbo (B:Nat) (o:O23) (e:Int):FnP Tryz.prog 209 [IsO23 o,Is (.int .i64 e)] (qqk B ⟨[],[],{ o with code:=e },true⟩):=by
 refine FnP.enter func209 ntmps209 rfl rfl ?_
 intro c hX
 refine t3 ?_
 intro i2
 refine s1 ?_
 intro i4
 refine t17 ?_
 exact qan (Bs:=[_]) results209 eRF () SubL.rfl' (List.nil_sublist _)
theorem qs5 (ks:List Pg):FnP Tryz.prog 219 [IsSl tPg ks] (qes (fun r:Pg×Rt×List Int×Int=>r.2.2.1.length≤1∧0≤r.2.1.depth∧r.2.1.depth≤5) fun r=>qbu [qcr r.1,IsRt r.2.1,IsSl tI64 r.2.2.1,Is (.int .i64 r.2.2.2)]):=by
 refine FnP.enter func219 ntmps219 rfl rfl ?_
 intro c hX
 refine t3 ?_
 intro i2
 refine s1 ?_
 intro i3
 refine t7 ?_
 refine kRF call32 (qby _ _) ?_
 refine t4 ?_
 intro i6
 refine t11 ?_
 refine cN ?_ ?_ <;> intro h2
 ·refine t4 ?_
  refine qap rfl (OpP.to (qac (size:=1) (qs:=[(0,_)]) rfl rfl rfl ⟨⟨rfl,_,(er rfl),qag⟩,trivial⟩ rf rf) (SubL.row1 (T:=tI64) (x:=_) rf rf rf qak)) ?_
  refine t8 ?_
  exact qcg (Bs:=[_,_,_,_]) ((⟨_,_,_,_,_,_,_,_,_⟩:Pg),(⟨(⟨_,_⟩:Pt),_,(⟨_,_⟩:Pt),(⟨_,_⟩:Pt),(⟨_,_⟩:Pt),(⟨_,_⟩:Pt)⟩:Rt),_,_) rfl results219 eXF (List.nil_sublist _) (by exact ⟨Nat.le_refl 1,Int.le_refl 0,(by omega:(0:Int)≤5)⟩)
 refine t5 ?_
 refine kRF call170 (qjv _) ?_
 (refine qa5 22 rfl ?_;intro x22 hx22)
 refine t4 ?_
 intro i8
 refine t11 ?_
 refine cN ?_ ?_ <;> intro h5
 ·refine t12 ?_
  exact qcg (Bs:=[_,_,_,_]) ((⟨_,_,_,_,_,_,_,_,_⟩:Pg),(⟨(⟨_,_⟩:Pt),_,(⟨_,_⟩:Pt),(⟨_,_⟩:Pt),(⟨_,_⟩:Pt),(⟨_,_⟩:Pt)⟩:Rt),_,_) rfl results219 eXF (List.nil_sublist _) (by exact ⟨Nat.zero_le _,Int.le_refl 0,(by omega:(0:Int)≤5)⟩)
 refine t3 ?_
 refine qaz rfl (by kernel_rfl) ?_
 refine qc0 (it:=blk i3 _ _) (by repeat (first|exact Drop1.here _ _|apply Drop1.next)) ?_
 refine qc0 (it:=blk i2 _ _) (by repeat (first|exact Drop1.here _ _|apply Drop1.next)) ?_
 refine qc3 (its:=[_,_]) 6 (by kernel_rfl) ?_
 refine t2 ?_
 refine qcz (s:=31) rfl rfl rfl (by kernel_rfl) (fun c'=>by exact qa2 (er rfl) (er rfl) qag qae rf rf rf) ?_
 refine qcz (s:=32) rfl rfl rfl (by kernel_rfl) (fun c'=>by exact qa2 (er rfl) (er rfl) qag qae rf rf rf) ?_
 refine t2 ?_
 refine ⟨rfl,?_⟩
 intro _ _
 refine qar ?_
 refine t2 ?_
 exact qcg (Bs:=[_,_,_,_]) ((⟨_,_,_,_,_,_,_,_,_⟩:Pg),(⟨(⟨_,_⟩:Pt),_,(⟨_,_⟩:Pt),(⟨_,_⟩:Pt),(⟨_,_⟩:Pt),(⟨_,_⟩:Pt)⟩:Rt),_,_) rfl results219 eXF (List.nil_sublist _) (by exact ⟨Nat.zero_le _,hx22⟩)
theorem qgz:okBk Bk.nil:=⟨by decide,by decide⟩
def PL23 (r:P23):Prop:=r.need.length≤1∧okBk r.bucket∧r.out.check.length≤1∧Ln r.page
theorem qst (at_:Pt) (h:BitVec 32) (r:Rt) (ks:List Pg):FnP Tryz.prog 222 [qks at_,Is (.int .u32 (UV h)),IsRt r,IsSl tPg ks] (qes PL23 fun r=>IsP23 r):=by
 refine FnP.enter func222 ntmps222 rfl rfl ?_
 intro c hX
 refine t3 ?_
 intro i4
 refine s1 ?_
 intro i6
 refine s1 ?_
 intro i8
 refine t6 ?_
 intro i9
 refine t10 ?_
 refine qbr (b:=i9) (As':=tPt.cells (⟨_,_⟩:Pt)) qae qbf ?_
 refine qav [(1,_),(3,_),(6,_),(8,_),(9,_)] [blk i8 _ _,blk i6 _ _] (fun y:Nat×Pt=>y.1≤257) (fun y=>[(10,Is (.int .i64 (y.1:Nat)))]) (fun y=>[blk i9 55 (tPt.cells y.2)]) (fun y=>257-y.1) (0,(⟨_,_⟩:Pt)) (Nat.zero_le _) qaj qab ?_
 rintro ⟨k,a⟩ hk
 dsimp only at hk ⊢
 refine t7 ?_
 refine cN ?_ ?_ <;> intro h3
 ·have hlt:k<257:=by have:=of_decide_eq_true h3;omega
  clear h3
  refine t8 ?_
  refine kRF call167 (qh3 _ _ _ _) ?_
  refine t5 ?_
  intro i11
  refine t16 ?_
  refine cN ?_ ?_ <;> intro h6
  ·refine t4 ?_
   refine qap rfl (OpP.to (qac (size:=1) (qs:=[(0,_)]) rfl rfl rfl ⟨⟨rfl,_,(er rfl),qag⟩,trivial⟩ rf rf) (SubL.row1 (T:=tI64) (x:=_) rf rf rf qak)) ?_
   refine t11 ?_
   exact rXF (⟨_,_,(⟨_,_,_,_,_,_,_,_,_⟩:Pg),(⟨_,_,(⟨_,_⟩:Pt),_⟩:Bk),(⟨_,_,_,_,_,_,(⟨_,_⟩:Pt),_,_,_⟩:O23)⟩:P23) results222 (hp:=by exact ⟨by simp,qgz,Nat.zero_le _,ln0⟩)
  refine t9 ?_
  refine cN ?_ ?_ <;> intro h8
  ·refine t7 ?_
   refine cN ?_ ?_ <;> intro h9
   ·refine t19 ?_
    exact rXF (⟨_,_,(⟨_,_,_,_,_,_,_,_,_⟩:Pg),(⟨_,_,(⟨_,_⟩:Pt),_⟩:Bk),(⟨_,_,_,_,_,_,(⟨_,_⟩:Pt),_,_,_⟩:O23)⟩:P23) results222 (hp:=by exact ⟨by simp,qgz,Nat.zero_le _,ln0⟩)
   refine t17 ?_
   exact rXF (⟨_,_,(⟨_,_,_,_,_,_,_,_,_⟩:Pg),(⟨_,_,(⟨_,_⟩:Pt),_⟩:Bk),(⟨_,_,_,_,_,_,(⟨_,_⟩:Pt),_,_,_⟩:O23)⟩:P23) results222 (hp:=by exact ⟨by simp,qgz,Nat.zero_le _,ln0⟩)
  refine t5 ?_
  refine kRF call247 (qpf _) ?_
  (refine qa5 48 rfl ?_;intro x48 hx48)
  refine t4 ?_
  intro i14
  refine t11 ?_
  refine cN ?_ ?_ <;> intro h13
  ·refine t14 ?_
   exact rXF (⟨_,_,(⟨_,_,_,_,_,_,_,_,_⟩:Pg),(⟨_,_,(⟨_,_⟩:Pt),_⟩:Bk),(⟨_,_,_,_,_,_,(⟨_,_⟩:Pt),_,_,_⟩:O23)⟩:P23) results222 (hp:=by exact ⟨by simp,qgz,Nat.zero_le _,ln0⟩)
  have hok:=hx48 (by simpa using h13)
  obtain ⟨⟨hb1,hb2⟩,hbl⟩:=id hok
  refine t4 ?_
  refine qaz rfl (by kernel_rfl) ?_
  refine qaf 7 (by kernel_rfl) ?_
  refine t3 ?_
  refine qbh (by ((refine qad call220 (qmi _ _ ?_) ⟨qaq,⟨qaq,trivial⟩⟩);all_goals (omega))) ?_
  refine t3 ?_
  refine ⟨rfl,?_⟩
  refine qar ?_
  refine s1 ?_
  refine cN ?_ ?_ <;> intro h15
  ·refine t24 ?_
   intro i16
   refine t7 ?_
   refine kRF call33 (qcc _) ?_
   refine t2 ?_
   refine cN ?_ ?_ <;> intro h17
   ·refine t21 ?_
    exact rXF (⟨_,_,(⟨_,_,_,_,_,_,_,_,_⟩:Pg),(⟨_,_,(⟨_,_⟩:Pt),_⟩:Bk),(⟨_,_,_,_,_,_,(⟨_,_⟩:Pt),_,_,_⟩:O23)⟩:P23) results222 (hp:=by exact ⟨Nat.zero_le _,hok,Nat.zero_le _,qfb _ _ _ _⟩)
   refine t18 ?_
   exact rXF (⟨_,_,(⟨_,_,_,_,_,_,_,_,_⟩:Pg),(⟨_,_,(⟨_,_⟩:Pt),_⟩:Bk),(⟨_,_,_,_,_,_,(⟨_,_⟩:Pt),_,_,_⟩:O23)⟩:P23) results222 (hp:=by exact ⟨Nat.zero_le _,hok,Nat.zero_le _,qfb _ _ _ _⟩)
  refine t8 ?_
  refine qap rfl (qdt (er rfl) (er rfl)) ?_
  refine t2 ?_
  refine cN ?_ ?_ <;> intro h20
  ·refine t14 ?_
   exact rXF (⟨_,_,(⟨_,_,_,_,_,_,_,_,_⟩:Pg),(⟨_,_,(⟨_,_⟩:Pt),_⟩:Bk),(⟨_,_,_,_,_,_,(⟨_,_⟩:Pt),_,_,_⟩:O23)⟩:P23) results222 (hp:=by exact ⟨by simp,qgz,Nat.zero_le _,ln0⟩)
  refine t14 ?_
  refine qao (b:=i9) (As':=tPt.cells (⟨_,_⟩:Pt)) qae qbf ?_
  refine qaa (k+1,(⟨_,_⟩:Pt)) ?_ ?_ qaj qab
  ·exact (by omega)
  ·exact (by omega)
 have hke:k=257:=by have:=of_decide_eq_false h3;omega
 clear h3
 subst hke
 refine t13 ?_
 exact rXF (⟨_,_,(⟨_,_,_,_,_,_,_,_,_⟩:Pg),(⟨_,_,(⟨_,_⟩:Pt),_⟩:Bk),(⟨_,_,_,_,_,_,(⟨_,_⟩:Pt),_,_,_⟩:O23)⟩:P23) results222 (hp:=by exact ⟨by simp,qgz,Nat.zero_le _,ln0⟩)
theorem qI8 (i:Nat) (h:i<1000):IntKind.i64.wrap ((i:Int).tdiv 8)=((i / 8:Nat):Int):=by
 rw [Int.tdiv_eq_ediv_of_nonneg (by omega),qpi (by omega)];omega
theorem rI8 (i:Nat):(i:Int).tmod 8=((i % 8:Nat):Int):=by
 rw [Int.tmod_eq_emod_of_nonneg (by omega)];omega
def setPg (r:Rt) (k:Nat) (p:Pt):Rt:=match k with
 | 0=>{ r with p0:=p }
 | 1=>{ r with p1:=p }
 | 2=>{ r with p2:=p }
 | _=>{ r with p3:=p }
theorem qxn (r:Rt) {k:Nat} (hk:k<4):((tRt.cells r).drop (3+k*2)).take 2=tPt.cells (pgAt r k):=by
 rcases (show k=0∨k=1∨k=2∨k=3 by omega) with rfl|rfl|rfl|rfl <;> rfl
theorem qtc (r:Rt) {k:Nat} (hk:k<4):Nat.ble (3+k*2+2) (tRt.cells r).length=true:=Nat.ble_eq_true_of_le (by rw [tRt.len];show _≤11;omega)
theorem qvs (r:Rt) {k:Nat} (hk:k<4):(tRt.cells r)[3+k*2]?=some (Is (.int .i64 (pgAt r k).line)):=by
 rcases (show k=0∨k=1∨k=2∨k=3 by omega) with rfl|rfl|rfl|rfl <;> rfl
theorem pg_set (r:Rt) (p:Pt) {k:Nat} (hk:k<4):ovr (tRt.cells r) (3+k*2) (tPt.cells p)=tRt.cells (setPg r k p):=by
 rcases (show k=0∨k=1∨k=2∨k=3 by omega) with rfl|rfl|rfl|rfl <;> rfl
def slAt (s:S8):Nat→Pt
 | 0=>s.s0
 | 1=>s.s1
 | 2=>s.s2
 | 3=>s.s3
 | 4=>s.s4
 | 5=>s.s5
 | 6=>s.s6
 | _=>s.s7
def setSl (s:S8) (k:Nat) (p:Pt):S8:=match k with
 | 0=>{ s with s0:=p }
 | 1=>{ s with s1:=p }
 | 2=>{ s with s2:=p }
 | 3=>{ s with s3:=p }
 | 4=>{ s with s4:=p }
 | 5=>{ s with s5:=p }
 | 6=>{ s with s6:=p }
 | _=>{ s with s7:=p }
theorem e8 {k:Nat} (hk:k<8):k=0∨k=1∨k=2∨k=3∨k=4∨k=5∨k=6∨k=7:=by omega
theorem qw9 (s:S8) {k:Nat} (hk:k<8):((tS8.cells s).drop (0+k*2)).take 2=tPt.cells (slAt s k):=by
 rcases e8 hk with rfl|rfl|rfl|rfl|rfl|rfl|rfl|rfl <;> rfl
theorem qpn (s:S8) {k:Nat} (hk:k<8):Nat.ble (0+k*2+2) (tS8.cells s).length=true:=Nat.ble_eq_true_of_le (by rw [tS8.len];show _≤16;omega)
theorem sl_set (s:S8) (p:Pt) {k:Nat} (hk:k<8):ovr (tS8.cells s) (0+k*2) (tPt.cells p)=tS8.cells (setSl s k p):=by
 rcases e8 hk with rfl|rfl|rfl|rfl|rfl|rfl|rfl|rfl <;> rfl
theorem qk9 (h:BitVec 32) (ks:List Pg):FnP Tryz.prog 171 [Is (.int .u32 (UV h)),IsSl tPg ks] (qes PL23 fun r=>IsP23 r):=by
 refine FnP.enter func171 ntmps171 rfl rfl ?_
 intro c hX
 refine t3 ?_
 intro i4
 refine t5 ?_
 refine kRF call219 (qs5 _) ?_
 (refine qa5 19 rfl ?_;intro x19 hx19)
 refine t6 ?_
 intro i5
 refine s1 ?_
 intro i6
 refine t8 ?_
 obtain ⟨hn1,hdp⟩:=hx19
 refine t10 ?_
 refine cN ?_ ?_ <;> intro h2
 ·refine t11 ?_
  exact rXF (⟨_,_,(⟨_,_,_,_,_,_,_,_,_⟩:Pg),(⟨_,_,(⟨_,_⟩:Pt),_⟩:Bk),(⟨_,_,_,_,_,_,(⟨_,_⟩:Pt),_,_,_⟩:O23)⟩:P23) results171 (hp:=by exact ⟨by exact hn1,qgz,Nat.zero_le _,ln0⟩)
 refine t8 ?_
 refine qap rfl (qdt (er rfl) (er rfl)) ?_
 refine t2 ?_
 refine cN ?_ ?_ <;> intro h4
 ·refine t8 ?_
  exact rXF (⟨_,_,(⟨_,_,_,_,_,_,_,_,_⟩:Pg),(⟨_,_,(⟨_,_⟩:Pt),_⟩:Bk),(⟨_,_,_,_,_,_,(⟨_,_⟩:Pt),_,_,_⟩:O23)⟩:P23) results171 (hp:=by exact ⟨by exact Nat.zero_le _,qgz,Nat.zero_le _,ln0⟩)
 have hlo:UV (lowV h x19.2.1.depth)<32:=by
  unfold UV
  rw [qv8 h (by omega)]
  have h1:(2:Nat) ^ x19.2.1.depth.toNat≤2 ^ 5:=Nat.pow_le_pow_right (by omega) (by omega)
  have h2:=Nat.mod_lt h.toNat (show 0<(2:Nat) ^ x19.2.1.depth.toNat from Nat.pow_pos (by omega))
  omega
 obtain ⟨i,hi⟩:∃ i:Nat,UV (lowV h x19.2.1.depth)=(i:Int):=⟨_,rfl⟩
 have hi32:i<32:=by omega
 have hq4:i / 8<4:=by omega
 have hm8:i % 8<8:=by omega
 clear hlo
 refine t7 ?_
 refine qap rfl (by ((refine qad call220 (qmi _ _ ?_) ⟨qaq,⟨qaq,trivial⟩⟩);all_goals (omega))) ?_
 refine t5 ?_
 refine qb0 9 (Is (.int .i64 (i:Nat))) rfl (SubL.eq (by rw [← hi])) ?_
 refine t4 ?_
 intro i10
 refine t7 ?_
 refine qap rfl (qjb (er rfl) (er rfl) (by omega) (qI8 i (by omega))) ?_
 refine s1 ?_
 refine qap rfl (qal (k:=i / 8) (sz:=2) (er rfl) (er rfl) rfl rfl rfl hq4) ?_
 refine qap rfl (qbp (n:=2) (er rfl) qbw rf rf rf (qtc _ hq4) (qxn _ hq4)) ?_
 refine kRF call167 (qh3 _ _ _ _) ?_
 refine t5 ?_
 intro i11
 refine t16 ?_
 refine cN ?_ ?_ <;> intro h9
 ·refine t3 ?_
  refine qap rfl (qjb (er rfl) (er rfl) (by omega) (qI8 i (by omega))) ?_
  refine s1 ?_
  refine qap rfl (qal (k:=i / 8) (sz:=2) (er rfl) (er rfl) rfl rfl rfl hq4) ?_
  refine s1 ?_
  refine qap rfl (qir (er rfl) qbw rf rf (qvs _ hq4)) ?_
  refine qap rfl (OpP.to (qac (size:=1) (qs:=[(0,_)]) rfl rfl rfl ⟨⟨rfl,_,(er rfl),qag⟩,trivial⟩ rf rf) (SubL.row1 (T:=tI64) (x:=_) rf rf rf qak)) ?_
  refine t6 ?_
  exact rXF (⟨_,_,(⟨_,_,_,_,_,_,_,_,_⟩:Pg),(⟨_,_,(⟨_,_⟩:Pt),_⟩:Bk),(⟨_,_,_,_,_,_,(⟨_,_⟩:Pt),_,_,_⟩:O23)⟩:P23) results171 (hp:=by exact ⟨by exact Nat.le_refl 1,qgz,Nat.zero_le _,ln0⟩)
 refine t9 ?_
 refine qb1 [(0,_),(1,_),(4,_),(6,_),(10,_)] [blk i6 _ _,blk i4 _ _] (fun yc:Pt=>True) (fun yc=>[]) (fun yc=>[blk i10 55 (tPt.cells yc)]) qaj qab ?_ ?_
 rotate_left
 focus
  refine cN ?_ ?_ <;> intro h11
  ·refine t3 ?_
   refine kRF call221 (qg2 _) ?_
   (refine qgm 76 rfl ?_;intro x76)
   refine t4 ?_
   intro i14
   refine t10 ?_
   (refine qcp rfl rfl rfl (fun hg=>(by have hg0:=hg;(try simp at hg);exact qln evG evG (by omega) (rI8 i))) ?_)
   (refine qcp rfl rfl rfl (fun hg=>(by have hg0:=hg;(try simp at hg);exact qal (k:=i % 8) (sz:=2) evG evG rfl rfl rfl hm8)) ?_)
   (refine qcp rfl rfl rfl (fun hg=>(by have hg0:=hg;(try simp at hg);exact qbp (n:=2) evG qbw rf rf rf (qpn _ hm8) (qw9 _ hm8))) ?_)
   refine s1 ?_
   (refine qcp rfl rfl rfl (fun hg=>(by have hg0:=hg;(try simp at hg);exact qgx evG evG)) ?_)
   refine t3 ?_
   refine cN ?_ ?_ <;> intro h13
   ·refine t2 ?_
    refine qap rfl (qln (er rfl) (er rfl) (by omega) (rI8 i)) ?_
    refine qap rfl (qal (k:=i % 8) (sz:=2) (er rfl) (er rfl) rfl rfl rfl hm8) ?_
    refine qap rfl (qbp (n:=2) (er rfl) qbw rf rf rf (qpn _ hm8) (qw9 _ hm8)) ?_
    refine t2 ?_
    refine qao (b:=i10) (As':=tPt.cells (⟨_,_⟩:Pt)) qae qbf ?_
    exact qai (⟨_,_⟩:Pt) (trivial) qaj qab
   refine s1 ?_
   refine qao (b:=i10) (As':=tPt.cells (⟨_,_⟩:Pt)) qae qbf ?_
   exact qai (⟨_,_⟩:Pt) (trivial) qaj qab
  refine s1 ?_
  refine qao (b:=i10) (As':=tPt.cells (⟨_,_⟩:Pt)) qae qbf ?_
  exact qai (⟨_,_⟩:Pt) (trivial) qaj qab
 rintro st _
 refine t6 ?_
 refine kXF call222 (qst (⟨_,_⟩:Pt) _ (⟨(⟨_,_⟩:Pt),_,(⟨_,_⟩:Pt),(⟨_,_⟩:Pt),(⟨_,_⟩:Pt),(⟨_,_⟩:Pt)⟩:Rt) _) ?_
 (refine qa5 97 rfl ?_;intro x97 hx97)
 refine s1 ?_
 intro i16
 refine t5 ?_
 have hpl:PL23 x97:=hx97
 refine t4 ?_
 refine qap rfl (qgx (er rfl) (er rfl)) ?_
 refine t25 ?_
 refine qb1 [(4,_),(16,_)] [blk i4 _ _] (fun yc:P23=>PL23 yc) (fun yc=>[]) (fun yc=>[blk i16 295 (tP23.cells yc)]) qaj qab ?_ ?_
 rotate_left
 focus
  refine cN ?_ ?_ <;> intro h16
  ·refine t6 ?_
   refine kXF call222 (qst (⟨_,_⟩:Pt) _ (⟨(⟨_,_⟩:Pt),_,(⟨_,_⟩:Pt),(⟨_,_⟩:Pt),(⟨_,_⟩:Pt),(⟨_,_⟩:Pt)⟩:Rt) _) ?_
   (refine qa5 130 rfl ?_;intro x130 hx130)
   refine t2 ?_
   refine qao (b:=i16) (As':=tP23.cells (⟨_,_,(⟨_,_,_,_,_,_,_,_,_⟩:Pg),(⟨_,_,(⟨_,_⟩:Pt),_⟩:Bk),(⟨_,_,_,_,_,_,(⟨_,_⟩:Pt),_,_,_⟩:O23)⟩:P23)) qae qbf ?_
   refine qai (⟨_,_,(⟨_,_,_,_,_,_,_,_,_⟩:Pg),(⟨_,_,(⟨_,_⟩:Pt),_⟩:Bk),(⟨_,_,_,_,_,_,(⟨_,_⟩:Pt),_,_,_⟩:O23)⟩:P23) ?_ qaj qab
   ·exact (by exact hx130)
  refine s1 ?_
  refine qao (b:=i16) (As':=tP23.cells (⟨_,_,(⟨_,_,_,_,_,_,_,_,_⟩:Pg),(⟨_,_,(⟨_,_⟩:Pt),_⟩:Bk),(⟨_,_,_,_,_,_,(⟨_,_⟩:Pt),_,_,_⟩:O23)⟩:P23)) qae qbf ?_
  refine qai (⟨_,_,(⟨_,_,_,_,_,_,_,_,_⟩:Pg),(⟨_,_,(⟨_,_⟩:Pt),_⟩:Bk),(⟨_,_,_,_,_,_,(⟨_,_⟩:Pt),_,_,_⟩:O23)⟩:P23) ?_ qaj qab
  ·exact (by exact hpl)
 rintro o hI
 refine t13 ?_
 exact rXF (⟨_,_,(⟨_,_,_,_,_,_,_,_,_⟩:Pg),(⟨_,_,(⟨_,_⟩:Pt),_⟩:Bk),(⟨_,_,_,_,_,_,(⟨_,_⟩:Pt),_,_,_⟩:O23)⟩:P23) results171 (hp:=by exact ⟨hI.1,hI.2.1,hI.2.2.1,hI.2.2.2⟩)
theorem qp3 (l:List En) (key:BitVec 32) (hl:l.length≤1000):FnP Tryz.prog 214 [IsSl tEn l,Is (.int .u32 (UV key))] (qes (fun r:Nat×Bool=>r.1≤l.length∧(r.2=true→r.1<l.length)) fun r=>qbu [Is (.int .i64 (r.1:Nat)),Is (.bool r.2)]):=by
 refine FnP.enter func214 ntmps214 rfl rfl ?_
 intro c hX
 refine qgv (t:=0) rfl (fun hlen=>?_)
 refine t13 ?_
 refine qav [(0,_),(1,_),(4,_),(5,_)] [] (fun k:Nat=>k≤(l).length) (fun k=>[(6,Is (.int .i64 (k:Nat)))]) (fun k=>[]) (fun k=>(l).length-k) 0 (Nat.zero_le _) qaj qab ?_
 rintro k hk
 refine t9 ?_
 refine cN ?_ ?_ <;> intro h2
 ·have hlt:k<(l).length:=by have:=of_decide_eq_true h2;omega
  clear h2
  obtain ⟨z,hz⟩:∃ q,(l)[k]?=some q:=⟨_,List.getElem?_eq_getElem hlt⟩
  refine t15 ?_
  refine cN ?_ ?_ <;> intro h4
  ·refine s1 ?_
   refine qaz rfl (by kernel_rfl) ?_
   refine qaf 10 (by kernel_rfl) ?_
   refine t10 ?_
   refine ⟨rfl,?_⟩
   refine qar ?_
   refine t7 ?_
   exact qn2 (_,_) results214 (hp:=by exact ⟨by omega,fun _=>by omega⟩)
  refine t8 ?_
  exact qaa (k+1) (by omega) (by omega) qaj qab
 have hke:k=(l).length:=by have:=of_decide_eq_false h2;omega
 clear h2
 subst hke
 refine t14 ?_
 exact qn2 (_,_) results214 (hp:=by exact ⟨Nat.le_refl _,fun h=>Bool.noConfusion h⟩)
theorem qnv (l:List En) (e:En) (hl:l.length≤1000):FnP Tryz.prog 245 [IsSl tEn l,IsEn e] (qes (fun r:List En=>r.length≤l.length+1) fun r=>IsSl tEn r):=by
 refine FnP.enter func245 ntmps245 rfl rfl ?_
 intro c hX
 refine t3 ?_
 intro i3
 refine t8 ?_
 refine qap rfl (by ((refine qad call214 (qp3 _ _ ?_) ⟨qaq,⟨qaq,trivial⟩⟩);all_goals (first|first|assumption|omega))) ?_
 (refine qa5 11 rfl ?_;intro x11 hx11)
 refine t8 ?_
 obtain ⟨hi1,hi2⟩:=hx11
 refine qaz rfl (by kernel_rfl) ?_
 refine qaf 12 (by kernel_rfl) ?_
 refine qkq (qb3 tEn rfl rfl) ?_
 refine t2 ?_
 refine qbh (qcx (er rfl) rfl rfl rfl ⟨_,_,(er rfl),rf⟩ (by omega) (by omega)) ?_
 refine qd7 rfl rfl rfl rf (by kernel_rfl) (qd4 qaq (by exact qej rfl rfl rfl) qb8) ?_
 refine s1 ?_
 refine qbh (OpP.to (qac (size:=3) (qs:=[(0,_)]) rfl rfl rfl ⟨⟨rfl,_,(er rfl),qag⟩,trivial⟩ rf rf) (SubL.row1 (T:=tEn) (x:=(⟨_,(⟨_,_⟩:Pt)⟩:En)) rf rf rf qak)) ?_
 refine qd7 rfl rfl rfl rf (by kernel_rfl) (qd4 (by exact er rfl) (by exact qej rfl rfl rfl) qb8) ?_
 refine t2 ?_
 refine qbh (qcx (er rfl) rfl rfl ⟨_,_,(er rfl),rf⟩ rfl (by omega) (by omega)) ?_
 refine qd7 rfl rfl rfl rf (by kernel_rfl) (qd4 qaq (by exact qej rfl rfl rfl) qb8) ?_
 refine ⟨rfl,?_⟩
 intro i25
 refine JD_1 (by kernel_rfl) rfl rfl (qei rfl) ?_
 refine qar ?_
 refine t2 ?_
 refine qgl hX qae ?_
 exact qcg (Bs:=[_]) _ rfl results245 eRF (List.nil_sublist _) (by simp;omega)
theorem qqc (fr:List Pg) (kinds others:List Int) (hk:kinds.length≤10) (ho:others.length≤10):FnP Tryz.prog 238 [IsSl tPg fr,IsSl tI64 kinds,IsSl tI64 others] (qes (fun r:List Pg×Int=>r.2=0→r.1.length=kinds.length∧∀ p,p∈r.1→Ln p) fun r=>qbu [IsSl tPg r.1,Is (.int .i64 r.2)]):=by
 refine FnP.enter func238 ntmps238 rfl rfl ?_
 intro c hX
 refine t16 ?_
 refine cN ?_ ?_ <;> intro h1
 ·refine t8 ?_
  exact qn2 (_,_) results238 (hp:=by exact fun h=>absurd h (by decide))
 have hfk:kinds.length≤fr.length:=by have:=of_decide_eq_false h1;omega
 clear h1
 refine t20 ?_
 refine qcd 48 tPg ?_
 refine qav [(0,_),(1,_),(6,_),(7,_)] [] (fun y:Nat×(List Int)×(List Pg)×(Option Addr×Nat)=>y.1≤(kinds).length∧(y.2.2.1.length=y.1∧y.2.1.length≤10+y.1∧∀ p,p∈y.2.2.1→Ln p)) (fun y=>[(9,IsSl tI64 y.2.1),(8,Is (slV (y.2.2.1).length y.2.2.2)),(10,Is (.int .i64 (y.1:Nat)))]) (fun y=>[buf (slV (y.2.2.1).length y.2.2.2) 48 tPg (y.2.2.1)]) (fun y=>(kinds).length-y.1) (0,_,[],(none,0)) ?_ qaj qab ?_
 ·exact ⟨by exact Nat.zero_le _,⟨rfl,by dsimp only;omega,lns0⟩⟩
 rintro ⟨k,ls,out,v_0⟩ ⟨hk,hI⟩
 dsimp only at hk hI ⊢
 refine t9 ?_
 refine cN ?_ ?_ <;> intro h6
 ·have hlt:k<(kinds).length:=by have:=of_decide_eq_true h6;omega
  clear h6
  obtain ⟨z,hz⟩:∃ q,(kinds)[k]?=some q:=⟨_,List.getElem?_eq_getElem hlt⟩
  obtain ⟨g,hzk⟩:∃ q,fr[k]?=some q:=⟨_,List.getElem?_eq_getElem (by omega)⟩
  refine t5 ?_
  refine qaz rfl (by kernel_rfl) ?_
  refine qaf 15 (by kernel_rfl) ?_
  refine t2 ?_
  refine qbh (by exact qam (j:=_) (er rfl) (er rfl) rfl rfl rf hzk) ?_
  refine t5 ?_
  refine qbh (qad call185 (qj2 _ _ _) ⟨qaq,⟨qaq,⟨qaq,trivial⟩⟩⟩) ?_
  refine t3 ?_
  refine qkq (qbl rfl qbm rfl) ?_
  refine qcy rfl rfl rfl (by kernel_rfl) (qca qaq qag rfl rfl rfl qbm) ?_
  refine s1 ?_
  refine ⟨rfl,?_⟩
  intro i11
  refine qar ?_
  refine t10 ?_
  (refine qcp rfl rfl rfl (fun hg=>(by have hg0:=hg;(try simp at hg);exact qam (j:=_) evG evG rfl rfl rf hzk)) ?_)
  refine t2 ?_
  (refine qcp rfl rfl rfl (fun hg=>(by have hg0:=hg;(try simp at hg);exact qad call253 (Has_ok _ _) ⟨qaq,⟨qaq,trivial⟩⟩)) ?_)
  refine t3 ?_
  refine cN ?_ ?_ <;> intro h9
  ·refine t13 ?_
   exact qn2 (_,_) results238 (hp:=by exact fun h=>absurd h (by decide))
  refine t3 ?_
  refine qaz rfl (by kernel_rfl) ?_
  refine qaf 10 (by kernel_rfl) ?_
  refine qkq (qb3 tI64 rfl rfl) ?_
  refine s1 ?_
  refine qd7 rfl rfl rfl rf (by kernel_rfl) (qd4 qaq (by exact qej rfl rfl rfl) qb8) ?_
  refine t2 ?_
  refine qbh (by exact qam (j:=_) (er rfl) (er rfl) rfl rfl rf hzk) ?_
  refine t2 ?_
  refine qbh (OpP.to (qac (size:=1) (qs:=[(0,_)]) rfl rfl rfl ⟨⟨rfl,_,(er rfl),qag⟩,trivial⟩ rf rf) (SubL.row1 (T:=tI64) (x:=_) rf rf rf qak)) ?_
  refine qd7 rfl rfl rfl rf (by kernel_rfl) (qd4 (by exact er rfl) (by exact qej rfl rfl rfl) qb8) ?_
  refine ⟨rfl,?_⟩
  intro i57
  refine JD_1 (by kernel_rfl) rfl rfl (qei rfl) ?_
  refine qar ?_
  refine s1 ?_
  refine qa7 hX (v:=slV _ i57) qae ?_
  refine qb0 9 (IsSl tI64 (ls++[g.l])) rfl (by simpa using qgw) ?_
  refine t3 ?_
  refine qap rfl (OpP.fr (qa3 (size:=9) (qs:=[(0,_)]) rfl rfl rfl ⟨⟨rfl,_,(er rfl),qag⟩,trivial⟩ rf rf) qcq (SubL.row1 (T:=tPg) (x:=(⟨_,_,_,_,_,_,_,_,_⟩:Pg)) rf rf rf qak)) ?_
  (refine qew rfl (qb6 (er rfl) (fun _=>qae) (by exact Ev.sub rfl (by exact qgw)) (by exact qej rfl rfl rfl) qb8) ?_;intro i61)
  refine t9 ?_
  refine qaa (k+1,_,_,_) ?_ ?_ qaj qab
  ·exact ⟨by omega,⟨by simp;omega,by simp;omega,qyi hI.2.2 (zdd _ _ _)⟩⟩
  ·exact (by omega)
 have hke:k=(kinds).length:=by have:=of_decide_eq_false h6;omega
 clear h6
 subst hke
 refine qa7 hX (v:=slV out.length v_0) qae ?_
 refine qb0 8 (IsSl tPg out) rfl qgw ?_
 refine t13 ?_
 exact qn2 (_,_) results238 (hp:=by exact fun _=>⟨hI.1,hI.2.2⟩)
theorem qe4 (p:Pg) (b:Bk) (hp:Ln p):FnP Tryz.prog 215 [qcr p,IsBk b] (qbu [qwy,IsIX]):=(qov p b).px hp
theorem qg1 (p:Pg) (r:Rt) (hp:Ln p):FnP Tryz.prog 242 [qcr p,IsRt r] (qbu [qwy,IsIX]):=(qsb p r).px hp
theorem qga (p:Pg) (s:S8) (hp:Ln p):FnP Tryz.prog 241 [qcr p,IsS8 s] (qbu [qwy,IsIX]):=(qpa p s).px hp
def PS23 (r:S23):Prop:=WL 3 r.writes∧r.need.length≤1∧r.out.check.length≤1
theorem qtm {α:Type} {xs:List α} (h:xs.length=1):∃ a,xs[0]?=some a:=⟨_,List.getElem?_eq_getElem (by omega)⟩
theorem two_of {α:Type} {xs:List α} (h:xs.length=2):∃ a b,xs[0]?=some a∧xs[1]?=some b:=⟨_,_,List.getElem?_eq_getElem (by omega),List.getElem?_eq_getElem (by omega)⟩
theorem shI (d:Int) (h:0≤d∧d≤60):IntKind.i64.wrap (1*2 ^ (min d.toNat IntKind.i64.bits))=((2 ^ d.toNat:Nat):Int):=by
 rw [show min d.toNat IntKind.i64.bits=d.toNat from Nat.min_eq_left (by show d.toNat≤64;omega),Int.one_mul]
 have h1:(2:Nat) ^ d.toNat≤2 ^ 60:=Nat.pow_le_pow_right (by omega) (by omega)
 have e:(2:Int) ^ d.toNat=((2 ^ d.toNat:Nat):Int):=by simp
 rw [e]
 generalize (2:Nat) ^ d.toNat=m at h1 ⊢
 exact qpi (by omega)
theorem zal (kind:Int) (key:BitVec 32) (to:Pt) (fr ks:List Pg):FnF Tryz.prog 213 [Is (.int .i64 kind),Is (.int .u32 (UV key)),qks to,IsSl tPg fr,IsSl tPg ks] (fun B=>qes PS23 fun r=>qqk B r):=by
 refine FnF.enter func213 ntmps213 rfl rfl ?_
 intro c hX
 refine t3 ?_
 intro i7
 refine s1 ?_
 intro i10
 refine t5 ?_
 refine kRF call32 (qby _ _) ?_
 refine t4 ?_
 intro i11
 refine t8 ?_
 refine kRF call33 (qcc _) ?_
 refine t2 ?_
 refine cN ?_ ?_ <;> intro h2
 ·refine t3 ?_
  refine kXF call209 (qbo c.w.heap.size (⟨_,_,_,_,_,_,(⟨_,_⟩:Pt),_,_,_⟩:O23) _) ?_
  refine t5 ?_
  exact rXF (⟨_,_,(⟨_,_,_,_,_,_,(⟨_,_⟩:Pt),_,_,_⟩:O23),_⟩:S23) results213 (hp:=by exact ⟨wl0,Nat.zero_le _,by exact Nat.zero_le _⟩)
 refine t9 ?_
 refine cN ?_ ?_ <;> intro h4
 ·refine t2 ?_
  refine qap rfl (OpP.to (qac (size:=1) (qs:=[(0,_)]) rfl rfl rfl ⟨⟨rfl,_,(er rfl),qag⟩,trivial⟩ rf rf) (SubL.row1 (T:=tI64) (x:=_) rf rf rf qak)) ?_
  refine t7 ?_
  exact rXF (⟨_,_,(⟨_,_,_,_,_,_,(⟨_,_⟩:Pt),_,_,_⟩:O23),_⟩:S23) results213 (hp:=by exact ⟨wl0,Nat.zero_le _,by exact Nat.le_refl 1⟩)
 refine t9 ?_
 refine cN ?_ ?_ <;> intro h6
 ·refine t2 ?_
  refine qap rfl (OpP.to (qac (size:=1) (qs:=[(0,_)]) rfl rfl rfl ⟨⟨rfl,_,(er rfl),qag⟩,trivial⟩ rf rf) (SubL.row1 (T:=tI64) (x:=_) rf rf rf qak)) ?_
  refine s1 ?_
  refine kXF call209 (qbo c.w.heap.size (⟨_,_,_,_,_,_,(⟨_,_⟩:Pt),_,_,_⟩:O23) _) ?_
  refine t5 ?_
  exact rXF (⟨_,_,(⟨_,_,_,_,_,_,(⟨_,_⟩:Pt),_,_,_⟩:O23),_⟩:S23) results213 (hp:=by exact ⟨wl0,Nat.zero_le _,by exact Nat.le_refl 1⟩)
 refine t5 ?_
 refine qap rfl (OpP.to (qac (size:=1) (qs:=[(0,_),(1,_)]) rfl rfl rfl ⟨⟨rfl,_,(er rfl),qag⟩,⟨⟨rfl,_,(er rfl),qag⟩,trivial⟩⟩ rf rf) (SubL.row2 (T:=tI64) (x:=_) (y:=_) rf rf rf rf qak qak)) ?_
 refine qap rfl (OpP.to (qac (size:=1) (qs:=[(0,_)]) rfl rfl rfl ⟨⟨rfl,_,(er rfl),qag⟩,trivial⟩ rf rf) (SubL.row1 (T:=tI64) (x:=_) rf rf rf qak)) ?_
 refine qap rfl (by ((refine qad call238 (qqc _ [2,3] [96] ?_ ?_) ⟨qaq,⟨qaq,⟨qaq,trivial⟩⟩⟩);all_goals (decide))) ?_
 (refine qa5 44 rfl ?_;intro x44 hx44)
 refine t14 ?_
 refine cN ?_ ?_ <;> intro h9
 ·refine t4 ?_
  refine kXF call209 (qbo c.w.heap.size (⟨_,_,_,_,_,_,(⟨_,_⟩:Pt),_,_,_⟩:O23) _) ?_
  refine t5 ?_
  exact rXF (⟨_,_,(⟨_,_,_,_,_,_,(⟨_,_⟩:Pt),_,_,_⟩:O23),_⟩:S23) results213 (hp:=by exact ⟨wl0,Nat.zero_le _,by exact Nat.zero_le _⟩)
 refine t9 ?_
 refine cN ?_ ?_ <;> intro h11
 ·refine t4 ?_
  refine kXF call209 (qbo c.w.heap.size (⟨_,_,_,_,_,_,(⟨_,_⟩:Pt),_,_,_⟩:O23) _) ?_
  refine t5 ?_
  exact rXF (⟨_,_,(⟨_,_,_,_,_,_,(⟨_,_⟩:Pt),_,_,_⟩:O23),_⟩:S23) results213 (hp:=by exact ⟨wl0,Nat.zero_le _,by exact Nat.zero_le _⟩)
 obtain ⟨hlu,hlv⟩:=hx44 (by simpa using h11)
 obtain ⟨pa,pb,hza,hzb⟩:=two_of hlu
 have hla:Ln pa:=hlv _ (List.mem_of_getElem? hza)
 have hlb:Ln pb:=hlv _ (List.mem_of_getElem? hzb)
 refine t3 ?_
 refine qaz rfl (by kernel_rfl) ?_
 refine qaf 15 (by kernel_rfl) ?_
 refine s1 ?_
 refine qbh (by exact qam (j:=0) (er rfl) (er rfl) rfl rfl rf hza) ?_
 refine t4 ?_
 refine qbh (OpP.to (qac (size:=3) (qs:=[(0,_)]) rfl rfl rfl ⟨⟨rfl,_,(er rfl),qag⟩,trivial⟩ rf rf) (SubL.row1 (T:=tEn) (x:=(⟨_,(⟨_,_⟩:Pt)⟩:En)) rf rf rf qak)) ?_
 refine s1 ?_
 refine qbh (by ((refine qad call215 (qe4 _ (⟨_,_,(⟨_,_⟩:Pt),_⟩:Bk) ?_) ⟨qbc,⟨qbc,trivial⟩⟩);all_goals (first|first|assumption|exact qfb _ _ _ _|exact qdl _ ⟨by decide,by decide⟩))) ?_
 refine t3 ?_
 refine qkq (qbl rfl qbm rfl) ?_
 refine qcy rfl rfl rfl (by kernel_rfl) (qca qaq qag rfl rfl rfl qbm) ?_
 refine s1 ?_
 refine ⟨rfl,?_⟩
 intro i15
 refine qar ?_
 refine t2 ?_
 refine qc8 (b:=i15) (fun _=>qae) ?_
 intro p15 hln15
 refine qaz rfl (by kernel_rfl) ?_
 refine qaf 15 (by kernel_rfl) ?_
 refine s1 ?_
 refine qbh (by exact qam (j:=1) (er rfl) (er rfl) rfl rfl rf hzb) ?_
 refine t2 ?_
 refine qbh (by exact qam (j:=0) (er rfl) (er rfl) rfl rfl rf hza) ?_
 refine s1 ?_
 refine qbh (qad call186 (qhr _) ⟨qaq,trivial⟩) ?_
 refine qbh (qdo (size:=2) (qs:=[(0,_)]) rfl rfl rfl rfl ⟨⟨rfl,_,(er rfl),qag⟩,trivial⟩ rf qbm) ?_
 refine qbh (by ((refine qad call241 (qga _ (⟨(⟨_,_⟩:Pt),(⟨_,_⟩:Pt),(⟨_,_⟩:Pt),(⟨_,_⟩:Pt),(⟨_,_⟩:Pt),(⟨_,_⟩:Pt),(⟨_,_⟩:Pt),(⟨_,_⟩:Pt)⟩:S8) ?_) ⟨qbc,⟨qbc,trivial⟩⟩);all_goals (first|first|assumption|exact qfb _ _ _ _|exact qdl _ ⟨by decide,by decide⟩))) ?_
 refine t3 ?_
 refine qkq (qbl rfl qbm rfl) ?_
 refine qcy rfl rfl rfl (by kernel_rfl) (qca qaq qag rfl rfl rfl qbm) ?_
 refine s1 ?_
 refine ⟨rfl,?_⟩
 intro i17
 refine qar ?_
 refine t2 ?_
 refine qc8 (b:=i17) (fun _=>qae) ?_
 intro p17 hln17
 refine qaz rfl (by kernel_rfl) ?_
 refine qaf 18 (by kernel_rfl) ?_
 refine t2 ?_
 refine qbh (by exact qam (j:=0) (er rfl) (er rfl) rfl rfl rf hza) ?_
 refine s1 ?_
 refine qbh (qad call186 (qhr _) ⟨qaq,trivial⟩) ?_
 refine s1 ?_
 refine qbh (by exact qam (j:=1) (er rfl) (er rfl) rfl rfl rf hzb) ?_
 refine s1 ?_
 refine qbh (qad call186 (qhr _) ⟨qaq,trivial⟩) ?_
 refine qbh (qdo (size:=2) (qs:=[(0,_)]) rfl rfl rfl rfl ⟨⟨rfl,_,(er rfl),qag⟩,trivial⟩ rf qbm) ?_
 refine s1 ?_
 refine qbh (by ((refine qad call242 (qg1 _ (⟨(⟨_,_⟩:Pt),_,(⟨_,_⟩:Pt),(⟨_,_⟩:Pt),(⟨_,_⟩:Pt),(⟨_,_⟩:Pt)⟩:Rt) ?_) ⟨qbc,⟨qbc,trivial⟩⟩);all_goals (exact qdl _ ⟨by decide,by decide⟩))) ?_
 refine t3 ?_
 refine qkq (qbl rfl qbm rfl) ?_
 refine qcy rfl rfl rfl (by kernel_rfl) (qca qaq qag rfl rfl rfl qbm) ?_
 refine s1 ?_
 refine ⟨rfl,?_⟩
 intro i19
 refine qar ?_
 refine t2 ?_
 refine qc8 (b:=i19) (fun _=>qae) ?_
 intro p19 hln19
 refine t4 ?_
 refine qap rfl (OpP.fr (qa3 (size:=9) (qs:=[(0,_),(1,_),(2,_)]) rfl rfl rfl ⟨⟨rfl,_,(er rfl),qag⟩,⟨⟨rfl,_,(er rfl),qag⟩,⟨⟨rfl,_,(er rfl),qag⟩,trivial⟩⟩⟩ rf rf) qcq (SubL.row3 (T:=tPg) (x:=(⟨_,_,_,_,_,_,_,_,_⟩:Pg)) (y:=(⟨_,_,_,_,_,_,_,_,_⟩:Pg)) (z:=(⟨_,_,_,_,_,_,_,_,_⟩:Pg)) rf rf rf rf rf qak qak qak)) ?_
 refine qap rfl (by ((refine qaw call72 (qcf _ _ ?_) ⟨qaq,⟨qaq,trivial⟩⟩);all_goals ((simp;done)))) ?_
 refine t6 ?_
 exact rXF (⟨_,_,(⟨_,_,_,_,_,_,(⟨_,_⟩:Pt),_,_,_⟩:O23),_⟩:S23) results213 (hp:=by exact ⟨qgn (n:=0) wl0 (wl3 (n:=0) (by assumption) (by assumption) (by assumption)) (by decide),Nat.zero_le _,Nat.zero_le _⟩)
theorem qwa (p:P23) (e:En) (fr:List Pg) (hp:PL23 p):FnF Tryz.prog 216 [IsP23 p,IsEn e,IsSl tPg fr] (fun B=>qes PS23 fun r=>qqk B r):=by
 obtain ⟨hp1,⟨hpd,hpl⟩,hpc,hpg⟩:=hp
 refine FnF.enter func216 ntmps216 rfl rfl ?_
 intro c hX
 refine t3 ?_
 intro i3
 refine s1 ?_
 intro i4
 refine s1 ?_
 intro i6
 refine t7 ?_
 intro i7
 refine t8 ?_
 intro i8
 refine t12 ?_
 refine cN ?_ ?_ <;> intro h3
 ·refine t5 ?_
  refine qap rfl (by ((refine qad call245 (qnv _ (⟨_,(⟨_,_⟩:Pt)⟩:En) ?_) ⟨qbc,⟨qbc,trivial⟩⟩);all_goals (omega))) ?_
  (refine qa5 31 rfl ?_;intro x31 hx31)
  refine t9 ?_
  refine qap rfl (by ((refine qad call215 (qe4 _ (⟨_,_,(⟨_,_⟩:Pt),_⟩:Bk) ?_) ⟨qbc,⟨qbc,trivial⟩⟩);all_goals (first|first|assumption|exact qfb _ _ _ _|exact qdl _ ⟨by decide,by decide⟩))) ?_
  refine t4 ?_
  intro i9
  refine t5 ?_
  refine qc8 (b:=i9) (fun _=>qae) ?_
  intro p9 hln9
  refine t8 ?_
  refine qap rfl (OpP.fr (qa3 (size:=9) (qs:=[(0,_)]) rfl rfl rfl ⟨⟨rfl,_,(er rfl),qag⟩,trivial⟩ rf rf) qcq (SubL.row1 (T:=tPg) (x:=(⟨_,_,_,_,_,_,_,_,_⟩:Pg)) rf rf rf qak)) ?_
  refine t7 ?_
  exact rXF (⟨_,_,(⟨_,_,_,_,_,_,(⟨_,_⟩:Pt),_,_,_⟩:O23),_⟩:S23) results216 (hp:=by exact ⟨wl1 (by assumption),Nat.zero_le _,hpc⟩)
 refine t10 ?_
 refine cN ?_ ?_ <;> intro h8
 ·refine t3 ?_
  refine kXF call209 (qbo c.w.heap.size (⟨_,_,_,_,_,_,(⟨_,_⟩:Pt),_,_,_⟩:O23) _) ?_
  refine t5 ?_
  exact rXF (⟨_,_,(⟨_,_,_,_,_,_,(⟨_,_⟩:Pt),_,_,_⟩:O23),_⟩:S23) results216 (hp:=by exact ⟨wl0,Nat.zero_le _,hpc⟩)
 have hne:p.bucket.depth≠16:=by simpa using h8
 clear h8
 refine t5 ?_
 refine qap rfl (OpP.to (qac (size:=1) (qs:=[(0,_)]) rfl rfl rfl ⟨⟨rfl,_,(er rfl),qag⟩,trivial⟩ rf rf) (SubL.row1 (T:=tI64) (x:=_) rf rf rf qak)) ?_
 refine t3 ?_
 refine qap rfl (OpP.to (qac (size:=1) (qs:=[(0,_)]) rfl rfl rfl ⟨⟨rfl,_,(er rfl),qag⟩,trivial⟩ rf rf) (SubL.row1 (T:=tI64) (x:=_) rf rf rf qak)) ?_
 refine qap rfl (by ((refine qad call238 (qqc _ [2] [p.page.l] ?_ ?_) ⟨qaq,⟨qaq,⟨qaq,trivial⟩⟩⟩);all_goals (first|decide|simp))) ?_
 (refine qa5 57 rfl ?_;intro x57 hx57)
 refine t14 ?_
 refine cN ?_ ?_ <;> intro h11
 ·refine t10 ?_
  refine kXF call209 (qbo c.w.heap.size (⟨_,_,_,_,_,_,(⟨_,_⟩:Pt),_,_,_⟩:O23) _) ?_
  refine t5 ?_
  exact rXF (⟨_,_,(⟨_,_,_,_,_,_,(⟨_,_⟩:Pt),_,_,_⟩:O23),_⟩:S23) results216 (hp:=by exact ⟨wl0,Nat.zero_le _,hpc⟩)
 refine t9 ?_
 refine cN ?_ ?_ <;> intro h14
 ·refine t4 ?_
  refine kXF call209 (qbo c.w.heap.size (⟨_,_,_,_,_,_,(⟨_,_⟩:Pt),_,_,_⟩:O23) _) ?_
  refine t5 ?_
  exact rXF (⟨_,_,(⟨_,_,_,_,_,_,(⟨_,_⟩:Pt),_,_,_⟩:O23),_⟩:S23) results216 (hp:=by exact ⟨wl0,Nat.zero_le _,hpc⟩)
 obtain ⟨hlu,hlv⟩:=hx57 (by simpa using h14)
 obtain ⟨pa,hza⟩:=qtm hlu
 have hla:Ln pa:=hlv _ (List.mem_of_getElem? hza)
 refine t3 ?_
 refine qaz rfl (by kernel_rfl) ?_
 refine qaf 12 (by kernel_rfl) ?_
 refine t6 ?_
 refine qbh (by exact qam (j:=0) (er rfl) (er rfl) rfl rfl rf hza) ?_
 refine s1 ?_
 refine qbh (qad call186 (qhr _) ⟨qaq,trivial⟩) ?_
 refine s1 ?_
 refine qkq (qbl rfl qbm rfl) ?_
 refine qcy rfl rfl rfl (by kernel_rfl) (qca qaq qag rfl rfl rfl qbm) ?_
 refine ⟨rfl,?_⟩
 intro i13
 refine qar ?_
 refine t11 ?_
 refine qap rfl (by exact qgf (k:=p.bucket.depth.toNat) qmq (er rfl) (by omega) qct) ?_
 refine t5 ?_
 intro i14
 refine t10 ?_
 refine qcd 277 tEn ?_
 refine qcd 277 tEn ?_
 refine qav [(3,_),(4,_),(6,_),(7,_),(8,_),(11,_),(13,_),(14,_)] [blk i8 _ _,blk i7 _ _,blk i6 _ _,blk i4 _ _,blk i3 _ _] (fun y:Nat×Int×(BitVec 32)×Pt×(List En)×Int×(BitVec 32)×Pt×(List En)×(Option Addr×Nat)×(Option Addr×Nat)=>y.1≤(p.bucket.es).length∧(y.2.2.2.2.1.length≤y.1∧y.2.2.2.2.2.2.2.2.1.length≤y.1∧0≤y.2.1∧y.2.1≤16)) (fun y=>[(15,Is (.int .i64 (y.1:Nat)))]) (fun y=>[blk i13 293 [Is (.int .i64 y.2.1),Is (.int .u32 (UV y.2.2.1)),Is (.int .i64 y.2.2.2.1.line),Is (.int .i64 y.2.2.2.1.gen),Is (slV (y.2.2.2.2.1).length y.2.2.2.2.2.2.2.2.2.1)],blk i14 293 [Is (.int .i64 y.2.2.2.2.2.1),Is (.int .u32 (UV y.2.2.2.2.2.2.1)),Is (.int .i64 y.2.2.2.2.2.2.2.1.line),Is (.int .i64 y.2.2.2.2.2.2.2.1.gen),Is (slV (y.2.2.2.2.2.2.2.2.1).length y.2.2.2.2.2.2.2.2.2.2)],buf (slV (y.2.2.2.2.1).length y.2.2.2.2.2.2.2.2.2.1) 277 tEn (y.2.2.2.2.1),buf (slV (y.2.2.2.2.2.2.2.2.1).length y.2.2.2.2.2.2.2.2.2.2) 277 tEn (y.2.2.2.2.2.2.2.2.1)]) (fun y=>(p.bucket.es).length-y.1) (0,_,_,(⟨_,_⟩:Pt),[],_,_,(⟨_,_⟩:Pt),[],(none,0),(none,0)) ?_ qaj qab ?_
 ·exact ⟨by exact Nat.zero_le _,⟨Nat.le_refl 0,Nat.le_refl 0,by dsimp only;omega,by dsimp only;omega⟩⟩
 rintro ⟨k,dx,px,nx,xs,dy,py,ny,ys,v_0,v_1⟩ ⟨hk,hI⟩
 dsimp only at hk hI ⊢
 refine t10 ?_
 refine cN ?_ ?_ <;> intro h19
 ·have hlt:k<(p.bucket.es).length:=by have:=of_decide_eq_true h19;omega
  clear h19
  obtain ⟨z,hz⟩:∃ q,(p.bucket.es)[k]?=some q:=⟨_,List.getElem?_eq_getElem hlt⟩
  refine t5 ?_
  refine qaz rfl (by kernel_rfl) ?_
  refine qaf 13 (by kernel_rfl) ?_
  refine t6 ?_
  refine qbh (qad call212 (qnt _) ⟨qaq,trivial⟩) ?_
  refine t2 ?_
  refine qbh (by ((refine qad call220 (qmi _ _ ?_) ⟨qaq,⟨qaq,trivial⟩⟩);all_goals (omega))) ?_
  refine t3 ?_
  refine ⟨rfl,?_⟩
  refine qar ?_
  refine s1 ?_
  refine cN ?_ ?_ <;> intro h21
  ·refine qaz rfl (by kernel_rfl) ?_
   refine qaf 8 (by kernel_rfl) ?_
   refine t7 ?_
   refine qbh (OpP.to (qac (size:=3) (qs:=[(0,_)]) rfl rfl rfl ⟨⟨rfl,_,(er rfl),qag⟩,trivial⟩ rf rf) (SubL.row1 (T:=tEn) (x:=(⟨_,(⟨_,_⟩:Pt)⟩:En)) rf rf rf qak)) ?_
   refine ⟨rfl,?_⟩
   (refine JD_s (by kernel_rfl) rfl rfl (qb6 (er rfl) (fun _=>qae) (by exact er rfl) (by exact qej rfl rfl rfl) qb8) ?_;intro i122)
   refine qaf 1 (by kernel_rfl) ?_
   refine s1 ?_
   refine ⟨rfl,?_⟩
   refine qeb (by kernel_rfl) rfl (qas (er rfl) (er rfl) qag qae qbm rf rf rf) ?_
   refine qar ?_
   refine t7 ?_
   refine qaa (k+1,_,_,(⟨_,_⟩:Pt),_,_,_,(⟨_,_⟩:Pt),_,_,_) ?_ ?_ qaj qab
   ·exact ⟨by omega,⟨by (simp;omega),by (simp;omega),by dsimp only;omega,by dsimp only;omega⟩⟩
   ·exact (by omega)
  refine qaz rfl (by kernel_rfl) ?_
  refine qaf 8 (by kernel_rfl) ?_
  refine t7 ?_
  refine qbh (OpP.to (qac (size:=3) (qs:=[(0,_)]) rfl rfl rfl ⟨⟨rfl,_,(er rfl),qag⟩,trivial⟩ rf rf) (SubL.row1 (T:=tEn) (x:=(⟨_,(⟨_,_⟩:Pt)⟩:En)) rf rf rf qak)) ?_
  refine ⟨rfl,?_⟩
  (refine JD_s (by kernel_rfl) rfl rfl (qb6 (er rfl) (fun _=>qae) (by exact er rfl) (by exact qej rfl rfl rfl) qb8) ?_;intro i132)
  refine qaf 1 (by kernel_rfl) ?_
  refine s1 ?_
  refine ⟨rfl,?_⟩
  refine qeb (by kernel_rfl) rfl (qas (er rfl) (er rfl) qag qae qbm rf rf rf) ?_
  refine qar ?_
  refine t7 ?_
  refine qaa (k+1,_,_,(⟨_,_⟩:Pt),_,_,_,(⟨_,_⟩:Pt),_,_,_) ?_ ?_ qaj qab
  ·exact ⟨by omega,⟨by (simp;omega),by (simp;omega),by dsimp only;omega,by dsimp only;omega⟩⟩
  ·exact (by omega)
 have hke:k=(p.bucket.es).length:=by have:=of_decide_eq_false h19;omega
 clear h19
 subst hke
 refine qa7 hX (v:=slV xs.length v_0) qae ?_
 refine qa7 hX (v:=slV ys.length v_1) qae ?_
 refine qbr (b:=i13) (As':=tBk.cells ⟨dx,px,nx,xs⟩) qae qbf ?_
 refine qbr (b:=i14) (As':=tBk.cells ⟨dy,py,ny,ys⟩) qae qbf ?_
 refine t7 ?_
 refine qaz rfl (by kernel_rfl) ?_
 refine qaf 9 (by kernel_rfl) ?_
 refine t2 ?_
 refine qbh (qad call212 (qnt _) ⟨qaq,trivial⟩) ?_
 refine t2 ?_
 refine qbh (by ((refine qad call220 (qmi _ _ ?_) ⟨qaq,⟨qaq,trivial⟩⟩);all_goals (dsimp only;omega))) ?_
 refine t3 ?_
 refine ⟨rfl,?_⟩
 refine qar ?_
 refine s1 ?_
 refine qb1 [(3,_),(6,_),(7,_),(11,_),(13,_),(14,_)] [blk i6 _ _,blk i3 _ _] (fun yc:Bk×Bk×O23=>yc.2.2.check.length≤1) (fun yc=>[]) (fun yc=>[blk i13 293 (tBk.cells yc.1),blk i14 293 (tBk.cells yc.2.1),blk i7 283 (tO23.cells yc.2.2)]) qaj qab ?_ ?_
 rotate_left
 focus
  refine cN ?_ ?_ <;> intro h24
  ·refine t8 ?_
   refine cN ?_ ?_ <;> intro h25
   ·have h9:=of_decide_eq_true h25
    refine t5 ?_
    refine qap rfl (by ((refine qad call245 (qnv _ (⟨_,(⟨_,_⟩:Pt)⟩:En) ?_) ⟨qbc,⟨qbc,trivial⟩⟩);all_goals (omega))) ?_
    (refine qa5 150 rfl ?_;intro x150 hx150)
    refine t8 ?_
    refine qao (b:=i13) (As':=tBk.cells (⟨_,_,(⟨_,_⟩:Pt),_⟩:Bk)) qae qbf ?_
    refine qao (b:=i14) (As':=tBk.cells (⟨_,_,(⟨_,_⟩:Pt),_⟩:Bk)) qae qbf ?_
    refine qao (b:=i7) (As':=tO23.cells (⟨_,_,_,_,_,_,(⟨_,_⟩:Pt),_,_,_⟩:O23)) qae qbf ?_
    refine qai ((⟨_,_,(⟨_,_⟩:Pt),_⟩:Bk),(⟨_,_,(⟨_,_⟩:Pt),_⟩:Bk),(⟨_,_,_,_,_,_,(⟨_,_⟩:Pt),_,_,_⟩:O23)) ?_ qaj qab
    ·exact (hpc)
   refine s1 ?_
   refine qao (b:=i13) (As':=tBk.cells (⟨_,_,(⟨_,_⟩:Pt),_⟩:Bk)) qae qbf ?_
   refine qao (b:=i14) (As':=tBk.cells (⟨_,_,(⟨_,_⟩:Pt),_⟩:Bk)) qae qbf ?_
   refine qao (b:=i7) (As':=tO23.cells (⟨_,_,_,_,_,_,(⟨_,_⟩:Pt),_,_,_⟩:O23)) qae qbf ?_
   refine qai ((⟨_,_,(⟨_,_⟩:Pt),_⟩:Bk),(⟨_,_,(⟨_,_⟩:Pt),_⟩:Bk),(⟨_,_,_,_,_,_,(⟨_,_⟩:Pt),_,_,_⟩:O23)) ?_ qaj qab
   ·exact (hpc)
  refine t8 ?_
  refine cN ?_ ?_ <;> intro h28
  ·have h9:=of_decide_eq_true h28
   refine t5 ?_
   refine qap rfl (by ((refine qad call245 (qnv _ (⟨_,(⟨_,_⟩:Pt)⟩:En) ?_) ⟨qbc,⟨qbc,trivial⟩⟩);all_goals (omega))) ?_
   (refine qa5 160 rfl ?_;intro x160 hx160)
   refine t8 ?_
   refine qao (b:=i13) (As':=tBk.cells (⟨_,_,(⟨_,_⟩:Pt),_⟩:Bk)) qae qbf ?_
   refine qao (b:=i14) (As':=tBk.cells (⟨_,_,(⟨_,_⟩:Pt),_⟩:Bk)) qae qbf ?_
   refine qao (b:=i7) (As':=tO23.cells (⟨_,_,_,_,_,_,(⟨_,_⟩:Pt),_,_,_⟩:O23)) qae qbf ?_
   refine qai ((⟨_,_,(⟨_,_⟩:Pt),_⟩:Bk),(⟨_,_,(⟨_,_⟩:Pt),_⟩:Bk),(⟨_,_,_,_,_,_,(⟨_,_⟩:Pt),_,_,_⟩:O23)) ?_ qaj qab
   ·exact (hpc)
  refine s1 ?_
  refine qao (b:=i13) (As':=tBk.cells (⟨_,_,(⟨_,_⟩:Pt),_⟩:Bk)) qae qbf ?_
  refine qao (b:=i14) (As':=tBk.cells (⟨_,_,(⟨_,_⟩:Pt),_⟩:Bk)) qae qbf ?_
  refine qao (b:=i7) (As':=tO23.cells (⟨_,_,_,_,_,_,(⟨_,_⟩:Pt),_,_,_⟩:O23)) qae qbf ?_
  refine qai ((⟨_,_,(⟨_,_⟩:Pt),_⟩:Bk),(⟨_,_,(⟨_,_⟩:Pt),_⟩:Bk),(⟨_,_,_,_,_,_,(⟨_,_⟩:Pt),_,_,_⟩:O23)) ?_ qaj qab
  ·exact (hpc)
 rintro ⟨bx,bz,o⟩ hI
 dsimp only at hI ⊢
 refine t11 ?_
 refine qap rfl (by ((refine qad call215 (qe4 _ (⟨_,_,(⟨_,_⟩:Pt),_⟩:Bk) ?_) ⟨qbc,⟨qbc,trivial⟩⟩);all_goals (first|first|assumption|exact qfb _ _ _ _|exact qdl _ ⟨by decide,by decide⟩))) ?_
 refine t4 ?_
 intro i16
 refine t5 ?_
 refine qc8 (b:=i16) (fun _=>qae) ?_
 intro p16 hln16
 refine qaz rfl (by kernel_rfl) ?_
 refine qaf 11 (by kernel_rfl) ?_
 refine s1 ?_
 refine qbh (by exact qam (j:=0) (er rfl) (er rfl) rfl rfl rf hza) ?_
 refine t2 ?_
 refine qbh (by ((refine qad call215 (qe4 _ (⟨_,_,(⟨_,_⟩:Pt),_⟩:Bk) ?_) ⟨qbc,⟨qbc,trivial⟩⟩);all_goals (first|first|assumption|exact qfb _ _ _ _|exact qdl _ ⟨by decide,by decide⟩))) ?_
 refine t3 ?_
 refine qkq (qbl rfl qbm rfl) ?_
 refine qcy rfl rfl rfl (by kernel_rfl) (qca qaq qag rfl rfl rfl qbm) ?_
 refine s1 ?_
 refine ⟨rfl,?_⟩
 intro i18
 refine qar ?_
 refine t2 ?_
 refine qc8 (b:=i18) (fun _=>qae) ?_
 intro p18 hln18
 refine qaz rfl (by kernel_rfl) ?_
 refine qaf 6 (by kernel_rfl) ?_
 refine t2 ?_
 refine qbh (OpP.fr (qa3 (size:=9) (qs:=[(0,_),(1,_)]) rfl rfl rfl ⟨⟨rfl,_,(er rfl),qag⟩,⟨⟨rfl,_,(er rfl),qag⟩,trivial⟩⟩ rf rf) qcq (SubL.row2 (T:=tPg) (x:=(⟨_,_,_,_,_,_,_,_,_⟩:Pg)) (y:=(⟨_,_,_,_,_,_,_,_,_⟩:Pg)) rf rf rf rf qak qak)) ?_
 refine qbh (by ((refine qaw call72 (qcf _ _ ?_) ⟨qaq,⟨qaq,trivial⟩⟩);all_goals ((simp;done)))) ?_
 refine t2 ?_
 refine ⟨rfl,?_⟩
 refine qeb (by kernel_rfl) rfl (qas (er rfl) (er rfl) qag qae qbm rf rf rf) ?_
 refine qar ?_
 refine t2 ?_
 exact rXF (⟨_,_,(⟨_,_,_,_,_,_,(⟨_,_⟩:Pt),_,_,_⟩:O23),_⟩:S23) results216 (hp:=by exact ⟨qgn (n:=0) wl0 (wl2 (n:=0) (by assumption) (by assumption)) (by decide),Nat.zero_le _,hI⟩)
section
variable {P:Program} {c:Ctx} {A:Nat→Option VP} {L:List Item} {d:Option Tmp} {ty:TypeId} {pos:String} {af:Array Edge} {g:Option (Nat×Bool)}
theorem qz1 {s:TypeId} {x:Operand} {i n:Nat} {fs:Array Field} {f:Field} {As Rs:List VP} {D:TypeDesc} (hx:Ev A L x (IsAgg As)) (hu:P.underlying s=some (.struct fs)) (hf:fs[i]?=some f) (hD:P.underlying f.type=some D) (hd:qr9 D=true) (hn:(P.info? f.type).map (·.size)=some n) (hR:(As.drop f.offset).take n=Rs) :
  OpP P c ⟨d,.field s x i,ty,pos,af,g⟩ A L (IsAgg Rs):=
 opp fun φ a w hm he=>by
  obtain ⟨vs,h1,h2,h3⟩:(IsAgg As).ok φ (a.eval x):=he x (by simp [Op.operands]) _ hx
  obtain ⟨v,h4,h5⟩:=qtd (w:=w) h2 h3 hD hd hn hR
  refine ⟨v,?_,h5⟩
  simp only [execOp,h1]
  refine qcl ?_
  simp only [Instr.field,asAgg,Sem.run_bind,Sem.run_pure,run_underlying hu,Result.andThen_ok,hf]
  exact h4
end
theorem low32 (h:BitVec 32) {d:Int} (hd:0≤d∧d≤5):∃ i:Nat,UV (lowV h d)=(i:Int)∧i<32:=by
 refine ⟨(lowV h d).toNat,rfl,?_⟩
 rw [qv8 h (by omega)]
 have h1:(2:Nat) ^ d.toNat≤2 ^ 5:=Nat.pow_le_pow_right (by omega) (by omega)
 have h2:=Nat.mod_lt h.toNat (show 0<(2:Nat) ^ d.toNat from Nat.pow_pos (by omega))
 omega
theorem qU8 {n:Int} (i:Nat) (h:i<1000) (e:n=(i:Int)):IntKind.u32.wrap (n.tdiv 8)=((i / 8:Nat):Int):=by
 rw [e,Int.tdiv_eq_ediv_of_nonneg (by omega),wU32 (by omega)];omega
theorem rU8 {n:Int} (i:Nat) (e:n=(i:Int)):n.tmod 8=((i % 8:Nat):Int):=by
 rw [e,Int.tmod_eq_emod_of_nonneg (by omega)];omega
theorem qvl (h:BitVec 32) (ks:List Pg):FnF Tryz.prog 210 [Is (.int .u32 (UV h)),IsSl tPg ks] (fun B=>qes PS23 fun r=>qqk B r):=by
 refine FnF.enter func210 ntmps210 rfl rfl ?_
 intro c hX
 refine t3 ?_
 intro i4
 refine t5 ?_
 refine kRF call219 (qs5 _) ?_
 (refine qa5 21 rfl ?_;intro x21 hx21)
 refine t6 ?_
 intro i5
 refine s1 ?_
 intro i6
 refine t8 ?_
 obtain ⟨hn1,hdp⟩:=hx21
 refine t6 ?_
 refine cN ?_ ?_ <;> intro h2
 ·refine t9 ?_
  exact rXF (⟨_,_,(⟨_,_,_,_,_,_,(⟨_,_⟩:Pt),_,_,_⟩:O23),_⟩:S23) results210 (hp:=by exact ⟨by exact wl0,by exact hn1,by exact Nat.zero_le _⟩)
 refine t9 ?_
 refine cN ?_ ?_ <;> intro h4
 ·refine t4 ?_
  refine kXF call209 (qbo c.w.heap.size (⟨_,_,_,_,_,_,(⟨_,_⟩:Pt),_,_,_⟩:O23) _) ?_
  refine t5 ?_
  exact rXF (⟨_,_,(⟨_,_,_,_,_,_,(⟨_,_⟩:Pt),_,_,_⟩:O23),_⟩:S23) results210 (hp:=by exact ⟨by exact wl0,by exact Nat.zero_le _,by exact Nat.zero_le _⟩)
 refine t8 ?_
 refine qap rfl (qdt (er rfl) (er rfl)) ?_
 refine t2 ?_
 refine cN ?_ ?_ <;> intro h6
 ·refine t3 ?_
  refine kXF call209 (qbo c.w.heap.size (⟨_,_,_,_,_,_,(⟨_,_⟩:Pt),_,_,_⟩:O23) _) ?_
  refine t5 ?_
  exact rXF (⟨_,_,(⟨_,_,_,_,_,_,(⟨_,_⟩:Pt),_,_,_⟩:O23),_⟩:S23) results210 (hp:=by exact ⟨by exact wl0,by exact Nat.zero_le _,by exact Nat.zero_le _⟩)
 obtain ⟨i,hi,hi32⟩:=low32 h hdp
 have hq4:i / 8<4:=by omega
 have hm8:i % 8<8:=by omega
 refine t7 ?_
 refine qap rfl (by ((refine qad call220 (qmi _ _ ?_) ⟨qaq,⟨qaq,trivial⟩⟩);all_goals (omega))) ?_
 refine t7 ?_
 refine kRF call171 (qk9 _ _) ?_
 (refine qa5 48 rfl ?_;intro x48 hx48)
 refine s1 ?_
 intro i10
 refine t5 ?_
 obtain ⟨hpn,hpb,hpc,hpg⟩:=hx48
 refine t7 ?_
 refine cN ?_ ?_ <;> intro h10
 ·refine t10 ?_
  exact rXF (⟨_,_,(⟨_,_,_,_,_,_,(⟨_,_⟩:Pt),_,_,_⟩:O23),_⟩:S23) results210 (hp:=by exact ⟨by exact wl0,by exact hpn,by exact Nat.zero_le _⟩)
 refine t11 ?_
 refine cN ?_ ?_ <;> intro h12
 ·refine t7 ?_
  refine kXF call209 (qbo c.w.heap.size (⟨_,_,_,_,_,_,(⟨_,_⟩:Pt),_,_,_⟩:O23) _) ?_
  refine t5 ?_
  exact rXF (⟨_,_,(⟨_,_,_,_,_,_,(⟨_,_⟩:Pt),_,_,_⟩:O23),_⟩:S23) results210 (hp:=by exact ⟨by exact wl0,by exact Nat.zero_le _,by exact hpc⟩)
 refine t6 ?_
 refine qap rfl (qjb (er rfl) (er rfl) (by omega) (qU8 i (by omega) hi)) ?_
 refine s1 ?_
 refine qap rfl (qal (k:=i / 8) (sz:=2) (er rfl) (er rfl) rfl rfl rfl hq4) ?_
 refine qap rfl (qbp (n:=2) (er rfl) qbw rf rf rf (qtc _ hq4) (qxn _ hq4)) ?_
 refine kRF call167 (qh3 _ _ _ _) ?_
 refine t5 ?_
 intro i11
 refine t12 ?_
 refine cN ?_ ?_ <;> intro h15
 ·refine t5 ?_
  refine kXF call209 (qbo c.w.heap.size (⟨_,_,_,_,_,_,(⟨_,_⟩:Pt),_,_,_⟩:O23) _) ?_
  refine t5 ?_
  exact rXF (⟨_,_,(⟨_,_,_,_,_,_,(⟨_,_⟩:Pt),_,_,_⟩:O23),_⟩:S23) results210 (hp:=by exact ⟨by exact wl0,by exact Nat.zero_le _,by exact hpc⟩)
 refine t9 ?_
 refine cN ?_ ?_ <;> intro h17
 ·refine t3 ?_
  refine qap rfl (qjb (er rfl) (er rfl) (by omega) (qU8 i (by omega) hi)) ?_
  refine s1 ?_
  refine qap rfl (qal (k:=i / 8) (sz:=2) (er rfl) (er rfl) rfl rfl rfl hq4) ?_
  refine s1 ?_
  refine qap rfl (qir (er rfl) qbw rf rf (qvs _ hq4)) ?_
  refine qap rfl (OpP.to (qac (size:=1) (qs:=[(0,_)]) rfl rfl rfl ⟨⟨rfl,_,(er rfl),qag⟩,trivial⟩ rf rf) (SubL.row1 (T:=tI64) (x:=_) rf rf rf qak)) ?_
  refine t6 ?_
  exact rXF (⟨_,_,(⟨_,_,_,_,_,_,(⟨_,_⟩:Pt),_,_,_⟩:O23),_⟩:S23) results210 (hp:=by exact ⟨by exact wl0,by exact Nat.le_refl 1,by exact Nat.zero_le _⟩)
 refine t5 ?_
 refine kRF call221 (qg2 _) ?_
 (refine qgm 95 rfl ?_;intro x95)
 refine t4 ?_
 intro i14
 refine t11 ?_
 refine cN ?_ ?_ <;> intro h20
 ·refine t4 ?_
  refine kXF call209 (qbo c.w.heap.size (⟨_,_,_,_,_,_,(⟨_,_⟩:Pt),_,_,_⟩:O23) _) ?_
  refine t5 ?_
  exact rXF (⟨_,_,(⟨_,_,_,_,_,_,(⟨_,_⟩:Pt),_,_,_⟩:O23),_⟩:S23) results210 (hp:=by exact ⟨by exact wl0,by exact Nat.zero_le _,by exact hpc⟩)
 refine t7 ?_
 intro i16
 refine t5 ?_
 refine qaz rfl (by kernel_rfl) ?_
 refine qaf 8 (by kernel_rfl) ?_
 refine s1 ?_
 refine qbh (qln (er rfl) (er rfl) (by omega) (rU8 i hi)) ?_
 refine qbh (qal (k:=i % 8) (sz:=2) (er rfl) (er rfl) rfl rfl rfl hm8) ?_
 refine qbh (qbp (n:=2) (er rfl) qbw rf rf rf (qpn _ hm8) (qw9 _ hm8)) ?_
 refine t2 ?_
 refine qbh (qad call186 (qhr _) ⟨qaq,trivial⟩) ?_
 refine qbh (qdt (er rfl) (er rfl)) ?_
 refine ⟨rfl,?_⟩
 refine qar ?_
 refine s1 ?_
 refine cN ?_ ?_ <;> intro h23
 ·refine t15 ?_
  exact rXF (⟨_,_,(⟨_,_,_,_,_,_,(⟨_,_⟩:Pt),_,_,_⟩:O23),_⟩:S23) results210 (hp:=by exact ⟨by exact wl0,by exact Nat.zero_le _,by exact hpc⟩)
 refine t5 ?_
 refine qap rfl (qln (er rfl) (er rfl) (by omega) (rU8 i hi)) ?_
 refine t2 ?_
 refine kRF call186 (qhr _) ?_
 refine qap rfl (qal (k:=i % 8) (sz:=2) (er rfl) (er rfl) rfl rfl rfl hm8) ?_
 refine qkl (qas (Rs:=tS8.cells (setSl x95.1 (i % 8) (atR x48.page))) (er rfl) (er rfl) qag qae (sl_set _ _ hm8) rf rf (qpn _ hm8)) ?_
 refine t6 ?_
 refine qap rfl (by ((refine qad call241 (qga _ (⟨(⟨_,_⟩:Pt),(⟨_,_⟩:Pt),(⟨_,_⟩:Pt),(⟨_,_⟩:Pt),(⟨_,_⟩:Pt),(⟨_,_⟩:Pt),(⟨_,_⟩:Pt),(⟨_,_⟩:Pt)⟩:S8) ?_) ⟨qbc,⟨qbc,trivial⟩⟩);all_goals (first|first|assumption|exact qfb _ _ _ _|exact qdl _ ⟨by decide,by decide⟩))) ?_
 refine t4 ?_
 intro i17
 refine t5 ?_
 refine qc8 (b:=i17) (fun _=>qae) ?_
 intro p17 hln17
 refine t8 ?_
 refine qap rfl (OpP.fr (qa3 (size:=9) (qs:=[(0,_)]) rfl rfl rfl ⟨⟨rfl,_,(er rfl),qag⟩,trivial⟩ rf rf) qcq (SubL.row1 (T:=tPg) (x:=(⟨_,_,_,_,_,_,_,_,_⟩:Pg)) rf rf rf qak)) ?_
 refine t6 ?_
 exact rXF (⟨_,_,(⟨_,_,_,_,_,_,(⟨_,_⟩:Pt),_,_,_⟩:O23),_⟩:S23) results210 (hp:=by exact ⟨by exact wl1 (by assumption),by exact Nat.zero_le _,by exact hpc⟩)
theorem zdv (fr ks:List Pg):FnF Tryz.prog 211 [IsSl tPg fr,IsSl tPg ks] (fun B=>qes PS23 fun r=>qqk B r):=by
 refine FnF.enter func211 ntmps211 rfl rfl ?_
 intro c hX
 refine t3 ?_
 intro i4
 refine t5 ?_
 refine kRF call32 (qby _ _) ?_
 refine t4 ?_
 intro i5
 refine t11 ?_
 refine cN ?_ ?_ <;> intro h2
 ·refine t2 ?_
  refine qap rfl (OpP.to (qac (size:=1) (qs:=[(0,_)]) rfl rfl rfl ⟨⟨rfl,_,(er rfl),qag⟩,trivial⟩ rf rf) (SubL.row1 (T:=tI64) (x:=_) rf rf rf qak)) ?_
  refine t6 ?_
  exact rXF (⟨_,_,(⟨_,_,_,_,_,_,(⟨_,_⟩:Pt),_,_,_⟩:O23),_⟩:S23) results211 (hp:=by exact ⟨by exact wl0,by exact Nat.le_refl 1,Nat.zero_le _⟩)
 refine t6 ?_
 refine kRF call33 (qcc _) ?_
 refine t2 ?_
 refine cN ?_ ?_ <;> intro h4
 ·refine t3 ?_
  refine kXF call209 (qbo c.w.heap.size (⟨_,_,_,_,_,_,(⟨_,_⟩:Pt),_,_,_⟩:O23) _) ?_
  refine t5 ?_
  exact rXF (⟨_,_,(⟨_,_,_,_,_,_,(⟨_,_⟩:Pt),_,_,_⟩:O23),_⟩:S23) results211 (hp:=by exact ⟨by exact wl0,by exact Nat.zero_le _,Nat.zero_le _⟩)
 refine t5 ?_
 refine kRF call170 (qjv _) ?_
 (refine qa5 49 rfl ?_;intro x49 hx49)
 refine t4 ?_
 intro i7
 refine t6 ?_
 obtain ⟨hd0,hd5⟩:=hx49
 refine t5 ?_
 refine cN ?_ ?_ <;> intro h7
 ·refine t3 ?_
  refine kXF call209 (qbo c.w.heap.size (⟨_,_,_,_,_,_,(⟨_,_⟩:Pt),_,_,_⟩:O23) _) ?_
  refine t5 ?_
  exact rXF (⟨_,_,(⟨_,_,_,_,_,_,(⟨_,_⟩:Pt),_,_,_⟩:O23),_⟩:S23) results211 (hp:=by exact ⟨by exact wl0,by exact Nat.zero_le _,Nat.zero_le _⟩)
 refine t8 ?_
 refine qap rfl (qdt (er rfl) (er rfl)) ?_
 refine t2 ?_
 refine cN ?_ ?_ <;> intro h9
 ·refine t3 ?_
  refine kXF call209 (qbo c.w.heap.size (⟨_,_,_,_,_,_,(⟨_,_⟩:Pt),_,_,_⟩:O23) _) ?_
  refine t5 ?_
  exact rXF (⟨_,_,(⟨_,_,_,_,_,_,(⟨_,_⟩:Pt),_,_,_⟩:O23),_⟩:S23) results211 (hp:=by exact ⟨by exact wl0,by exact Nat.zero_le _,Nat.zero_le _⟩)
 refine t10 ?_
 refine cN ?_ ?_ <;> intro h11
 ·refine t3 ?_
  refine kXF call209 (qbo c.w.heap.size (⟨_,_,_,_,_,_,(⟨_,_⟩:Pt),_,_,_⟩:O23) _) ?_
  refine t5 ?_
  exact rXF (⟨_,_,(⟨_,_,_,_,_,_,(⟨_,_⟩:Pt),_,_,_⟩:O23),_⟩:S23) results211 (hp:=by exact ⟨by exact wl0,by exact Nat.zero_le _,Nat.zero_le _⟩)
 have hd55:x49.1.depth≠5:=by simpa using h11
 have hd4:x49.1.depth≤4:=by omega
 clear h11
 refine t10 ?_
 refine cN ?_ ?_ <;> intro h13
 ·have hd2:x49.1.depth≤2:=by have:=of_decide_eq_true h13;omega
  have h24:(2:Nat) ^ x49.1.depth.toNat≤2 ^ 2:=Nat.pow_le_pow_right (by omega) (by omega)
  obtain ⟨m,hm⟩:∃ m,(2:Nat) ^ x49.1.depth.toNat=m:=⟨_,rfl⟩
  have hm4:m≤4:=by omega
  have hsh:=shI x49.1.depth (by omega)
  rw [hm] at hsh
  clear h13 h24
  refine t6 ?_
  refine kRF call167 (qh3 _ _ _ _) ?_
  refine t5 ?_
  intro i9
  refine t12 ?_
  refine cN ?_ ?_ <;> intro h15
  ·refine t4 ?_
   refine kXF call209 (qbo c.w.heap.size (⟨_,_,_,_,_,_,(⟨_,_⟩:Pt),_,_,_⟩:O23) _) ?_
   refine t6 ?_
   exact rXF (⟨_,_,(⟨_,_,_,_,_,_,(⟨_,_⟩:Pt),_,_,_⟩:O23),_⟩:S23) results211 (hp:=by exact ⟨by exact wl0,by exact Nat.zero_le _,Nat.zero_le _⟩)
  refine t9 ?_
  refine cN ?_ ?_ <;> intro h17
  ·refine t6 ?_
   refine qap rfl (OpP.to (qac (size:=1) (qs:=[(0,_)]) rfl rfl rfl ⟨⟨rfl,_,(er rfl),qag⟩,trivial⟩ rf rf) (SubL.row1 (T:=tI64) (x:=_) rf rf rf qak)) ?_
   refine t7 ?_
   exact rXF (⟨_,_,(⟨_,_,_,_,_,_,(⟨_,_⟩:Pt),_,_,_⟩:O23),_⟩:S23) results211 (hp:=by exact ⟨by exact wl0,by exact Nat.le_refl 1,Nat.zero_le _⟩)
  refine t5 ?_
  refine kRF call221 (qg2 _) ?_
  (refine qgm 94 rfl ?_;intro x94)
  refine t4 ?_
  intro i12
  refine t11 ?_
  refine cN ?_ ?_ <;> intro h20
  ·refine t3 ?_
   refine kXF call209 (qbo c.w.heap.size (⟨_,_,_,_,_,_,(⟨_,_⟩:Pt),_,_,_⟩:O23) _) ?_
   refine t6 ?_
   exact rXF (⟨_,_,(⟨_,_,_,_,_,_,(⟨_,_⟩:Pt),_,_,_⟩:O23),_⟩:S23) results211 (hp:=by exact ⟨by exact wl0,by exact Nat.zero_le _,Nat.zero_le _⟩)
  refine t9 ?_
  refine qbr (b:=i12) (As':=tS8.cells (⟨(⟨_,_⟩:Pt),(⟨_,_⟩:Pt),(⟨_,_⟩:Pt),(⟨_,_⟩:Pt),(⟨_,_⟩:Pt),(⟨_,_⟩:Pt),(⟨_,_⟩:Pt),(⟨_,_⟩:Pt)⟩:S8)) qae qbf ?_
  refine qav [(0,_),(1,_),(4,_),(5,_),(7,_),(9,_),(12,_)] [blk i9 _ _,blk i7 _ _,blk i5 _ _,blk i4 _ _] (fun y:Nat×S8=>y.1≤m) (fun y=>[(14,Is (.int .i64 (y.1:Nat)))]) (fun y=>[blk i12 351 (tS8.cells y.2)]) (fun y=>m-y.1) (0,(⟨(⟨_,_⟩:Pt),(⟨_,_⟩:Pt),(⟨_,_⟩:Pt),(⟨_,_⟩:Pt),(⟨_,_⟩:Pt),(⟨_,_⟩:Pt),(⟨_,_⟩:Pt),(⟨_,_⟩:Pt)⟩:S8)) (Nat.zero_le _) qaj qab ?_
  rintro ⟨k,s⟩ hk
  dsimp only at hk ⊢
  refine t7 ?_
  refine qap rfl (qpt (er rfl) (er rfl) (by omega) hsh) ?_
  refine t3 ?_
  refine cN ?_ ?_ <;> intro h23
  ·have hlt:k<m:=by have:=of_decide_eq_true h23;omega
   clear h23
   have hk8:k<8:=by omega
   have hkm:k+m<8:=by omega
   refine t4 ?_
   refine qaz rfl (by kernel_rfl) ?_
   refine qaf 10 (by kernel_rfl) ?_
   refine t4 ?_
   refine qbh (qpt (er rfl) (er rfl) (by omega) hsh) ?_
   refine qbh (qjd (er rfl) (er rfl) (r:=((k+m:Nat):Int)) (qpi (by omega))) ?_
   refine s1 ?_
   refine qbh (qal (k:=k) (sz:=2) (er rfl) (er rfl) rfl rfl rfl hk8) ?_
   refine qbh (qbp (n:=2) (er rfl) qbw rf rf rf (qpn _ hk8) (qw9 _ hk8)) ?_
   refine qbh (qal (k:=k+m) (sz:=2) (er rfl) (er rfl) rfl rfl rfl hkm) ?_
   refine ⟨rfl,?_⟩
   refine qeb (by kernel_rfl) rfl (qas (Rs:=tS8.cells (setSl s (k+m) (slAt s k))) (er rfl) (er rfl) qag qae (sl_set _ _ hkm) rf rf (qpn _ hkm)) ?_
   refine qar ?_
   refine t7 ?_
   refine qao (b:=i12) (As':=tS8.cells (⟨(⟨_,_⟩:Pt),(⟨_,_⟩:Pt),(⟨_,_⟩:Pt),(⟨_,_⟩:Pt),(⟨_,_⟩:Pt),(⟨_,_⟩:Pt),(⟨_,_⟩:Pt),(⟨_,_⟩:Pt)⟩:S8)) qae qbf ?_
   refine qaa (k+1,(⟨(⟨_,_⟩:Pt),(⟨_,_⟩:Pt),(⟨_,_⟩:Pt),(⟨_,_⟩:Pt),(⟨_,_⟩:Pt),(⟨_,_⟩:Pt),(⟨_,_⟩:Pt),(⟨_,_⟩:Pt)⟩:S8)) ?_ ?_ qaj qab
   ·exact (by omega)
   ·exact (by omega)
  have hke:k=m:=by have:=of_decide_eq_false h23;omega
  clear h23
  subst hke
  refine t18 ?_
  refine qap rfl (by ((refine qad call241 (qga _ (⟨(⟨_,_⟩:Pt),(⟨_,_⟩:Pt),(⟨_,_⟩:Pt),(⟨_,_⟩:Pt),(⟨_,_⟩:Pt),(⟨_,_⟩:Pt),(⟨_,_⟩:Pt),(⟨_,_⟩:Pt)⟩:S8) ?_) ⟨qbc,⟨qbc,trivial⟩⟩);all_goals (first|first|assumption|exact qfb _ _ _ _|exact qdl _ ⟨by decide,by decide⟩))) ?_
  refine t4 ?_
  intro i15
  refine t5 ?_
  refine qc8 (b:=i15) (fun _=>qae) ?_
  intro p15 hln15
  refine t3 ?_
  refine qap rfl (by ((refine qad call242 (qg1 _ (⟨(⟨_,_⟩:Pt),_,(⟨_,_⟩:Pt),(⟨_,_⟩:Pt),(⟨_,_⟩:Pt),(⟨_,_⟩:Pt)⟩:Rt) ?_) ⟨qbc,⟨qbc,trivial⟩⟩);all_goals (exact qdl _ ⟨by decide,by decide⟩))) ?_
  refine t4 ?_
  intro i17
  refine t5 ?_
  refine qc8 (b:=i17) (fun _=>qae) ?_
  intro p17 hln17
  refine t3 ?_
  refine qap rfl (OpP.fr (qa3 (size:=9) (qs:=[(0,_),(1,_)]) rfl rfl rfl ⟨⟨rfl,_,(er rfl),qag⟩,⟨⟨rfl,_,(er rfl),qag⟩,trivial⟩⟩ rf rf) qcq (SubL.row2 (T:=tPg) (x:=(⟨_,_,_,_,_,_,_,_,_⟩:Pg)) (y:=(⟨_,_,_,_,_,_,_,_,_⟩:Pg)) rf rf rf rf qak qak)) ?_
  refine qap rfl (by ((refine qaw call72 (qcf _ _ ?_) ⟨qaq,⟨qaq,trivial⟩⟩);all_goals ((simp;done)))) ?_
  refine t7 ?_
  exact rXF (⟨_,_,(⟨_,_,_,_,_,_,(⟨_,_⟩:Pt),_,_,_⟩:O23),_⟩:S23) results211 (hp:=by exact ⟨by exact qgn (n:=0) wl0 (wl2 (n:=0) (by assumption) (by assumption)) (by decide),by exact Nat.zero_le _,Nat.zero_le _⟩)
 have hd3:3≤x49.1.depth:=by have:=of_decide_eq_false h13;omega
 obtain ⟨m,hm,hm1,hm2⟩:∃ m:Nat,qxw x49.1.depth=(m:Int)∧1≤m∧m≤2:=by
  unfold qxw
  split
  ·exact ⟨1,rfl,by omega,by omega⟩
  ·rw [if_pos (by omega)];exact ⟨2,rfl,by omega,by omega⟩
 clear h13
 refine t6 ?_
 refine qap rfl (by ((refine qad call243 (qxv _ ?_) ⟨qaq,trivial⟩);all_goals (omega))) ?_
 refine t5 ?_
 refine qb0 19 (Is (.int .i64 (m:Nat))) rfl (SubL.eq (by rw [hm])) ?_
 refine t6 ?_
 refine qav [(0,_),(1,_),(4,_),(5,_),(7,_),(19,_)] [blk i7 _ _,blk i5 _ _,blk i4 _ _] (fun kb:Nat=>kb≤(m+m)∧(m≤kb)) (fun kb=>[(20,Is (.int .i64 (kb:Nat)))]) (fun kb=>[]) (fun kb=>(m+m)-kb) m ⟨by omega,Nat.le_refl m⟩ qaj qab ?_
 rintro kb ⟨hkb,hIb⟩
 refine t5 ?_
 refine qap rfl (qtg (er rfl) (er rfl) (r:=((m+m:Nat):Int)) (by rw [qpi (by omega)];omega)) ?_
 refine t3 ?_
 refine cN ?_ ?_ <;> intro h32
 ·have hltb:kb<(m+m):=by have:=of_decide_eq_true h32;omega
  clear h32
  have hk4:kb<4:=by omega
  have hkm:kb-m<4:=by omega
  refine t9 ?_
  refine qap rfl (qal (k:=kb) (sz:=2) (er rfl) (er rfl) rfl rfl rfl hk4) ?_
  refine qap rfl (qbp (n:=2) (er rfl) qbw rf rf rf (qtc _ hk4) (qxn _ hk4)) ?_
  refine s1 ?_
  refine qap rfl (qgx (er rfl) (er rfl)) ?_
  refine t2 ?_
  refine cN ?_ ?_ <;> intro h34
  ·refine t9 ?_
   exact qaa (kb+1) ⟨by omega,by omega⟩ (by omega) qaj qab
  refine t7 ?_
  refine qap rfl (qkm (er rfl) (er rfl) (r:=((kb-m:Nat):Int)) (by rw [qpi (by omega)];omega)) ?_
  refine s1 ?_
  refine qap rfl (qal (k:=kb-m) (sz:=2) (er rfl) (er rfl) rfl rfl rfl hkm) ?_
  refine qap rfl (qbp (n:=2) (er rfl) qbw rf rf rf (qtc _ hkm) (qxn _ hkm)) ?_
  refine kRF call167 (qh3 _ _ _ _) ?_
  refine t5 ?_
  intro i21
  refine t12 ?_
  refine cN ?_ ?_ <;> intro h36
  ·refine t4 ?_
   refine kXF call209 (qbo c.w.heap.size (⟨_,_,_,_,_,_,(⟨_,_⟩:Pt),_,_,_⟩:O23) _) ?_
   refine t10 ?_
   exact rXF (⟨_,_,(⟨_,_,_,_,_,_,(⟨_,_⟩:Pt),_,_,_⟩:O23),_⟩:S23) results211 (hp:=by exact ⟨by exact wl0,by exact Nat.zero_le _,Nat.zero_le _⟩)
  refine t9 ?_
  refine cN ?_ ?_ <;> intro h38
  ·refine t4 ?_
   refine qap rfl (qkm (er rfl) (er rfl) (r:=((kb-m:Nat):Int)) (by rw [qpi (by omega)];omega)) ?_
   refine s1 ?_
   refine qap rfl (qal (k:=kb-m) (sz:=2) (er rfl) (er rfl) rfl rfl rfl hkm) ?_
   refine s1 ?_
   refine qap rfl (qir (er rfl) qbw rf rf (qvs _ hkm)) ?_
   refine qap rfl (OpP.to (qac (size:=1) (qs:=[(0,_)]) rfl rfl rfl ⟨⟨rfl,_,(er rfl),qag⟩,trivial⟩ rf rf) (SubL.row1 (T:=tI64) (x:=_) rf rf rf qak)) ?_
   refine t11 ?_
   exact rXF (⟨_,_,(⟨_,_,_,_,_,_,(⟨_,_⟩:Pt),_,_,_⟩:O23),_⟩:S23) results211 (hp:=by exact ⟨by exact wl0,by exact Nat.le_refl 1,Nat.zero_le _⟩)
  refine t5 ?_
  refine kRF call221 (qg2 _) ?_
  (refine qgm 187 rfl ?_;intro x187)
  refine t4 ?_
  intro i24
  refine t11 ?_
  refine cN ?_ ?_ <;> intro h41
  ·refine t3 ?_
   refine kXF call209 (qbo c.w.heap.size (⟨_,_,_,_,_,_,(⟨_,_⟩:Pt),_,_,_⟩:O23) _) ?_
   refine t10 ?_
   exact rXF (⟨_,_,(⟨_,_,_,_,_,_,(⟨_,_⟩:Pt),_,_,_⟩:O23),_⟩:S23) results211 (hp:=by exact ⟨by exact wl0,by exact Nat.zero_le _,Nat.zero_le _⟩)
  refine t5 ?_
  refine qap rfl (OpP.to (qac (size:=1) (qs:=[(0,_)]) rfl rfl rfl ⟨⟨rfl,_,(er rfl),qag⟩,trivial⟩ rf rf) (SubL.row1 (T:=tI64) (x:=_) rf rf rf qak)) ?_
  refine qap rfl (OpP.to (qac (size:=1) (qs:=[(0,_)]) rfl rfl rfl ⟨⟨rfl,_,(er rfl),qag⟩,trivial⟩ rf rf) (SubL.row1 (T:=tI64) (x:=_) rf rf rf qak)) ?_
  refine qap rfl (by ((refine qad call238 (qqc _ [3] [96] ?_ ?_) ⟨qaq,⟨qaq,⟨qaq,trivial⟩⟩⟩);all_goals (decide))) ?_
  (refine qa5 198 rfl ?_;intro x198 hx198)
  refine t14 ?_
  refine cN ?_ ?_ <;> intro h44
  ·refine t4 ?_
   refine kXF call209 (qbo c.w.heap.size (⟨_,_,_,_,_,_,(⟨_,_⟩:Pt),_,_,_⟩:O23) _) ?_
   refine t10 ?_
   exact rXF (⟨_,_,(⟨_,_,_,_,_,_,(⟨_,_⟩:Pt),_,_,_⟩:O23),_⟩:S23) results211 (hp:=by exact ⟨by exact wl0,by exact Nat.zero_le _,Nat.zero_le _⟩)
  refine t9 ?_
  refine cN ?_ ?_ <;> intro h46
  ·refine t4 ?_
   refine kXF call209 (qbo c.w.heap.size (⟨_,_,_,_,_,_,(⟨_,_⟩:Pt),_,_,_⟩:O23) _) ?_
   refine t10 ?_
   exact rXF (⟨_,_,(⟨_,_,_,_,_,_,(⟨_,_⟩:Pt),_,_,_⟩:O23),_⟩:S23) results211 (hp:=by exact ⟨by exact wl0,by exact Nat.zero_le _,Nat.zero_le _⟩)
  obtain ⟨hlu,hlv⟩:=hx198 (by simpa using h46)
  obtain ⟨pa,hza⟩:=qtm hlu
  have hla:Ln pa:=hlv _ (List.mem_of_getElem? hza)
  refine t6 ?_
  refine qap rfl (by exact qam (j:=0) (er rfl) (er rfl) rfl rfl rf hza) ?_
  refine s1 ?_
  refine kRF call186 (qhr _) ?_
  refine s1 ?_
  refine qap rfl (qal (k:=kb) (sz:=2) (er rfl) (er rfl) rfl rfl rfl hk4) ?_
  refine qkl (qas (Rs:=tRt.cells (setPg x49.1 kb (atR pa))) (er rfl) (er rfl) qag qae (pg_set _ _ hk4) rf rf (qtc _ hk4)) ?_
  refine t3 ?_
  refine qaz rfl (by kernel_rfl) ?_
  refine qaf 11 (by kernel_rfl) ?_
  refine s1 ?_
  refine qbh (by exact qam (j:=0) (er rfl) (er rfl) rfl rfl rf hza) ?_
  refine t2 ?_
  refine qbh (by ((refine qad call241 (qga _ (⟨(⟨_,_⟩:Pt),(⟨_,_⟩:Pt),(⟨_,_⟩:Pt),(⟨_,_⟩:Pt),(⟨_,_⟩:Pt),(⟨_,_⟩:Pt),(⟨_,_⟩:Pt),(⟨_,_⟩:Pt)⟩:S8) ?_) ⟨qbc,⟨qbc,trivial⟩⟩);all_goals (first|first|assumption|exact qfb _ _ _ _|exact qdl _ ⟨by decide,by decide⟩))) ?_
  refine t3 ?_
  refine qkq (qbl rfl qbm rfl) ?_
  refine qcy rfl rfl rfl (by kernel_rfl) (qca qaq qag rfl rfl rfl qbm) ?_
  refine s1 ?_
  refine ⟨rfl,?_⟩
  intro i28
  refine qar ?_
  refine t2 ?_
  refine qc8 (b:=i28) (fun _=>qae) ?_
  intro p28 hln28
  refine t3 ?_
  refine qap rfl (by ((refine qad call242 (qg1 _ (⟨(⟨_,_⟩:Pt),_,(⟨_,_⟩:Pt),(⟨_,_⟩:Pt),(⟨_,_⟩:Pt),(⟨_,_⟩:Pt)⟩:Rt) ?_) ⟨qbc,⟨qbc,trivial⟩⟩);all_goals (exact qdl _ ⟨by decide,by decide⟩))) ?_
  refine t4 ?_
  intro i30
  refine t5 ?_
  refine qc8 (b:=i30) (fun _=>qae) ?_
  intro p30 hln30
  refine t3 ?_
  refine qap rfl (OpP.fr (qa3 (size:=9) (qs:=[(0,_),(1,_)]) rfl rfl rfl ⟨⟨rfl,_,(er rfl),qag⟩,⟨⟨rfl,_,(er rfl),qag⟩,trivial⟩⟩ rf rf) qcq (SubL.row2 (T:=tPg) (x:=(⟨_,_,_,_,_,_,_,_,_⟩:Pg)) (y:=(⟨_,_,_,_,_,_,_,_,_⟩:Pg)) rf rf rf rf qak qak)) ?_
  refine qap rfl (by ((refine qaw call72 (qcf _ _ ?_) ⟨qaq,⟨qaq,trivial⟩⟩);all_goals ((simp;done)))) ?_
  refine t11 ?_
  exact rXF (⟨_,_,(⟨_,_,_,_,_,_,(⟨_,_⟩:Pt),_,_,_⟩:O23),_⟩:S23) results211 (hp:=by exact ⟨by exact qgn (n:=0) wl0 (wl2 (n:=0) (by assumption) (by assumption)) (by decide),by exact Nat.zero_le _,Nat.zero_le _⟩)
 have hkeb:kb=(m+m):=by have:=of_decide_eq_false h32;omega
 clear h32
 subst hkeb
 refine t18 ?_
 refine qap rfl (by ((refine qad call242 (qg1 _ (⟨(⟨_,_⟩:Pt),_,(⟨_,_⟩:Pt),(⟨_,_⟩:Pt),(⟨_,_⟩:Pt),(⟨_,_⟩:Pt)⟩:Rt) ?_) ⟨qbc,⟨qbc,trivial⟩⟩);all_goals (exact qdl _ ⟨by decide,by decide⟩))) ?_
 refine t4 ?_
 intro i32
 refine t5 ?_
 refine qc8 (b:=i32) (fun _=>qae) ?_
 intro p32 hln32
 refine t2 ?_
 refine qap rfl (OpP.fr (qa3 (size:=9) (qs:=[(0,_)]) rfl rfl rfl ⟨⟨rfl,_,(er rfl),qag⟩,trivial⟩ rf rf) qcq (SubL.row1 (T:=tPg) (x:=(⟨_,_,_,_,_,_,_,_,_⟩:Pg)) rf rf rf qak)) ?_
 refine t6 ?_
 exact rXF (⟨_,_,(⟨_,_,_,_,_,_,(⟨_,_⟩:Pt),_,_,_⟩:O23),_⟩:S23) results211 (hp:=by exact ⟨by exact wl1 (by assumption),by exact Nat.zero_le _,Nat.zero_le _⟩)
theorem qhj (kind:Int) (key:BitVec 32) (to:Pt) (fr ks:List Pg):FnF Tryz.prog 169 [Is (.int .i64 kind),Is (.int .u32 (UV key)),qks to,IsSl tPg fr,IsSl tPg ks] (fun B=>qes PS23 fun r=>qqk B r):=by
 refine FnF.enter func169 ntmps169 rfl rfl ?_
 intro c hX
 refine t3 ?_
 intro i7
 refine s1 ?_
 intro i10
 refine t28 ?_
 (refine JL_i rfl rfl rfl (fun hp hg=>(by have hpg:=Bool.and_eq_true_iff.2 ⟨hp,hg⟩;have hg0:=hg;(try simp at hg);exact qad call65 (qch _) ⟨qaq,trivial⟩)) ?_)
 refine t5 ?_
 refine cN ?_ ?_ <;> intro h1
 ·refine t3 ?_
  refine kXF call209 (qbo c.w.heap.size (⟨_,_,_,_,_,_,(⟨_,_⟩:Pt),_,_,_⟩:O23) _) ?_
  refine t5 ?_
  exact rXF (⟨_,_,(⟨_,_,_,_,_,_,(⟨_,_⟩:Pt),_,_,_⟩:O23),_⟩:S23) results169 (hp:=by exact ⟨wl0,Nat.zero_le _,Nat.zero_le _⟩)
 refine t15 ?_
 refine cN ?_ ?_ <;> intro h4
 ·refine t4 ?_
  refine qap rfl (qaw call210 (qvl _ _) ⟨qaq,⟨qaq,trivial⟩⟩) ?_
  (refine qa5 53 rfl ?_;intro x53 hx53)
  refine t6 ?_
  exact rXF (⟨_,_,(⟨_,_,_,_,_,_,(⟨_,_⟩:Pt),_,_,_⟩:O23),_⟩:S23) results169 (hp:=by exact hx53)
 refine t6 ?_
 refine cN ?_ ?_ <;> intro h6
 ·refine t4 ?_
  refine qap rfl (qaw call211 (zdv _ _) ⟨qaq,⟨qaq,trivial⟩⟩) ?_
  (refine qa5 58 rfl ?_;intro x58 hx58)
  refine t6 ?_
  exact rXF (⟨_,_,(⟨_,_,_,_,_,_,(⟨_,_⟩:Pt),_,_,_⟩:O23),_⟩:S23) results169 (hp:=by exact hx58)
 refine t6 ?_
 refine kRF call212 (qnt _) ?_
 refine s1 ?_
 refine kRF call171 (qk9 _ _) ?_
 (refine qa5 62 rfl ?_;intro x62 hx62)
 refine s1 ?_
 intro i11
 refine t5 ?_
 have hpl:PL23 x62:=hx62
 obtain ⟨hpn,hpb,hpc,hpg⟩:=hx62
 have hbl:=hpb.2
 refine t7 ?_
 refine cN ?_ ?_ <;> intro h9
 ·refine t10 ?_
  exact rXF (⟨_,_,(⟨_,_,_,_,_,_,(⟨_,_⟩:Pt),_,_,_⟩:O23),_⟩:S23) results169 (hp:=by exact ⟨wl0,hpn,Nat.zero_le _⟩)
 refine t7 ?_
 intro i12
 refine t11 ?_
 refine cN ?_ ?_ <;> intro h12
 ·refine t5 ?_
  refine kXF call209 (qbo c.w.heap.size (⟨_,_,_,_,_,_,(⟨_,_⟩:Pt),_,_,_⟩:O23) _) ?_
  refine t5 ?_
  exact rXF (⟨_,_,(⟨_,_,_,_,_,_,(⟨_,_⟩:Pt),_,_,_⟩:O23),_⟩:S23) results169 (hp:=by exact ⟨wl0,Nat.zero_le _,hpc⟩)
 refine t9 ?_
 refine cN ?_ ?_ <;> intro h14
 ·refine t7 ?_
  refine qap rfl (qaw call213 (zal _ _ (⟨_,_⟩:Pt) _ _) ⟨qbc,⟨qbc,⟨qbc,⟨qbc,⟨qbc,trivial⟩⟩⟩⟩⟩) ?_
  (refine qa5 86 rfl ?_;intro x86 hx86)
  refine t5 ?_
  exact rXF (⟨_,_,(⟨_,_,_,_,_,_,(⟨_,_⟩:Pt),_,_,_⟩:O23),_⟩:S23) results169 (hp:=by exact hx86)
 refine t8 ?_
 refine qap rfl (by ((refine qad call214 (qp3 _ _ ?_) ⟨qaq,⟨qaq,trivial⟩⟩);all_goals (have:=hpb.2;omega))) ?_
 (refine qa5 92 rfl ?_;intro x92 hx92)
 refine t8 ?_
 obtain ⟨hi1,hi2⟩:=hx92
 refine t4 ?_
 refine qap rfl (OpP.to (qac (size:=1) (qs:=[(0,_)]) rfl rfl rfl ⟨⟨rfl,_,(er rfl),qag⟩,trivial⟩ rf rf) (SubL.row1 (T:=tI64) (x:=_) rf rf rf qak)) ?_
 refine t12 ?_
 refine cN ?_ ?_ <;> intro h18
 ·refine t20 ?_
  refine cN ?_ ?_ <;> intro h21
  ·have hz:x62.bucket.es[x92.1]?=some _:=List.getElem?_eq_getElem (hi2 h21)
   refine t22 ?_
   exact rXF (⟨_,_,(⟨_,_,_,_,_,_,(⟨_,_⟩:Pt),_,_,_⟩:O23),_⟩:S23) results169 (hp:=by exact ⟨wl0,Nat.zero_le _,Nat.le_refl 1⟩)
  refine t12 ?_
  exact rXF (⟨_,_,(⟨_,_,_,_,_,_,(⟨_,_⟩:Pt),_,_,_⟩:O23),_⟩:S23) results169 (hp:=by exact ⟨wl0,Nat.zero_le _,Nat.le_refl 1⟩)
 refine t11 ?_
 refine cN ?_ ?_ <;> intro h24
 ·refine t10 ?_
  refine kXF call209 (qbo c.w.heap.size (⟨_,_,_,_,_,_,(⟨_,_⟩:Pt),_,_,_⟩:O23) _) ?_
  refine t6 ?_
  exact rXF (⟨_,_,(⟨_,_,_,_,_,_,(⟨_,_⟩:Pt),_,_,_⟩:O23),_⟩:S23) results169 (hp:=by exact ⟨wl0,Nat.zero_le _,Nat.le_refl 1⟩)
 skip
 refine t7 ?_
 refine cN ?_ ?_ <;> intro h27
 ·have hfo:x92.2=true:=by
   cases hq:x92.2 with
   | true=>rfl
   | false=>rw [hq,h27] at h24;cases h24
  have hz:x62.bucket.es[x92.1]?=some _:=List.getElem?_eq_getElem (hi2 hfo)
  have hlt:=hi2 hfo
  refine t5 ?_
  intro i16
  refine t22 ?_
  refine qaz rfl (by kernel_rfl) ?_
  refine qaf 13 (by kernel_rfl) ?_
  refine qkq (qb3 tEn rfl rfl) ?_
  refine t3 ?_
  refine qbh (qcx (er rfl) rfl rfl rfl ⟨_,_,(er rfl),rf⟩ (by omega) (by omega)) ?_
  refine qd7 rfl rfl rfl rf (by kernel_rfl) (qd4 qaq (by exact qej rfl rfl rfl) qb8) ?_
  refine t4 ?_
  refine qbh (qcx (er rfl) rfl rfl ⟨_,_,(er rfl),(show _=((x92.1+1:Nat):Int) by rfl)⟩ rfl (by omega) (by omega)) ?_
  refine qd7 rfl rfl rfl rf (by kernel_rfl) (qd4 qaq (by exact qej rfl rfl rfl) qb8) ?_
  refine s1 ?_
  refine ⟨rfl,?_⟩
  intro i152
  refine qeb (by kernel_rfl) rfl (qas (er rfl) (er rfl) qag qae qbm rf rf rf) ?_
  refine qar ?_
  refine t2 ?_
  refine qa7 hX (v:=slV _ i152) qae ?_
  refine t4 ?_
  refine qap rfl (by ((refine qad call215 (qe4 _ (⟨_,_,(⟨_,_⟩:Pt),_⟩:Bk) ?_) ⟨qbc,⟨qbc,trivial⟩⟩);all_goals (first|first|assumption|exact qfb _ _ _ _|exact qdl _ ⟨by decide,by decide⟩))) ?_
  refine t4 ?_
  intro i17
  refine t5 ?_
  refine qc8 (b:=i17) (fun _=>qae) ?_
  intro p17 hln17
  refine t2 ?_
  refine qap rfl (OpP.fr (qa3 (size:=9) (qs:=[(0,_)]) rfl rfl rfl ⟨⟨rfl,_,(er rfl),qag⟩,trivial⟩ rf rf) qcq (SubL.row1 (T:=tPg) (x:=(⟨_,_,_,_,_,_,_,_,_⟩:Pg)) rf rf rf qak)) ?_
  refine t8 ?_
  exact rXF (⟨_,_,(⟨_,_,_,_,_,_,(⟨_,_⟩:Pt),_,_,_⟩:O23),_⟩:S23) results169 (hp:=by exact ⟨wl1 (by assumption),Nat.zero_le _,hpc⟩)
 refine t6 ?_
 refine cN ?_ ?_ <;> intro h34
 ·refine t10 ?_
  refine kXF call209 (qbo c.w.heap.size (⟨_,_,_,_,_,_,(⟨_,_⟩:Pt),_,_,_⟩:O23) _) ?_
  refine t6 ?_
  exact rXF (⟨_,_,(⟨_,_,_,_,_,_,(⟨_,_⟩:Pt),_,_,_⟩:O23),_⟩:S23) results169 (hp:=by exact ⟨wl0,Nat.zero_le _,Nat.le_refl 1⟩)
 refine t10 ?_
 refine qap rfl (qaw call216 (qwa x62 (⟨_,(⟨_,_⟩:Pt)⟩:En) _ hpl) ⟨qbc,⟨qbc,⟨qbc,trivial⟩⟩⟩) ?_
 (refine qa5 176 rfl ?_;intro x176 hx176)
 refine t4 ?_
 exact rXF (⟨_,_,(⟨_,_,_,_,_,_,(⟨_,_⟩:Pt),_,_,_⟩:O23),_⟩:S23) results169 (hp:=by exact hx176)
end Go.Proofs.YtghkkdjbaehboaaGreat
