/- Texts laid together: walks of functions, what they compute, and plain laws of it. Own work. -/
import Derived.Test.YtmgoplaamlignaaGreatK23
import Derived.Test.YtmgoplaamlignaaGreatK22
import Derived.Test.YtmgoplaamlignaaGreatK9
import Derived.Test.YtmgoplaamlignaaGreatK10
import Derived.Test.YtmgoplaamlignaaGreatK1
namespace Go.Proofs.YtmgoplaamlignaaGreat
open Go.RowKit Tryz
set_option linter.unusedVariables false
set_option linter.unusedSimpArgs false
set_option maxRecDepth 100000
set_option maxHeartbeats 4000000
@[reducible] def IsB:VP:=VEx fun b:Bool=>Is (.bool b)
@[reducible] def IsW64:VP:=VEx fun d:BitVec 64=>Is (.int .u64 (UV d))
theorem qot (o s:Int):FnP Tryz.prog 180 [Is (.int .i64 o),Is (.int .i64 s)] IsW64:=by
 refine FnP.enter func180 ntmps180 rfl rfl ?_
 intro c hX
 refine t24 ?_
 refine cN ?_ ?_ <;> intro h1
 ·refine t7 ?_
  exact qci (Bs:=[_]) _ rfl results180 eX (List.nil_sublist _)
 refine t15 ?_
 exact qci (Bs:=[_]) _ rfl results180 eX (List.nil_sublist _)
theorem qy7 (x:BitVec 64):FnP Tryz.prog 226 [Is (.int .u64 (UV x))] (VEx fun r:Int×Int×Bool=>qbv [Is (.int .i64 r.1),Is (.int .i64 r.2.1),Is (.bool r.2.2)]):=by
 refine FnP.enter func226 ntmps226 rfl rfl ?_
 intro c hX
 refine t24 ?_
 refine cN ?_ ?_ <;> intro h2
 ·refine t9 ?_
  exact qci (Bs:=[_,_,_]) (_,_,_) rfl results226 eX (List.nil_sublist _)
 refine t15 ?_
 refine kR call180 (qot _ _) ?_
 (refine qf1 19 rfl ?_;intro x19)
 refine t3 ?_
 refine cN ?_ ?_ <;> intro h5
 ·refine t9 ?_
  exact qci (Bs:=[_,_,_]) (_,_,_) rfl results226 eX (List.nil_sublist _)
 refine t12 ?_
 exact qci (Bs:=[_,_,_]) (_,_,_) rfl results226 eX (List.nil_sublist _)
theorem qfb (v:Vs):FnP Tryz.prog 206 [IsVs v] IsB:=by
 refine FnP.enter func206 ntmps206 rfl rfl ?_
 intro c hX
 refine t3 ?_
 intro i1
 refine t7 ?_
 refine kR call226 (qy7 _) ?_
 (refine qf1 9 rfl ?_;intro x9)
 refine t30 ?_
 (refine qcq rfl rfl rfl (fun hg=>(by have hg0:=hg;(try simp at hg);exact qhc evG evG)) ?_)
 refine t3 ?_
 (refine JL_i rfl rfl rfl (fun hp hg=>(by have hpg:=Bool.and_eq_true_iff.2 ⟨hp,hg⟩;have hg0:=hg;(try simp at hg);exact qac call70 (qb8 _) ⟨evR,trivial⟩)) ?_)
 refine t5 ?_
 refine cN ?_ ?_ <;> intro h2
 ·refine t7 ?_
  exact qci (Bs:=[_]) _ rfl results206 eX (List.nil_sublist _)
 refine t9 ?_
 refine cN ?_ ?_ <;> intro h4
 ·refine t5 ?_
  refine qap rfl (qd6 (size:=1) (qs:=[]) rfl rfl rfl rfl trivial rf qbo) ?_
  refine qap rfl (op_eqI3 (er rfl) (er rfl)) ?_
  refine t5 ?_
  exact qci (Bs:=[_]) _ rfl results206 eX (List.nil_sublist _)
 refine t11 ?_
 exact qci (Bs:=[_]) _ rfl results206 eX (List.nil_sublist _)
theorem qo6 (x:BitVec 32):FnP Tryz.prog 205 [Is (.int .u32 (UV x))] (Is (.bool (UV x==0||qdz (qc1 x)))):=by
 refine FnP.enter func205 ntmps205 rfl rfl ?_
 intro c hX
 refine t11 ?_
 (refine qcq rfl rfl rfl (fun hg=>(by have hg0:=hg;(try simp at hg);exact qac call103 (qfg _) ⟨evR,trivial⟩)) ?_)
 (refine qcq rfl rfl rfl (fun hg=>(by have hg0:=hg;(try simp at hg);exact qac call70 (qb8 _) ⟨evR,trivial⟩)) ?_)
 refine t5 ?_
 refine qa4 results205 rfl () (SubL.eq ?_) (List.nil_sublist _)
 rfl
theorem qho (p:Pg):FnP Tryz.prog 168 [qdw p] (VEx fun r:Vs×Int=>qbv [IsVs r.1,Is (.int .i64 r.2)]):=by
 refine FnP.enter func168 ntmps168 rfl rfl ?_
 intro c hX
 refine t3 ?_
 intro i1
 refine s1 ?_
 intro i2
 refine t4 ?_
 refine qa0 rfl (by kernel_rfl) ?_
 refine qag 14 (by kernel_rfl) ?_
 refine t9 ?_
 refine qbc (qac call204 (qoz _) ⟨evR,trivial⟩) ?_
 refine t2 ?_
 refine qka (qbi rfl qbo rfl) ?_
 refine qcp rfl rfl rfl (by kernel_rfl) (qbz evR qbn rfl rfl rfl qbo) ?_
 refine ⟨rfl,?_⟩
 intro i4
 refine qat ?_
 refine t15 ?_
 refine kR call63 (qel _) ?_
 refine t3 ?_
 (refine qcq rfl rfl rfl (fun hg=>(by have hg0:=hg;(try simp at hg);exact qac call204 (qoz _) ⟨evR,trivial⟩)) ?_)
 refine t10 ?_
 (refine qcq rfl rfl rfl (fun hg=>(by have hg0:=hg;(try simp at hg);exact qac call205 (qo6 _) ⟨evR,trivial⟩)) ?_)
 refine t4 ?_
 refine cN ?_ ?_ <;> intro h3
 ·refine t9 ?_
  exact qci (Bs:=[_,_]) ((⟨(⟨_,_,_,_⟩:Rw),_,_,_,(⟨_,_⟩:Pt)⟩:Vs),_) rfl results168 eX (List.nil_sublist _)
 refine t9 ?_
 refine qb3 [(1,_),(2,_),(3,_),(4,_)] [blk i2 _ _,blk i1 _ _] (fun yc:Vs=>True) (fun yc=>[]) (fun yc=>[blk i4 255 (tVs.cells yc)]) qdl qab ?_ ?_
 rotate_left
 focus
  refine cN ?_ ?_ <;> intro h5
  ·refine t2 ?_
   refine kR call103 (qfg _) ?_
   refine t3 ?_
   refine qam (b:=i4) (As':=tVs.cells (⟨(⟨_,_,_,_⟩:Rw),_,_,_,(⟨_,_⟩:Pt)⟩:Vs)) qae qkh ?_
   exact qak (⟨(⟨_,_,_,_⟩:Rw),_,_,_,(⟨_,_⟩:Pt)⟩:Vs) (trivial) qdl qab
  refine s1 ?_
  refine qam (b:=i4) (As':=tVs.cells (⟨(⟨_,_,_,_⟩:Rw),_,_,_,(⟨_,_⟩:Pt)⟩:Vs)) qae qkh ?_
  exact qak (⟨(⟨_,_,_,_⟩:Rw),_,_,_,(⟨_,_⟩:Pt)⟩:Vs) (trivial) qdl qab
 rintro v _
 refine t7 ?_
 refine cN ?_ ?_ <;> intro h7
 ·refine t21 ?_
  refine cN ?_ ?_ <;> intro h8
  ·refine t10 ?_
   exact qci (Bs:=[_,_]) ((⟨(⟨_,_,_,_⟩:Rw),_,_,_,(⟨_,_⟩:Pt)⟩:Vs),_) rfl results168 eX (List.nil_sublist _)
  refine t15 ?_
  refine kX call206 (qfb (⟨(⟨_,_,_,_⟩:Rw),_,_,_,(⟨_,_⟩:Pt)⟩:Vs)) ?_
  (refine qf1 88 rfl ?_;intro x88)
  refine t3 ?_
  refine cN ?_ ?_ <;> intro h15
  ·refine t9 ?_
   exact qci (Bs:=[_,_]) ((⟨(⟨_,_,_,_⟩:Rw),_,_,_,(⟨_,_⟩:Pt)⟩:Vs),_) rfl results168 eX (List.nil_sublist _)
  refine t10 ?_
  exact qci (Bs:=[_,_]) ((⟨(⟨_,_,_,_⟩:Rw),_,_,_,(⟨_,_⟩:Pt)⟩:Vs),_) rfl results168 eX (List.nil_sublist _)
 refine t6 ?_
 refine qbq (b:=i4) (As':=tVs.cells (⟨(⟨_,_,_,_⟩:Rw),_,_,_,(⟨_,_⟩:Pt)⟩:Vs)) qae qkh ?_
 refine qaz [(1,_),(2,_),(3,_),(4,_)] [blk i2 _ _,blk i1 _ _] (fun y:Nat×Vs=>y.1≤3) (fun y=>[(6,Is (.int .i64 (y.1:Nat)))]) (fun y=>[blk i4 255 (tVs.cells y.2)]) (fun y=>3-y.1) (0,(⟨(⟨_,_,_,_⟩:Rw),_,_,_,(⟨_,_⟩:Pt)⟩:Vs)) (Nat.zero_le _) qdl qab ?_
 rintro ⟨k,w⟩ hk
 dsimp only at hk ⊢
 refine t7 ?_
 refine cN ?_ ?_ <;> intro h12
 ·have hlt:k<3:=by have:=of_decide_eq_true h12;omega
  clear h12
  rcases (show k=0∨k=1∨k=2 by omega) with rfl|rfl|rfl
  all_goals
   refine t9 ?_
   refine qap rfl (qan (k:=_) (sz:=1) (er rfl) (er rfl) rfl rfl qca (by decide)) ?_
   refine t4 ?_
   refine qap rfl (qan (k:=_) (sz:=1) (er rfl) (er rfl) rfl rfl qca (by decide)) ?_
   refine t9 ?_
   refine qam (b:=i4) (As':=tVs.cells (⟨(⟨_,_,_,_⟩:Rw),_,_,_,(⟨_,_⟩:Pt)⟩:Vs)) qae qkh ?_
   first|((guard_hyp hlt:(0:Nat)<3);refine qaa (1,(⟨(⟨_,_,_,_⟩:Rw),_,_,_,(⟨_,_⟩:Pt)⟩:Vs)) ?_ ?_ qdl qab)|((guard_hyp hlt:(1:Nat)<3);refine qaa (2,(⟨(⟨_,_,_,_⟩:Rw),_,_,_,(⟨_,_⟩:Pt)⟩:Vs)) ?_ ?_ qdl qab)|((guard_hyp hlt:(2:Nat)<3);refine qaa (3,(⟨(⟨_,_,_,_⟩:Rw),_,_,_,(⟨_,_⟩:Pt)⟩:Vs)) ?_ ?_ qdl qab)
   ·exact (by omega)
   ·exact (by omega)
 have hke:k=3:=by have:=of_decide_eq_false h12;omega
 clear h12
 subst hke
 refine t9 ?_
 refine kX call206 (qfb (⟨(⟨_,_,_,_⟩:Rw),_,_,_,(⟨_,_⟩:Pt)⟩:Vs)) ?_
 (refine qf1 88 rfl ?_;intro x88)
 refine t3 ?_
 refine cN ?_ ?_ <;> intro h15
 ·refine t9 ?_
  exact qci (Bs:=[_,_]) ((⟨(⟨_,_,_,_⟩:Rw),_,_,_,(⟨_,_⟩:Pt)⟩:Vs),_) rfl results168 eX (List.nil_sublist _)
 refine t10 ?_
 exact qci (Bs:=[_,_]) ((⟨(⟨_,_,_,_⟩:Rw),_,_,_,(⟨_,_⟩:Pt)⟩:Vs),_) rfl results168 eX (List.nil_sublist _)
@[reducible] def hashV (x:BitVec 32):BitVec 32:=(x*2654435769#32) ^^^ (x*2654435769#32)>>>16
def lowV (h:BitVec 32) (d:Int):BitVec 32:=h&&&(BitVec.ofInt 32 1<<<d.toNat-BitVec.ofInt 32 1)
theorem qvk (h:BitVec 32) {d:Int} (hd:0≤d∧d≤16):(lowV h d).toNat=h.toNat % 2 ^ d.toNat:=by
 unfold lowV
 have h1:(2:Nat) ^ d.toNat≤2 ^ 16:=Nat.pow_le_pow_right (by omega) (by omega)
 have h2:0<(2:Nat) ^ d.toNat:=Nat.pow_pos (by omega)
 have e:(BitVec.ofInt 32 1<<<d.toNat-BitVec.ofInt 32 1:BitVec 32).toNat=2 ^ d.toNat-1:=by
  rw [BitVec.toNat_sub,BitVec.toNat_shiftLeft]
  show (2 ^ 32-1+1<<<d.toNat % 2 ^ 32) % 2 ^ 32=2 ^ d.toNat-1
  rw [Nat.shiftLeft_eq,Nat.one_mul]
  generalize (2:Nat) ^ d.toNat=m at *
  have h1':m≤65536:=h1
  rw [Nat.mod_eq_of_lt (show m<2 ^ 32 by omega)]
  omega
 rw [BitVec.toNat_and,e,Nat.and_two_pow_sub_one_eq_mod]
theorem pow_UV {d:Int} (hd:0≤d∧d≤16):UV (BitVec.ofInt 64 1<<<d.toNat)=((2 ^ d.toNat:Nat):Int)∧0<2 ^ d.toNat∧2 ^ d.toNat≤65536:=by
 have h1:(2:Nat) ^ d.toNat≤2 ^ 16:=Nat.pow_le_pow_right (by omega) (by omega)
 have h2:0<(2:Nat) ^ d.toNat:=Nat.pow_pos (by omega)
 have h3:(2:Nat) ^ d.toNat≤65536:=h1
 refine ⟨?_,h2,h3⟩
 unfold UV
 rw [BitVec.toNat_shiftLeft]
 show ((1<<<d.toNat % 2 ^ 64:Nat):Int)=_
 rw [Nat.shiftLeft_eq,Nat.one_mul]
 generalize (2:Nat) ^ d.toNat=m at *
 rw [Nat.mod_eq_of_lt (by omega)]
theorem wide_UV (h:BitVec 32):UV (h.setWidth 64)=UV h:=by
 unfold UV
 rw [BitVec.toNat_setWidth]
 have:=h.isLt
 omega
theorem ql9 (h:BitVec 32) (d:Int) (hd:0≤d∧d≤16):FnP Tryz.prog 218 [Is (.int .u32 (UV h)),Is (.int .i64 d)] (Is (.int .u32 (UV (lowV h d)))):=by
 obtain ⟨hp,hp0,hp1⟩:=pow_UV hd
 have hne:UV (BitVec.ofInt 64 1<<<d.toNat)≠0:=by rw [hp];omega
 have e:UV (BitVec.ofInt 32 ((UV (h.setWidth 64)).tmod (UV (BitVec.ofInt 64 1<<<d.toNat))))=UV (lowV h d):=by
  rw [hp,wide_UV,Int.tmod_eq_emod_of_nonneg (qbj h)]
  have h3:=qvk h hd
  have h1:=qbj h
  have h2:UV (lowV h d)=UV h % ((2 ^ d.toNat:Nat):Int):=by
   unfold UV
   rw [h3]
   simp
  generalize (2:Nat) ^ d.toNat=m at *
  have h4:=Int.emod_nonneg (UV h) (show (m:Int)≠0 by omega)
  have h5:=Int.emod_lt_of_pos (UV h) (show (0:Int)<m by omega)
  rw [qj8 (by omega),h2]
 refine FnP.enter func218 ntmps218 rfl rfl ?_
 intro c hX
 refine t11 ?_
 refine qap rfl (by exact qd5 (k:=d.toNat) qgi (er rfl) (by omega) qca) ?_
 refine t6 ?_
 refine qa4 results218 rfl () (SubL.eq ?_) (List.nil_sublist _)
 rw [← e]
theorem qnm (x:BitVec 32):FnP Tryz.prog 210 [Is (.int .u32 (UV x))] (Is (.int .u32 (UV (hashV x)))):=by
 refine FnP.enter func210 ntmps210 rfl rfl ?_
 intro c hX
 refine t16 ?_
 refine qap rfl (by exact qex (k:=16) ql1 (er rfl) (by omega) qca) ?_
 refine t5 ?_
 refine qa4 results210 rfl () (SubL.eq ?_) (List.nil_sublist _)
 rfl
def zcb (p:Pt):Bool:=decide (p=Pt.nil)||qdz p
def okW (x:BitVec 32):Bool:=(UV x==0)||qdz (qc1 x)
theorem qvs (p:Pt):FnP Tryz.prog 232 [qm6 p] (Is (.bool (zcb p))):=by
 refine FnP.enter func232 ntmps232 rfl rfl ?_
 intro c hX
 refine t3 ?_
 intro i1
 refine t7 ?_
 refine qap rfl (qes (vs:=Pt.cells p) (ws:=Pt.cells Pt.nil) (er rfl) (er rfl) (qkq _ _ _ p Pt.nil) (qtz p Pt.nil)) ?_
 refine t2 ?_
 (refine qcq rfl rfl rfl (fun hg=>(by have hg0:=hg;(try simp at hg);exact qac call70 (qb8 _) ⟨evR,trivial⟩)) ?_)
 refine t5 ?_
 refine qa4 results232 rfl () (SubL.eq ?_) (List.nil_sublist _)
 rfl
theorem qjt (w:BitVec 64):FnP Tryz.prog 215 [Is (.int .u64 (UV w))] (qbv [qm6 (qc1 (w.setWidth 32)),Is (.bool (okW (w.setWidth 32)))]):=by
 refine FnP.enter func215 ntmps215 rfl rfl ?_
 intro c hX
 refine t3 ?_
 intro i2
 refine t7 ?_
 refine kR call103 (qfg _) ?_
 refine s1 ?_
 intro i4
 refine t11 ?_
 refine cN ?_ ?_ <;> intro h2
 ·have h3:UV (w.setWidth 32)=0:=by simpa using h2
  have h4:(w.setWidth 32).toNat=0:=by unfold UV at h3;omega
  have e:w.setWidth 32=0#32:=BitVec.eq_of_toNat_eq h4
  rw [e]
  refine t9 ?_
  exact qaq (Bs:=[qm6 Pt.nil,Is (.bool true)]) results215 eR () SubL.rfl' (List.nil_sublist _)
 have e:okW (w.setWidth 32)=qdz (qc1 (w.setWidth 32)):=by unfold okW;rw [h2];rfl
 rw [e]
 refine t3 ?_
 refine qa0 rfl (by kernel_rfl) ?_
 refine qdf (it:=blk i2 _ _) (by repeat (first|exact Drop1.here _ _|apply Drop1.next)) ?_
 refine qdj (its:=[_]) 5 (by kernel_rfl) ?_
 refine t2 ?_
 refine qbc (qac call70 (qb8 _) ⟨evR,trivial⟩) ?_
 refine qc6 (s:=15) rfl rfl rfl (by kernel_rfl) (fun c'=>by exact qa9 (er rfl) (er rfl) qbn qae rf rf rf) ?_
 refine s1 ?_
 refine ⟨rfl,?_⟩
 intro _
 refine qat ?_
 refine t2 ?_
 exact qaq (Bs:=[qm6 (qc1 (w.setWidth 32)),Is (.bool (qdz (qc1 (w.setWidth 32))))]) results215 eR () SubL.rfl' (List.nil_sublist _)
def qwq (d:Int):Int:=if d≤3 then 1 else if d=4 then 2 else 4
theorem qwp (d:Int) (h:0≤d∧d≤5):FnP Tryz.prog 229 [Is (.int .i64 d)] (Is (.int .i64 (qwq d))):=by
 have h6:d=0∨d=1∨d=2∨d=3∨d=4∨d=5:=by omega
 refine FnP.enter func229 ntmps229 rfl rfl ?_
 intro c hX
 refine t11 ?_
 refine qap rfl (op_max (er rfl) (er rfl)) ?_
 refine t4 ?_
 refine qa4 results229 rfl () (SubL.eq ?_) (List.nil_sublist _)
 rcases h6 with rfl|rfl|rfl|rfl|rfl|rfl <;> rfl
def enAt (es:List En) (k:Nat):En:=(es[k]?).getD ⟨0#32,Pt.nil⟩
theorem qnj {es:List En} {k:Nat} (h:k<es.length):es[k]?=some (enAt es k):=by
 unfold enAt
 rw [List.getElem?_eq_getElem h]
 rfl
def vbE (b:Bk):Nat→List En→Bool
 | _,[]=>true
 | k,e :: r=>if (decide (UV e.key<1)||decide (UV e.key>4294967294)||(!qdz e.to)||(UV (lowV (hashV e.key) b.depth) != UV b.pat)||(decide ((k:Int)>0)&&decide (UV (enAt b.es (k-1)).key≥UV e.key)))=true then false else vbE b (k+1) r
def vB (b:Bk):Bool:=if (decide (b.depth<0)||decide (b.depth>16)||decide (UV (b.pat.setWidth 64)≥UV (BitVec.ofInt 64 1<<<b.depth.toNat))||(!zcb b.next)||decide ((b.es.length:Int)>5))=true then false else vbE b 0 b.es
def okBk (b:Bk):Prop:=(0≤b.depth∧b.depth≤16)∧b.es.length≤5
theorem vB_ok {b:Bk} (h:vB b=true):okBk b:=by
 unfold vB at h
 split at h
 ·cases h
 ·rename_i h1
  simp at h1
  exact ⟨by omega,by omega⟩
theorem qji (b:Bk):FnP Tryz.prog 230 [IsBk b] (Is (.bool (vB b))):=by
 obtain ⟨W,hE⟩:∃ W,vB b=W:=⟨_,rfl⟩
 rw [hE]
 unfold vB at hE
 refine FnP.enter func230 ntmps230 rfl rfl ?_
 intro c hX
 refine t3 ?_
 intro i1
 refine t21 ?_
 (refine qcq rfl rfl rfl (fun hg=>(by have hg0:=hg;(try simp at hg);exact qd5 (k:=b.depth.toNat) qiv evG (by omega) qca)) ?_)
 refine t5 ?_
 (refine qcq rfl rfl rfl (fun hg=>(by have hg0:=hg;(try simp at hg);exact qac call232 (qvs _) ⟨evR,trivial⟩)) ?_)
 refine t10 ?_
 refine cN ?_ ?_ <;> intro h1
 ·replace hE:=qce hE h1
  refine t7 ?_
  subst hE
  exact qaq (Bs:=[_]) results230 eR () SubL.rfl' (List.nil_sublist _)
 rw [ifF h1] at hE
 have hok:(0≤b.depth∧b.depth≤16)∧b.es.length≤5:=by simp at h1;exact ⟨by omega,by omega⟩
 obtain ⟨hd,hl⟩:=hok
 clear h1
 refine t9 ?_
 refine qaz [(1,_),(2,_)] [blk i1 _ _] (fun k:Nat=>k≤(b.es).length∧vbE b k (List.drop k (b.es))=W) (fun k=>[(3,Is (.int .i64 (k:Nat)))]) (fun k=>[]) (fun k=>(b.es).length-k) 0 ⟨by exact Nat.zero_le _,hE⟩ qe8 qab ?_
 clear hE
 rintro k ⟨hk,hE⟩
 refine t10 ?_
 refine cN ?_ ?_ <;> intro h4
 ·have hlt:k<(b.es).length:=by have:=of_decide_eq_true h4;omega
  clear h4
  obtain ⟨z,hz⟩:∃ q,(b.es)[k]?=some q:=⟨_,List.getElem?_eq_getElem hlt⟩
  rw [qjc hz,vbE] at hE
  (try dsimp only at hE)
  have hz1:0<k→b.es[k-1]?=some (enAt b.es (k-1)):=fun _=>qnj (by omega)
  refine t12 ?_
  intro i4
  refine t4 ?_
  refine qa0 rfl (by kernel_rfl) ?_
  refine qag 41 (by kernel_rfl) ?_
  refine t11 ?_
  (refine qem rfl rfl (fun hg=>(by have hg0:=hg;(try simp at hg);exact qac call70 (qb8 _) ⟨evR,trivial⟩)) ?_)
  refine t5 ?_
  (refine qem rfl rfl (fun hg=>(by have hg0:=hg;(try simp at hg);exact qac call210 (qnm _) ⟨evR,trivial⟩)) ?_)
  refine t2 ?_
  (refine qem rfl rfl (fun hg=>(by have hg0:=hg;(try simp at hg);((refine qac call218 (ql9 _ _ ?_) ⟨evR,⟨evR,trivial⟩⟩);all_goals (omega)))) ?_)
  refine t12 ?_
  (refine JW_i rfl rfl (fun hp hg=>(by have hpg:=Bool.and_eq_true_iff.2 ⟨hp,hg⟩;have hg0:=hg;(try simp at hg);exact qau (j:=k-1) evG evG rfl rfl (by omega) (hz1 (by omega)))) ?_)
  refine t7 ?_
  refine ⟨rfl,?_⟩
  refine qat ?_
  refine s1 ?_
  refine cN ?_ ?_ <;> intro h7
  ·replace hE:=qce hE h7
   refine t11 ?_
   subst hE
   exact qaq (Bs:=[_]) results230 eR () SubL.rfl' (List.nil_sublist _)
  replace hE:=qdr hE h7
  refine t8 ?_
  exact qaa (k+1) ⟨by omega,hE⟩ (by omega) qe8 qab
 have hke:k=(b.es).length:=by have:=of_decide_eq_false h4;omega
 clear h4
 subst hke
 rw [List.drop_length,vbE] at hE
 (try dsimp only at hE)
 refine t11 ?_
 subst hE
 exact qaq (Bs:=[_]) results230 eR () SubL.rfl' (List.nil_sublist _)
def pgAt (r:Rt):Nat→Pt
 | 0=>r.p0
 | 1=>r.p1
 | 2=>r.p2
 | _=>r.p3
def vrL (r:Rt):Nat→Nat→Bool
 | 0,_=>true
 | m+1,k=>if (!zcb (pgAt r k)||(decide ((k:Int)<qwq r.depth)&&decide (pgAt r k=Pt.nil)))=true then false else vrL r m (k+1)
def vR (r:Rt):Bool:=if decide (r.first=Pt.nil)=true then decide (r=Rt.nil) else if (!qdz r.first||decide (r.depth<0)||decide (r.depth>5))=true then false else vrL r 4 0
theorem vR_ok {r:Rt} (h:vR r=true):0≤r.depth∧r.depth≤5:=by
 unfold vR at h
 split at h
 ·have:=of_decide_eq_true h
  subst this
  decide
 ·split at h
  ·cases h
  ·rename_i h1
   simp at h1
   omega
theorem qls (r:Rt):FnP Tryz.prog 216 [IsRt r] (Is (.bool (vR r))):=by
 obtain ⟨W,hE⟩:∃ W,vR r=W:=⟨_,rfl⟩
 rw [hE]
 unfold vR at hE
 refine FnP.enter func216 ntmps216 rfl rfl ?_
 intro c hX
 refine t3 ?_
 intro i1
 refine t9 ?_
 refine qap rfl (qdc (er rfl) (er rfl)) ?_
 refine t2 ?_
 refine cN ?_ ?_ <;> intro h1
 ·replace hE:=qce hE h1
  refine t4 ?_
  refine qap rfl (qes (vs:=Rt.cells r) (ws:=Rt.cells Rt.nil) (er rfl) (er rfl) (qvt _ _ _ r Rt.nil) (zcd r Rt.nil)) ?_
  refine t5 ?_
  subst hE
  exact qaq (Bs:=[_]) results216 eR () SubL.rfl' (List.nil_sublist _)
 replace hE:=qdr hE h1
 refine t7 ?_
 refine kR call70 (qb8 _) ?_
 refine t13 ?_
 refine cN ?_ ?_ <;> intro h3
 ·replace hE:=qce hE h3
  refine t7 ?_
  subst hE
  exact qaq (Bs:=[_]) results216 eR () SubL.rfl' (List.nil_sublist _)
 rw [ifF h3] at hE
 have hd:0≤r.depth∧r.depth≤5:=by simp at h3;omega
 clear h3
 refine t9 ?_
 refine qaz [(1,_),(2,_)] [blk i1 _ _] (fun k:Nat=>k≤4∧vrL r (4-k) k=W) (fun k=>[(3,Is (.int .i64 (k:Nat)))]) (fun k=>[]) (fun k=>4-k) 0 ⟨by exact Nat.zero_le _,hE⟩ qe8 qab ?_
 clear hE
 rintro k ⟨hk,hE⟩
 refine t7 ?_
 refine cN ?_ ?_ <;> intro h6
 ·have hlt:k<4:=by have:=of_decide_eq_true h6;omega
  clear h6
  rw [show 4-k=(4-(k+1))+1 by omega,vrL] at hE
  (try dsimp only at hE)
  rcases (show k=0∨k=1∨k=2∨k=3 by omega) with rfl|rfl|rfl|rfl
  all_goals
   refine t8 ?_
   refine qap rfl (qan (k:=_) (sz:=2) (er rfl) (er rfl) rfl rfl qca (by decide)) ?_
   refine s1 ?_
   refine kR call232 (qvs _) ?_
   refine t5 ?_
   (refine qcq rfl rfl rfl (fun hg=>(by have hg0:=hg;(try simp at hg);((refine qac call229 (qwp _ ?_) ⟨evR,trivial⟩);all_goals (omega)))) ?_)
   refine t4 ?_
   (refine JL_i rfl rfl rfl (fun hp hg=>(by have hpg:=Bool.and_eq_true_iff.2 ⟨hp,hg⟩;have hg0:=hg;(try simp at hg);exact qan (k:=_) (sz:=2) evG evG rfl rfl qca (by decide))) ?_)
   refine t2 ?_
   (refine JL_i rfl rfl rfl (fun hp hg=>(by have hpg:=Bool.and_eq_true_iff.2 ⟨hp,hg⟩;have hg0:=hg;(try simp at hg);exact qdc evG evG)) ?_)
   refine t4 ?_
   refine cN ?_ ?_ <;> intro h8
   ·replace hE:=qce hE h8
    refine t11 ?_
    subst hE
    exact qaq (Bs:=[_]) results216 eR () SubL.rfl' (List.nil_sublist _)
   replace hE:=qdr hE h8
   refine t8 ?_
   first|((guard_hyp hlt:(0:Nat)<4);exact qaa (1) ⟨by omega,hE⟩ (by omega) qe8 qab)|((guard_hyp hlt:(1:Nat)<4);exact qaa (2) ⟨by omega,hE⟩ (by omega) qe8 qab)|((guard_hyp hlt:(2:Nat)<4);exact qaa (3) ⟨by omega,hE⟩ (by omega) qe8 qab)|((guard_hyp hlt:(3:Nat)<4);exact qaa (4) ⟨by omega,hE⟩ (by omega) qe8 qab)
 have hke:k=4:=by have:=of_decide_eq_false h6;omega
 clear h6
 subst hke
 rw [Nat.sub_self,vrL] at hE
 (try dsimp only at hE)
 refine t11 ?_
 subst hE
 exact qaq (Bs:=[_]) results216 eR () SubL.rfl' (List.nil_sublist _)
theorem qpe (p:Pg):FnP Tryz.prog 233 [qdw p] (qek (fun r:Bk×Int=>r.2=0→okBk r.1) fun r=>qbv [IsBk r.1,Is (.int .i64 r.2)]):=by
 refine FnP.enter func233 ntmps233 rfl rfl ?_
 intro c hX
 refine t3 ?_
 intro i1
 refine s1 ?_
 intro i2
 refine t6 ?_
 refine kR call204 (qoz _) ?_
 refine t17 ?_
 refine kR call215 (qjt _) ?_
 refine t4 ?_
 intro i6
 refine t8 ?_
 refine kR call63 (qel _) ?_
 refine t22 ?_
 refine cN ?_ ?_ <;> intro h4
 ·refine t9 ?_
  exact qcd (Bs:=[_,_]) ((⟨_,_,(⟨_,_⟩:Pt),_⟩:Bk),_) rfl results233 eX (List.nil_sublist _) (by exact fun h=>absurd h (by decide))
 refine t12 ?_
 intro i8
 refine t10 ?_
 refine qcn 281 tEn ?_
 refine qaz [(1,_),(2,_),(3,_),(5,_),(8,_)] [blk i2 _ _,blk i1 _ _] (fun y:Nat×Int×(BitVec 32)×Pt×(List En)×(Option Addr×Nat)=>y.1≤5∧(y.2.2.2.2.1.length≤y.1)) (fun y=>[(9,Is (.int .i64 (y.1:Nat)))]) (fun y=>[blk i8 298 [Is (.int .i64 y.2.1),Is (.int .u32 (UV y.2.2.1)),Is (.int .i64 y.2.2.2.1.line),Is (.int .i64 y.2.2.2.1.gen),Is (slV (y.2.2.2.2.1).length y.2.2.2.2.2)],buf (slV (y.2.2.2.2.1).length y.2.2.2.2.2) 281 tEn (y.2.2.2.2.1)]) (fun y=>5-y.1) (0,_,_,(⟨_,_⟩:Pt),[],(none,0)) ?_ qdl qab ?_
 ·exact ⟨by exact Nat.zero_le _,Nat.le_refl 0⟩
 rintro ⟨k,d,pt,nx,es,v_0⟩ ⟨hk,hI⟩
 dsimp only at hk hI ⊢
 refine t7 ?_
 refine cN ?_ ?_ <;> intro h8
 ·have hlt:k<5:=by have:=of_decide_eq_true h8;omega
  clear h8
  rcases (show k=0∨k=1∨k=2∨k=3∨k=4 by omega) with rfl|rfl|rfl|rfl|rfl
  all_goals
   refine t9 ?_
   refine qap rfl (qan (k:=_) (sz:=1) (er rfl) (er rfl) rfl rfl qca (by decide)) ?_
   refine t12 ?_
   refine cN ?_ ?_ <;> intro h11
   ·refine t7 ?_
    refine cN ?_ ?_ <;> intro h12
    ·refine t15 ?_
     exact qcd (Bs:=[_,_]) ((⟨_,_,(⟨_,_⟩:Pt),_⟩:Bk),_) rfl results233 eX (List.nil_sublist _) (by exact fun h=>absurd h (by decide))
    refine t11 ?_
    first|((guard_hyp hlt:(0:Nat)<5);refine qaa (1,_,_,(⟨_,_⟩:Pt),_,_) ?_ ?_ qdl qab)|((guard_hyp hlt:(1:Nat)<5);refine qaa (2,_,_,(⟨_,_⟩:Pt),_,_) ?_ ?_ qdl qab)|((guard_hyp hlt:(2:Nat)<5);refine qaa (3,_,_,(⟨_,_⟩:Pt),_,_) ?_ ?_ qdl qab)|((guard_hyp hlt:(3:Nat)<5);refine qaa (4,_,_,(⟨_,_⟩:Pt),_,_) ?_ ?_ qdl qab)|((guard_hyp hlt:(4:Nat)<5);refine qaa (5,_,_,(⟨_,_⟩:Pt),_,_) ?_ ?_ qdl qab)
    ·exact ⟨by omega,by (dsimp only;omega)⟩
    ·exact (by omega)
   refine t2 ?_
   refine qa0 rfl (by kernel_rfl) ?_
   refine qag 10 (by kernel_rfl) ?_
   refine t7 ?_
   refine qbc (qac call103 (qfg _) ⟨evR,trivial⟩) ?_
   refine s1 ?_
   refine qbc (qad (size:=3) (qs:=[(0,_)]) rfl rfl rfl ⟨⟨rfl,_,(er rfl),qbn⟩,trivial⟩ rf rf) ?_
   refine ⟨rfl,?_⟩
   (refine JD_s (by kernel_rfl) rfl rfl (qb9 (er rfl) (fun _=>qae) (by exact Ev.sub rfl (by exact SubL.row (xs:=[(⟨_,_⟩:En)]) rf rf ql5)) (by exact qep rfl rfl rfl) qbt) ?_;intro i79)
   refine qag 1 (by kernel_rfl) ?_
   refine s1 ?_
   refine ⟨rfl,?_⟩
   refine qef (by kernel_rfl) rfl (qav (er rfl) (er rfl) qbn qae qbo rf rf rf) ?_
   refine qat ?_
   refine t7 ?_
   first|((guard_hyp hlt:(0:Nat)<5);refine qaa (1,_,_,(⟨_,_⟩:Pt),_,_) ?_ ?_ qdl qab)|((guard_hyp hlt:(1:Nat)<5);refine qaa (2,_,_,(⟨_,_⟩:Pt),_,_) ?_ ?_ qdl qab)|((guard_hyp hlt:(2:Nat)<5);refine qaa (3,_,_,(⟨_,_⟩:Pt),_,_) ?_ ?_ qdl qab)|((guard_hyp hlt:(3:Nat)<5);refine qaa (4,_,_,(⟨_,_⟩:Pt),_,_) ?_ ?_ qdl qab)|((guard_hyp hlt:(4:Nat)<5);refine qaa (5,_,_,(⟨_,_⟩:Pt),_,_) ?_ ?_ qdl qab)
   ·exact ⟨by omega,by (simp only [List.length_append,List.length_cons,List.length_nil];omega)⟩
   ·exact (by omega)
 have hke:k=5:=by have:=of_decide_eq_false h8;omega
 clear h8
 subst hke
 refine qa8 hX (v:=slV es.length v_0) qae ?_
 refine qbq (b:=i8) (As':=tBk.cells ⟨d,pt,nx,es⟩) qae qkh ?_
 refine t9 ?_
 refine kR call230 (qji ⟨d,pt,nx,es⟩) ?_
 refine t3 ?_
 refine cN ?_ ?_ <;> intro h15
 ·refine t9 ?_
  exact qcd (Bs:=[_,_]) ((⟨_,_,(⟨_,_⟩:Pt),_⟩:Bk),_) rfl results233 eX (List.nil_sublist _) (by exact fun h=>absurd h (by decide))
 have hv:vB ⟨d,pt,nx,es⟩=true:=by simpa using h15
 refine t10 ?_
 exact qcd (Bs:=[_,_]) ((⟨_,_,(⟨_,_⟩:Pt),_⟩:Bk),_) rfl results233 eX (List.nil_sublist _) (by exact fun _=>vB_ok hv)
end Go.Proofs.YtmgoplaamlignaaGreat
