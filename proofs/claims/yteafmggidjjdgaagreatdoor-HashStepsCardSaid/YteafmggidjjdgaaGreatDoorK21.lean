/- Walks of functions and plain laws, laid together. Own work. -/
import Derived.Test.YteafmggidjjdgaaGreatDoorRows
import Derived.ProofKit
import Derived.LaidMore
import Derived.OpenShut
import Derived.Stop.Joined
import Derived.Test.YteafmggidjjdgaaGreatDoorK20
import Derived.Test.YteafmggidjjdgaaGreatDoorK16
namespace Go.Proofs.YteafmggidjjdgaaGreatDoor
open Go.RowKit _root_.Go.Proofs.Tryz
set_option linter.unusedVariables false
set_option linter.unusedSimpArgs false
set_option maxRecDepth 100000
set_option maxHeartbeats 4000000
theorem mem_latB {ks:List Pg} {x:Int}:qjt ks x=true↔∃ p,p∈ks∧p.l=x:=by
 unfold qjt qq4;constructor
 ·intro h;obtain ⟨p,hp⟩:=Option.isSome_iff_exists.1 h;have h1:=List.mem_filter.1 (List.mem_of_getLast? hp);exact ⟨p,h1.1,of_decide_eq_true h1.2⟩
 ·rintro ⟨p,h1,h2⟩;have h3:p∈ks.filter fun p=>decide (p.l=x):=List.mem_filter.2 ⟨h1,decide_eq_true h2⟩;cases h4:(ks.filter fun p=>decide (p.l=x)).getLast? with
  | none=>rw [List.getLast?_eq_none_iff.1 h4] at h3;cases h3
  | some q=>rfl
theorem qz8 {p q:Nat->Bool} (h:∀ i,p i=true->q i=true):∀ {l:List Nat},(∃ i,i∈l∧q i=true∧p i=false)->(l.filter p).length<(l.filter q).length
 | [],he=>by obtain ⟨i,hi,_⟩:=he;cases hi
 | a::l,he=>by
  have hle:∀ l:List Nat,(l.filter p).length<=(l.filter q).length:=fun l=>by
   induction l with
   | nil=>exact Nat.le_refl _
   | cons b l ih =>
    rw [List.filter_cons,List.filter_cons];cases hp:p b with
    | true=>rw [if_pos rfl,if_pos (h b hp)];simp only [List.length_cons];omega
    | false =>
     rw [if_neg (by simp)];split
     ·simp only [List.length_cons];omega
     ·exact ih
  obtain ⟨i,hi,hq,hp⟩:=he;rw [List.filter_cons,List.filter_cons];rcases List.mem_cons.1 hi with rfl|hi
  ·rw [hp,hq,if_neg (by simp),if_pos rfl];have:=hle l;simp only [List.length_cons];omega
  ·have ih:=qz8 h ⟨i,hi,hq,hp⟩;cases hpa:p a with
   | true=>rw [if_pos rfl,if_pos (h a hpa)];simp only [List.length_cons];omega
   | false =>
    rw [if_neg (by simp)];split
    ·simp only [List.length_cons];omega
    ·exact ih
def cntK (ks:List Pg):Nat:=((List.range 160).filter fun i:Nat=>qjt ks (96+(i:Int))).length
theorem cntK_le (ks:List Pg):cntK ks<=160:=by
 unfold cntK;exact nT (List.length_filter_le _ _) (by rw [List.length_range];exact Nat.le_refl _)
theorem pgF_l {H:List Pg} (hH:LnI H) {x:Int} (hx:96<=x):(pgF H x).l=x:=by
 by_cases h:x-96<(H.length:Int)
 ·obtain ⟨p,hp⟩:∃ q,H[(x-96).toNat]?=some q:=⟨_,gE om⟩
  rw [pgF_in h hp,hH _ _ hp];omega
 ·rw [zdv h]
def ndOk (ks:List Pg) (nd:List Int):Prop:=0<nd.length∧nd.length<=30∧nd.Pairwise (· < ·)∧∀ x,x∈nd->qjt ks x=false∧96<=x∧x<=255
theorem fetch_grow {ks H:List Pg} {nd:List Int} (hH:LnI H) (hn:ndOk ks nd):cntK ks<cntK (ks++nd.map (pgF H)):=by
 obtain ⟨h1,_,_,h2⟩:=hn;unfold cntK;refine qz8 (fun i hi=>?_) ?_
 ·obtain ⟨p,h3,h4⟩:=mem_latB.1 hi;exact mem_latB.2 ⟨p,List.mem_append_left _ h3,h4⟩
 ·cases nd with
  | nil=>exact absurd h1 (by simp)
  | cons x r =>
   obtain ⟨h3,h4,h5⟩:=h2 x (List.mem_cons_self ..);refine ⟨(x-96).toNat,List.mem_range.2 om,?_,?_⟩
   ·rw [show 96+(((x-96).toNat:Nat):Int)=x by omega];exact mem_latB.2 ⟨pgF H x,List.mem_append_right _ (List.mem_map_of_mem (List.mem_cons_self ..)),pgF_l hH h4⟩
   ·rw [show 96+(((x-96).toNat:Nat):Int)=x by omega];exact h3
theorem lk_ask {ks:List Pg} {a:Pt} {k:Int} {o:Bool} (h1:(lkV ks a k o).2.2=0) (h2:(lkV ks a k o).2.1=false):qjt ks a.line=false∧96<=a.line∧a.line<=255:=by
 unfold lkV at h1 h2;by_cases c1:(!qbt a)=true
 ·rw [if_pos c1] at h1;exact absurd h1 de
 rw [if_neg c1] at h1 h2;by_cases c2:(!qjt ks a.line)=true
 ·have hv:qbt a=true:=by revert c1;cases qbt a <;> simp
  have:=validP_iff.1 hv;exact ⟨by simpa using c2,om,om⟩
 rw [if_neg c2] at h1 h2;by_cases c3:(o&&qet (qb9 ks a.line))=true
 ·rw [if_pos c3] at h1;exact absurd h1 de
 rw [if_neg c3] at h1 h2;by_cases c4:(qcw (qb9 ks a.line).d0==0||qge (qb9 ks a.line).d0 != a.gen)=true
 ·rw [if_pos c4] at h1;exact absurd h1 de
 rw [if_neg c4] at h1 h2;by_cases c5:(qcw (qb9 ks a.line).d0 != k)=true
 ·rw [if_pos c5] at h1;exact absurd h1 de
 rw [if_neg c5] at h2;cases h2
def zb3 (ks:List Pg) (l:List Int):Prop:=l=[]∨∃ x,l=[x]∧qjt ks x=false∧96<=x∧x<=255
theorem lkA {ks:List Pg} {a:Pt} {k:Int} {o:Bool} (c:((lkV ks a k o).2.2==0 && !(lkV ks a k o).2.1)=true):zb3 ks [a.line]:=by
 rw [Bool.and_eq_true] at c;exact .inr ⟨_,rfl,lk_ask (by simpa using c.1) (by simpa using c.2)⟩
theorem zcf {h:BitVec 32} {r:Rt} {ks:List Pg}:∀ (m k:Nat) (a:Pt),zb3 ks (qrf h r ks m k a).need
 | 0,_,_=>.inl rfl
 | m+1,k,a=>by
  unfold qrf wkC;split
  ·rename_i c;exact lkA c
  ·split
   ·exact .inl rfl
   ·split
    ·exact .inl rfl
    ·split
     ·exact .inl rfl
     ·split
      ·exact .inl rfl
      ·exact zcf m _ _
theorem qsz {h:BitVec 32} {r:Rt} {ks:List Pg} {i:Nat}:zb3 ks (lcA h r ks i).need:=by
 unfold lcA;split
 ·rename_i c;exact lkA c
 ·show zb3 ks (lcW _ _ _ _).need;unfold lcW;split
  ·exact zcf _ _ _
  ·exact zcf _ _ _
theorem qsv {ks:List Pg} {P:P23} {f:S23} (hP:zb3 ks P.need) (hf:zb3 ks f.need):zb3 ks (qmw P f).need:=by
 unfold qmw;split
 ·exact hP
 ·split
  ·exact .inl rfl
  ·exact hf
theorem qxu {ks:List Pg} {o:O23} {p:Pt} {k:Int} {b:Bool} {f:Pg->S23} (hf:∀ D,zb3 ks (f D).need):zb3 ks (qqr o p (lkV ks p k b) f).need:=by
 unfold qqr;split
 ·exact .inl rfl
 ·rename_i c;split
  ·rename_i d;exact .inr ⟨_,rfl,lk_ask (by simpa using c) (by simpa using d)⟩
  ·split
   ·exact .inl rfl
   ·exact hf _
theorem zfb {fr ks:List Pg} {p:Pg} {r:Rt} {m:Nat}:∀ n k,zb3 ks (qs4 fr ks p r m n k).need
 | 0,_=>.inl rfl
 | n+1,k=>by
  unfold qs4;split
  ·exact zfb n (k+1)
  ·refine qxu fun D=>?_;unfold gwX;split
   ·split <;> exact .inl rfl
   ·exact .inl rfl
theorem op_ask {kind:Int} {key:BitVec 32} {to:Pt} {fr ks:List Pg} {p:Pg} {r:Rt} {h:BitVec 32} {i:Nat}:zb3 ks (opS kind key to fr ks p r (lcA h r ks i)).need:=by
 unfold opS;have ha:∀ c,zb3 ks (ql8 p c).need:=fun c=>by unfold ql8;split <;> exact .inl rfl
 split
 ·split
  ·exact ha _
  ·refine qsv qsz ?_;unfold zb7;split <;> exact .inl rfl
 ·split
  ·split
   ·split
    ·exact .inl rfl
    ·unfold emV;split
     ·split <;> exact .inl rfl
     ·exact .inl rfl
   ·refine qsv qsz ?_;unfold adY;split
    ·exact .inl rfl
    ·unfold ispS;split
     ·exact .inl rfl
     ·split
      ·exact .inl rfl
      ·unfold ispV;split
       ·split <;> exact .inl rfl
       ·split
        ·exact .inl rfl
        ·exact .inl rfl
  ·split
   ·split
    ·exact ha _
    ·refine qsv qsz ?_;unfold remS;split
     ·exact .inl rfl
     ·exact .inl rfl
   ·split
    ·unfold rpQ;split
     ·exact .inl rfl
     ·refine qsv qsz (qxu fun D=>?_);unfold rpT;split <;> exact .inl rfl
    ·unfold gwQ;split
     ·exact .inl rfl
     ·split
      ·exact .inl rfl
      ·split
       ·exact qxu fun D=>.inl rfl
       ·exact zfb _ _
theorem nx_all {kind:Int} {key:BitVec 32} {to:Pt} {fr ks:List Pg}:Nx (nxS kind key to fr ks)∧zb3 ks (nxS kind key to fr ks).need:=by
 cases hb:qx0 kind key to with
 | true =>
  unfold nxS;rw [if_pos hb];exact ⟨qjs _ _,.inl rfl⟩
 | false =>
  cases h:(rrS kind ks).2.2.2.2 with
  | true =>
   rw [qxd hb h];exact ⟨nx_op,op_ask⟩
  | false =>
   obtain ⟨h1,_,_,h4⟩:=zei (to:=to) (key:=key) (fr:=fr) hb h;refine ⟨h4,?_⟩;rw [h1];unfold rrS;by_cases c1:(!qjt ks 96)=true
   ·rw [if_pos c1];exact .inr ⟨96,rfl,by simpa using c1,de,de⟩
   ·rw [if_neg c1];split
    ·exact .inl rfl
    ·split
     ·exact .inl rfl
     ·exact .inl rfl
theorem hash_need {kind:Int} {key:BitVec 32} {to:Pt} {fr ks:List Pg} (h:(nxS kind key to fr ks).over=false):ndOk ks (nxS kind key to fr ks).need:=by
 obtain ⟨h1,h2⟩:=nx_all (kind:=kind) (key:=key) (to:=to) (fr:=fr) (ks:=ks);rcases h1 with ⟨_,e⟩|⟨e,_⟩
 ·rw [e] at h;cases h
 ·rcases h2 with e2|⟨x,e2,h3⟩
  ·exact absurd e2 e
  ·rw [e2];exact ⟨by simp,by simp,by simp,fun y hy=>by rw [List.mem_singleton.1 hy];exact h3⟩
theorem ref_ok (p:Pt):FnP prog 12 [qh6 p] (qh6 p):=by
 refine FnP.enter func12 ntmps12 rfl rfl ?_;intro c hX;refine t3 ?_;intro i1;refine s1 ?_;intro i2;refine t13 ?_;exact rA (Bs:=[qh6 p]) results12 eR
theorem awakeH_ok:FnP prog 16 [] (Ib true):=by
 refine FnP.enter func16 ntmps16 rfl rfl ?_;intro c hX;refine t7 ?_;refine kR call40 (qoa 1#32) ?_;refine t5 ?_;refine rB results16 rfl ?_;rfl
theorem sameOut_ok (o:O23):FnP prog 13 [qyf o,qyf o] (Ib true):=by
 refine FnP.enter func13 ntmps13 rfl rfl ?_;intro c hX;refine t3 ?_;intro i2;refine s1 ?_;intro i3;refine Z38 ?_;refine qaj 70 kr ?_;dsimp only [List.append];refine t40 ?_;refine t2 ?_
 (first|refine qch rfl rfl (fun hg=>(by have hg0:=hg;(try simp at hg);first|exact qa6 (n:=2) evG rfl rfl rfl rf qbx|exact qa3 (n:=2) evG qba rf rf rf rf qbx)) ?_|refine zgr rfl rfl (fun hp hg=>(by have hpg:=Bool.and_eq_true_iff.2 ⟨hp,hg⟩;have hg0:=hg;(try simp at hg);first|exact qa6 (n:=2) evG rfl rfl rfl rf qbx|exact qa3 (n:=2) evG qba rf rf rf rf qbx)) ?_)
 (first|refine qch rfl rfl (fun hg=>(by have hg0:=hg;(try simp at hg);exact qac call12 (ref_ok o.to) ⟨evR,trivial⟩)) ?_|refine zgr rfl rfl (fun hp hg=>(by have hpg:=Bool.and_eq_true_iff.2 ⟨hp,hg⟩;have hg0:=hg;(try simp at hg);exact qac call12 (ref_ok o.to) ⟨evR,trivial⟩)) ?_)
 refine s1 ?_
 (first|refine qch rfl rfl (fun hg=>(by have hg0:=hg;(try simp at hg);first|exact qa6 (n:=2) evG rfl rfl rfl rf qbx|exact qa3 (n:=2) evG qba rf rf rf rf qbx)) ?_|refine zgr rfl rfl (fun hp hg=>(by have hpg:=Bool.and_eq_true_iff.2 ⟨hp,hg⟩;have hg0:=hg;(try simp at hg);first|exact qa6 (n:=2) evG rfl rfl rfl rf qbx|exact qa3 (n:=2) evG qba rf rf rf rf qbx)) ?_)
 (first|refine qch rfl rfl (fun hg=>(by have hg0:=hg;(try simp at hg);exact qb0 (vs:=Pt.cells o.to) (ws:=Pt.cells o.to) evG evG (qd3 _ _ _ o.to o.to) (qf6 o.to o.to))) ?_|refine zgr rfl rfl (fun hp hg=>(by have hpg:=Bool.and_eq_true_iff.2 ⟨hp,hg⟩;have hg0:=hg;(try simp at hg);exact qb0 (vs:=Pt.cells o.to) (ws:=Pt.cells o.to) evG evG (qd3 _ _ _ o.to o.to) (qf6 o.to o.to))) ?_)
 refine t6 ?_
 (first|refine qch rfl rfl (fun hg=>(by have hg0:=hg;(try simp at hg);exact qac call14 (qqf o.check o.check) ⟨evR,⟨evR,trivial⟩⟩)) ?_|refine zgr rfl rfl (fun hp hg=>(by have hpg:=Bool.and_eq_true_iff.2 ⟨hp,hg⟩;have hg0:=hg;(try simp at hg);exact qac call14 (qqf o.check o.check) ⟨evR,⟨evR,trivial⟩⟩)) ?_)
 refine t16 ?_;refine ⟨rfl,?_⟩;refine Z33 ?_;refine rB results13 rfl ?_;simp
def nC (z:Int):Nat:=8+16*(1+(z % 5).toNat)
theorem nC_rng (z:Int):8<=nC z∧nC z<=200:=by unfold nC;omega
theorem SizeC_ok (z:Int):FnP prog 5 [Ii z] (Ii (96+(nC z:Int))):=by
 have h1:=Int.emod_nonneg z (show (5:Int)≠0 by omega);have h2:=Int.emod_lt_of_pos z (show (0:Int)<5 by omega);have e:(96+(nC z:Int))=104+16*(1+z % 5):=by unfold nC;omega
 rw [e];refine FnP.enter func5 ntmps5 rfl rfl ?_;intro c hX;refine t8 ?_;refine qao rfl (by first|((refine qac call7 (qd0 _ _ ?_ ?_) ⟨qap,⟨qap,trivial⟩⟩);all_goals (first|omega))) ?_;refine t7 ?_;refine rB results5 rfl ?_;rfl
section
open Go.RowKit Go.ChangeShapes Go.WideShapes Go.ChangeAt
section
variable {H:Type} {enc:TypeId×Value->H} {w:World} {base:Nat} {sp:Nat->Bool} {held:Bool}
def Acn.wf (a:Acn):Prop:=ql6 a.kind∧ql6 a.client∧ql6 a.key∧ql6 a.a∧ql6 a.b∧ql6 a.n
theorem qfu:Tryz.prog.cellsOf 74=6:=by kernel_rfl
theorem qid:Tryz.prog.cellsOf 3=1:=by kernel_rfl
theorem rds_Act:Rds enc prog w base sp held 74 tAct Acn.wf:=by
 intro fuel cs x h;obtain ⟨xs,n,_,_,hlen,hxs,hf⟩:=DataW.trod_struct Tryz.underlying74 h;rw [qfu] at hlen
 match cs,hlen with
 | [c0,c1,c2,c3,c4,c5],_ =>
  match xs,hxs with
  | [x0,x1,x2,x3,x4,x5],_ =>
   have f0:DataW.trod enc prog w base sp held n 3 (([c0,c1,c2,c3,c4,c5].drop 0).take (Tryz.prog.cellsOf 3))=some x0:=hf 0 _ rfl;rw [qid] at f0;obtain ⟨a0,g0,o0,w0⟩:=(rds_i64 Tryz.underlying3) _ _ _ f0;have f1:DataW.trod enc prog w base sp held n 3 (([c0,c1,c2,c3,c4,c5].drop 1).take (Tryz.prog.cellsOf 3))=some x1:=hf 1 _ rfl;rw [qid] at f1;obtain ⟨a1,g1,o1,w1⟩:=(rds_i64 Tryz.underlying3) _ _ _ f1;have f2:DataW.trod enc prog w base sp held n 3 (([c0,c1,c2,c3,c4,c5].drop 2).take (Tryz.prog.cellsOf 3))=some x2:=hf 2 _ rfl;rw [qid] at f2;obtain ⟨a2,g2,o2,w2⟩:=(rds_i64 Tryz.underlying3) _ _ _ f2;have f3:DataW.trod enc prog w base sp held n 3 (([c0,c1,c2,c3,c4,c5].drop 3).take (Tryz.prog.cellsOf 3))=some x3:=hf 3 _ rfl;rw [qid] at f3;obtain ⟨a3,g3,o3,w3⟩:=(rds_i64 Tryz.underlying3) _ _ _ f3;have f4:DataW.trod enc prog w base sp held n 3 (([c0,c1,c2,c3,c4,c5].drop 4).take (Tryz.prog.cellsOf 3))=some x4:=hf 4 _ rfl;rw [qid] at f4;obtain ⟨a4,g4,o4,w4⟩:=(rds_i64 Tryz.underlying3) _ _ _ f4;have f5:DataW.trod enc prog w base sp held n 3 (([c0,c1,c2,c3,c4,c5].drop 5).take (Tryz.prog.cellsOf 3))=some x5:=hf 5 _ rfl;rw [qid] at f5;obtain ⟨a5,g5,o5,w5⟩:=(rds_i64 Tryz.underlying3) _ _ _ f5;exact ⟨⟨a0,a1,a2,a3,a4,a5⟩,(((((g0.append g1).append g2).append g3).append g4).append g5),(qei (qei (qei (qei (qei o0 o1) o2) o3) o4) o5),⟨w0,w1,w2,w3,w4,w5⟩⟩
def Pq.wf (a:Pq):Prop:=ql6 a.kind∧ql6 a.line∧ql6 a.word∧(fun _=>True) a.w
theorem qfi:Tryz.prog.cellsOf 76=4:=by kernel_rfl
theorem qvs:Tryz.prog.cellsOf 24=1:=by kernel_rfl
theorem rds_Pq:Rds enc prog w base sp held 76 tPq Pq.wf:=by
 intro fuel cs x h;obtain ⟨xs,n,_,_,hlen,hxs,hf⟩:=DataW.trod_struct Tryz.underlying76 h;rw [qfi] at hlen
 match cs,hlen with
 | [c0,c1,c2,c3],_ =>
  match xs,hxs with
  | [x0,x1,x2,x3],_ =>
   have f0:DataW.trod enc prog w base sp held n 3 (([c0,c1,c2,c3].drop 0).take (Tryz.prog.cellsOf 3))=some x0:=hf 0 _ rfl;rw [qid] at f0;obtain ⟨a0,g0,o0,w0⟩:=(rds_i64 Tryz.underlying3) _ _ _ f0;have f1:DataW.trod enc prog w base sp held n 3 (([c0,c1,c2,c3].drop 1).take (Tryz.prog.cellsOf 3))=some x1:=hf 1 _ rfl;rw [qid] at f1;obtain ⟨a1,g1,o1,w1⟩:=(rds_i64 Tryz.underlying3) _ _ _ f1;have f2:DataW.trod enc prog w base sp held n 3 (([c0,c1,c2,c3].drop 2).take (Tryz.prog.cellsOf 3))=some x2:=hf 2 _ rfl;rw [qid] at f2;obtain ⟨a2,g2,o2,w2⟩:=(rds_i64 Tryz.underlying3) _ _ _ f2;have f3:DataW.trod enc prog w base sp held n 24 (([c0,c1,c2,c3].drop 3).take (Tryz.prog.cellsOf 24))=some x3:=hf 3 _ rfl;rw [qvs] at f3;obtain ⟨a3,g3,o3,w3⟩:=(rds_u64 Tryz.underlying24) _ _ _ f3;exact ⟨⟨a0,a1,a2,a3⟩,(((g0.append g1).append g2).append g3),(qei (qei (qei o0 o1) o2) o3),⟨w0,w1,w2,w3⟩⟩
structure Cs20 where
 size:Int
 acts:List Acn
 pokes:List Pq
 mask:BitVec 64
def tCs20:Ty Cs20:=⟨4,fun a=>[Ii a.size,qad tAct a.acts,qad tPq a.pokes,Iw a.mask],fun _=>rfl⟩
@[reducible] def IsCs20 (a:Cs20):VP:=IsAgg (tCs20.cells a)
def Cs20.wf (a:Cs20):Prop:=ql6 a.size∧(fun xs=>∀ a∈xs,Acn.wf a) a.acts∧(fun xs=>∀ a∈xs,Pq.wf a) a.pokes∧(fun _=>True) a.mask
theorem qh5:Tryz.prog.cellsOf 26=4:=by kernel_rfl
theorem qm8:Tryz.prog.cellsOf 22=1:=by kernel_rfl
theorem ql2:Tryz.prog.cellsOf 23=1:=by kernel_rfl
theorem rds_Cs20:Rds enc prog w base sp held 26 tCs20 Cs20.wf:=by
 intro fuel cs x h;obtain ⟨xs,n,_,_,hlen,hxs,hf⟩:=DataW.trod_struct Tryz.underlying26 h;rw [qh5] at hlen
 match cs,hlen with
 | [c0,c1,c2,c3],_ =>
  match xs,hxs with
  | [x0,x1,x2,x3],_ =>
   have f0:DataW.trod enc prog w base sp held n 3 (([c0,c1,c2,c3].drop 0).take (Tryz.prog.cellsOf 3))=some x0:=hf 0 _ rfl;rw [qid] at f0;obtain ⟨a0,g0,o0,w0⟩:=(rds_i64 Tryz.underlying3) _ _ _ f0;have f1:DataW.trod enc prog w base sp held n 22 (([c0,c1,c2,c3].drop 1).take (Tryz.prog.cellsOf 22))=some x1:=hf 1 _ rfl;rw [qm8] at f1;obtain ⟨a1,g1,o1,w1⟩:=(rds_slice Tryz.underlying22 qfu rfl rds_Act) _ _ _ f1;have f2:DataW.trod enc prog w base sp held n 23 (([c0,c1,c2,c3].drop 2).take (Tryz.prog.cellsOf 23))=some x2:=hf 2 _ rfl;rw [ql2] at f2;obtain ⟨a2,g2,o2,w2⟩:=(rds_slice Tryz.underlying23 qfi rfl rds_Pq) _ _ _ f2;have f3:DataW.trod enc prog w base sp held n 24 (([c0,c1,c2,c3].drop 3).take (Tryz.prog.cellsOf 24))=some x3:=hf 3 _ rfl;rw [qvs] at f3;obtain ⟨a3,g3,o3,w3⟩:=(rds_u64 Tryz.underlying24) _ _ _ f3;exact ⟨⟨a0,a1,a2,a3⟩,(((g0.append g1).append g2).append g3),(qei (qei (qei o0 o1) o2) o3),⟨w0,w1,w2,w3⟩⟩
structure Ask23 where
 kind:Int
 key:Int
 line:Int
 fresh:List Int
 raw:Bool
def tAsk23:Ty Ask23:=⟨5,fun a=>[Ii a.kind,Ii a.key,Ii a.line,qad qaw a.fresh,Ib a.raw],fun _=>rfl⟩
@[reducible] def IsAsk23 (a:Ask23):VP:=IsAgg (tAsk23.cells a)
def Ask23.wf (a:Ask23):Prop:=ql6 a.kind∧ql6 a.key∧ql6 a.line∧(fun xs=>∀ a∈xs,ql6 a) a.fresh∧(fun _=>True) a.raw
theorem qik:Tryz.prog.cellsOf 29=5:=by kernel_rfl
theorem cN__int:Tryz.prog.cellsOf 27=1:=by kernel_rfl
theorem cN_bool:Tryz.prog.cellsOf 4=1:=by kernel_rfl
theorem rds_Ask23:Rds enc prog w base sp held 29 tAsk23 Ask23.wf:=by
 intro fuel cs x h;obtain ⟨xs,n,_,_,hlen,hxs,hf⟩:=DataW.trod_struct Tryz.underlying29 h;rw [qik] at hlen
 match cs,hlen with
 | [c0,c1,c2,c3,c4],_ =>
  match xs,hxs with
  | [x0,x1,x2,x3,x4],_ =>
   have f0:DataW.trod enc prog w base sp held n 3 (([c0,c1,c2,c3,c4].drop 0).take (Tryz.prog.cellsOf 3))=some x0:=hf 0 _ rfl;rw [qid] at f0;obtain ⟨a0,g0,o0,w0⟩:=(rds_i64 Tryz.underlying3) _ _ _ f0;have f1:DataW.trod enc prog w base sp held n 3 (([c0,c1,c2,c3,c4].drop 1).take (Tryz.prog.cellsOf 3))=some x1:=hf 1 _ rfl;rw [qid] at f1;obtain ⟨a1,g1,o1,w1⟩:=(rds_i64 Tryz.underlying3) _ _ _ f1;have f2:DataW.trod enc prog w base sp held n 3 (([c0,c1,c2,c3,c4].drop 2).take (Tryz.prog.cellsOf 3))=some x2:=hf 2 _ rfl;rw [qid] at f2;obtain ⟨a2,g2,o2,w2⟩:=(rds_i64 Tryz.underlying3) _ _ _ f2;have f3:DataW.trod enc prog w base sp held n 27 (([c0,c1,c2,c3,c4].drop 3).take (Tryz.prog.cellsOf 27))=some x3:=hf 3 _ rfl;rw [cN__int] at f3;obtain ⟨a3,g3,o3,w3⟩:=(rds_slice Tryz.underlying27 qid rfl (rds_i64 Tryz.underlying3)) _ _ _ f3;have f4:DataW.trod enc prog w base sp held n 4 (([c0,c1,c2,c3,c4].drop 4).take (Tryz.prog.cellsOf 4))=some x4:=hf 4 _ rfl;rw [cN_bool] at f4;obtain ⟨a4,g4,o4,w4⟩:=(rds_bool Tryz.underlying4) _ _ _ f4;exact ⟨⟨a0,a1,a2,a3,a4⟩,((((g0.append g1).append g2).append g3).append g4),(qei (qei (qei (qei o0 o1) o2) o3) o4),⟨w0,w1,w2,w3,w4⟩⟩
end
end
section
open Go.ChangeShapes Go.WideShapes Go.ChangeAt Go.WideMaps Go.WideElems Go.RowKit
@[reducible] def laidN {H : Type} : List (String × DataW H) := [("bodega/hashindex.none", Rows.laid_bodega_hashindex_none)]
theorem c2_Pt:Tryz.prog.cellsOf 45=2:=by kernel_rfl
theorem c9_int:Tryz.prog.cellsOf 3=1:=by kernel_rfl
theorem gNamed : Tryz.prog.globalNamed "bodega/hashindex.none" = some 0 := by kernel_rfl
theorem tNamed:(Tryz.prog.globals[0]?).map (·.type)=some 45:=by kernel_rfl
theorem door_met (os:Os) (args:Array Value):laidMetH prog (laidN (H:=Unit)) ((World.doorLaid prog 14 os).forCall (fun _ _=>0) ⟨#[],args,[]⟩).memory:=
 laidMetH_of_parts3 (fuel:=8) (laidMet_of_run' 8 kr kr) kr kr
theorem of_laid {W:World} (h:laidMetH prog (laidN (H:=Unit)) W):W.cell? ⟨0,0,none⟩=some (.int .i64 0)∧W.cell? ⟨0,1,none⟩=some (.int .i64 0):=by
 rw [MakeChecks.laidMetH_plain _ _ _ kr] at h;obtain ⟨ps,⟨g0,t0,cs0,f0,p0,q0,hg0,ht0,hv0,hd0,_⟩,_⟩:=h;obtain rfl:=Option.some.inj (gNamed.symm.trans hg0);obtain rfl:=Option.some.inj (tNamed.symm.trans ht0);obtain ⟨xs,n,e1,e2,hlen,hxs,hf⟩:=DataW.trod_struct Tryz.underlying45 hd0;rw [c2_Pt] at hlen;obtain ⟨l⟩:=cs0;dsimp only at hlen hf
 match l,hlen with
 | [c0,c1],_ =>
  match xs,hxs with
  | [x0,x1],_ =>
   have f0:DataW.trod _ prog W 0 _ false n 3 (([c0,c1].drop 0).take (Tryz.prog.cellsOf 3))=some x0:=hf 0 _ rfl;have f1:DataW.trod _ prog W 0 _ false n 3 (([c0,c1].drop 1).take (Tryz.prog.cellsOf 3))=some x1:=hf 1 _ rfl;rw [c9_int] at f0 f1;obtain ⟨a,q1,q2,_⟩:=DataW.trod_int Tryz.underlying3 f0;obtain ⟨b,q3,q4,_⟩:=DataW.trod_int Tryz.underlying3 f1;simp only [Rows.laid_bodega_hashindex_none,Prod.mk.injEq,DataW.agg.injEq,List.map_cons,List.map_nil,List.cons.injEq] at e2;have ha:a=0:=by rw [q2] at e2;simpa using e2.1.1.symm
   have hb:b=0:=by rw [q4] at e2;simpa using e2.1.2.1.symm
   subst ha hb;have k0:=World.var?_cell hg0 hv0 0;have k1:=World.var?_cell hg0 hv0 1;simp at q1 q3;subst q1 q3;exact ⟨by simpa using k0,by simpa using k1⟩
theorem none_ok {W:World} (h:laidMetH prog (laidN (H:=Unit)) W):(IsRef (tPt.cells Pt.nil)).ok (phi W) (.pointer (some ⟨0,0,none⟩)):=by
 obtain ⟨h0,h1⟩:=of_laid h;refine ⟨0,0,rfl,fun j B hj=>?_⟩
 match j,hj with
 | 0,hj=>injection hj with hj;subst hj;exact ⟨_,h0,rfl,rfl⟩
 | 1,hj=>injection hj with hj;subst hj;exact ⟨_,h1,rfl,rfl⟩
end
end Go.Proofs.YteafmggidjjdgaaGreatDoor
