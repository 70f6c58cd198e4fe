/- Walks of functions and plain laws, laid together. Own work. -/
import Derived.Lib.BitFns
import Derived.Test.YteafmggidjjdgaaGreatDoorK5
namespace Go.Proofs.YteafmggidjjdgaaGreatDoor
open Go.RowKit Tryz
set_option linter.unusedVariables false
set_option linter.unusedSimpArgs false
set_option maxRecDepth 100000
set_option maxHeartbeats 4000000
structure Tg where
 kind:Int
 gen:Int
 aux:BitVec 32
@[reducible] def tTg:Ty Tg:=⟨3,fun t=>[Ii t.kind,Ii t.gen,Is (.int .u32 (UV t.aux))],fun _=>rfl⟩
@[reducible] def IsTg (t:Tg):VP:=IsAgg (tTg.cells t)
def qcw (x:BitVec 64):Int:=UV (x&&&BitVec.ofInt 64 255)
def qge (x:BitVec 64):Int:=UV (x>>>8&&&BitVec.ofInt 64 16777215)
def qf9 (x:BitVec 64):BitVec 32:=(x>>>32).setWidth 32
theorem qxj (x:BitVec 64):qcw x=UV x % 256:=by
 unfold qcw;rw [qg2 64 8 x _ rfl];rfl
theorem qrw (x:BitVec 64):qge x=UV x / 256 % 16777216:=by
 unfold qge;rw [qg2 64 24 _ _ rfl,qqd];rfl
theorem kind_in (x:BitVec 64):-9223372036854775808<=UV (x&&&BitVec.ofInt 64 255)∧UV (x&&&BitVec.ofInt 64 255)<=9223372036854775807:=by
 have:=qxj x;unfold qcw at this;omega
theorem gen_in (x:BitVec 64):-9223372036854775808<=UV (x>>>8&&&BitVec.ofInt 64 16777215)∧UV (x>>>8&&&BitVec.ofInt 64 16777215)<=9223372036854775807:=by
 have:=qrw x;unfold qge at this;omega
def qjx (x:BitVec 64):Tg:=⟨qcw x,qge x,qf9 x⟩
theorem qgu (x:BitVec 64):FnP prog 119 [Iw x] (IsTg (qjx x)):=by
 have h1:=kind_in x;have h2:=gen_in x;refine FnP.enter func119 ntmps119 rfl rfl ?_;intro c hX;refine t3 ?_;intro i2;refine t8 ?_;refine qao rfl (by first|exact qhq (k:=8) qhh (er rfl) (by first|omega|exact qa2 _) qdh|exact qps (er rfl) (er rfl) (by first|omega|exact qa2 _) rfl) ?_;refine t3 ?_;refine qao rfl (by first|exact qhq (k:=32) qhh (er rfl) (by first|omega|exact qa2 _) qdh|exact qps (er rfl) (er rfl) (by first|omega|exact qa2 _) rfl) ?_;refine t6 ?_;exact qbq (Bs:=[IsTg (qjx x)]) results119 eT () SubL.rfl' (List.nil_sublist _)
def qh3 (t:Tg):BitVec 64:=(BitVec.ofInt 64 t.kind&&&BitVec.ofInt 64 255)|||((BitVec.ofInt 64 t.gen&&&BitVec.ofInt 64 16777215)<<<8)|||(t.aux.setWidth 64<<<32)
theorem qn7 (t:Tg):FnP prog 120 [IsTg t] (Iw (qh3 t)):=by
 refine FnP.enter func120 ntmps120 rfl rfl ?_;intro c hX;refine t3 ?_;intro i1;refine t25 ?_;refine qao rfl (by first|exact qeg (k:=8) qhh (er rfl) (by first|omega|exact qa2 _) qdh|exact qmp (er rfl) (er rfl) (by first|omega|exact qa2 _) rfl) ?_;refine t4 ?_;refine qao rfl (by first|exact qeg (k:=32) qhh (er rfl) (by first|omega|exact qa2 _) qdh|exact qmp (er rfl) (er rfl) (by first|omega|exact qa2 _) rfl) ?_;refine t5 ?_;refine rB results120 rfl ?_;rfl
theorem qse (p:Pg):FnP prog 125 [qcv p] (IsTg (qjx p.d0)):=by
 have hd0:(dat p)[0]?=some p.d0:=rfl;refine FnP.enter func125 ntmps125 rfl rfl ?_;intro c hX;refine t3 ?_;intro i1;refine s1 ?_;intro i2;refine t5 ?_;refine qao rfl (qah (k:=0) (sz:=1) (er rfl) (er rfl) rfl rfl qdh (by first|decide|omega)) ?_;refine s1 ?_;refine qao rfl (qac call119 (qgu _) ⟨evS,trivial⟩) ?_;refine t4 ?_;exact qbq (Bs:=[IsTg (qjx p.d0)]) results125 eT () SubL.rfl' (List.nil_sublist _)
theorem At_ok (p:Pg):FnP prog 65 [qcv p] (qh6 ⟨p.l,qge p.d0⟩):=by
 refine FnP.enter func65 ntmps65 rfl rfl ?_;intro c hX;refine t3 ?_;intro i1;refine s1 ?_;intro i2;refine Z32 ?_;refine qaj 6 kr ?_;refine t2 ?_;refine qbc (by first|exact qa6 (n:=9) (er rfl) rfl rfl rfl rf qbx|exact qa3 (n:=9) (er rfl) qba rf rf rf rf qbx) ?_;refine qbc (qac call125 (qse p) ⟨evS,trivial⟩) ?_;refine t2 ?_;refine ⟨rfl,?_⟩;refine Z11 ?_;refine t2 ?_;exact rA (Bs:=[qh6 ⟨p.l,qge p.d0⟩]) results65 eT
def tagP (p:Pg) (g:Tg):Pg:=⟨p.l,p.h,qh3 g,0#64,0#64,0#64,0#64,0#64,0#64⟩
theorem zc0 (p:Pg) (g:Tg):FnP prog 179 [qcv p,IsTg g] (qcv (tagP p g)):=by
 refine FnP.enter func179 ntmps179 rfl rfl ?_;intro c hX;refine t3 ?_;intro i2;refine s1 ?_;intro i3;refine s1 ?_;intro i4;refine t10 ?_;intro i5;refine t5 ?_;refine qao rfl (by first|exact qa6 (n:=3) (er rfl) rfl rfl rfl rf qbx|exact qa3 (n:=3) (er rfl) qba rf rf rf rf qbx) ?_;refine qao rfl (qac call120 (qn7 g) ⟨evS,trivial⟩) ?_;refine s1 ?_;refine qao rfl (qah (k:=0) (sz:=1) (er rfl) (er rfl) rfl rfl qdh (by first|decide|omega)) ?_;refine t5 ?_;refine Z44 ?_;refine t4 ?_;exact qbq (Bs:=[qcv (tagP p g)]) results179 eT () SubL.rfl' (List.nil_sublist _)
def zai (p:Pg) (kind:Int) (aux:BitVec 32):Pg×Int:=
 if qlb p.l=true then (if qet p=true then (Pg.nil,3) else if qcw p.d0≠0 then (Pg.nil,17) else if qge p.d0=16777215 then (Pg.nil,18) else (tagP p ⟨kind,qge p.d0+1,aux⟩,0)) else (Pg.nil,1)
theorem qwg (p:Pg) (kind:Int) (aux:BitVec 32) (hk:1<=kind∧kind<=4):FnP prog 122 [qcv p,Ii kind,Is (.int .u32 (UV aux))] (qbs [qcv (zai p kind aux).1,Ii ((zai p kind aux).2)]):=by
 have hgen:=qrw p.d0;have hgr:0<=qge p.d0∧qge p.d0<=16777215:=by rw [hgen];have:=qa2 p.d0;omega
 refine FnP.enter func122 ntmps122 rfl rfl ?_;intro c hX;refine t3 ?_;intro i3;refine s1 ?_;intro i6;refine t5 ?_;refine Z44 ?_;refine qao rfl (qac call125 (qse p) ⟨evS,trivial⟩) ?_;refine s1 ?_;intro i8;refine t9 ?_;refine qao rfl (qac call110 (qu9 _) ⟨evS,trivial⟩) ?_;refine t12 ?_;refine cN ?_ ?_<;>intro h2
 ·have g1:¬ qlb p.l=true:=by
   intro hh;rw [hh] at h2;simp at h2;omega
  have e:zai p kind aux=(Pg.nil,1):=by unfold zai;rw [if_neg g1]
  rw [e];refine t10 ?_;exact qbq (Bs:=[qcv Pg.nil,Ii 1]) results122 eT () SubL.rfl' (List.nil_sublist _)
 have g1:qlb p.l=true:=by simp at h2;exact h2.1.1
 refine t2 ?_;refine Z44 ?_;refine qao rfl (qac call53 (qv5 _) ⟨evS,trivial⟩) ?_;refine t3 ?_;refine cN ?_ ?_<;>intro h4
 ·have e:zai p kind aux=(Pg.nil,3):=by unfold zai;rw [if_pos g1,if_pos (show qet p=true from h4)]
  rw [e];refine t10 ?_;exact qbq (Bs:=[qcv Pg.nil,Ii 3]) results122 eT () SubL.rfl' (List.nil_sublist _)
 have g2:¬ qet p=true:=fun e=>Bool.noConfusion (show false=true from h4.symm.trans e);refine t8 ?_;refine cN ?_ ?_<;>intro h6
 ·have g3:qcw p.d0≠0:=by simpa [qjx] using h6
  have e:zai p kind aux=(Pg.nil,17):=by unfold zai;rw [if_pos g1,if_neg g2,if_pos g3]
  rw [e];refine t10 ?_;exact qbq (Bs:=[qcv Pg.nil,Ii 17]) results122 eT () SubL.rfl' (List.nil_sublist _)
 have g3:¬ qcw p.d0≠0:=by simpa [qjx] using h6
 refine t8 ?_;refine cN ?_ ?_<;>intro h8
 ·have g4:qge p.d0=16777215:=by simpa [qjx] using h8
  have e:zai p kind aux=(Pg.nil,18):=by unfold zai;rw [if_pos g1,if_neg g2,if_neg g3,if_pos g4]
  rw [e];refine t10 ?_;exact qbq (Bs:=[qcv Pg.nil,Ii 18]) results122 eT () SubL.rfl' (List.nil_sublist _)
 have g4:¬ qge p.d0=16777215:=by simpa [qjx] using h8
 have e:zai p kind aux=(tagP p ⟨kind,qge p.d0+1,aux⟩,0):=by unfold zai;rw [if_pos g1,if_neg g2,if_neg g3,if_neg g4]
 rw [e];clear h8 h6;refine t5 ?_;refine Z44 ?_;refine t3 ?_;refine qao rfl (qms (er rfl) (er rfl) (qqq (n:=qge p.d0+1) om)) ?_;refine t2 ?_;refine qao rfl (qac call179 (zc0 p ⟨kind,qge p.d0+1,aux⟩) ⟨evS,⟨evS,trivial⟩⟩) ?_;refine t5 ?_;exact qbq (Bs:=[qcv (tagP p ⟨kind,qge p.d0+1,aux⟩),Ii 0]) results122 eT () SubL.rfl' (List.nil_sublist _)
def za7 (x:BitVec 64):BitVec 64:=BitVec.ofInt 64 (IntKind.u64.wrap (IntKind.u64.wrap (IntKind.u64.wrap ((UV x).tdiv 256)+1)*256))
def qo1 (H:List Pg) (w:Pg):List Pg:=if 96<=w.l∧w.l<96+(H.length:Int) then H.set (w.l-96).toNat { w with h:=za7 (H.getD (w.l-96).toNat Pg.nil).h } else H
theorem qz9 (H:List Pg) (w:Pg):(qo1 H w).length=H.length:=by unfold qo1;split <;> simp
theorem ql1:∀ (ws H:List Pg),(ws.foldl qo1 H).length=H.length
 | [],H=>rfl
 | w::ws,H=>by rw [List.foldl_cons,ql1 ws,qz9]
theorem com_take {ws H:List Pg} {k:Nat} {w:Pg} (h:ws[k]?=some w):(ws.take (k+1)).foldl qo1 H=qo1 ((ws.take k).foldl qo1 H) w:=by
 rw [List.take_add_one,h,List.foldl_append];rfl
theorem nextH_eq (x:BitVec 64):IntKind.u64.wrap (IntKind.u64.wrap (IntKind.u64.wrap ((UV x).tdiv 256)+1)*256)=UV (za7 x):=(qk6 (wrr _)).symm
section
variable {P:Program} {c:Ctx} {A:Nat->Option VP} {L:List Item} {d:Option Tmp} {ty:TypeId} {pos:String} {af:Array Edge} {g:Option (Nat×Bool)} {α:Type} {V:α->VP} {l:List (Int×α)} {b:Nat} {t kt et:TypeId} {x y:Operand}
end
theorem qw2 {bm:BitVec 32} {x:Int}:∀ {n:Nat},x∈ql7 bm n->0<=x∧x<n
 | 0,h=>by cases h
 | n+1,h=>by
  unfold ql7 at h;split at h
  ·rcases List.mem_append.1 h with h|h
   ·have:=qw2 h;omega
   ·simp at h;omega
  ·have:=qw2 h;omega
theorem qr7 (xs:List Pg) (l:Int):FnP prog 51 [qad tPg xs,Ii l] (qbs [qcv (qb9 xs l),Ib (qjt xs l)]):=zgq xs l
theorem qhm (p:Pg):FnP prog 53 [qcv p] (Ib (qet p)):=qv5 p
section
variable {P:Program} {c:Ctx} {A:Nat->Option VP} {L:List Item} {d:Option Tmp} {ty:TypeId} {pos:String} {af:Array Edge} {g:Option (Nat×Bool)} {α:Type} {V:α->VP} {l:List (Int×α)} {b:Nat} {t kt et:TypeId} {x y:Operand}
end
theorem qf7 {α:Type} {S:List α} {k:Nat} {s:α} (hz:S[k]?=some s):S.drop k=s::S.drop (k+1):=by
 obtain ⟨hk,e⟩:=List.getElem?_eq_some_iff.1 hz;rw [List.drop_eq_getElem_cons hk,e]
theorem qb4 {P:Program} {c:Ctx} {A:Nat->Option VP} {L:List Item} {d:Option Tmp} {ty:TypeId} {pos:String} {af:Array Edge} {g:Option (Nat×Bool)} {α:Type} {t:TypeId} {size:Nat} {et:TypeId} (T:Ty α) (hu:P.underlying t=some (.slice et)) (hs:(P.info? et).map (·.size)=some size) :
  OpN P c ⟨d,.buildSlice t 0 #[],ty,pos,af,g⟩ A L (slV ([]:List α).length) (fun i=>buf (slV ([]:List α).length i) et T ([]:List α)):=
 fun φ a w K Q hm he hk=>qll T hu hs φ a w K Q hm he fun b φ' w' hp=>hk (some ⟨b,0,none⟩,0) φ' w' hp
def qfg:List Int->Int->List Int
 | [],x=>[x]
 | y::l,x=>if y<x then y::qfg l x else if y=x then y::l else x::y::l
theorem qru:∀ {W:List Int} {x:Int} (k:Nat),(∀ (j:Nat) q,j<k->W[j]?=some q->q<x)->W[k]?=some x->qfg W x=W
 | [],x,k,_,hq=>by simp at hq
 | y::W,x,0,_,hq=>by
  simp at hq;subst hq;unfold qfg;rw [if_neg om,if_pos rfl]
 | y::W,x,k+1,h,hq=>by
  have h0:=h 0 y om rfl;unfold qfg;rw [if_pos h0,qru k (fun j q hj hq=>h (j+1) q om (by simpa using hq)) (by simpa using hq)]
theorem qu1:∀ {W:List Int} {x:Int} (k:Nat),k<=W.length->(∀ (j:Nat) q,j<k->W[j]?=some q->q<x)->(∀ q,W[k]?=some q->x<q)->qfg W x=W.take k++([x]++W.drop k)
 | [],x,k,hk,_,_=>by
  have:k=0:=by simpa using hk
  subst this;rfl
 | y::W,x,0,_,_,h2=>by
  have:=h2 y rfl;unfold qfg;rw [if_neg om,if_neg om];rfl
 | y::W,x,k+1,hk,h,h2=>by
  have h0:=h 0 y om rfl;unfold qfg;rw [if_pos h0,qu1 k (by simpa using hk) (fun j q hj hq=>h (j+1) q om (by simpa using hq)) (fun q hq=>h2 q (by simpa using hq))];rfl
theorem qhv:∀ (W:List Int) (x:Int),(qfg W x).length<=W.length+1
 | [],x=>by simp [qfg]
 | y::W,x=>by
  unfold qfg;have:=qhv W x;split
  ·simp only [List.length_cons];omega
  ·split <;> simp
theorem qjj (W:List Int) (x:Int) (hn:W.length<=1000000):FnP prog 169 [qad qaw W,Ii x] (qad qaw (qfg W x)):=by
 refine FnP.enter func169 ntmps169 rfl rfl ?_;intro c hX;refine qjp (t:=0) rfl (fun hlen=>?_);refine t12 ?_;refine qbm (fun k:Nat=>k<=W.length∧∀ (j:Nat) q,j<k->W[j]?=some q->q<x) (fun k=>[(0,qad qaw W),(1,Ii x),(5,Ii (k:Nat))]) (fun _=>[]) (fun k=>W.length-k) 0 ⟨nZ _,fun j q hj _=>by omega⟩ qa8 qab ?_;rintro k ⟨hk,hlo⟩;obtain ⟨q,hq0⟩:=xE (W.getD k 0);have hq:k<W.length->W[k]?=some q:=fun h=>by rw [<- hq0,List.getD_eq_getElem?_getD,gE h];rfl
 refine t10 ?_;(refine qcg rfl rfl rfl (fun hg=>(by have hg0:=hg;(try simp at hg);exact qak (j:=_) evG evG rfl rfl rf (hq om))) ?_);refine t6 ?_;refine cN ?_ ?_<;>intro h2
 ·have h':k<W.length∧q<x:=by
   rw [Bool.and_eq_true] at h2;have h8:=of_decide_eq_true h2.1;exact ⟨om,of_decide_eq_true h2.2⟩
  clear h2;refine t9 ?_;exact qaa (k+1) ⟨om,fun i q' hi hq'=>by
   by_cases hij:i=k
   ·subst hij;rw [hq h'.1] at hq';cases hq';exact h'.2
   ·exact hlo i q' om hq'⟩ om qa8 qab
 have h':k=W.length∨¬ q<x:=by
  by_cases hjl:k=W.length
  ·exact .inl hjl
  ·refine .inr fun hh=>?_;have e1:decide ((k:Int)<(W.length:Int))=true:=decide_eq_true om;rw [e1,Bool.true_and,decide_eq_true hh] at h2;cases h2
 clear h2;refine t15 ?_;(refine qcg rfl rfl rfl (fun hg=>(by have hg0:=hg;(try simp at hg);exact qak (j:=_) evG evG rfl rfl rf (hq om))) ?_);refine t6 ?_;refine cN ?_ ?_<;>intro h4
 ·have h2:k<W.length∧q=x:=by
   rw [Bool.and_eq_true] at h4;have h8:=of_decide_eq_true h4.1;exact ⟨om,by simpa using h4.2⟩
  clear h4;obtain ⟨h2a,rfl⟩:=h2;rw [qru k hlo (hq h2a)];refine t8 ?_;exact rA (Bs:=[qad qaw W]) results169 eT
 have h2:∀ q',W[k]?=some q'->x<q':=fun q' hq'=>by
  have hjl:=(List.getElem?_eq_some_iff.1 hq').1;rw [hq hjl] at hq';cases hq';have e1:decide ((k:Int)<(W.length:Int))=true:=decide_eq_true om;rw [e1,Bool.true_and] at h4;have h10:¬ q=x:=by simpa using h4
  rcases h' with h' | h'
  ·omega
  ·omega
 clear h4;rw [qu1 k hk hlo h2];refine Z32 ?_;refine zaj ?_;refine zbw (qb4 qaw rfl rfl) ?_;refine t2 ?_;refine qbc (qe6 (er rfl) rfl rfl rfl ⟨_,_,(er rfl),rf⟩ om om) ?_;refine qn9 rfl rfl rfl rf kr (qnq evS (by exact qfz rfl rfl rfl) qcn) ?_;refine s1 ?_;refine qbc (qb7 (size:=1) (qs:=[(0,_)]) rfl rfl rfl ⟨⟨rfl,_,(er rfl),qa5⟩,trivial⟩ rf rf) ?_;refine qn9 rfl rfl rfl rf kr (qnq (by exact Ev.sub rfl (by exact SubL.row (xs:=[x]) rf rf qih)) (by exact qfz rfl rfl rfl) qcn) ?_;refine t2 ?_;refine qbc (qe6 (er rfl) rfl rfl ⟨_,_,(er rfl),rf⟩ rfl om om) ?_;refine qn9 rfl rfl rfl rf kr (qnq evS (by exact qfz rfl rfl rfl) qcn) ?_;refine ⟨rfl,?_⟩;intro i44;refine Z80 ?_;refine Z33 ?_;refine qi3 hX qaf ?_;rw [show ([]++List.drop 0 (List.take k W)++[x]++List.drop k (List.take W.length W))=W.take k++([x]++W.drop k) by rw [List.take_length,List.drop_zero,List.nil_append,List.append_assoc]];exact qbq (Bs:=[qad qaw (W.take k++([x]++W.drop k))]) results169 eT () SubL.rfl' (List.nil_sublist _)
theorem lat_take {xs:List Pg} {k:Nat} {p:Pg} (h:xs[k]?=some p) (l:Int):qq4 (xs.take (k+1)) l=if p.l=l then some p else qq4 (xs.take k) l:=by
 unfold qq4;rw [List.take_add_one,h,List.filter_append];by_cases g:p.l=l
 ·rw [if_pos g];simp [g]
 ·rw [if_neg g];simp [g]
theorem qhn (xs:List Pg) (l:Int):FnP prog 41 [qad tPg xs,Ii l] (qbs [qcv (qb9 xs l),Ib (qjt xs l)]):=by
 refine FnP.enter func41 ntmps41 rfl rfl ?_;intro c hX;refine qjp (t:=0) rfl (fun hlen=>?_);refine t3 ?_;intro i4;refine t6 ?_;intro i6;refine t14 ?_;refine qbm (fun k:Nat=>k<=xs.length) (fun k=>[(0,qad tPg xs),(1,Ii l),(4,Is (.pointer (some ⟨i4,0,none⟩))),(6,Is (.pointer (some ⟨i6,0,none⟩))),(7,Ib (qjt (xs.take k) l)),(8,Ii (k:Nat))]) (fun k=>[blk i4 50 (tPg.cells Pg.nil),blk i6 50 (tPg.cells (qb9 (xs.take k) l))]) (fun k=>xs.length-k) 0 (nZ _) qa8 qab ?_;rintro k hk;refine t9 ?_;refine cN ?_ ?_<;>intro h4
 ·have hlt:k<xs.length:=by have:=of_decide_eq_true h4;omega
  clear h4;obtain ⟨z,hz⟩:∃ z,xs[k]?=some z:=⟨xs[k],gE hlt⟩
  have hlk:=lat_take hz l;refine t15 ?_;refine cN ?_ ?_<;>intro h6
  ·have g:z.l=l:=by simpa using h6
   have e1:qb9 (xs.take (k+1)) l=z:=by unfold qb9;rw [hlk,if_pos g];rfl
   have e2:qjt (xs.take (k+1)) l=true:=by unfold qjt;rw [hlk,if_pos g];rfl
   clear h6;refine t15 ?_;exact qaa (k+1) om om ⟨⟨_,rfl,SubL.rfl'⟩,⟨_,rfl,SubL.rfl'⟩,⟨_,rfl,SubL.rfl'⟩,⟨_,rfl,SubL.rfl'⟩,⟨_,rfl,SubL.eq (by rw [e2])⟩,⟨_,rfl,SubL.rfl'⟩,trivial⟩ (by rw [e1];exact qab)
  have g:¬ z.l=l:=by simpa using h6
  have e1:qb9 (xs.take (k+1)) l=qb9 (xs.take k) l:=by unfold qb9;rw [hlk,if_neg g]
  have e2:qjt (xs.take (k+1)) l=qjt (xs.take k) l:=by unfold qjt;rw [hlk,if_neg g]
  clear h6;refine t8 ?_;exact qaa (k+1) om om ⟨⟨_,rfl,SubL.rfl'⟩,⟨_,rfl,SubL.rfl'⟩,⟨_,rfl,SubL.rfl'⟩,⟨_,rfl,SubL.rfl'⟩,⟨_,rfl,SubL.eq (by rw [e2])⟩,⟨_,rfl,SubL.rfl'⟩,trivial⟩ (by rw [e1];exact qab)
 have hke:k=xs.length:=by have:=of_decide_eq_false h4;omega
 subst hke;clear h4;rw [List.take_length];refine t14 ?_;exact qbq (Bs:=[qcv (qb9 xs l),Ib (qjt xs l)]) results41 eT () SubL.rfl' (List.nil_sublist _)
theorem ifT {α:Sort _} {b:Bool} {x y:α} (h:b=true):(if b=true then x else y)=x:=if_pos h
theorem ifF {α:Sort _} {b:Bool} {x y:α} (h:b=false):(if b=true then x else y)=y:=if_neg (by rw [h];exact Bool.false_ne_true)
theorem rem8 (x:BitVec 64):(UV x).tmod 256=UV (x&&&BitVec.ofInt 64 255):=by
 rw [Int.tmod_eq_emod_of_nonneg (qa2 x)];exact (qg2 64 8 x _ rfl).symm
theorem rem24 (x:BitVec 64):(UV x).tmod 16777216=UV (x&&&BitVec.ofInt 64 16777215):=by
 rw [Int.tmod_eq_emod_of_nonneg (qa2 x)];exact (qg2 64 24 x _ rfl).symm
theorem qel (p:Pg):FnP prog 92 [qcv p] (Ii (qcw p.d0)):=by
 have e:IntKind.i64.wrap ((UV p.d0).tmod 256)=qcw p.d0:=by
  rw [qxj,Int.tmod_eq_emod_of_nonneg (qa2 _),qqq om]
 refine FnP.enter func92 ntmps92 rfl rfl ?_;intro c hX;refine t3 ?_;intro i1;refine t14 ?_;refine rB results92 rfl ?_;rw [<- e]
theorem qqo (p:Pg):FnP prog 138 [qcv p] (Is (.int .u32 (UV (qf9 p.d0)))):=by
 refine FnP.enter func138 ntmps138 rfl rfl ?_;intro c hX;refine t3 ?_;intro i1;refine t14 ?_;refine rB results138 rfl ?_;rfl
theorem qh1 (p:Pg):FnP prog 95 [qcv p] (Ii (qge p.d0)):=by
 have e:IntKind.i64.wrap ((IntKind.u64.wrap ((UV p.d0).tdiv 256)).tmod 16777216)=qge p.d0:=by
  have h1:=qa2 p.d0;have h2:=zgj p.d0;rw [qrw,Int.tdiv_eq_ediv_of_nonneg h1,wU64 (n:=UV p.d0 / 256) om,Int.tmod_eq_emod_of_nonneg om,qqq om]
 refine FnP.enter func95 ntmps95 rfl rfl ?_;intro c hX;refine t3 ?_;intro i1;refine t15 ?_;refine rB results95 rfl ?_;rw [<- e]
theorem qpq (a b:BitVec 64) (n:Nat) (ha:a.toNat<2 ^ n) (hb:b.toNat*2 ^ n<2 ^ 64):(a|||b<<<n).toNat=a.toNat+b.toNat*2 ^ n:=by
 rw [BitVec.toNat_or,BitVec.toNat_shiftLeft,Nat.shiftLeft_eq,Nat.mod_eq_of_lt hb,Nat.mul_comm,Nat.or_comm,<- Nat.two_pow_add_eq_or_of_lt ha,Nat.add_comm]
theorem tag_add (k g:BitVec 64) (z:BitVec 32):(k&&&BitVec.ofInt 64 255)+(g&&&BitVec.ofInt 64 16777215)*BitVec.ofInt 64 256+z.setWidth 64<<<32=(k&&&BitVec.ofInt 64 255)|||((g&&&BitVec.ofInt 64 16777215)<<<8)|||(z.setWidth 64<<<32):=by
 have h1:(k&&&BitVec.ofInt 64 255).toNat<256:=by
  rw [BitVec.toNat_and];exact Nat.lt_of_le_of_lt Nat.and_le_right de
 have h2:(g&&&BitVec.ofInt 64 16777215).toNat<16777216:=by
  rw [BitVec.toNat_and];exact Nat.lt_of_le_of_lt Nat.and_le_right de
 generalize (k&&&BitVec.ofInt 64 255)=a at *;generalize (g&&&BitVec.ofInt 64 16777215)=b at *;have h3:=qpq a b 8 om om;have hz:(z.setWidth 64).toNat=z.toNat:=by rw [BitVec.toNat_setWidth];have:=z.isLt;omega
 have h4:=qpq (a|||b<<<8) (z.setWidth 64) 32 om (by have:=z.isLt;omega)
 apply BitVec.eq_of_toNat_eq
 rw [h4,h3];simp only [BitVec.toNat_add,BitVec.toNat_mul,BitVec.toNat_shiftLeft,Nat.shiftLeft_eq,hz,show (BitVec.ofInt 64 256).toNat=256 from rfl];have:=z.isLt;omega
theorem qn5 (k g:Int) (a:BitVec 32):FnP prog 94 [Ii k,Ii g,Is (.int .u32 (UV a))] (Iw (qh3 ⟨k,g,a⟩)):=by
 refine FnP.enter func94 ntmps94 rfl rfl ?_;intro c hX;refine t10 ?_;rw [rem8];refine t3 ?_;rw [rem24];refine t4 ?_;refine qao rfl (by exact qeg (k:=32) qhh (er rfl) om qdh) ?_;refine t5 ?_;refine rB results94 rfl ?_;unfold qh3;rw [<- tag_add]
theorem qeb (p:Pg):FnP prog 85 [qcv p] (Ib (qet p)):=by
 have e:((UV p.h).tmod 256 != 0)=qet p:=by unfold qet;rw [rem8];rfl
 refine FnP.enter func85 ntmps85 rfl rfl ?_;intro c hX;refine t3 ?_;intro i1;refine t13 ?_;refine rB results85 rfl ?_;rw [<- e]
def atR (p:Pg):Pt:=⟨p.l,qge p.d0⟩
theorem qqp (p:Pg):FnP prog 83 [qcv p] (qh6 (atR p)):=by
 refine FnP.enter func83 ntmps83 rfl rfl ?_;intro c hX;refine t3 ?_;intro i1;refine s1 ?_;intro i2;refine Z32 ?_;refine qaj 5 kr ?_;refine t3 ?_;refine qbc (qac call95 (qh1 _) ⟨evS,trivial⟩) ?_;refine s1 ?_;refine ⟨rfl,?_⟩;refine Z11 ?_;refine t2 ?_;exact qbq (Bs:=[qh6 (atR p)]) results83 eT () SubL.rfl' (List.nil_sublist _)
theorem qp1 (e:Int):FnP prog 103 [Ii e] (zg1 { S19.nil with code:=e,over:=true }):=by
 refine FnP.enter func103 ntmps103 rfl rfl ?_;intro c hX;refine t3 ?_;intro i2;refine t10 ?_;exact rA (Bs:=[zg1 { S19.nil with code:=e,over:=true }]) results103 eT
def clB (c l:Int):Bool:=decide (c>=0)&&decide (c<6)&&decide (l>=104)&&decide (l<=256)
theorem qgg (e l:Int):FnP prog 102 [Ii e,Ii l] (Ib (clB e l)):=by
 refine FnP.enter func102 ntmps102 rfl rfl ?_;intro c hX;refine t25 ?_;refine rB results102 rfl ?_;rfl
def lkV (ks:List Pg) (p:Pt) (kind:Int) (op:Bool):Pg×Bool×Int:=
 if (!qbt p)=true then (Pg.nil,false,1) else
 if (!qjt ks p.line)=true then (Pg.nil,false,0) else
 if (op&&qet (qb9 ks p.line))=true then (Pg.nil,false,3) else
 if (qcw (qb9 ks p.line).d0==0||qge (qb9 ks p.line).d0 != p.gen)=true then (Pg.nil,false,11) else
 if (qcw (qb9 ks p.line).d0 != kind)=true then (Pg.nil,false,14) else (qb9 ks p.line,true,0)
theorem zgo (ks:List Pg) (p:Pt) (kind:Int) (op:Bool):FnP prog 81 [qad tPg ks,qh6 p,Ii kind,Ib op] (qbs [qcv (lkV ks p kind op).1,Ib ((lkV ks p kind op).2.1),Ii ((lkV ks p kind op).2.2)]):=by
 unfold lkV;refine FnP.enter func81 ntmps81 rfl rfl ?_;intro c hX;refine t3 ?_;intro i5;refine s1 ?_;intro i8;refine t8 ?_;refine qao rfl (qac call30 (qb5 _) ⟨evS,trivial⟩) ?_;refine t3 ?_;refine cN ?_ ?_<;>intro h1
 ·rw [ifT h1];refine t10 ?_;exact rA (Bs:=[_,_,_]) results81 eT
 rw [ifF h1];refine t7 ?_;refine qao rfl (qac call41 (qhn _ _) ⟨evS,⟨evS,trivial⟩⟩) ?_;refine t4 ?_;intro i11;refine t11 ?_;refine cN ?_ ?_<;>intro h4
 ·rw [ifT h4];refine t10 ?_;exact rA (Bs:=[_,_,_]) results81 eT
 rw [ifF h4];refine t8 ?_;(refine qcg rfl rfl rfl (fun hg=>(by have hg0:=hg;(try simp at hg);exact qac call85 (qeb _) ⟨evS,trivial⟩)) ?_);refine t3 ?_;refine cN ?_ ?_<;>intro h6
 ·rw [ifT h6];refine t10 ?_;exact rA (Bs:=[_,_,_]) results81 eT
 rw [ifF h6];refine Z38 ?_;refine Z82 ?_;refine s1 ?_;refine qbc (qac call92 (qel _) ⟨evS,trivial⟩) ?_;refine t3 ?_;(refine qch rfl rfl (fun hg=>(by have hg0:=hg;(try simp at hg);exact qac call95 (qh1 _) ⟨evS,trivial⟩)) ?_);refine t4 ?_;refine ⟨rfl,?_⟩;refine Z20 ?_;refine cN ?_ ?_<;>intro h8
 ·rw [ifT h8];refine t10 ?_;exact rA (Bs:=[_,_,_]) results81 eT
 rw [ifF h8];refine t6 ?_;refine qao rfl (qac call92 (qel _) ⟨evS,trivial⟩) ?_;refine t4 ?_;refine cN ?_ ?_<;>intro h10
 ·rw [ifT h10];refine t10 ?_;exact rA (Bs:=[_,_,_]) results81 eT
 rw [ifF h10];refine t11 ?_;exact rA (Bs:=[_,_,_]) results81 eT
def qlf (p:Pg) (kind:Int) (aux:BitVec 32):Pg×Int:=
 if (!qlb p.l||decide (kind<1)||decide (kind>4))=true then (Pg.nil,1) else
 if qet p=true then (Pg.nil,3) else
 if (qcw p.d0 != 0)=true then (Pg.nil,17) else
 if (qge p.d0==16777215)=true then (Pg.nil,18) else (tagP p ⟨kind,qge p.d0+1,aux⟩,0)
theorem qkm (p:Pg) (kind:Int) (aux:BitVec 32):FnP prog 142 [qcv p,Ii kind,Is (.int .u32 (UV aux))] (qbs [qcv (qlf p kind aux).1,Ii ((qlf p kind aux).2)]):=by
 have hgr:0<=qge p.d0∧qge p.d0<=16777215:=by have hgen:=qrw p.d0;rw [hgen];have:=qa2 p.d0;omega
 unfold qlf;refine FnP.enter func142 ntmps142 rfl rfl ?_;intro c hX;refine t3 ?_;intro i3;refine s1 ?_;intro i6;refine t8 ?_;refine qao rfl (qac call78 (qk1 _) ⟨evS,trivial⟩) ?_;refine t11 ?_;refine cN ?_ ?_<;>intro h1
 ·rw [ifT h1];refine t9 ?_;exact rA (Bs:=[_,_]) results142 eT
 rw [ifF h1];refine t6 ?_;refine qao rfl (qac call85 (qeb _) ⟨evS,trivial⟩) ?_;refine t2 ?_;refine cN ?_ ?_<;>intro h3
 ·rw [ifT h3];refine t9 ?_;exact rA (Bs:=[_,_]) results142 eT
 rw [ifF h3];refine t6 ?_;refine qao rfl (qac call92 (qel _) ⟨evS,trivial⟩) ?_;refine t3 ?_;refine cN ?_ ?_<;>intro h5
 ·rw [ifT h5];refine t9 ?_;exact rA (Bs:=[_,_]) results142 eT
 rw [ifF h5];refine t6 ?_;refine qao rfl (qac call95 (qh1 _) ⟨evS,trivial⟩) ?_;refine t3 ?_;refine cN ?_ ?_<;>intro h7
 ·rw [ifT h7];refine t9 ?_;exact rA (Bs:=[_,_]) results142 eT
 rw [ifF h7];refine t10 ?_;intro i8;refine t7 ?_;refine qao rfl (qac call95 (qh1 _) ⟨evS,trivial⟩) ?_;refine qao rfl (qms (er rfl) (er rfl) (qqq (n:=qge p.d0+1) om)) ?_;refine s1 ?_;refine qao rfl (qac call94 (qn5 _ _ _) ⟨evS,⟨evS,⟨evS,trivial⟩⟩⟩) ?_;refine t13 ?_;exact rA (Bs:=[_,_]) results142 eT
def relR (p:Pg):Pg×Int:=
 if (!qlb p.l)=true then (Pg.nil,1) else
 if qet p=true then (Pg.nil,3) else
 if (qcw p.d0==0)=true then (Pg.nil,16) else (tagP p ⟨0,qge p.d0,0#32⟩,0)
theorem qx6 (p:Pg):FnP prog 239 [qcv p] (qbs [qcv (relR p).1,Ii ((relR p).2)]):=by
 unfold relR;refine FnP.enter func239 ntmps239 rfl rfl ?_;intro c hX;refine t3 ?_;intro i1;refine s1 ?_;intro i2;refine t8 ?_;refine qao rfl (qac call78 (qk1 _) ⟨evS,trivial⟩) ?_;refine t3 ?_;refine cN ?_ ?_<;>intro h1
 ·rw [ifT h1];refine t9 ?_;exact rA (Bs:=[_,_]) results239 eT
 rw [ifF h1];refine t6 ?_;refine qao rfl (qac call85 (qeb _) ⟨evS,trivial⟩) ?_;refine t2 ?_;refine cN ?_ ?_<;>intro h3
 ·rw [ifT h3];refine t9 ?_;exact rA (Bs:=[_,_]) results239 eT
 rw [ifF h3];refine t6 ?_;refine qao rfl (qac call92 (qel _) ⟨evS,trivial⟩) ?_;refine t3 ?_;refine cN ?_ ?_<;>intro h5
 ·rw [ifT h5];refine t9 ?_;exact rA (Bs:=[_,_]) results239 eT
 rw [ifF h5];refine t10 ?_;intro i4;refine t6 ?_;refine qao rfl (qac call95 (qh1 _) ⟨evS,trivial⟩) ?_;refine qao rfl (qac call94 (qn5 _ _ 0#32) ⟨evS,⟨evS,⟨evS,trivial⟩⟩⟩) ?_;refine t13 ?_;exact rA (Bs:=[_,_]) results239 eT
theorem kS {P:Program} {c:Ctx} {N:Nat} {E:Env} {L:List Item} {Q:Exit->Go.Act->World->Prop} {ops:Array Oper} {rest:List Oper} {ty:TypeId} {pos:String} {af:Array Edge} {tt:Tmp} {f:FuncId} {xs:List Operand} {ts:Array TypeId} {As:List VP} {R:VP} (hc:∀ (args:Array Value) (w:World),(callFunc f args).run P w = .ok (.enter f args) w) (hF:FnP P f As R) (h:JL P ops Q c N rest ((tt,R)::E) L) (hd:Nat.blt tt N=true:=by exact rfl) (ha:ArgsE (look E) L xs As:=by repeat (first|exact trivial|refine ⟨evS,?_⟩)):JL P ops Q c N (⟨some tt,.call { callee:=.value (.func f),args:=xs.toArray,argTypes:=ts },ty,pos,af,none⟩::rest) E L:=qao hd (qac hc hF ha) h
theorem SubL.exI {L:List Item} {ι:Type} {R:ι->VP} (i:ι):SubL L (R i) (VEx R):=fun φ v _ h=>⟨i,h⟩
theorem SubL.aggN {L:List Item} {As Bs Bs':List VP} (e:Bs=Bs') (h:SubLs L As Bs'):SubL L (IsAgg As) (IsAgg Bs):=by rw [e];exact SubL.agg h
theorem SubLs.nrmd {L:List Item} {As Bs Bs':List VP} (e:Bs=Bs') (h:SubLs L As Bs'):SubLs L As Bs:=by rw [e];exact h
theorem SubLs.app {L:List Item}:∀ {As Bs As' Bs':List VP},SubLs L As Bs->SubLs L As' Bs'->SubLs L (As++As') (Bs++Bs')
 | [],[],_,_,_,h=>h
 | _::_,_::_,_,_,⟨h1,h2⟩,h=>⟨h1,SubLs.app h2 h⟩
theorem qlu:∀ (Bs P Z R:List VP),Z.length=Bs.length->ovr (P++(Z++R)) P.length Bs=P++(Bs++R)
 | [],P,Z,R,h=>by
  have:Z=[]:=List.eq_nil_of_length_eq_zero (by simpa using h);subst this;rfl
 | B::Bs,P,[],R,h=>by simp at h
 | B::Bs,P,z::Z,R,h=>by
  have e:=qlu Bs (P++[B]) Z R (by simpa using h);have e1:(P++(z::Z++R)).set P.length B=P++[B]++(Z++R):=by
   rw [List.set_append_right _ _ (Nat.le_refl _)];simp
  show ovr ((P++(z::Z++R)).set P.length B) (P.length+1) Bs=_;rw [e1,show P.length+1=(P++[B]).length by simp,e];simp
theorem ovr_two {Z A B:List VP} {s:Nat} (hA:A.length=s) (hB:B.length=s) (hZ:Z.length=2*s):ovr (ovr Z (0*s) A) (1*s) B=A++B:=by
 have e1:=qlu A [] (Z.take s) (Z.drop s) (by rw [List.length_take];omega);rw [List.take_append_drop] at e1;have e2:=qlu B A (Z.drop s) [] (by rw [List.length_drop];omega);simp only [List.append_nil,List.nil_append,List.length_nil] at e1 e2;subst hA;rw [Nat.zero_mul,Nat.one_mul,e1,e2]
theorem zd0 {Z A B C:List VP} {s:Nat} (hA:A.length=s) (hB:B.length=s) (hC:C.length=s) (hZ:Z.length=3*s):ovr (ovr (ovr Z (0*s) A) (1*s) B) (2*s) C=A++(B++C):=by
 have e1:=qlu A [] (Z.take s) (Z.drop s) (by rw [List.length_take];omega);rw [List.take_append_drop] at e1;have e2:=qlu B A ((Z.drop s).take s) ((Z.drop s).drop s) (by rw [List.length_take,List.length_drop];omega);rw [List.take_append_drop] at e2;have e3:=qlu C (A++B) ((Z.drop s).drop s) [] (by rw [List.length_drop,List.length_drop];omega);simp only [List.append_nil,List.nil_append,List.length_nil,List.append_assoc] at e1 e2 e3;subst hA;rw [Nat.zero_mul,Nat.one_mul,e1,e2,show 2*A.length=(A++B).length by rw [List.length_append];omega,e3]
theorem SubL.row2 {L:List Item} {α:Type} {T:Ty α} {x y:α} {A B:List VP} {zs:List Value} {s m:Nat} (hs:s=T.size) (hA:A.length=s) (hB:B.length=s) (hm:m=2*s) (h1:SubLs L A (T.cells x)) (h2:SubLs L B (T.cells y)):SubL L (qem 2 s (ovr (ovr (List.map Is (qon zs m)) (0*s) A) (1*s) B)) (qad T [x,y]):=by
 rw [ovr_two hA hB (by simp [qon,hm])];exact SubL.row rfl hs (by simpa using SubLs.app h1 h2)
theorem SubL.row3 {L:List Item} {α:Type} {T:Ty α} {x y z:α} {A B C:List VP} {zs:List Value} {s m:Nat} (hs:s=T.size) (hA:A.length=s) (hB:B.length=s) (hC:C.length=s) (hm:m=3*s) (h1:SubLs L A (T.cells x)) (h2:SubLs L B (T.cells y)) (h3:SubLs L C (T.cells z)):SubL L (qem 3 s (ovr (ovr (ovr (List.map Is (qon zs m)) (0*s) A) (1*s) B) (2*s) C)) (qad T [x,y,z]):=by
 rw [zd0 hA hB hC (by simp [qon,hm])];exact SubL.row rfl hs (by simpa using SubLs.app h1 (SubLs.app h2 h3))
theorem qp0 {f:Nat->Option (Nat×Nat)}:∀ {qs:List (Nat×List VP)} {As Rs:List VP},qlz f As qs=some Rs->Rs.length=As.length
 | [],As,Rs,h=>by unfold qlz at h;cases h;rfl
 | (i,Bs)::qs,As,Rs,h=>by
  unfold qlz at h;split at h
  ·cases h
  ·rename_i off size _;cases g:(Nat.beq Bs.length size&&Nat.ble (off+Bs.length) As.length) with
   | false=>rw [g] at h;cases h
   | true=>rw [g] at h;rw [qp0 h,zd1]
section
variable {P:Program} {c:Ctx} {A:Nat->Option VP} {L:List Item} {d:Option Tmp} {ty:TypeId} {pos:String} {af:Array Edge} {g:Option (Nat×Bool)}
theorem qa1 {t e:TypeId} {n size:Nat} {z:Value} {ps:Array (Nat×Operand)} {qs:List (Nat×List VP)} {Rs:List VP} (hu:P.underlying t=some (.slice e)) (hs:(P.info? e).map (·.size)=some size) (hz:(P.info? e).map (·.zero)=some (some z))
  (hq:PartsE A L ps.toList qs) (hf:qlz (fun i=>some (i*size,size)) ((qon (qen z) (n*size)).map Is) qs=some Rs)
  (hn:(Nat.ble (n*size) 16777216&&Nat.blt 0 (n*size)&&Nat.ble n 1000000&&(qon (qen z) (n*size)).all Value.oneCell')=true) :
  OpP P c ⟨d,.buildSlice t n ps,ty,pos,af,g⟩ A L (qem n size Rs):=
 qb7 hu hs hz hq hf (by rw [hn,qp0 hf,List.length_map,qon,List.length_map,List.length_range];simp)
end
def qfc {ι:Type} (p:ι->Prop) (R:ι->VP):VP:=⟨fun φ v=>∃ i,p i∧(R i).ok φ v,fun h ⟨i,hp,k⟩=>⟨i,hp,(R i).mono h k⟩⟩
section
variable {P:Program} {c:Ctx} {N:Nat} {E:Env} {L:List Item} {Q:Exit->Act->World->Prop} {ops:Array Oper} {rest:List Oper}
theorem qbj {ι:Type} {p:ι->Prop} {R:ι->VP} (t:Nat) (hl:look E t=some (qfc p R)) (h:∀ i,p i->JL P ops Q c N rest ((t,R i)::E) L):JL P ops Q c N rest E L:=fun φ a w st =>
 let ⟨i,hp,hi⟩:=st.env t _ hl
 h i hp φ a w (st.tell hi)
theorem qol {ι:Type} {p:ι->Prop} {R:ι->VP} {nd:List Nat} {k:Nat} (t:Nat) (hl:look E t=some (qfc p R)) (h:∀ i,p i->JD P ops Q c N nd k rest ((t,R i)::E) L):JD P ops Q c N nd k rest E L:=fun e1 e2 e3 e4 φ a w lst hp st =>
 let ⟨i,hq,hi⟩:=st.env t _ hl
 h i hq e1 e2 e3 e4 φ a w lst hp (st.tell hi)
theorem qd4 {fn:Func} {ι:Type} {R:ι->VP} {L':Unit->List Item} {rs:List ResultVar} {Bs:List VP} (i:ι) (hB:qqx Bs=R i) (hr:fn.results=rs.toArray) (hE:qqg P E L rs Bs) (hL:(L' ()).Sublist L) (hD0:c.ds=[]:=by first|assumption|exact And.right (by assumption)):JQ c N E L (bodyPost P fn (qre c (fun _:Unit=>VEx R) L')) .ret:=
 qbq hr hE () (by rw [hB];exact SubL.exI i) hL hD0
theorem qhd {fn:Func} {ι:Type} {p:ι->Prop} {R:ι->VP} {L':Unit->List Item} {rs:List ResultVar} {Bs:List VP} (i:ι) (hB:qqx Bs=R i) (hr:fn.results=rs.toArray) (hE:qqg P E L rs Bs) (hL:(L' ()).Sublist L) (hp:p i) (hD0:c.ds=[]:=by first|assumption|exact And.right (by assumption)):JQ c N E L (bodyPost P fn (qre c (fun _:Unit=>qfc p R) L')) .ret:=
 qbq hr hE () (by rw [hB];exact fun φ v _ h=>⟨i,hp,h⟩) hL hD0
end
theorem qcf {L:List Item} {A B:List VP} (h:SubLs L A B:=by (repeat' (first|exact SubL.rfl' | exact trivial|refine ⟨?_,?_⟩|exact SubL.nil|exact SubL.eq (congrArg Is (qc3 (by first|decide|omega)))|exact SubL.eq (congrArg Is (qc7 (by first|decide|omega)))))):SubLs L A B:=h
theorem subR {L:List Item} {A B:VP} (h:SubL L A B:=by (repeat' (first|exact SubL.rfl' | exact trivial|refine ⟨?_,?_⟩|exact SubL.nil|refine SubL.agg ?_|refine SubL.tup ?_|exact SubL.top|exact SubL.fresh|((with_reducible show SubL _ (qem _ _ _) _);first|exact SubL.row2 rf rf rf rf qcf qcf|exact SubL.row3 rf rf rf rf rf qcf qcf qcf|refine SubL.row rf rf ?_)|((with_reducible show SubL _ (Is _) (IsAgg _));refine SubL.lit rfl ?_)|((with_reducible show SubL _ (qdi _ _ _) _);refine SubL.iteT (by first|assumption|(simp;done)|(simp;omega)|(simp_all;done)) ?_)|exact SubL.eq (congrArg Is (qc3 (by first|decide|omega)))|exact SubL.eq (congrArg Is (qc7 (by first|decide|omega)))|exact SubL.fact (by repeat (first|exact List.Mem.head _|apply List.Mem.tail))))):SubL L A B:=h
theorem qiq {L:List Item} {A B:List VP} (h:SubLs L A B:=by (repeat' (first|exact SubL.rfl' | exact trivial|refine ⟨?_,?_⟩|exact SubL.nil|refine SubL.agg ?_|refine SubL.tup ?_|exact SubL.top|exact SubL.fresh|((with_reducible show SubL _ (qem _ _ _) _);first|exact SubL.row2 rf rf rf rf qcf qcf|exact SubL.row3 rf rf rf rf rf qcf qcf qcf|refine SubL.row rf rf ?_)|((with_reducible show SubL _ (Is _) (IsAgg _));refine SubL.lit rfl ?_)|((with_reducible show SubL _ (qdi _ _ _) _);refine SubL.iteT (by first|assumption|(simp;done)|(simp;omega)|(simp_all;done)) ?_)|exact SubL.eq (congrArg Is (qc3 (by first|decide|omega)))|exact SubL.eq (congrArg Is (qc7 (by first|decide|omega)))|exact SubL.fact (by repeat (first|exact List.Mem.head _|apply List.Mem.tail))))):SubLs L A B:=h
theorem qc5 {L:List Item} {E E':Env} (h:ESub L E E':=by ((repeat (refine ⟨⟨_,rfl,(by (repeat' (first|exact SubL.rfl' | exact trivial|refine ⟨?_,?_⟩|exact SubL.nil|refine SubL.agg ?_|refine SubL.tup ?_|exact SubL.top|exact SubL.fresh|((with_reducible show SubL _ (qem _ _ _) _);first|exact SubL.row2 rf rf rf rf qcf qcf|exact SubL.row3 rf rf rf rf rf qcf qcf qcf|refine SubL.row rf rf ?_)|((with_reducible show SubL _ (Is _) (IsAgg _));refine SubL.lit rfl ?_)|((with_reducible show SubL _ (qdi _ _ _) _);refine SubL.iteT (by first|assumption|(simp;done)|(simp;omega)|(simp_all;done)) ?_)|exact SubL.eq (congrArg Is (qc3 (by first|decide|omega)))|exact SubL.eq (congrArg Is (qc7 (by first|decide|omega)))|exact SubL.fact (by repeat (first|exact List.Mem.head _|apply List.Mem.tail)))))⟩,?_⟩));exact trivial)):ESub L E E':=h
theorem evR {A:Nat->Option VP} {L:List Item} {x:Operand} {B:VP} (h:Ev A L x B:=by (exact Ev.sub rfl (by first|with_reducible exact SubL.rfl' | ((with_reducible show SubL _ (IsAgg _) _);exact SubL.rfl')|((with_reducible show SubL _ (qem _ _ _) _);first|exact SubL.row2 rf rf rf rf qcf qcf|exact SubL.row3 rf rf rf rf rf qcf qcf qcf|exact SubL.row rf rf qiq)|(repeat' (first|exact SubL.rfl' | exact trivial|refine ⟨?_,?_⟩|exact SubL.nil|refine SubL.agg ?_|refine SubL.tup ?_|exact SubL.top|exact SubL.fresh|((with_reducible show SubL _ (qem _ _ _) _);first|exact SubL.row2 rf rf rf rf qcf qcf|exact SubL.row3 rf rf rf rf rf qcf qcf qcf|refine SubL.row rf rf ?_)|((with_reducible show SubL _ (Is _) (IsAgg _));refine SubL.lit rfl ?_)|((with_reducible show SubL _ (qdi _ _ _) _);refine SubL.iteT (by first|assumption|(simp;done)|(simp;omega)|(simp_all;done)) ?_)|exact SubL.eq (congrArg Is (qc3 (by first|decide|omega)))|exact SubL.eq (congrArg Is (qc7 (by first|decide|omega)))|exact SubL.fact (by repeat (first|exact List.Mem.head _|apply List.Mem.tail))))))):Ev A L x B:=h
theorem subX {L:List Item} {A B:VP} (h:SubL L A B:=by (repeat' (first|exact SubL.rfl' | exact trivial|refine ⟨?_,?_⟩|exact SubL.nil|exact SubL.eq (congrArg Is (qc3 de))|exact SubL.eq (congrArg Is (qc7 de))|refine SubL.aggN qbx ?_|refine SubL.tup ?_|exact SubL.top|exact SubL.fresh|((with_reducible show SubL _ (qem _ _ _) _);first|exact SubL.row2 rf rf rf rf qcf qcf|exact SubL.row3 rf rf rf rf rf qcf qcf qcf|refine SubL.row rf rf ?_)|((with_reducible show SubL _ (Is _) (IsAgg _));refine SubL.lit rfl ?_)|((with_reducible show SubL _ (qdi _ _ _) _);refine SubL.iteT (by first|assumption|(simp;done)|(simp;omega)|(simp_all;done)) ?_)|exact SubL.eq (congrArg Is (qc3 (by first|decide|omega)))|exact SubL.eq (congrArg Is (qc7 (by first|decide|omega)))|exact SubL.fact (by repeat (first|exact List.Mem.head _|apply List.Mem.tail))))):SubL L A B:=h
theorem subsX {L:List Item} {A B:List VP} (h:SubLs L A B:=by (refine SubLs.nrmd qbx ?_;(repeat' (first|exact SubL.rfl' | exact trivial|refine ⟨?_,?_⟩|exact SubL.nil|exact SubL.eq (congrArg Is (qc3 de))|exact SubL.eq (congrArg Is (qc7 de))|refine SubL.aggN qbx ?_|refine SubL.tup ?_|exact SubL.top|exact SubL.fresh|((with_reducible show SubL _ (qem _ _ _) _);first|exact SubL.row2 rf rf rf rf qcf qcf|exact SubL.row3 rf rf rf rf rf qcf qcf qcf|refine SubL.row rf rf ?_)|((with_reducible show SubL _ (Is _) (IsAgg _));refine SubL.lit rfl ?_)|((with_reducible show SubL _ (qdi _ _ _) _);refine SubL.iteT (by first|assumption|(simp;done)|(simp;omega)|(simp_all;done)) ?_)|exact SubL.eq (congrArg Is (qc3 (by first|decide|omega)))|exact SubL.eq (congrArg Is (qc7 (by first|decide|omega)))|exact SubL.fact (by repeat (first|exact List.Mem.head _|apply List.Mem.tail)))))):SubLs L A B:=h
theorem qxr {L:List Item} {E E':Env} (h:ESub L E E':=by ((repeat (refine ⟨⟨_,rfl,(by (repeat' (first|exact SubL.rfl' | exact trivial|refine ⟨?_,?_⟩|exact SubL.nil|exact SubL.eq (congrArg Is (qc3 de))|exact SubL.eq (congrArg Is (qc7 de))|refine SubL.aggN qbx ?_|refine SubL.tup ?_|exact SubL.top|exact SubL.fresh|((with_reducible show SubL _ (qem _ _ _) _);first|exact SubL.row2 rf rf rf rf qcf qcf|exact SubL.row3 rf rf rf rf rf qcf qcf qcf|refine SubL.row rf rf ?_)|((with_reducible show SubL _ (Is _) (IsAgg _));refine SubL.lit rfl ?_)|((with_reducible show SubL _ (qdi _ _ _) _);refine SubL.iteT (by first|assumption|(simp;done)|(simp;omega)|(simp_all;done)) ?_)|exact SubL.eq (congrArg Is (qc3 (by first|decide|omega)))|exact SubL.eq (congrArg Is (qc7 (by first|decide|omega)))|exact SubL.fact (by repeat (first|exact List.Mem.head _|apply List.Mem.tail)))))⟩,?_⟩));exact trivial)):ESub L E E':=h
theorem evX {A:Nat->Option VP} {L:List Item} {x:Operand} {B:VP} (h:Ev A L x B:=by (first|exact er rfl|exact Ev.sub rfl (by (repeat' (first|exact SubL.rfl' | exact trivial|refine ⟨?_,?_⟩|exact SubL.nil|exact SubL.eq (congrArg Is (qc3 de))|exact SubL.eq (congrArg Is (qc7 de))|refine SubL.aggN qbx ?_|refine SubL.tup ?_|exact SubL.top|exact SubL.fresh|((with_reducible show SubL _ (qem _ _ _) _);first|exact SubL.row2 rf rf rf rf qcf qcf|exact SubL.row3 rf rf rf rf rf qcf qcf qcf|refine SubL.row rf rf ?_)|((with_reducible show SubL _ (Is _) (IsAgg _));refine SubL.lit rfl ?_)|((with_reducible show SubL _ (qdi _ _ _) _);refine SubL.iteT (by first|assumption|(simp;done)|(simp;omega)|(simp_all;done)) ?_)|exact SubL.eq (congrArg Is (qc3 (by first|decide|omega)))|exact SubL.eq (congrArg Is (qc7 (by first|decide|omega)))|exact SubL.fact (by repeat (first|exact List.Mem.head _|apply List.Mem.tail))))))):Ev A L x B:=h
theorem qaq {α:Sort _} {b:Bool} {x y W:α} (hE:(if b=true then x else y)=W) (h:b=true):x=W:=by rw [<- hE,if_pos h]
theorem qar {α:Sort _} {b:Bool} {x y W:α} (hE:(if b=true then x else y)=W) (h:b=false):y=W:=by rw [<- hE,if_neg (by rw [h];exact Bool.false_ne_true)]
theorem qh8 {c:Ctx} {A:Nat->Option VP} {L:List Item} {d:Option Tmp} {x y:Operand} {u ty:TypeId} {pos:String} {af:Array Edge} {g:Option (Nat×Bool)} {a b e f:Int} (hx:Ev A L x (IsAgg [Ii a,Ii b])) (hy:Ev A L y (IsAgg [Ii e,Ii f])) :
  OpP prog c ⟨d,.binOp .eql 57 x y u,ty,pos,af,g⟩ A L (Ib (decide ((⟨a,b⟩:Pt)=⟨e,f⟩))):=
 qb0 (vs:=Pt.cells ⟨a,b⟩) (ws:=Pt.cells ⟨e,f⟩) hx hy (qd3 _ _ _ _ _) (qf6 _ _)
theorem qh7 {c:Ctx} {A:Nat->Option VP} {L:List Item} {d:Option Tmp} {x y:Operand} {u ty:TypeId} {pos:String} {af:Array Edge} {g:Option (Nat×Bool)} {a b e f:Int} (hx:Ev A L x (IsAgg [Ii a,Ii b])) (hy:Ev A L y (IsAgg [Ii e,Ii f])) :
  OpP prog c ⟨d,.binOp .neq 57 x y u,ty,pos,af,g⟩ A L (Ib (!decide ((⟨a,b⟩:Pt)=⟨e,f⟩))):=
 qb0 (vs:=Pt.cells ⟨a,b⟩) (ws:=Pt.cells ⟨e,f⟩) hx hy (qd3 _ _ _ _ _) (zft _ _)
structure I3 where
 a:Int
 b:Int
 c:Int
deriving DecidableEq
def I3.cells (p:I3):List Value:=[.int .i64 p.a,.int .i64 p.b,.int .i64 p.c]
theorem qz3:∃ i,Tryz.prog.info? 2=some i:=by
 have h:(Tryz.prog.info? 2).isSome=true:=by kernel_rfl
 exact Option.isSome_iff_exists.1 h
theorem eqI3_run (p q:I3) (w:World):(Op.equal 106 (.agg p.cells.toArray) (.agg q.cells.toArray)).run prog w = .ok (decide (p=q)) w:=by
 obtain ⟨a,b,c⟩:=p;obtain ⟨a',b',c'⟩:=q;obtain ⟨i,hi⟩:=qz3;have h:(Op.equalIn (9999+1) 106 (.agg #[.int .i64 a,.int .i64 b,.int .i64 c]) (.agg #[.int .i64 a',.int .i64 b',.int .i64 c'])).run prog w = .ok (decide ((⟨a,b,c⟩:I3)=⟨a',b',c'⟩)) w:=by
  rw [show 9999+1=9999+1 from rfl,run_equalIn_array w 9999 _ _ Tryz.underlying106 hi];have hc:Tryz.prog.cellsOf 2=1:=by kernel_rfl
  rw [hc];have hu:(isAgg 2).run prog w = .ok false w:=qf2 Tryz.underlying2 w;simp only [List.range_succ,List.range_zero,List.nil_append,List.cons_append,Op.eqItems,part,Sem.run_bind,hu,Result.andThen_ok,Bool.false_eq_true,if_false,↓reduceIte]
  go_simp
  by_cases h1:a=a' <;> by_cases h2:b=b' <;> by_cases h3:c=c' <;> simp [h1,h2,h3]
 exact h
theorem zbl (o:BinOp) (x y:Operand) (p q:I3) (w:World):(eqGuard o 106 x y (.agg p.cells.toArray) (.agg q.cells.toArray)).run prog w = .ok () w:=by
 have h:Tryz.prog.eqGuardType Tryz.prog.depth 106=false:=by kernel_rfl
 cases o <;> simp [eqGuard,program,Sem.run,h]
theorem eqI3_eql (p q:I3) (w:World):(binOp .eql 106 (.agg p.cells.toArray) (.agg q.cells.toArray)).run prog w = .ok (.bool (decide (p=q))) w:=by
 simp only [binOp,Sem.run_bind,eqI3_run,Result.andThen_ok,Sem.run_pure]
theorem op_eqI3 {k:Ctx} {A:Nat->Option VP} {L:List Item} {d:Option Tmp} {x y:Operand} {u ty:TypeId} {pos:String} {af:Array Edge} {g:Option (Nat×Bool)} {a b c a' b' c':Int} (hx:Ev A L x (IsAgg [Ii a,Ii b,Ii c])) (hy:Ev A L y (IsAgg [Ii a',Ii b',Ii c'])) :
  OpP prog k ⟨d,.binOp .eql 106 x y u,ty,pos,af,g⟩ A L (Ib (decide ((⟨a,b,c⟩:I3)=⟨a',b',c'⟩))):=
 qb0 (vs:=I3.cells ⟨a,b,c⟩) (ws:=I3.cells ⟨a',b',c'⟩) hx hy (zbl _ _ _ _ _) (eqI3_eql _ _)
def Ln (p:Pg):Prop:=-1<=p.l∧p.l<=255
theorem qod:Ln Pg.nil:=⟨(by decide:(-1:Int)<=0),(by decide:(0:Int)<=255)⟩
theorem ln0 {a b c d e f g h:BitVec 64}:Ln ⟨0,a,b,c,d,e,f,g,h⟩:=⟨(by decide:(-1:Int)<=0),(by decide:(0:Int)<=255)⟩
theorem ln_eq {p q:Pg} (h:q.l=p.l):Ln p->Ln q:=fun k=>by unfold Ln;rw [h];exact k
theorem lat_l (ks:List Pg) (l:Int):qb9 ks l=Pg.nil∨(qb9 ks l).l=l:=by
 unfold qb9 qq4;cases h:(ks.filter fun p=>decide (p.l=l)).getLast? with
 | none=>exact .inl rfl
 | some p =>
  have h1:=List.mem_of_getLast? h;exact .inr (of_decide_eq_true (List.mem_filter.1 h1).2)
theorem qfb (ks:List Pg) {l:Int} (h:-1<=l∧l<=255):Ln (qb9 ks l):=by
 rcases lat_l ks l with e|e
 ·rw [e];exact qod
 ·unfold Ln;rw [e];exact h
theorem valid_l {p:Pt} (h:qbt p=true):104<=p.line∧p.line<=255:=by
 unfold qbt qlb at h;simp only [Bool.and_eq_true,decide_eq_true_eq] at h;omega
theorem qhu (ks:List Pg) (p:Pt) (k:Int) (o:Bool):Ln (lkV ks p k o).1:=by
 unfold lkV;split
 ·exact qod
 ·rename_i h;have hv:=valid_l (p:=p) (by simpa using h)
  repeat' split
  all_goals first|exact qod|exact qfb ks ⟨om,om⟩
theorem zev (p:Pg) (k:Int) (a:BitVec 32):Ln (qlf p k a).1:=by
 unfold qlf;split
 ·exact qod
 ·rename_i h;have hv:Ln p:=by
   unfold Ln;unfold qlb at h;simp at h;omega
  repeat' split
  all_goals first|exact qod|exact hv
theorem ln_rel (p:Pg):Ln (relR p).1:=by
 unfold relR;split
 ·exact qod
 ·rename_i h;have hv:Ln p:=by
   unfold Ln;unfold qlb at h;simp at h;omega
  repeat' split
  all_goals first|exact qod|exact hv
theorem qsy (s:Int):-1<=qbh s∧qbh s<=255:=by
 unfold qbh;split <;> omega
theorem ln_readN {p:Pg} (h:(qeo p).2=0):Ln p:=by
 cases ho:qwh p.l with
 | false=>unfold qeo at h;rw [if_neg (by rw [ho];exact Bool.false_ne_true)] at h;exact absurd (show (1:Int)=0 from h) de
 | true =>
  unfold qwh at ho;simp at ho;exact ⟨om,om⟩
theorem qgq {p:Pg} (n:Nd) (h:Ln p):Ln (qfa p n).1:=by
 unfold qfa
 repeat' split
 all_goals first|exact qod|exact h
def WL (n:Nat) (ws:List Pg):Prop:=ws.length<=n∧∀ p,p∈ws->Ln p
theorem wl0 {n:Nat}:WL n []:=⟨nZ _,fun _ h=>absurd h List.not_mem_nil⟩
theorem wl1 {n:Nat} {p:Pg} (h:Ln p):WL (n+1) [p]:=⟨by simp,fun q hq=>by rw [List.mem_singleton] at hq;subst hq;exact h⟩
theorem wl2 {n:Nat} {p q:Pg} (h:Ln p) (k:Ln q):WL (n+2) [p,q]:=⟨by simp,fun x hx=>by
 rcases List.mem_cons.1 hx with rfl|hx
 ·exact h
 ·rw [List.mem_singleton] at hx;subst hx;exact k⟩
theorem wl3 {n:Nat} {p q r:Pg} (h:Ln p) (k:Ln q) (m:Ln r):WL (n+3) [p,q,r]:=⟨by simp,fun x hx=>by
 rcases List.mem_cons.1 hx with rfl|hx
 ·exact h
 ·exact (wl2 (n:=0) k m).2 x hx⟩
theorem WL.mono {n m:Nat} {ws:List Pg} (h:WL n ws) (k:n<=m):WL m ws:=⟨nT h.1 k,h.2⟩
theorem ze4:∀ {W:List Pg} {p x:Pg},x∈qju W p->x=p∨x∈W
 | [],p,x,h=>.inl (List.mem_singleton.1 h)
 | q::W,p,x,h=>by
  unfold qju at h;split at h
  ·rcases List.mem_cons.1 h with rfl|h
   ·exact .inr (List.mem_cons_self ..)
   ·rcases ze4 h with h|h
    ·exact .inl h
    ·exact .inr (List.mem_cons_of_mem _ h)
  ·split at h
   ·rcases List.mem_cons.1 h with h|h
    ·exact .inl h
    ·exact .inr (List.mem_cons_of_mem _ h)
   ·rcases List.mem_cons.1 h with h|h
    ·exact .inl h
    ·exact .inr h
theorem qz1:∀ (l W:List Pg) (x:Pg),x∈l.foldl qju W->x∈W∨x∈l
 | [],W,x,h=>.inl h
 | p::l,W,x,h=>by
  rw [List.foldl_cons] at h;rcases qz1 l _ x h with h|h
  ·rcases ze4 h with rfl|h
   ·exact .inr (List.mem_cons_self ..)
   ·exact .inl h
  ·exact .inr (List.mem_cons_of_mem _ h)
theorem qgw {n m k:Nat} {a b:List Pg} (ha:WL n a) (hb:WL m b) (h:n+m<=k):WL k (qck a b):=by
 refine ⟨nT (qae _ _) (nT (Nat.add_le_add ha.1 hb.1) h),fun p hp=>?_⟩;rcases qz1 _ _ _ hp with hp|hp
 ·exact absurd hp List.not_mem_nil
 ·rcases List.mem_append.1 hp with hp|hp
  ·exact ha.2 p hp
  ·exact hb.2 p hp
theorem lns0:∀ p,p∈([]:List Pg)->Ln p:=fun _ h=>absurd h List.not_mem_nil
theorem qzp {ws:List Pg} {p:Pg} (h:∀ q,q∈ws->Ln q) (k:Ln p):∀ q,q∈ws++[p]->Ln q:=fun q hq=>by
 rcases List.mem_append.1 hq with hq|hq
 ·exact h q hq
 ·rw [List.mem_singleton] at hq;subst hq;exact k
theorem kR {P:Program} {c:Ctx} {N:Nat} {E:Env} {L:List Item} {Q:Exit->Go.Act->World->Prop} {ops:Array Oper} {rest:List Oper} {ty:TypeId} {pos:String} {af:Array Edge} {tt:Tmp} {f:FuncId} {xs:List Operand} {ts:Array TypeId} {As:List VP} {R:VP} (hc:∀ (args:Array Value) (w:World),(callFunc f args).run P w = .ok (.enter f args) w) (hF:FnP P f As R) (h:JL P ops Q c N rest ((tt,R)::E) L) (hd:Nat.blt tt N=true:=by exact rfl) (ha:ArgsE (look E) L xs As:=by repeat (first|exact trivial|refine ⟨evR,?_⟩)):JL P ops Q c N (⟨some tt,.call { callee:=.value (.func f),args:=xs.toArray,argTypes:=ts },ty,pos,af,none⟩::rest) E L:=qao hd (qac hc hF ha) h
theorem kX {P:Program} {c:Ctx} {N:Nat} {E:Env} {L:List Item} {Q:Exit->Go.Act->World->Prop} {ops:Array Oper} {rest:List Oper} {ty:TypeId} {pos:String} {af:Array Edge} {tt:Tmp} {f:FuncId} {xs:List Operand} {ts:Array TypeId} {As:List VP} {R:VP} (hc:∀ (args:Array Value) (w:World),(callFunc f args).run P w = .ok (.enter f args) w) (hF:FnP P f As R) (h:JL P ops Q c N rest ((tt,R)::E) L) (hd:Nat.blt tt N=true:=by exact rfl) (ha:ArgsE (look E) L xs As:=by repeat (first|exact trivial|refine ⟨evX,?_⟩)):JL P ops Q c N (⟨some tt,.call { callee:=.value (.func f),args:=xs.toArray,argTypes:=ts },ty,pos,af,none⟩::rest) E L:=qao hd (qac hc hF ha) h
theorem eR {P:Program} {E:Env} {L:List Item} {rs:List ResultVar} {Bs:List VP} (h:qqg P E L rs Bs:=by repeat (first|exact trivial|refine ⟨⟨_,_,_,_,rfl,qba,rfl,.inr ⟨rfl,_,rfl,rfl,subR⟩⟩,?_⟩|refine ⟨⟨_,rfl,subR⟩,?_⟩)):qqg P E L rs Bs:=h
theorem eX {P:Program} {E:Env} {L:List Item} {rs:List ResultVar} {Bs:List VP} (h:qqg P E L rs Bs:=by repeat (first|exact trivial|refine ⟨⟨_,_,_,_,rfl,qba,rfl,.inr ⟨rfl,_,rfl,rfl,subX⟩⟩,?_⟩|refine ⟨⟨_,rfl,subX⟩,?_⟩)):qqg P E L rs Bs:=h
theorem rX {P:Program} {c:Ctx} {N:Nat} {E:Env} {L:List Item} {fn:Func} {ι:Type} {p:ι->Prop} {R:ι->VP} {L':Unit->List Item} {rs:List ResultVar} {B:VP} (i:ι) (hr:fn.results=rs.toArray) (hB:qqx [B]=R i:=by exact rfl) (hE:qqg P E L rs [B]:=by exact eX) (hL:(L' ()).Sublist L:=by exact List.nil_sublist _) (hp:p i) (hD0:c.ds=[]:=by first|assumption|exact And.right (by assumption)):JQ c N E L (bodyPost P fn (qre c (fun _:Unit=>qfc p R) L')) .ret:=qhd i hB hr hE hL hp hD0
theorem rX2 {P:Program} {c:Ctx} {N:Nat} {E:Env} {L:List Item} {fn:Func} {ι:Type} {p:ι->Prop} {R:ι->VP} {L':Unit->List Item} {rs:List ResultVar} {B B2:VP} (i:ι) (hr:fn.results=rs.toArray) (hB:qqx [B,B2]=R i:=by exact rfl) (hE:qqg P E L rs [B,B2]:=by exact eX) (hL:(L' ()).Sublist L:=by exact List.nil_sublist _) (hp:p i) (hD0:c.ds=[]:=by first|assumption|exact And.right (by assumption)):JQ c N E L (bodyPost P fn (qre c (fun _:Unit=>qfc p R) L')) .ret:=qhd i hB hr hE hL hp hD0
theorem Z22 {A B:Prop} (h:A) (f:Bx A→B:=by intro z;refine qao rfl (qa1 (size:=1) (qs:=[(0,_)]) rfl rfl rfl ⟨⟨rfl,_,(er rfl),qa5⟩,trivial⟩ rf rf) ?_;exact z.out):B:=f ⟨h⟩
theorem Z25 {A B:Prop} (h:A) (f:Bx A→B:=by intro z;refine zbw (qcc rfl qbx rfl) ?_;refine qjk rfl rfl rfl kr (qhg evR qa5 rfl rfl rfl qbx) ?_;exact z.out):B:=f ⟨h⟩
theorem Z29 {B:Prop} (h:B:=by exact qd4 (Bs:=[_,_]) ((⟨(⟨_,_,_,_⟩:Rw),_,_,_,(⟨_,_⟩:Pt)⟩:Vs),_) rfl results202 eX (List.nil_sublist _)):B:=h
theorem Z35 {A B:Prop} (h:A) (f:Bx A→B:=by intro z;refine t2 ?_;refine kR call103 (qp1 _) ?_;exact z.out):B:=f ⟨h⟩
theorem Z54 {A B:Prop} (h:A) (f:Bx A→B:=by intro z;refine qao rfl (qh8 (er rfl) (er rfl)) ?_;exact z.out):B:=f ⟨h⟩
theorem Z85 {A B:Prop} (h:A) (f:Bx A→B:=by intro z;refine qao rfl (qa1 (size:=9) (qs:=[(0,_)]) rfl rfl rfl ⟨⟨rfl,_,(er rfl),qa5⟩,trivial⟩ rf rf) ?_;exact z.out):B:=f ⟨h⟩
theorem Z90 {B:Prop} (h:B:=by exact rA (Bs:=[_]) results204 eR):B:=h
theorem Z98 {A B:Prop} (h:A) (f:Bx A→B:=by intro z;refine kR call41 (qhn _ _) ?_;refine t4 ?_;exact z.out):B:=f ⟨h⟩
theorem Z114 {B:Prop} (h:B:=by exact rA (Bs:=[_]) results206 eR):B:=h
variable {P:Program} {c:Ctx} {N:Nat} {E:Env} {L:List Item} {Q:Exit->Act->World->Prop}
theorem qax {x:Code} {ι:Type} (A:Env) (M:List Item) (I:ι->Prop) (F:ι->Env) (G:ι->List Item) (μ:ι->Nat) (i0:ι) (h0:I i0) (hE:ESub L E (F i0++A)) (hL:SubP (G i0++M) L)
  (round:∀ i,I i->JC P c N x (F i++A) (G i++M) (Exit.then (Round c N I (fun i=>F i++A) (fun i=>G i++M) μ (μ i)) Q)):JC P c N (Code.loop x) E L Q:=
 qbm I (fun i=>F i++A) (fun i=>G i++M) μ i0 h0 hE hL round
theorem qbw {x y:Code} {ι:Type} {Q':Exit->Act->World->Prop} (A:Env) (M:List Item) (I:ι->Prop) (F:ι->Env) (G:ι->List Item) (_hA:ESub L E A) (_hM:SubP M L) (h2:∀ i,I i->JC P c N y (F i++A) (G i++M) Q) (h1:JC P c N x E L (Exit.then (Meet c N I (fun i=>F i++A) (fun i=>G i++M)) Q')):JC P c N x E L (Exit.then (y.wp P Q) Q'):=
 qyd I (fun i=>F i++A) (fun i=>G i++M) h2 h1
section
variable {P:Program} {ops:Array Oper} {c:Ctx} {N:Nat} {L:List Item}
theorem LocOp.more {o:Oper} {A:Nat->Option Out} {F:Out} {kl:Option Tmp} {it:Item} (h:LocOp P ops c L o A F kl):LocOp P ops c (it::L) o A F kl:=fun φ a w K Q M hm ht hl hk =>
 h φ a w K Q M (hm.less (List.Sublist.append (List.Sublist.refl M) (List.sublist_cons_self it L))) ht hl hk
theorem SS.openT {A:Nat->Option Out} {φ:Fz} {a:Act} {w:World} {t:Tmp} {ι:Type} {val:ι->Value} {I:ι->Item} (h:SS c N A L φ a w) (ht:A t=some (.own val I)) :
  ∃ i,SS c N (fun s=>if s=t then some (.v (Is (val i))) else A s) (I i::L) φ a w:=by
 obtain ⟨β,hβ,hap⟩:=h.own;obtain ⟨⟨i,h1,h2⟩,h3,h4⟩:=hβ t ι val I ht;have key:∀ (s:Tmp) (ι':Type) (val':ι'->Value) (I':ι'->Item),(if s=t then some (Out.v (Is (val i))) else A s)=some (.own val' I')->s≠t∧A s=some (.own val' I'):=fun s ι' val' I' hs=>by
  by_cases e:s=t
  ·rw [if_pos e] at hs;cases hs
  ·rw [if_neg e] at hs;exact ⟨e,hs⟩
 refine ⟨i,h.defers,h.size,fun s B hB=>?_,⟨⟨h.mem.mem.base,fun it hi=>?_,List.pairwise_cons.2 ⟨fun y hy b hb hyb=>?_,h.mem.mem.sep⟩⟩,h.mem.kept,fun b hb=>?_,h.mem.old⟩,β,fun s ι' val' I' hs=>?_,fun s s' ι' ι'' val' I' val'' I'' hne hs hs'=>?_⟩
 ·by_cases e:s=t
  ·subst e;rw [if_pos rfl] at hB;injection hB with hB
   injection hB with hB
   subst hB;exact h1
  ·rw [if_neg e] at hB;exact h.env s B hB
 ·rcases List.mem_cons.1 hi with rfl|hi
  ·rw [<- h2];exact h3
  ·exact h.mem.mem.items it hi
 ·exact (h4 b (by rw [h2];exact hb)).2 (mem_names.2 ⟨y,hy,hyb⟩)
 ·obtain ⟨x,hx,hxb⟩:=mem_names.1 hb;rcases List.mem_cons.1 hx with rfl|hx
  ·exact (h4 b (by rw [h2];exact hxb)).1
  ·exact h.mem.mine b (mem_names.2 ⟨x,hx,hxb⟩)
 ·obtain ⟨e,hs⟩:=key s _ _ _ hs;obtain ⟨g1,g2,g3⟩:=hβ s ι' val' I' hs;refine ⟨g1,g2,fun b hb=>⟨(g3 b hb).1,fun hn=>?_⟩⟩;obtain ⟨x,hx,hxb⟩:=mem_names.1 hn;rcases List.mem_cons.1 hx with rfl|hx
  ·exact hap s t _ _ val' I' val I e hs ht b hb (by rw [h2];exact hxb)
  ·exact (g3 b hb).2 (mem_names.2 ⟨x,hx,hxb⟩)
 ·obtain ⟨_,hs⟩:=key s _ _ _ hs;obtain ⟨_,hs'⟩:=key s' _ _ _ hs';exact hap s s' _ _ val' I' val'' I'' hne hs hs'
def JWG (P:Program) (ops:Array Oper) (c:Ctx) (nd:List Nat) (G:Option Tmp->Prop) (K:EnvO->Prop) (k:Nat):Nat->List Oper->EnvO->List Item->Prop
 | 0,_,EO,_=>K EO
 | _+1,[],_,_=>False
 | n+1,o::rest,EO,L=>∃ F kl,G kl∧qlm ops nd k o (qci EO) kl∧LocOp P ops c L o (qci EO) F kl∧JWG P ops c nd G K (k+1) n rest (qk9 (qpx EO kl) (tgt o kl) F) L
theorem JWG.out {nd:List Nat} {G:Option Tmp->Prop} {K:EnvO->Prop}:∀ {n k:Nat} {rest:List Oper} {EO:EnvO},JWG P ops c nd G K k n rest EO L ->
  ∃ m:List Ent,m.length=n∧n<=rest.length∧(∀ i x,m[i]?=some x->x.i=k+i∧rest[i]?=some x.o∧G x.kl) ∧
   (∀ m1 x m2,m=m1++x::m2->LocOp P ops c L x.o (acc (fun _=>true) m1 (qci EO)) x.F x.kl∧qlm ops nd x.i x.o (acc (fun _=>true) m1 (qci EO)) x.kl)∧∃ E',qci E'=acc (fun _=>true) m (qci EO)∧K E'
 | 0,k,rest,EO,h=>⟨[],rfl,nZ _,fun i x hx=>by simp at hx,fun m1 x m2 hm=>by simp at hm,EO,rfl,h⟩
 | n+1,k,[],EO,h=>h.elim
 | n+1,k,o::rest,EO,⟨F,kl,hG,h0,h1,h2⟩=>by
  obtain ⟨m,e1,e0,e2,e3,E',e4,e5⟩:=JWG.out h2;have hA:qci (qk9 (qpx EO kl) (tgt o kl) F)=(⟨k,o,F,kl⟩:Ent).app (qci EO):=by rw [qj5,qkz];rfl
  rw [hA] at e3 e4;refine ⟨⟨k,o,F,kl⟩::m,by simp [e1],by simp;omega,fun i x hx=>?_,fun m1 x m2 hm=>?_,E',e4,e5⟩
  ·cases i with
   | zero=>simp at hx;subst hx;exact ⟨rfl,rfl,hG⟩
   | succ i =>
    obtain ⟨h3,h4,h5⟩:=e2 i x (by simpa using hx);exact ⟨om,by simpa using h4,h5⟩
  ·cases m1 with
   | nil =>
    simp only [List.nil_append,List.cons.injEq] at hm;obtain ⟨rfl,rfl⟩:=hm;exact ⟨h1,h0⟩
   | cons y m1 =>
    simp only [List.cons_append,List.cons.injEq] at hm;obtain ⟨rfl,hm⟩:=hm;exact e3 m1 x m2 hm
theorem zgf {p:Nat->Bool} {s:Nat}:∀ {m m':List Ent} {A:Nat->Option Out},m.length=m'.length->(∀ (j:Nat) (x x':Ent),m[j]?=some x->m'[j]?=some x'->x'.i=x.i∧∀ A B:Nat->Option Out,A s=B s->x.app A s=x'.app B s)->∀ {B:Nat->Option Out},A s=B s->acc p m A s=acc p m' B s
 | [],[],A,_,_,B,hA=>hA
 | [],_::_,A,h,_,B,hA=>by simp at h
 | _::_,[],A,h,_,B,hA=>by simp at h
 | x::m,x'::m',A,h,hx,B,hA=>by
  refine zgf (m:=m) (m':=m') (by simpa using h) (fun j y y' h1 h2=>hx (j+1) y y' (by simpa using h1) (by simpa using h2)) ?_;obtain ⟨e1,e2⟩:=hx 0 x x' (by simp) (by simp);rw [e1];cases p x.i
  ·exact hA
  ·exact e2 A B hA
theorem acc_at {p:Nat->Bool} {t d:Nat} {F:Out} (hp:p d=true):∀ {m:List Ent} {A:Nat->Option Out},(∀ x,x∈m->(x.i=d->∀ A,x.app A t=some F)∧(x.i≠d->¬ x.tch t))->(A t=some F∨∃ x,x∈m∧x.i=d)->acc p m A t=some F
 | [],A,_,h=>h.elim id fun ⟨x,hx,_⟩=>by cases hx
 | x::m,A,hm,h=>by
  refine acc_at hp (m:=m) (fun y hy=>hm y (List.mem_cons_of_mem _ hy)) ?_;by_cases hx:x.i=d
  ·refine .inl ?_;rw [hx,hp];exact (hm x (List.mem_cons_self ..)).1 hx A
  ·rcases h with h|⟨y,hy,hyd⟩
   ·refine .inl ?_;cases p x.i
    ·exact h
    ·exact (Ent.app_ne ((hm x (List.mem_cons_self ..)).2 hx)).trans h
   ·rcases List.mem_cons.1 hy with rfl|hy
    ·exact absurd hyd hx
    ·exact .inr ⟨y,hy,hyd⟩
section
variable {nd:List Nat} {G:Option Tmp->Prop} {K:EnvO->Prop} {k n:Nat} {rest:List Oper} {EO:EnvO} {t:Tmp} {op:Op} {ty:TypeId} {pos:String} {af:Array Edge}
end
end
section
variable {P:Program} {c:Ctx} {A:Nat->Option VP} {L:List Item} {d:Option Tmp} {ty:TypeId} {pos:String} {af:Array Edge} {g:Option (Nat×Bool)} {x y:Operand} {t e:TypeId} {α:Type}
end
section
variable {P:Program} {ops:Array Oper} {c:Ctx} {N:Nat} {L:List Item}
def inB (l:List Nat) (i:Nat):Bool:=l.any fun j=>Nat.beq j i
theorem inB_iff {l:List Nat} {i:Nat}:inB l i=true↔i∈l:=by
 unfold inB;rw [List.any_eq_true];constructor
 ·rintro ⟨j,h1,h2⟩;rw [<- Nat.eq_of_beq_eq_true h2];exact h1
 ·intro h;exact ⟨i,h,by simp⟩
structure FV (P:Program) (ops:Array Oper) (c:Ctx) (nd:List Nat) (L:List Item) (fr dn ks:List Nat) (m:List Ent) (A0:Nat->Option Out):Prop where
 at_:∀ x,x∈m->ops[x.i]?=some x.o
 dif:m.Pairwise (fun x y=>x.i≠y.i)
 ord:m.Pairwise (fun x y=>y.i<x.i->(qg7 nd x.i).testBit y.i=false)
 op:∀ m1 x m2,m=m1++x::m2->(inB dn x.i=false->LocOp P ops c L x.o (acc (fun _=>true) m1 A0) x.F x.kl∧(inB fr x.i=true->∀ L',LocOp P ops c L' x.o (acc (fun _=>true) m1 A0) x.F x.kl))∧qlm ops nd x.i x.o (acc (fun _=>true) m1 A0) x.kl
 kls:∀ x,x∈m->∀ s,x.kl=some s->s∈ks
structure FS (ops:Array Oper) (nd:List Nat) (dn:List Nat) (m:List Ent) (listed:Array Bool):Prop where
 cl:Cl ops nd listed
 done:∀ i,inB dn i=true->listed.getD i false=true
 only:∀ i,listed.getD i false=true->∃ x,x∈m∧x.i=i
@[reducible] def lst (listed:Array Bool):Nat->Bool:=fun i=>listed.getD i false
theorem fstep {Q:Exit->Act->World->Prop} {nd:List Nat} {fr dn ks:List Nat} {m:List Ent} {A0:Nat->Option Out} (hg:Good ops nd) (hN:qg0 (fun _ o=>qtd N o.dst) ops.toList 0=true) (hv:FV P ops c nd L fr dn ks m A0)
  {φ:Fz} {a:Act} {w:World} {listed:Array Bool} (hs:FS ops nd dn m listed) (st:SS c N (acc (lst listed) m A0) L φ a w) {x:Ent} (hxm:x∈m) (hi:x.i∈Region.ready .any ops listed) {u:Nat}
  (next:∀ φ' a' w',FS ops nd dn m (listed.setIfInBounds x.i true)->SS c N (acc (lst (listed.setIfInBounds x.i true)) m A0) L φ' a' w'->wpAny P .any ops Q u (listed.setIfInBounds x.i true) a' w') :
  wpOp P ops Q x.i (wpAny P .any ops Q u (listed.setIfInBounds x.i true)) a w:=by
 obtain ⟨i,hix⟩:∃ i,i=x.i:=⟨_,rfl⟩
 rw [<- hix] at hi next ⊢
 have ex1:x.i=i:=hix.symm;obtain ⟨hiu,oi,hoi,hiall⟩:=mem_ready.1 hi;have hilt:i<ops.size:=(Array.getElem?_eq_some_iff.1 hoi).1;have hc:=hs.cl;have hox:x.o=oi:=by
  have h1:=hv.at_ x hxm;rw [ex1] at h1;exact Option.some.inj (h1.symm.trans hoi)
 have hdi:inB dn i=false:=by
  cases hv':inB dn i with
  | false=>rfl
  | true=>have:=hs.done i hv';rw [qf5 hiu] at this;cases this
 obtain ⟨m1,m2,hsplit⟩:=List.append_of_mem hxm;have hiL:i<listed.size:=by rw [hc.size];exact hilt
 have hne:∀ y,y∈m1∨y∈m2->y.i≠i:=fun y hy=>by
  have h1:=hv.dif;rw [hsplit] at h1;obtain ⟨h2,h3,h4⟩:=List.pairwise_append.1 h1;rcases hy with hy|hy
  ·rw [<- ex1];exact h4 y hy x (List.mem_cons_self ..)
  ·rw [<- ex1];exact fun e=>(List.pairwise_cons.1 h3).1 y hy e.symm
 have hord1:∀ y,y∈m1->i<y.i->(qg7 nd y.i).testBit i=false:=fun y hy hlt=>by
  have h1:=hv.ord;rw [hsplit] at h1;have:=(List.pairwise_append.1 h1).2.2 y hy x (List.mem_cons_self ..);rw [ex1] at this;exact this hlt
 have hord2:∀ y,y∈m2->y.i<i->(qg7 nd i).testBit y.i=false:=fun y hy hlt=>by
  have h1:=hv.ord;rw [hsplit] at h1;have:=(List.pairwise_cons.1 (List.pairwise_append.1 h1).2.1).1 y hy;rw [ex1] at this;exact this hlt
 have hkm:∀ y,y∈m->∀ s,y.kl=some s->(s∈y.o.looksAt ops∨wrB y.o=true)∧∀ j x,ops[j]?=some x->s∈qce ops x∨(s ∉ y.o.looksAt ops∧wrB y.o=true∧wrB x=true)->j≠y.i->(y.i<j->(qg7 nd j).testBit y.i=true)∧(j<y.i->(qg7 nd y.i).testBit j=true):=fun y hy s hs=>by
   obtain ⟨p1,p2,hp12⟩:=List.append_of_mem hy;have:=(hv.op p1 y p2 hp12).2 s hs;exact ⟨this.1.1,this.2⟩
 have ordd:∀ y,y∈m->y.i≠i->ops[y.i]?=some y.o->(∃ t,y.tch t∧(t∈qce ops oi∨x.kl=some t))->(i<y.i->(qg7 nd y.i).testBit i=true)∧(y.i<i->(qg7 nd i).testBit y.i=true):=fun y hym hne h2 ⟨t,ht,htn⟩=>by
  rcases htn with htn|htn
  ·rcases ht with ht|ht
   ·have:=hg.ord y.i y.o t i oi h2 ht hoi htn (fun e=>hne e);exact ⟨this.2,this.1⟩
   ·have:=(hkm y hym t ht).2 i oi hoi (.inl htn) (fun e=>hne e.symm);exact ⟨this.2,this.1⟩
  ·have hx1:=hkm x hxm t htn;rw [hox,ex1] at hx1;rcases ht with ht|ht
   ·have:=hx1.2 y.i y.o h2 (.inl (List.mem_append_right _ (by rw [ht];simp))) hne;exact this
   ·by_cases htl:t∈qce ops y.o
    ·exact hx1.2 y.i y.o h2 (.inl htl) hne
    ·have hyd:wrB y.o=true:=(hkm y hym t ht).1.resolve_left fun e=>htl (List.mem_append_left _ e);by_cases htx:t∈qce ops oi
     ·have:=(hkm y hym t ht).2 i oi hoi (.inl htx) (fun e=>hne e.symm);exact ⟨this.2,this.1⟩
     ·have hxl:t ∉ oi.looksAt ops:=fun e=>htx (List.mem_append_left _ e);have hxd:wrB oi=true:=hx1.1.resolve_left hxl;exact hx1.2 y.i y.o h2 (.inr ⟨hxl,hxd,hyd⟩) hne
 have later:∀ y,y∈m2->(∃ t,y.tch t∧(t∈qce ops oi∨x.kl=some t))->listed.getD y.i false=false:=fun y hy ht=>by
  have hym:y∈m:=by rw [hsplit];exact List.mem_append_right _ (List.mem_cons_of_mem _ hy)
  have h1:=hne y (.inr hy);have h2:=hv.at_ y hym;cases hvv:listed.getD y.i false with
  | false=>rfl
  | true =>
   have h3:=ordd y hym h1 h2 ht;rcases Nat.lt_or_gt_of_ne h1 with h4|h4
   ·rw [hord2 y hy h4] at h3;exact absurd (h3.2 h4) (by simp)
   ·have h5:=hc.cl _ hvv i (h3.1 h4);rw [qf5 hiu] at h5;cases h5
 have earlier:∀ y,y∈m1->(∃ t,y.tch t∧(t∈qce ops oi∨x.kl=some t))->listed.getD y.i false=true:=fun y hy ht=>by
  have hym:y∈m:=by rw [hsplit];exact List.mem_append_left _ hy
  have h1:=hne y (.inl hy);have h2:=hv.at_ y hym;have h3:=ordd y hym h1 h2 ht;rcases Nat.lt_or_gt_of_ne h1 with h4|h4
  ·exact qcy hg hc hi (h3.2 h4)
  ·rw [hord1 y hy h4] at h3;exact absurd (h3.1 h4) (by simp)
 have hsame:∀ t,t∈oi.looksAt ops∨x.kl=some t->acc (lst listed) m A0 t=acc (fun _=>true) m1 A0 t:=fun t ht=>by
  have htn:t∈qce ops oi∨x.kl=some t:=ht.imp (List.mem_append_left _) id;rw [hsplit,qdt];have h1:acc (lst listed) (x::m2) (acc (lst listed) m1 A0) t=acc (lst listed) m1 A0 t:=by
   refine qjg fun y hy hyt=>?_;rcases List.mem_cons.1 hy with rfl|hy
   ·show listed.getD y.i false=false;rw [ex1];exact qf5 hiu
   ·exact later y hy ⟨t,hyt,htn⟩
  rw [h1];exact qea rfl fun y hy hyt=>earlier y hy ⟨t,hyt,htn⟩
 have hloc:LocOp P ops c L oi (acc (lst listed) m A0) x.F x.kl:=by
  have h0:=((hv.op m1 x m2 hsplit).1 (by rw [ex1];exact hdi)).1;rw [hox] at h0;exact h0.congr hsame
 have hkok:∀ s,x.kl=some s->(s∈oi.looksAt ops∨wrB oi=true)∧∃ (ι:Type) (val:ι->Value) (I:ι->Item),acc (lst listed) m A0 s=some (.own val I):=fun s hs=>by
  obtain ⟨⟨h1,ι,val,I,h2⟩,_⟩:=(hv.op m1 x m2 hsplit).2 s hs;rw [hox] at h1;exact ⟨h1,ι,val,I,by rw [hsame s (.inr hs)];exact h2⟩
 have hget:∀ j,j≠i->(listed.setIfInBounds i true).getD j false=listed.getD j false:=fun j hj=>getD_set_ne false (Ne.symm hj);have hiT:(listed.setIfInBounds i true).getD i false=true:=by simp [hiL]
 have hacc:∀ t,qug (qgr (acc (lst listed) m A0) x.kl) (tgt oi x.kl) x.F t=acc (lst (listed.setIfInBounds i true)) m A0 t:=fun t=>by
  have happ:qug (qgr (acc (lst listed) m A0) x.kl) (tgt oi x.kl) x.F=x.app (acc (lst listed) m A0):=by unfold Ent.app;rw [hox]
  rw [happ];by_cases hd:x.tch t
  ·rw [hsplit,qdt,qdt];simp only [acc];rw [ex1,show lst (listed.setIfInBounds i true) i=true from hiT];simp only [cond_true];have hnm:t∈qce ops oi∨x.kl=some t:=by
    rcases hd with hd|hd
    ·rw [hox] at hd;exact .inl (by unfold qce;rw [hd];simp)
    ·exact .inr hd
   have h2:acc (lst (listed.setIfInBounds i true)) m2 (x.app (acc (lst (listed.setIfInBounds i true)) m1 A0)) t=x.app (acc (lst (listed.setIfInBounds i true)) m1 A0) t:=by
    refine qjg fun y hy hyt=>?_;show (listed.setIfInBounds i true).getD y.i false=false;rw [hget y.i (hne y (.inr hy))];exact later y hy ⟨t,hyt,hnm⟩
   rw [h2];exact Ent.app_same (.inl hd)
  ·rw [Ent.app_ne hd];refine qea rfl fun y hy hyt=>(hget y.i fun hyi=>?_).symm;rw [hsplit] at hy;rcases List.mem_append.1 hy with hy|hy
   ·exact hne y (.inl hy) hyi
   ·rcases List.mem_cons.1 hy with rfl|hy
    ·exact hd hyt
    ·exact hne y (.inr hy) hyi
 have hfs:FS ops nd dn m (listed.setIfInBounds i true):=by
  refine ⟨hc.set hg hi,fun j hj=>?_,fun j hj=>?_⟩
  ·by_cases hji:j=i
   ·subst hji;exact hiT
   ·rw [hget j hji];exact hs.done j hj
  ·by_cases hji:j=i
   ·subst hji;exact ⟨x,hxm,ex1⟩
   ·rw [hget j hji] at hj;exact hs.only j hj
 obtain ⟨M,hM1,hM2,hM3⟩:=SS.takes (ops:=ops) (o:=oi) (kl:=x.kl) st hkok;have hnext:∀ φ' v w',x.F.post M φ w φ' (res oi x.kl a v) w'->wpAny P .any ops Q u (listed.setIfInBounds i true) (a.put oi.dst v) w':=fun φ' v w' hpost=>by
  have h9:=(hM3 (tgt oi x.kl) x.F φ' (res oi x.kl a v) w' (fun t ht=>?_) hpost).congr hacc
  ·rw [zdq] at h9;exact next φ' _ w' hfs h9
  ·cases hd:oi.dst with
   | some d =>
    rw [qg3 hd] at ht;injection ht with ht
    subst ht;have:=qdb hN i oi (by simpa using hoi);exact .inl (qe2 this _ hd)
   | none =>
    rw [qt0 hd] at ht;rw [ht,qyy hd];exact .inr rfl
 have hfin:=hloc φ a w _ Q M hM1 hM2 (fun t ht B hB=>by
  cases hA:acc (lst listed) m A0 t with
  | none=>rw [hA] at hB;cases hB
  | some D =>
   rw [hA] at hB;cases D with
   | v D => obtain rfl : D = B := by simpa [Out.toV] using hB
            exact st.env t D hA
   | own val I=>cases hB) hnext
 unfold wpOp;simp only [hoi];split
 ·rename_i hw;rw [hw] at hfin;exact .inl (by simpa using hfin)
 ·rename_i hw;have hw':Region.wanted oi (yielded ops a.tmps)=false:=by simpa using hw
  rw [hw'] at hfin;have hidle:x.kl=none∧x.F.idle φ:=by simpa using hfin
  have hM0:M=[]:=by rw [hidle.1] at hM2;exact hM2
  subst hM0;refine hnext φ undef w ?_;rw [hidle.1,qf3];cases hF:x.F with
  | v F=>rw [hF] at hidle;exact ⟨HP.start (L:=[]) ⟨st.mem.mem.base,by simp,List.Pairwise.nil⟩,hidle.2⟩
  | own val I=>rw [hF] at hidle;exact hidle.2.elim
theorem frun {Q:Exit->Act->World->Prop} {nd:List Nat} {fr dn ks:List Nat} {m:List Ent} {A0:Nat->Option Out} (hg:Good ops nd) (hN:qg0 (fun _ o=>qtd N o.dst) ops.toList 0=true) (hv:FV P ops c nd L fr dn ks m A0)
  (exit:∀ φ a w listed,FS ops nd dn m listed->SS c N (acc (lst listed) m A0) L φ a w->wpAny P .any ops Q (unl ops.size listed) listed a w ∨
   ((Region.ready .any ops listed=[]->Q .normal a w)∧∀ i,i∈Region.ready .any ops listed->(∀ x,x∈m->x.i≠i)->wpOp P ops Q i (wpAny P .any ops Q (unl ops.size (listed.setIfInBounds i true)) (listed.setIfInBounds i true)) a w)) :
  ∀ (u:Nat) (φ:Fz) (a:Act) (w:World) (listed:Array Bool),unl ops.size listed=u->FS ops nd dn m listed->SS c N (acc (lst listed) m A0) L φ a w->wpAny P .any ops Q u listed a w:=by
 intro u;induction u with
 | zero =>
  intro φ a w listed hu hs st;rcases exit φ a w listed hs st with h|⟨h1,h2⟩
  ·rw [hu] at h;exact h
  ·have hall:=qsd hu;have hr:Region.ready .any ops listed=[]:=by
    cases hr:Region.ready .any ops listed with
    | nil=>rfl
    | cons i l =>
     exfalso;have hm:i∈Region.ready .any ops listed:=by rw [hr];exact List.mem_cons_self ..
     obtain ⟨h3,o,ho,_⟩:=mem_ready.1 hm;rw [hall i (Array.getElem?_eq_some_iff.1 ho).1] at h3;cases h3
   exact ⟨hr,h1 hr⟩
 | succ u ih =>
  intro φ a w listed hu hs st;rcases exit φ a w listed hs st with h|⟨h1,h2⟩
  ·rw [hu] at h;exact h
  ·refine ⟨h1,fun i hi=>?_⟩;obtain ⟨hiu,oi,hoi,_⟩:=mem_ready.1 hi;have hilt:i<ops.size:=(Array.getElem?_eq_some_iff.1 hoi).1;have hunl:unl ops.size (listed.setIfInBounds i true)=u:=by
    have:=qpb (by rw [hs.cl.size];exact hilt) hiu hilt;omega
   by_cases hx:∃ x,x∈m∧x.i=i
   ·obtain ⟨x,hxm,rfl⟩:=hx;exact fstep hg hN hv hs st hxm hi fun φ' a' w' hs' st'=>ih φ' a' w' _ hunl hs' st'
   ·have:=h2 i hi fun x hxm e=>hx ⟨x,hxm,e⟩;rw [hunl] at this;exact this
theorem SS.bar {A:Nat->Option Out} {φ φ':Fz} {a:Act} {w w':World} {L':List Item} {d:Option Tmp} {F:VP} {v:Value} (h:SS c N A L φ a w) (hd:∀ t,d=some t->t<N) (hp:HP ⟨w,φ,qbr L,[]⟩ φ' L' w') (hF:F.ok φ' v):SS c N (qug A d (.v F)) L' φ' (a.put d v) w':=by
 have hle:Fle φ φ':=hp.fle h.mem.mem.base;have hmem:HP c φ' L' w':=by
  have:=HP.call (L:=L) (M:=[]) (by rw [List.append_nil];exact h.mem) hp
  rwa [List.append_nil] at this
 obtain ⟨β,hβ,hap⟩:=h.own;have key:∀ (t:Tmp) (o:Out),qug A d (.v F) t=some o->(d=some t∧o = .v F)∨(d≠some t∧A t=some o):=fun t o ht=>by
  by_cases e:d=some t
  ·rw [e,qgc] at ht;injection ht with ht
   exact .inl ⟨e,ht.symm⟩
  ·rw [qef e] at ht;exact .inr ⟨e,ht⟩
 refine ⟨by rw [Act.put_defs];exact h.defers,by rw [Act.put_size];exact h.size,fun t B ht=>?_,hmem,β,fun t ι val I ht=>?_,fun t t' ι ι' val I val' I' hne ht ht'=>?_⟩
 ·rcases key t _ ht with ⟨e,e2⟩|⟨e,ht⟩
  ·injection e2 with e2
   subst e2 e;rw [qj1 (.inl (by rw [h.size];exact hd t rfl))];exact hF
  ·rw [qit e];exact B.mono hle (h.env t B ht)
 ·rcases key t _ ht with ⟨e,e2⟩|⟨e,ht⟩
  ·cases e2
  ·obtain ⟨h1,⟨h2,h3⟩,h4⟩:=hβ t ι val I ht;refine ⟨by rw [qit e];exact h1,⟨?_,fun b hb=>?_⟩,fun b hb=>⟨(h4 b hb).1,fun hn=>?_⟩⟩
   ·cases hat:(β t).at_ with
    | none=>rw [hat] at h2;exact (β t).mono hle h2
    | some b =>
     have h5:=(h3 b hat).1;have h6:=(h4 b hat).2;rw [hat] at h2;simp only [Option.bind_some] at h2 ⊢;rw [hp.kept.block b h5 h6];exact (β t).mono hle h2
   ·refine ⟨Nat.lt_of_lt_of_le (h3 b hb).1 hp.kept.size,fun i=>?_⟩;rw [hp.old b i (h3 b hb).1];exact (h3 b hb).2 i
   ·rcases hp.mine b hn with h5|h5
    ·exact absurd (h3 b hb).1 (Nat.not_lt.2 h5)
    ·exact (h4 b hb).2 h5
 ·rcases key t _ ht with ⟨e,e2⟩|⟨e,ht⟩
  ·cases e2
  ·rcases key t' _ ht' with ⟨e',e2'⟩|⟨e',ht'⟩
   ·cases e2'
   ·exact hap t t' _ _ val I val' I' hne ht ht'
def JF (P:Program) (ops:Array Oper) (Q:Exit->Act->World->Prop) (c:Ctx) (N:Nat) (nd:List Nat) (fr dn ks mi:List Nat) (EO:EnvO) (L:List Item):Prop:=
 Good ops nd->qg0 (fun _ o=>qtd N o.dst) ops.toList 0=true->∀ m A0,FV P ops c nd L fr dn ks m A0->(∀ i,inB mi i=true↔∃ x,x∈m∧x.i=i)->acc (fun _=>true) m A0=qci EO ->
  ∀ φ a w listed,FS ops nd dn m listed->SS c N (acc (lst listed) m A0) L φ a w->wpAny P .any ops Q (unl ops.size listed) listed a w
theorem zat {α:Type _} {m m1 m2:List α} {e x:α} (h:m++[e]=m1++x::m2):(m1=m∧x=e∧m2=[])∨∃ m3,m2=m3++[e]∧m=m1++x::m3:=by
 rcases List.eq_nil_or_concat m2 with rfl|⟨m3,y,rfl⟩
 ·have:=List.append_inj' h rfl;obtain ⟨h1,h2⟩:=this;injection h2 with h2
  exact .inl ⟨h1.symm,h2.symm,rfl⟩
 ·have h':m++[e]=(m1++x::m3)++[y]:=by rw [h];simp
  obtain ⟨h1,h2⟩:=List.append_inj' h' rfl;injection h2 with h2
  exact .inr ⟨m3,by rw [h2];simp,h1⟩
def newB (nd mi:List Nat) (i:Nat):Bool:=!inB mi i&&mi.all fun j=>!Nat.blt i j || !(qg7 nd j).testBit i
section
variable {Q:Exit->Act->World->Prop} {nd:List Nat} {fr dn ks mi:List Nat} {EO:EnvO}
theorem FV.snoc {m:List Ent} {A0:Nat->Option Out} {e:Ent} {fr' dn' ks':List Nat} {L':List Item} (hv:FV P ops c nd L fr dn ks m A0) (ha:ops[e.i]?=some e.o) (hd:∀ x,x∈m->x.i≠e.i) (ho:∀ x,x∈m->e.i<x.i->(qg7 nd x.i).testBit e.i=false)
  (hL:∀ x,x∈m->∀ m1,inB dn' x.i=false->inB dn x.i=false∧((LocOp P ops c L x.o (acc (fun _=>true) m1 A0) x.F x.kl∧(inB fr x.i=true->∀ L'',LocOp P ops c L'' x.o (acc (fun _=>true) m1 A0) x.F x.kl))->(LocOp P ops c L' x.o (acc (fun _=>true) m1 A0) x.F x.kl∧(inB fr' x.i=true->∀ L'',LocOp P ops c L'' x.o (acc (fun _=>true) m1 A0) x.F x.kl))))
  (he:inB dn' e.i=false->LocOp P ops c L' e.o (acc (fun _=>true) m A0) e.F e.kl∧(inB fr' e.i=true->∀ L'',LocOp P ops c L'' e.o (acc (fun _=>true) m A0) e.F e.kl)) (hk:qlm ops nd e.i e.o (acc (fun _=>true) m A0) e.kl)
  (hks:∀ s,s∈ks->s∈ks') (hke:∀ s,e.kl=some s->s∈ks'):FV P ops c nd L' fr' dn' ks' (m++[e]) A0:=by
 refine ⟨fun x hx=>?_,List.pairwise_append.2 ⟨hv.dif,List.pairwise_singleton _ _,fun x hx y hy=>?_⟩,List.pairwise_append.2 ⟨hv.ord,List.pairwise_singleton _ _,fun x hx y hy=>?_⟩,fun m1 x m2 hm=>?_,fun x hx s hs=>?_⟩
 ·rcases List.mem_append.1 hx with hx|hx
  ·exact hv.at_ x hx
  ·rw [List.mem_singleton] at hx;subst hx;exact ha
 ·rw [List.mem_singleton] at hy;subst hy;exact hd x hx
 ·rw [List.mem_singleton] at hy;subst hy;exact ho x hx
 ·rcases zat hm with ⟨rfl,rfl,rfl⟩|⟨m3,rfl,hm'⟩
  ·exact ⟨he,hk⟩
  ·have hx:x∈m:=by rw [hm'];exact List.mem_append_right _ (List.mem_cons_self ..)
   obtain ⟨h1,h2⟩:=hv.op m1 x m3 hm';refine ⟨fun hdn=>?_,h2⟩;obtain ⟨h3,h4⟩:=hL x hx m1 hdn;exact h4 (h1 h3)
 ·rcases List.mem_append.1 hx with hx|hx
  ·exact hks _ (hv.kls x hx s hs)
  ·rw [List.mem_singleton] at hx;subst hx;exact hke s hs
theorem qxf {m:List Ent} {e:Ent} (h:∀ i,inB mi i=true↔∃ x,x∈m∧x.i=i):∀ i,inB (e.i::mi) i=true↔∃ x,x∈m++[e]∧x.i=i:=fun i=>by
 constructor
 ·intro hi;rcases List.mem_cons.1 (inB_iff.1 hi) with rfl|hi
  ·exact ⟨e,List.mem_append_right _ (List.mem_singleton.2 rfl),rfl⟩
  ·obtain ⟨x,h1,h2⟩:=(h i).1 (inB_iff.2 hi);exact ⟨x,List.mem_append_left _ h1,h2⟩
 ·rintro ⟨x,hx,rfl⟩;refine inB_iff.2 ?_;rcases List.mem_append.1 hx with hx|hx
  ·exact List.mem_cons_of_mem _ (inB_iff.1 ((h x.i).2 ⟨x,hx,rfl⟩))
  ·rw [List.mem_singleton] at hx;subst hx;exact List.mem_cons_self ..
theorem qqi {i:Nat} {o:Oper} {F:Out} {kl:Option Tmp} (fr':List Nat) (hi:ops[i]?=some o) (hB:newB nd mi i=true) (hk:qlm ops nd i o (qci EO) kl) (hl:LocOp P ops c L o (qci EO) F kl) (hf:fr'=fr∧inB fr i=false∨fr'=i::fr∧∀ L',LocOp P ops c L' o (qci EO) F kl)
  (h:JF P ops Q c N nd fr' dn (kl.toList++ks) (i::mi) (qk9 (qpx EO kl) (tgt o kl) F) L):JF P ops Q c N nd fr dn ks mi EO L:=by
 intro hg hN m A0 hv hmi hacc φ a w listed hs st;unfold newB at hB;simp only [Bool.and_eq_true] at hB;obtain ⟨hB1,hB2⟩:=hB;have hnew:∀ x,x∈m->x.i≠i:=fun x hx e=>by
  have:=(hmi x.i).2 ⟨x,hx,rfl⟩;rw [e] at this;rw [this] at hB1;cases hB1
 have hun:listed.getD i false=false:=by
  cases hv':listed.getD i false with
  | false=>rfl
  | true =>
   obtain ⟨x,h1,h2⟩:=hs.only i hv';exact absurd h2 (hnew x h1)
 have hfr:∀ x,x∈m->inB fr' x.i=true->inB fr x.i=true:=fun x hx hx'=>by
  rcases hf with ⟨e,_⟩|⟨e,_⟩
  ·rw [e] at hx';exact hx'
  ·rw [e] at hx';rcases List.mem_cons.1 (inB_iff.1 hx') with h1|h1
   ·exact absurd h1 (hnew x hx)
   ·exact inB_iff.2 h1
 refine h hg hN (m++[⟨i,o,F,kl⟩]) A0 (hv.snoc hi hnew (fun x hx hlt=>?_) (fun x hx m1 hd=>⟨hd,fun h1=>⟨h1.1,fun h2=>h1.2 (hfr x hx h2)⟩⟩) (fun _=>⟨by rw [hacc];exact hl,fun h1=>?_⟩) (by rw [hacc];exact hk) (fun s hs=>List.mem_append_right _ hs) (fun s hs=>?_)) (qxf (e:=⟨i,o,F,kl⟩) hmi) ?_ φ a w listed ⟨hs.cl,hs.done,fun j hj=>?_⟩ (st.congr fun t=>?_)
 ·have h1:=List.all_eq_true.1 hB2 x.i (inB_iff.1 ((hmi x.i).2 ⟨x,hx,rfl⟩));have h2:Nat.blt i x.i=true:=by simpa using hlt
  rw [h2] at h1
  simpa using h1
 ·rw [hacc];rcases hf with ⟨e,h2⟩|⟨e,h2⟩
  ·have h1':inB fr' i=true:=h1;rw [e,h2] at h1';cases h1'
  ·exact h2
 ·have hs':kl=some s:=hs;rw [hs'];exact List.mem_append_left _ (by simp)
 ·rw [qdt,hacc,qj5,qkz];rfl
 ·obtain ⟨x,h1,h2⟩:=hs.only j hj;exact ⟨x,List.mem_append_left _ h1,h2⟩
 ·rw [qdt];refine (qjg fun x hx _=>?_).symm;rw [List.mem_singleton] at hx;subst hx;exact hun
def barB (ops:Array Oper) (nd fr dn dn' mi:List Nat) (i:Nat):Bool:=
 !inB mi i&&(mi.all fun j=>!(qg7 nd j).testBit i)&&((List.range ops.size).all fun j=>inB mi j||Nat.beq j i||(qg7 nd j).testBit i) &&
  (dn'.all fun j=>Nat.beq j i||inB dn j||(qg7 nd i).testBit j)&&(mi.all fun j=>inB dn' j||inB fr j)&&inB dn' i&&(dn.all fun j=>inB dn' j)
theorem JF_bar {i:Nat} {o:Oper} {ι:Type} {F:ι->VP} {L':ι->List Item} (dn':List Nat) (hi:ops[i]?=some o) (hgd:o.guard=none) (hB:barB ops nd fr dn dn' mi i=true) (hs:∀ c':Ctx,OpS P c' o (vals EO) L F L')
  (h:∀ z,JF P ops Q c N nd fr dn' ks (i::mi) (qk9 EO o.dst (.v (F z))) (L' z)):JF P ops Q c N nd fr dn ks mi EO L:=by
 intro hg hN m A0 hv hmi hacc φ a w listed hfs st;unfold barB at hB;simp only [Bool.and_eq_true] at hB;obtain ⟨⟨⟨⟨⟨⟨hB1,hB2⟩,hB3⟩,hB4⟩,hB5⟩,hB6⟩,hB7⟩:=hB;have hilt:i<ops.size:=(Array.getElem?_eq_some_iff.1 hi).1;have hnew:∀ x,x∈m->x.i≠i:=fun x hx e=>by
  have:=(hmi x.i).2 ⟨x,hx,rfl⟩;rw [e] at this;rw [this] at hB1;cases hB1
 have hnn:∀ x,x∈m->(qg7 nd x.i).testBit i=false:=fun x hx=>by
  have:=List.all_eq_true.1 hB2 x.i (inB_iff.1 ((hmi x.i).2 ⟨x,hx,rfl⟩))
  simpa using this
 refine frun hg hN hv (fun φ a w listed hfs st=>.inr ⟨fun hr=>?_,fun j hj hjm=>?_⟩) _ φ a w listed rfl hfs st
 ·have hun:listed.getD i true=false:=by
   cases hv':listed.getD i true with
   | false=>rfl
   | true =>
    have h1:listed.getD i false=true:=by
     have:i<listed.size:=by rw [hfs.cl.size];exact hilt
     simp [this] at hv' ⊢;exact hv'
    obtain ⟨x,h2,h3⟩:=hfs.only i h1;exact absurd h3 (hnew x h2)
  obtain ⟨i0,h1,h2,h3⟩:=qdc (listed:=listed) ops.size ⟨i,hilt,hun⟩;have:=qfm hg hfs.cl.size h1 h2 h3;rw [hr] at this;cases this
 ·have hun:listed.getD i false=false:=by
   cases hv':listed.getD i false with
   | false=>rfl
   | true =>
    obtain ⟨x,h2,h3⟩:=hfs.only i hv';exact absurd h3 (hnew x h2)
  have hji:j=i:=by
   obtain ⟨_,oj,hoj,_⟩:=mem_ready.1 hj;have h1:=List.all_eq_true.1 hB3 j (List.mem_range.2 (Array.getElem?_eq_some_iff.1 hoj).1);simp only [Bool.or_eq_true] at h1;rcases h1 with (h1|h1)|h1
   ·obtain ⟨x,h2,h3⟩:=(hmi j).1 h1;exact absurd h3 (hjm x h2)
   ·exact Nat.eq_of_beq_eq_true h1
   ·have:=qcy hg hfs.cl hj h1;rw [hun] at this;cases this
  subst hji;unfold wpOp;simp only [hi];rw [if_pos (by simp [Region.wanted,hgd])];refine .inl (hs ⟨w,φ,qbr L,[]⟩ φ a w _ Q (HP.start st.mem.mem) (evs (ops:=ops) st.mem.mem.facts fun t ht B hB=>?_) fun z φ' v w' hle hF hp=>?_)
  ·have h1:acc (lst listed) m A0 t=qci EO t:=by
    rw [<- hacc];refine qea rfl fun y hy hyt=>?_;show listed.getD y.i false=true;have hyo:=hv.at_ y hy;have hne:=hnew y hy;have h2:(y.i<j->(qg7 nd j).testBit y.i=true)∧(j<y.i->(qg7 nd y.i).testBit j=true):=by
     rcases hyt with hyt|hyt
     ·exact hg.ord y.i y.o t j o hyo hyt hi (List.mem_append_left _ ht) hne
     ·obtain ⟨p1,p2,hp12⟩:=List.append_of_mem hy;have h3:=((hv.op p1 y p2 hp12).2 t hyt).2 j o hi (.inl (List.mem_append_left _ ht)) (Ne.symm hne);exact h3
    rcases Nat.lt_or_gt_of_ne hne with h3|h3
    ·exact qcy hg hfs.cl hj (h2.1 h3)
    ·have:=h2.2 h3;rw [hnn y hy] at this;cases this
   cases hA:qci EO t with
   | none=>rw [hA] at hB;cases hB
   | some D =>
    rw [hA] at hB h1;cases D with
    | v D => obtain rfl : D = B := by simpa [Out.toV] using hB
             exact st.env t D h1
    | own val I=>cases hB
  ·have hcl:=hfs.cl.set hg hj;have hjl:j<listed.size:=by rw [hfs.cl.size];exact hilt
   have hjT:(listed.setIfInBounds j true).getD j false=true:=by simp [hjl]
   have hget:∀ q,q≠j->(listed.setIfInBounds j true).getD q false=listed.getD q false:=fun q hq=>getD_set_ne false (Ne.symm hq);have hdst:∀ t,o.dst=some t->t<N:=by
    have:=qdb hN j o (by simpa using hi);exact qe2 this
   refine h z hg hN (m++[⟨j,o,.v (F z),none⟩]) A0 (hv.snoc hi hnew (fun x hx _=>hnn x hx) (fun x hx m1 hd=>?_) (fun hd=>?_) qd2 (fun s hs=>hs) (fun s hs=>by cases hs)) (qxf (e:=⟨j,o,.v (F z),none⟩) hmi) ?_ φ' _ w' _ ⟨hcl,fun q hq=>?_,fun q hq=>?_⟩ ((st.bar hdst hp hF).congr fun t=>?_)
   ·have hdx:inB dn x.i=false:=by
     cases hv':inB dn x.i with
     | false=>rfl
     | true=>have:=List.all_eq_true.1 hB7 x.i (inB_iff.1 hv');rw [hd] at this;cases this
    refine ⟨hdx,fun h1=>?_⟩;have h2:=List.all_eq_true.1 hB5 x.i (inB_iff.1 ((hmi x.i).2 ⟨x,hx,rfl⟩));rw [hd,Bool.false_or] at h2;exact ⟨h1.2 h2 _,h1.2⟩
   ·have hd':inB dn' j=false:=hd;rw [hB6] at hd';cases hd'
   ·rw [qdt,hacc,qj5];show Ent.app _ _=_;unfold Ent.app qgr;dsimp only;rw [qkq];simp
   ·by_cases hqj:q=j
    ·subst hqj;exact hjT
    ·rw [hget q hqj];have h1:=List.all_eq_true.1 hB4 q (inB_iff.1 hq);simp only [Bool.or_eq_true] at h1;rcases h1 with (h1|h1)|h1
     ·exact absurd (Nat.eq_of_beq_eq_true h1) hqj
     ·exact hfs.done q h1
     ·exact qcy hg hfs.cl hj h1
   ·by_cases hqj:q=j
    ·subst hqj;exact ⟨_,List.mem_append_right _ (List.mem_singleton.2 rfl),rfl⟩
    ·rw [hget q hqj] at hq;obtain ⟨x,h1,h2⟩:=hfs.only q hq;exact ⟨x,List.mem_append_left _ h1,h2⟩
   ·rw [qdt];have h1:acc (lst (listed.setIfInBounds j true)) [⟨j,o,.v (F z),none⟩] (acc (lst (listed.setIfInBounds j true)) m A0)=(⟨j,o,.v (F z),none⟩:Ent).app (acc (lst (listed.setIfInBounds j true)) m A0):=by
     show (bif lst (listed.setIfInBounds j true) j then _ else _)=_;rw [show lst (listed.setIfInBounds j true) j=true from hjT];rfl
    rw [h1];have h2:∀ t,acc (lst (listed.setIfInBounds j true)) m A0 t=acc (lst listed) m A0 t:=fun t=>qea rfl fun x hx _=>hget x.i (hnew x hx);unfold Ent.app;dsimp only;rw [qkq];by_cases hdt:o.dst=some t
    ·rw [hdt,qgc,qgc]
    ·rw [qef hdt,qef hdt,<- h2 t];unfold qgr;simp
theorem JF_end (hB:((List.range ops.size).all fun j=>inB mi j)=true) (hb:qtk EO []=true) (h:opn EO fun E M=>JQ c N E (M++L) Q .normal):JF P ops Q c N nd fr dn ks mi EO L:=by
 intro hg hN m A0 hv hmi hacc φ a w listed hfs st;refine frun hg hN hv (fun φ a w listed hfs st=>.inr ⟨fun hr=>?_,fun j hj hjm=>?_⟩) _ φ a w listed rfl hfs st
 ·have hall:∀ x,x∈m->listed.getD x.i false=true:=fun x hx=>by
   have hlt:=(Array.getElem?_eq_some_iff.1 (hv.at_ x hx)).1;cases hv':listed.getD x.i false with
   | true=>rfl
   | false =>
    have h1:listed.getD x.i true=false:=by
     have:x.i<listed.size:=by rw [hfs.cl.size];exact hlt
     simp [this] at hv' ⊢;exact hv'
    obtain ⟨i0,h1,h2,h3⟩:=qdc (listed:=listed) ops.size ⟨x.i,hlt,h1⟩;have:=qfm hg hfs.cl.size h1 h2 h3;rw [hr] at this;cases this
  have st':=st.congr (B:=qci EO) fun t=>by
   rw [<- hacc];exact qea rfl fun x hx _=>hall x hx
  obtain ⟨E,M,h1,h2⟩:=st'.open_ hb h;exact h1 φ a w h2
 ·exfalso;obtain ⟨_,oj,hoj,_⟩:=mem_ready.1 hj;have h1:=List.all_eq_true.1 hB j (List.mem_range.2 (Array.getElem?_eq_some_iff.1 hoj).1);obtain ⟨x,h2,h3⟩:=(hmi j).1 h1;exact hjm x h2 h3
def nameB (ops:Array Oper) (nd ks mi:List Nat) (d t:Nat):Bool:=
 inB mi d&&((List.range ops.size).all fun j=>inB mi j||(qg7 nd j).testBit d)&&(mi.all fun j=>Nat.beq j d || !(match ops[j]? with|some x=>(qce ops x).any (fun s=>Nat.beq s t)|none=>false)) && !inB ks t
theorem qe4 {ι:Type} {val:ι->Value} {I:ι->Item} (t d:Nat) (hB:nameB ops nd ks mi d t=true) (hd:((ops[d]?).bind (·.dst))=some t) (hl:qci EO t=some (.own val I))
  (h:∀ i,JF P ops Q c N nd fr (d::dn) ks mi ((t,.v (Is (val i)))::qpx EO (some t)) (I i::L)):JF P ops Q c N nd fr dn ks mi EO L:=by
 intro hg hN m A0 hv hmi hacc φ a w listed hfs st;unfold nameB at hB;simp only [Bool.and_eq_true] at hB;obtain ⟨⟨⟨hB1,hB2⟩,hB3⟩,hB4⟩:=hB;obtain ⟨xd,hxd1,hxd2⟩:=(hmi d).1 hB1;have hdlt:d<ops.size:=by rw [<- hxd2];exact (Array.getElem?_eq_some_iff.1 (hv.at_ xd hxd1)).1
 have hto:∀ x,x∈m->x.tch t->x.i=d:=fun x hx ht=>by
  rcases ht with ht|ht
  ·have h1:=List.all_eq_true.1 hB3 x.i (inB_iff.1 ((hmi x.i).2 ⟨x,hx,rfl⟩));rw [hv.at_ x hx] at h1;simp only [Bool.or_eq_true] at h1;rcases h1 with h1|h1
   ·exact Nat.eq_of_beq_eq_true h1
   ·have h2:((qce ops x.o).any fun s=>Nat.beq s t)=true:=List.any_eq_true.2 ⟨t,List.mem_append_right _ (by rw [ht];simp),by simp⟩;rw [h2] at h1;cases h1
  ·have h1:=inB_iff.2 (hv.kls x hx t ht);rw [h1] at hB4;cases hB4
 have hnl:∀ x,x∈m->x.i≠d->t ∉ qce ops x.o:=fun x hx hne h2=>by
  have h1:=List.all_eq_true.1 hB3 x.i (inB_iff.1 ((hmi x.i).2 ⟨x,hx,rfl⟩));rw [hv.at_ x hx] at h1;simp only [Bool.or_eq_true] at h1;rcases h1 with h1|h1
  ·exact hne (Nat.eq_of_beq_eq_true h1)
  ·have h2:((qce ops x.o).any fun s=>Nat.beq s t)=true:=List.any_eq_true.2 ⟨t,h2,by simp⟩;rw [h2] at h1;cases h1
 refine frun hg hN hv (fun φ a w listed hfs st=>?_) _ φ a w listed rfl hfs st;cases hld:listed.getD d false with
 | false =>
  refine .inr ⟨fun hr=>?_,fun j hj hjm=>?_⟩
  ·have h1:listed.getD d true=false:=by
    have:d<listed.size:=by rw [hfs.cl.size];exact hdlt
    simp [this] at hld ⊢;exact hld
   obtain ⟨i0,h1,h2,h3⟩:=qdc (listed:=listed) ops.size ⟨d,hdlt,h1⟩;have:=qfm hg hfs.cl.size h1 h2 h3;rw [hr] at this;cases this
  ·exfalso;obtain ⟨_,oj,hoj,_⟩:=mem_ready.1 hj;have h1:=List.all_eq_true.1 hB2 j (List.mem_range.2 (Array.getElem?_eq_some_iff.1 hoj).1);simp only [Bool.or_eq_true] at h1;rcases h1 with h1|h1
   ·obtain ⟨x,h2,h3⟩:=(hmi j).1 h1;exact hjm x h2 h3
   ·have:=qcy hg hfs.cl hj h1;rw [hld] at this;cases this
 | true =>
  left;have hAt:acc (lst listed) m A0 t=some (.own val I):=by
   rw [<- hl,<- hacc];exact qea rfl fun x hx ht=>by rw [hto x hx ht];exact hld
  obtain ⟨i,st2⟩:=st.openT hAt
  let tell:Ent->Ent:=fun x=>if x.i=d then ⟨x.i,x.o,.v (Is (val i)),x.kl⟩ else x
  have htl:∀ x:Ent,x.i≠d->tell x=x:=fun x hx=>if_neg hx;have htd:∀ x:Ent,x.i=d->tell x=⟨x.i,x.o,.v (Is (val i)),x.kl⟩:=fun x hx=>if_pos hx;have htio:∀ x:Ent,(tell x).i=x.i∧(tell x).o=x.o:=fun x=>by
   by_cases hx:x.i=d
   ·rw [htd x hx];exact ⟨rfl,rfl⟩
   ·rw [htl x hx];exact ⟨rfl,rfl⟩
  have htk:∀ x:Ent,(tell x).kl=x.kl:=fun x=>by
   by_cases hx:x.i=d
   ·rw [htd x hx]
   ·rw [htl x hx]
  have hxd:∀ x,x∈m->x.i=d->x.o.dst=some t:=fun x hx hi=>by
   have h2:=hv.at_ x hx;rw [hi] at h2;rw [h2] at hd;exact hd
  have hkt:∀ x,x∈m->x.kl≠some t:=fun x hx e=>by
   have h1:=inB_iff.2 (hv.kls x hx t e);rw [h1] at hB4;cases hB4
  have happ:∀ x,x∈m->∀ s,s≠t->∀ A B:Nat->Option Out,A s=B s->x.app A s=(tell x).app B s:=fun x hx s hs A B hAB=>by
   by_cases hi:x.i=d
   ·rw [htd x hi];unfold Ent.app;dsimp only;have h1:=qg3 (hxd x hx hi) x.kl;rw [h1,qef (fun e=>hs (Option.some.inj e).symm),qef (fun e=>hs (Option.some.inj e).symm)]
    unfold qgr;split
    ·rfl
    ·exact hAB
   ·rw [htl x hi];by_cases ht:x.tch s
    ·exact Ent.app_same (.inl ht)
    ·exact Ent.app_same (.inr hAB)
  have haway:∀ (p:Nat->Bool) (m1:List Ent),(∀ x,x∈m1->x∈m)->∀ s,s≠t->acc p m1 A0 s=acc p (m1.map tell) A0 s:=fun p m1 hm1 s hs=>by
   refine zgf (by simp) (fun j x x' h1 h2=>?_) rfl;rw [List.getElem?_map,h1] at h2;simp only [Option.map_some,Option.some.injEq] at h2;rw [<- h2];exact ⟨(htio x).1,happ x (hm1 x (List.mem_of_getElem? h1)) s hs⟩
  have hat:∀ p:Nat->Bool,p d=true->acc p (m.map tell) A0 t=some (.v (Is (val i))):=fun p hpd=>by
   refine acc_at hpd (fun x hx=>?_) (.inr ⟨tell xd,List.mem_map.2 ⟨xd,hxd1,rfl⟩,by rw [(htio xd).1,hxd2]⟩);obtain ⟨y,hy,rfl⟩:=List.mem_map.1 hx;refine ⟨fun hi A=>?_,fun hi ht=>?_⟩
   ·rw [(htio y).1] at hi;rw [htd y hi];unfold Ent.app;dsimp only;rw [qg3 (hxd y hy hi),qgc]
   ·rw [(htio y).1] at hi;rw [htl y hi] at ht;exact hi (hto y hy ht)
  have hv':FV P ops c nd (I i::L) fr (d::dn) ks (m.map tell) A0:=by
   refine ⟨fun x hx=>?_,List.pairwise_map.2 (hv.dif.imp fun {x y} h1=>by rw [(htio x).1,(htio y).1];exact h1),List.pairwise_map.2 (hv.ord.imp fun {x y} h1=>by rw [(htio x).1,(htio y).1];exact h1),fun m1 x m2 hm=>?_,fun x hx s hs=>?_⟩
   ·obtain ⟨y,hy,rfl⟩:=List.mem_map.1 hx;rw [(htio y).1,(htio y).2];exact hv.at_ y hy
   ·obtain ⟨l1,l2,h1,rfl,h3⟩:=List.map_eq_append_iff.1 hm;obtain ⟨y,l3,h4,rfl,rfl⟩:=List.map_eq_cons_iff.1 h3;rw [h4] at h1;have hym:y∈m:=by rw [h1];exact List.mem_append_right _ (List.mem_cons_self ..)
    have hl1:∀ x,x∈l1->x∈m:=fun x hx=>by rw [h1];exact List.mem_append_left _ hx
    obtain ⟨g1,g2⟩:=hv.op l1 y l3 h1;refine ⟨fun hdn=>?_,fun s hs=>?_⟩
    ·rw [(htio y).1] at hdn;have hne:y.i≠d:=fun e=>by
      have:inB (d::dn) y.i=true:=inB_iff.2 (by rw [e];exact List.mem_cons_self ..);rw [hdn] at this;cases this
     have hdn':inB dn y.i=false:=by
      cases hv':inB dn y.i with
      | false=>rfl
      | true =>
       have:inB (d::dn) y.i=true:=inB_iff.2 (List.mem_cons_of_mem _ (inB_iff.1 hv'));rw [hdn] at this;cases this
     rw [htl y hne];obtain ⟨g3,g4⟩:=g1 hdn';have hc:∀ s,s∈y.o.looksAt ops∨y.kl=some s->acc (fun _=>true) (l1.map tell) A0 s=acc (fun _=>true) l1 A0 s:=fun s hs=>by
      refine (haway _ l1 hl1 s ?_).symm;rintro rfl;rcases hs with hs|hs
      ·exact hnl y hym hne (List.mem_append_left _ hs)
      ·exact hkt y hym hs
     exact ⟨g3.more.congr hc,fun h5 L''=>(g4 h5 L'').congr hc⟩
    ·rw [htk y] at hs;have hst:s≠t:=fun e=>hkt y hym (by rw [hs,e]);obtain ⟨⟨g3,ι',val',I',g4⟩,g5⟩:=g2 s hs;rw [(htio y).1,(htio y).2];exact ⟨⟨g3,ι',val',I',by rw [<- haway _ l1 hl1 s hst];exact g4⟩,g5⟩
   ·obtain ⟨y,hy,rfl⟩:=List.mem_map.1 hx;rw [htk y] at hs;exact hv.kls y hy s hs
  refine h i hg hN (m.map tell) A0 hv' (fun j=>(hmi j).trans ⟨fun ⟨x,h1,h2⟩=>⟨tell x,List.mem_map.2 ⟨x,h1,rfl⟩,by rw [(htio x).1];exact h2⟩,fun ⟨x,h1,h2⟩=>?_⟩) ?_ φ a w listed ⟨hfs.cl,fun j hj=>?_,fun j hj=>?_⟩ (st2.congr fun s=>?_)
  ·obtain ⟨y,hy,rfl⟩:=List.mem_map.1 h1;exact ⟨y,hy,by rw [<- (htio y).1];exact h2⟩
  ·funext s;by_cases hs:s=t
   ·subst hs;rw [hat _ rfl];simp [qci]
   ·rw [<- haway _ m (fun x hx=>hx) s hs,hacc]
    simp only [qci,qjm (Ne.symm hs),cond_false];rw [qkz,qjf (fun e=>hs (Option.some.inj e).symm)]
  ·rcases List.mem_cons.1 (inB_iff.1 hj) with rfl|hj
   ·exact hld
   ·exact hfs.done j (inB_iff.2 hj)
  ·obtain ⟨x,h1,h2⟩:=hfs.only j hj;exact ⟨tell x,List.mem_map.2 ⟨x,h1,rfl⟩,by rw [(htio x).1];exact h2⟩
  ·by_cases hs:s=t
   ·subst hs;rw [if_pos rfl,hat _ hld]
   ·rw [if_neg hs];exact haway _ m (fun x hx=>hx) s hs
theorem JD_fl {its:List Item} {rest:List Oper} {E:Env} (h:JF P ops Q c N nd [] [] [] [] (qof N its++qop E) L):JD P ops Q c N nd 0 rest E (its++L):=fun hg hN hk hrest φ a w listed hp st =>
 h hg hN [] (qci (qof N its++qop E)) ⟨fun x hx=>(by cases hx),List.Pairwise.nil,List.Pairwise.nil,fun m1 x m2 hm=>(by simp at hm),fun x hx=>(by cases hx)⟩ (fun i=>⟨fun hi=>absurd (inB_iff.1 hi) (by simp),fun ⟨x,hx,_⟩=>(by cases hx)⟩) rfl φ a w listed
  ⟨hp.cl,fun i hi=>absurd (inB_iff.1 hi) (by simp),fun i hi=>by
   exfalso;have hlt:i<listed.size:=by
    rcases Nat.lt_or_ge i listed.size with h1|h1
    ·exact h1
    ·simp [Nat.not_lt.2 h1] at hi
   have h1:listed.getD i true=true:=by simp [hlt] at hi ⊢;exact hi
   have:=(hp.pre i (by rw [<- hp.cl.size];exact hlt)).1 h1;omega⟩ (SS.startG st)
section
variable {i:Nat} {t:Tmp} {op:Op} {ty:TypeId} {pos:String} {af:Array Edge}
theorem LocOp.p {o:Oper} {F:VP} (hgd:o.guard=none) (hs:OpP P c o (vals EO) L F):LocOp P ops c L o (qci EO) (.v F) none:=fun φ a w K Q M hm ht hl hk=>by
 rw [if_pos (by simp [Region.wanted,hgd])];obtain rfl:M=[]:=ht;exact hs φ a w K Q hm (evs hm.mem.facts hl) fun φ' v w' hp hf=>hk φ' v w' (by rw [qf3];exact ⟨hp,hf⟩)
theorem LocOp.n {o:Oper} {ι:Type} {val:ι->Value} {I:ι->Item} (hgd:o.guard=none) (hs:OpN P c o (vals EO) L val I):LocOp P ops c L o (qci EO) (.own val I) none:=fun φ a w K Q M hm ht hl hk=>by
 rw [if_pos (by simp [Region.wanted,hgd])];obtain rfl:M=[]:=ht;exact hs φ a w K Q hm (evs hm.mem.facts hl) fun i φ' w' hp=>hk φ' _ w' ⟨i,qf3 _ _ _,hp⟩
def qq2 (nd fr mi:List Nat) (i:Nat):Bool:=newB nd mi i && !inB fr i
theorem qd9 (h:qq2 nd fr mi i=true):newB nd mi i=true∧inB fr i=false:=by
 unfold qq2 at h;simp only [Bool.and_eq_true,Bool.not_eq_true'] at h;exact h
theorem qes {F:VP} (i:Nat) (hi:ops[i]?=some ⟨some t,op,ty,pos,af,none⟩) (hB:qq2 nd fr mi i=true) (hs:OpP P c ⟨some t,op,ty,pos,af,none⟩ (vals EO) L F) (h:JF P ops Q c N nd fr dn ks (i::mi) ((t,.v F)::EO) L):JF P ops Q c N nd fr dn ks mi EO L:=
 qqi fr hi (qd9 hB).1 qd2 (LocOp.p rfl hs) (.inl ⟨rfl,(qd9 hB).2⟩) h
theorem qd6 {F:VP} (i:Nat) (hi:ops[i]?=some ⟨some t,op,ty,pos,af,none⟩) (hB:qq2 nd fr mi i=true) (hs:∀ L,OpP P c ⟨some t,op,ty,pos,af,none⟩ (vals EO) L F) (h:JF P ops Q c N nd (i::fr) dn ks (i::mi) ((t,.v F)::EO) L):JF P ops Q c N nd fr dn ks mi EO L:=
 qqi (i::fr) hi (qd9 hB).1 qd2 (LocOp.p rfl (hs L)) (.inr ⟨rfl,fun L'=>LocOp.p rfl (hs L')⟩) h
theorem JF_n {ι:Type} {val:ι->Value} {I:ι->Item} (i:Nat) (hi:ops[i]?=some ⟨some t,op,ty,pos,af,none⟩) (hB:qq2 nd fr mi i=true) (hs:OpN P c ⟨some t,op,ty,pos,af,none⟩ (vals EO) L val I) (h:JF P ops Q c N nd fr dn ks (i::mi) ((t,.own val I)::EO) L):JF P ops Q c N nd fr dn ks mi EO L:=
 qqi fr hi (qd9 hB).1 qd2 (LocOp.n rfl hs) (.inl ⟨rfl,(qd9 hB).2⟩) h
theorem qnh {ι:Type} {val:ι->Value} {I:ι->Item} (i:Nat) (hi:ops[i]?=some ⟨some t,op,ty,pos,af,none⟩) (hB:qq2 nd fr mi i=true) (hs:∀ L,OpN P c ⟨some t,op,ty,pos,af,none⟩ (vals EO) L val I) (h:JF P ops Q c N nd (i::fr) dn ks (i::mi) ((t,.own val I)::EO) L):JF P ops Q c N nd fr dn ks mi EO L:=
 qqi (i::fr) hi (qd9 hB).1 qd2 (LocOp.n rfl (hs L)) (.inr ⟨rfl,fun L'=>LocOp.n rfl (hs L')⟩) h
theorem qwk {ι:Type} {F:ι->VP} {L':ι->List Item} (i:Nat) (dn':List Nat) (hi:ops[i]?=some ⟨some t,op,ty,pos,af,none⟩) (hB:barB ops nd fr dn dn' mi i=true) (hs:∀ c':Ctx,OpS P c' ⟨some t,op,ty,pos,af,none⟩ (vals EO) L F L')
  (h:∀ z,JF P ops Q c N nd fr dn' ks (i::mi) ((t,.v (F z))::EO) (L' z)):JF P ops Q c N nd fr dn ks mi EO L:=JF_bar dn' hi rfl hB hs h
theorem qdw {F:Unit->VP} {L':Unit->List Item} (i:Nat) (dn':List Nat) (hi:ops[i]?=some ⟨none,op,ty,pos,af,none⟩) (hB:barB ops nd fr dn dn' mi i=true) (hs:∀ c':Ctx,OpS P c' ⟨none,op,ty,pos,af,none⟩ (vals EO) L F L')
  (h:JF P ops Q c N nd fr dn' ks (i::mi) EO (L' ())):JF P ops Q c N nd fr dn ks mi EO L:=JF_bar dn' hi rfl hB hs fun _=>h
theorem qd7 {j:Nat} {want b:Bool} {g:Tmp} {F:VP} (i:Nat) (hi:ops[i]?=some ⟨some t,op,ty,pos,af,some (j,want)⟩) (hB:qq2 nd fr mi i=true) (hj:(ops[j]?).bind (·.dst)=some g) (hl:vals EO g=some (Ib b))
  (hs:(b==want)=true->OpP P c ⟨some t,op,ty,pos,af,some (j,want)⟩ (vals EO) L F) (h:JF P ops Q c N nd fr dn ks (i::mi) ((t,.v (qdi (b==want) F (Is undef)))::EO) L):JF P ops Q c N nd fr dn ks mi EO L:=by
 refine qqi fr hi (qd9 hB).1 (F:=.v (qdi (b==want) F (Is undef))) qd2 (fun φ a w K Q M hm ht hlk hk=>?_) (.inl ⟨rfl,(qd9 hB).2⟩) h;obtain rfl:M=[]:=ht;have hw:=qhp (o:=⟨some t,op,ty,pos,af,some (j,want)⟩) (a:=a) rfl hj (gval rfl hj hlk hl);cases hbw:(b==want) with
 | false =>
  rw [if_neg (by rw [hw,hbw];simp)];exact ⟨rfl,(rfl:undef=undef)⟩
 | true =>
  rw [if_pos (by rw [hw,hbw])];refine hs hbw φ a w K Q hm (evs hm.mem.facts hlk) fun φ' v w' hpp hf=>hk φ' v w' ⟨hpp,?_⟩;rw [qf3,hbw];exact hf
end
end
end
def zfl (xs ls:List Int):List Int:=ls.foldl qfg xs
def qe8 (ks:List Pg) (ls:List Int):List Int:=zfl [] (qxe ks ls)
theorem zfk (ls:List Int):∀ xs:List Int,(zfl xs ls).length<=xs.length+ls.length:=by
 induction ls with
 | nil=>intro xs;simp [zfl]
 | cons l ls ih =>
  intro xs;have h1:=ih (qfg xs l);have h2:=qhv xs l;simp only [zfl,List.foldl_cons,List.length_cons] at h1 ⊢;omega
theorem qrs {ks:List Pg} {ls:List Int} {k:Nat} {l:Int} (h:ls[k]?=some l):qe8 ks (ls.take (k+1))=if (!qjt ks l)=true then qfg (qe8 ks (ls.take k)) l else qe8 ks (ls.take k):=by
 unfold qe8 qjt;rw [zer h];cases g:qq4 ks l with
 | none=>simp [zfl,List.foldl_append]
 | some q=>simp
theorem qmu (ks:List Pg) (ls:List Int):(qe8 ks ls).length<=ls.length:=by
 have h1:=zfk (qxe ks ls) [];have h2:(qxe ks ls).length<=ls.length:=List.length_filter_le _ _;unfold qe8;simp at h1;omega
theorem qhl (ks:List Pg) (ls:List Int) (hn:ls.length<=1000000):FnP prog 104 [qad tPg ks,qad qaw ls] (qad qaw (qe8 ks ls)):=by
 refine FnP.enter func104 ntmps104 rfl rfl ?_;intro c hX;refine t17 ?_;refine qax [(0,_),(1,_),(4,_)] [] (fun k:Nat=>k<=(ls).length) (fun k=>[(5,qad qaw (qe8 ks (ls.take k))),(6,Ii (k:Nat))]) (fun k=>[]) (fun k=>(ls).length-k) 0 (nZ _) qa8 qab ?_;rintro k hk;refine t9 ?_;refine cN ?_ ?_<;>intro h3
 ·have hlt:k<(ls).length:=by have:=of_decide_eq_true h3;omega
  clear h3;obtain ⟨z,hz⟩:∃ q,(ls)[k]?=some q:=⟨_,gE hlt⟩
  have e:=qrs (ks:=ks) hz;have hl0:(qe8 ks (ls.take k)).length<=1000000:=by have:=qmu ks (ls.take k);have:=List.length_take_le k ls;omega
  refine t11 ?_;refine kS call41 (qhn _ _) ?_;refine t4 ?_;intro i7;refine t10 ?_;refine cN ?_ ?_<;>intro h6
  ·rw [ifT h6] at e;refine t6 ?_;refine qao rfl (by ((refine qac call169 (qjj _ _ ?_) ⟨evS,⟨evS,trivial⟩⟩);all_goals (assumption))) ?_;refine t9 ?_;exact qaa (k+1) om om (by rw [e];exact qa8) qab
  rw [ifF h6] at e;refine t8 ?_;exact qaa (k+1) om om (by rw [e];exact qa8) qab
 have hke:k=(ls).length:=by have:=of_decide_eq_false h3;omega
 clear h3;subst hke;(try rw [List.take_length]);refine t12 ?_;refine rB results104 rfl ?_;rfl
def zbf (l:List Int) (x:Int):Bool:=l.any fun y=>y==x
theorem Has_ok (l:List Int) (x:Int):FnP prog 143 [qad qaw l,Ii x] (Ib (zbf l x)):=by
 refine FnP.enter func143 ntmps143 rfl rfl ?_;intro c hX;refine qjp (t:=0) rfl (fun hlen=>?_);refine t12 ?_;refine qax [(0,_),(1,_),(4,_)] [] (fun k:Nat=>k<=(l).length∧(zbf (l.take k) x=false)) (fun k=>[(5,Ii (k:Nat))]) (fun k=>[]) (fun k=>(l).length-k) 0 ⟨by exact nZ _,rfl⟩ qa8 qab ?_;rintro k ⟨hk,hI⟩;refine t9 ?_;refine cN ?_ ?_<;>intro h2
 ·have hlt:k<(l).length:=by have:=of_decide_eq_true h2;omega
  clear h2;obtain ⟨z,hz⟩:∃ q,(l)[k]?=some q:=⟨_,gE hlt⟩
  have e:zbf (l.take (k+1)) x=(zbf (l.take k) x||z==x):=by unfold zbf;rw [List.take_add_one,hz,List.any_append];simp
  refine t14 ?_;refine cN ?_ ?_<;>intro h4
  ·have e2:zbf l x=true:=by
    rw [<- List.take_append_drop (k+1) l];unfold zbf at e ⊢;rw [List.any_append,e,h4];simp
   rw [e2];refine t11 ?_;refine rB results143 rfl ?_;rfl
  have hr:zbf (l.take (k+1)) x=false:=by rw [e,hI,h4];rfl
  refine t8 ?_;exact qaa (k+1) ⟨om,hr⟩ om qa8 qab
 have hke:k=(l).length:=by have:=of_decide_eq_false h2;omega
 clear h2;subst hke;(try rw [List.take_length]);(try rw [List.take_length] at hI);refine t11 ?_;refine rB results143 rfl ?_;rw [hI]
def qij (ks:List Pg) (c:Int):Pg×Nd×Int:=
 if qet (qb9 ks (98+c))=true then (qb9 ks (98+c),Nd.nil,3) else
 if ((qeo (qb9 ks (98+c))).2 != 0)=true then (qb9 ks (98+c),(qeo (qb9 ks (98+c))).1,14) else (qb9 ks (98+c),(qeo (qb9 ks (98+c))).1,0)
theorem qnn (ks:List Pg) (o:Int) (h0:0<=o∧o<6):FnP prog 105 [qad tPg ks,Ii o] (qbs [qcv (qij ks o).1,IsNd (qij ks o).2.1,Ii ((qij ks o).2.2)]):=by
 unfold qij;refine FnP.enter func105 ntmps105 rfl rfl ?_;intro c hX;refine t3 ?_;intro i4;refine s1 ?_;intro i5;refine t8 ?_;refine kS call41 (qhn _ _) ?_;refine t4 ?_;intro i7;refine t8 ?_;refine kS call85 (qeb _) ?_;refine t2 ?_;refine cN ?_ ?_<;>intro h2
 ·rw [ifT h2];refine t11 ?_;exact rA (Bs:=[_,_,_]) results105 eT
 rw [ifF h2];refine t5 ?_;refine kS call147 (qok _) ?_;refine t4 ?_;intro i9;refine t11 ?_;refine cN ?_ ?_<;>intro h5
 ·rw [ifT h5];refine s1 ?_;refine Z5 ?_;refine qc1 (it:=blk i5 _ _) (by repeat (first|exact Drop1.here _ _|apply Drop1.next)) ?_;refine qc1 (it:=blk i4 _ _) (by repeat (first|exact Drop1.here _ _|apply Drop1.next)) ?_;refine qcz (its:=[_,_]) 5 kr ?_;refine t2 ?_;refine qdm (s:=33) rfl rfl rfl kr (fun c'=>by exact qat (er rfl) (er rfl) qa5 qaf rf rf rf) ?_;refine qdm (s:=34) rfl rfl rfl kr (fun c'=>by exact qat (er rfl) (er rfl) qa5 qaf rf rf rf) ?_;refine s1 ?_;refine ⟨rfl,?_⟩;intro _ _;refine qda ?_;refine t3 ?_;exact rA (Bs:=[_,_,_]) results105 eT
 rw [ifF h5];refine Z32 ?_;refine qc1 (it:=blk i5 _ _) (by repeat (first|exact Drop1.here _ _|apply Drop1.next)) ?_;refine qc1 (it:=blk i4 _ _) (by repeat (first|exact Drop1.here _ _|apply Drop1.next)) ?_;refine qcz (its:=[_,_]) 5 kr ?_;refine t2 ?_;refine qdm (s:=33) rfl rfl rfl kr (fun c'=>by exact qat (er rfl) (er rfl) qa5 qaf rf rf rf) ?_;refine qdm (s:=34) rfl rfl rfl kr (fun c'=>by exact qat (er rfl) (er rfl) qa5 qaf rf rf rf) ?_;refine s1 ?_;refine ⟨rfl,?_⟩;intro _ _;refine Z33 ?_;exact rA (Bs:=[_,_,_]) results105 eT
theorem Z23 {A B:Prop} (h:A) (f:Bx A→B:=by intro z;refine Z5 ?_;refine JD_fl (its:=[]) ?_;exact z.out):B:=f ⟨h⟩
theorem Z36 {A B:Prop} (h:A) (f:Bx A→B:=by intro z;refine JF_end kr rfl ?_;exact z.out):B:=f ⟨h⟩
end Go.Proofs.YteafmggidjjdgaaGreatDoor
