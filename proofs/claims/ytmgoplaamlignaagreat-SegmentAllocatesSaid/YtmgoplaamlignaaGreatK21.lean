/- Texts laid together: walks of functions, what they compute, and plain laws of it. Own work. -/
import Derived.Test.YtmgoplaamlignaaGreatK20
import Derived.Test.YtmgoplaamlignaaGreatK1
namespace Go.Proofs.YtmgoplaamlignaaGreat
open Go.RowKit Tryz
set_option linter.unusedVariables false
set_option linter.unusedSimpArgs false
set_option maxRecDepth 100000
set_option maxHeartbeats 4000000
section
variable {P:Program} {ops:Array Oper} {c:Ctx} {N:Nat} {L:List Item}
def inB (l:List Nat) (i:Nat):Bool:=l.any fun j=>Nat.beq j i
theorem inB_iff {l:List Nat} {i:Nat}:inB l i=true↔i∈l:=by
 unfold inB
 rw [List.any_eq_true]
 constructor
 ·rintro ⟨j,h1,h2⟩;rw [← Nat.eq_of_beq_eq_true h2];exact h1
 ·intro h;exact ⟨i,h,by simp⟩
structure FV (P:Program) (ops:Array Oper) (c:Ctx) (nd:List Nat) (L:List Item) (fr dn ks:List Nat) (m:List Ent) (A0:Nat→Option Out):Prop where
 at_:∀ x,x∈m→ops[x.i]?=some x.o
 dif:m.Pairwise (fun x y=>x.i≠y.i)
 ord:m.Pairwise (fun x y=>y.i<x.i→(qgr nd x.i).testBit y.i=false)
 op:∀ m1 x m2,m=m1++x :: m2→(inB dn x.i=false→LocOp P ops c L x.o (acc (fun _=>true) m1 A0) x.F x.kl∧(inB fr x.i=true→∀ L',LocOp P ops c L' x.o (acc (fun _=>true) m1 A0) x.F x.kl))∧qke ops nd x.i x.o (acc (fun _=>true) m1 A0) x.kl
 kls:∀ x,x∈m→∀ s,x.kl=some s→s∈ks
structure FS (ops:Array Oper) (nd:List Nat) (dn:List Nat) (m:List Ent) (listed:Array Bool):Prop where
 cl:Cl ops nd listed
 done:∀ i,inB dn i=true→listed.getD i false=true
 only:∀ i,listed.getD i false=true→∃ x,x∈m∧x.i=i
@[reducible] def lst (listed:Array Bool):Nat→Bool:=fun i=>listed.getD i false
theorem fstep {Q:Exit→Act→World→Prop} {nd:List Nat} {fr dn ks:List Nat} {m:List Ent} {A0:Nat→Option Out} (hg:Good ops nd) (hN:qgm (fun _ o=>qrs N o.dst) ops.toList 0=true) (hv:FV P ops c nd L fr dn ks m A0)
  {φ:Fz} {a:Act} {w:World} {listed:Array Bool} (hs:FS ops nd dn m listed) (st:SS c N (acc (lst listed) m A0) L φ a w) {x:Ent} (hxm:x∈m) (hi:x.i∈Region.ready .any ops listed) {u:Nat}
  (next:∀ φ' a' w',FS ops nd dn m (listed.setIfInBounds x.i true)→SS c N (acc (lst (listed.setIfInBounds x.i true)) m A0) L φ' a' w'→wpAny P .any ops Q u (listed.setIfInBounds x.i true) a' w') :
  wpOp P ops Q x.i (wpAny P .any ops Q u (listed.setIfInBounds x.i true)) a w:=by
 obtain ⟨i,hix⟩:∃ i,i=x.i:=⟨_,rfl⟩
 rw [← hix] at hi next ⊢
 have ex1:x.i=i:=hix.symm
 obtain ⟨hiu,oi,hoi,hiall⟩:=mem_ready.1 hi
 have hilt:i<ops.size:=(Array.getElem?_eq_some_iff.1 hoi).1
 have hc:=hs.cl
 have hox:x.o=oi:=by
  have h1:=hv.at_ x hxm
  rw [ex1] at h1
  exact Option.some.inj (h1.symm.trans hoi)
 have hdi:inB dn i=false:=by
  cases hv':inB dn i with
  | false=>rfl
  | true=>have:=hs.done i hv';rw [qfp hiu] at this;cases this
 obtain ⟨m1,m2,hsplit⟩:=List.append_of_mem hxm
 have hiL:i<listed.size:=by rw [hc.size];exact hilt
 have hne:∀ y,y∈m1∨y∈m2→y.i≠i:=fun y hy=>by
  have h1:=hv.dif
  rw [hsplit] at h1
  obtain ⟨h2,h3,h4⟩:=List.pairwise_append.1 h1
  rcases hy with hy|hy
  ·rw [← ex1];exact h4 y hy x (List.mem_cons_self ..)
  ·rw [← ex1];exact fun e=>(List.pairwise_cons.1 h3).1 y hy e.symm
 have hord1:∀ y,y∈m1→i<y.i→(qgr nd y.i).testBit i=false:=fun y hy hlt=>by
  have h1:=hv.ord
  rw [hsplit] at h1
  have:=(List.pairwise_append.1 h1).2.2 y hy x (List.mem_cons_self ..)
  rw [ex1] at this
  exact this hlt
 have hord2:∀ y,y∈m2→y.i<i→(qgr nd i).testBit y.i=false:=fun y hy hlt=>by
  have h1:=hv.ord
  rw [hsplit] at h1
  have:=(List.pairwise_cons.1 (List.pairwise_append.1 h1).2.1).1 y hy
  rw [ex1] at this
  exact this hlt
 have hkm:∀ y,y∈m→∀ s,y.kl=some s→(s∈y.o.looksAt ops∨wrB y.o=true)∧∀ j x,ops[j]?=some x→s∈qck ops x∨(s ∉ y.o.looksAt ops∧wrB y.o=true∧wrB x=true)→j≠y.i→(y.i<j→(qgr nd j).testBit y.i=true)∧(j<y.i→(qgr nd y.i).testBit j=true):=fun y hy s hs=>by
   obtain ⟨p1,p2,hp12⟩:=List.append_of_mem hy
   have:=(hv.op p1 y p2 hp12).2 s hs
   exact ⟨this.1.1,this.2⟩
 have ordd:∀ y,y∈m→y.i≠i→ops[y.i]?=some y.o→(∃ t,y.tch t∧(t∈qck ops oi∨x.kl=some t))→(i<y.i→(qgr nd y.i).testBit i=true)∧(y.i<i→(qgr nd i).testBit y.i=true):=fun y hym hne h2 ⟨t,ht,htn⟩=>by
  rcases htn with htn|htn
  ·rcases ht with ht|ht
   ·have:=hg.ord y.i y.o t i oi h2 ht hoi htn (fun e=>hne e)
    exact ⟨this.2,this.1⟩
   ·have:=(hkm y hym t ht).2 i oi hoi (.inl htn) (fun e=>hne e.symm)
    exact ⟨this.2,this.1⟩
  ·have hx1:=hkm x hxm t htn
   rw [hox,ex1] at hx1
   rcases ht with ht|ht
   ·have:=hx1.2 y.i y.o h2 (.inl (List.mem_append_right _ (by rw [ht];simp))) hne
    exact this
   ·by_cases htl:t∈qck ops y.o
    ·exact hx1.2 y.i y.o h2 (.inl htl) hne
    ·have hyd:wrB y.o=true:=(hkm y hym t ht).1.resolve_left fun e=>htl (List.mem_append_left _ e)
     by_cases htx:t∈qck ops oi
     ·have:=(hkm y hym t ht).2 i oi hoi (.inl htx) (fun e=>hne e.symm)
      exact ⟨this.2,this.1⟩
     ·have hxl:t ∉ oi.looksAt ops:=fun e=>htx (List.mem_append_left _ e)
      have hxd:wrB oi=true:=hx1.1.resolve_left hxl
      exact hx1.2 y.i y.o h2 (.inr ⟨hxl,hxd,hyd⟩) hne
 have later:∀ y,y∈m2→(∃ t,y.tch t∧(t∈qck ops oi∨x.kl=some t))→listed.getD y.i false=false:=fun y hy ht=>by
  have hym:y∈m:=by rw [hsplit];exact List.mem_append_right _ (List.mem_cons_of_mem _ hy)
  have h1:=hne y (.inr hy)
  have h2:=hv.at_ y hym
  cases hvv:listed.getD y.i false with
  | false=>rfl
  | true =>
   have h3:=ordd y hym h1 h2 ht
   rcases Nat.lt_or_gt_of_ne h1 with h4|h4
   ·rw [hord2 y hy h4] at h3;exact absurd (h3.2 h4) (by simp)
   ·have h5:=hc.cl _ hvv i (h3.1 h4)
    rw [qfp hiu] at h5;cases h5
 have earlier:∀ y,y∈m1→(∃ t,y.tch t∧(t∈qck ops oi∨x.kl=some t))→listed.getD y.i false=true:=fun y hy ht=>by
  have hym:y∈m:=by rw [hsplit];exact List.mem_append_left _ hy
  have h1:=hne y (.inl hy)
  have h2:=hv.at_ y hym
  have h3:=ordd y hym h1 h2 ht
  rcases Nat.lt_or_gt_of_ne h1 with h4|h4
  ·exact qc2 hg hc hi (h3.2 h4)
  ·rw [hord1 y hy h4] at h3;exact absurd (h3.1 h4) (by simp)
 have hsame:∀ t,t∈oi.looksAt ops∨x.kl=some t→acc (lst listed) m A0 t=acc (fun _=>true) m1 A0 t:=fun t ht=>by
  have htn:t∈qck ops oi∨x.kl=some t:=ht.imp (List.mem_append_left _) id
  rw [hsplit,qdv]
  have h1:acc (lst listed) (x :: m2) (acc (lst listed) m1 A0) t=acc (lst listed) m1 A0 t:=by
   refine qik fun y hy hyt=>?_
   rcases List.mem_cons.1 hy with rfl|hy
   ·show listed.getD y.i false=false
    rw [ex1];exact qfp hiu
   ·exact later y hy ⟨t,hyt,htn⟩
  rw [h1]
  exact qec rfl fun y hy hyt=>earlier y hy ⟨t,hyt,htn⟩
 have hloc:LocOp P ops c L oi (acc (lst listed) m A0) x.F x.kl:=by
  have h0:=((hv.op m1 x m2 hsplit).1 (by rw [ex1];exact hdi)).1
  rw [hox] at h0
  exact h0.congr hsame
 have hkok:∀ s,x.kl=some s→(s∈oi.looksAt ops∨wrB oi=true)∧∃ (ι:Type) (val:ι→Value) (I:ι→Item),acc (lst listed) m A0 s=some (.own val I):=fun s hs=>by
  obtain ⟨⟨h1,ι,val,I,h2⟩,_⟩:=(hv.op m1 x m2 hsplit).2 s hs
  rw [hox] at h1
  exact ⟨h1,ι,val,I,by rw [hsame s (.inr hs)];exact h2⟩
 have hget:∀ j,j≠i→(listed.setIfInBounds i true).getD j false=listed.getD j false:=fun j hj=>getD_set_ne false (Ne.symm hj)
 have hiT:(listed.setIfInBounds i true).getD i false=true:=by simp [hiL]
 have hacc:∀ t,qs2 (qgb (acc (lst listed) m A0) x.kl) (tgt oi x.kl) x.F t=acc (lst (listed.setIfInBounds i true)) m A0 t:=fun t=>by
  have happ:qs2 (qgb (acc (lst listed) m A0) x.kl) (tgt oi x.kl) x.F=x.app (acc (lst listed) m A0):=by unfold Ent.app;rw [hox]
  rw [happ]
  by_cases hd:x.tch t
  ·rw [hsplit,qdv,qdv]
   simp only [acc]
   rw [ex1,show lst (listed.setIfInBounds i true) i=true from hiT]
   simp only [cond_true]
   have hnm:t∈qck ops oi∨x.kl=some t:=by
    rcases hd with hd|hd
    ·rw [hox] at hd;exact .inl (by unfold qck;rw [hd];simp)
    ·exact .inr hd
   have h2:acc (lst (listed.setIfInBounds i true)) m2 (x.app (acc (lst (listed.setIfInBounds i true)) m1 A0)) t=x.app (acc (lst (listed.setIfInBounds i true)) m1 A0) t:=by
    refine qik fun y hy hyt=>?_
    show (listed.setIfInBounds i true).getD y.i false=false
    rw [hget y.i (hne y (.inr hy))]
    exact later y hy ⟨t,hyt,hnm⟩
   rw [h2]
   exact Ent.app_same (.inl hd)
  ·rw [Ent.app_ne hd]
   refine qec rfl fun y hy hyt=>(hget y.i fun hyi=>?_).symm
   rw [hsplit] at hy
   rcases List.mem_append.1 hy with hy|hy
   ·exact hne y (.inl hy) hyi
   ·rcases List.mem_cons.1 hy with rfl|hy
    ·exact hd hyt
    ·exact hne y (.inr hy) hyi
 have hfs:FS ops nd dn m (listed.setIfInBounds i true):=by
  refine ⟨hc.set hg hi,fun j hj=>?_,fun j hj=>?_⟩
  ·by_cases hji:j=i
   ·subst hji;exact hiT
   ·rw [hget j hji];exact hs.done j hj
  ·by_cases hji:j=i
   ·subst hji;exact ⟨x,hxm,ex1⟩
   ·rw [hget j hji] at hj;exact hs.only j hj
 obtain ⟨M,hM1,hM2,hM3⟩:=SS.takes (ops:=ops) (o:=oi) (kl:=x.kl) st hkok
 have hnext:∀ φ' v w',x.F.post M φ w φ' (res oi x.kl a v) w'→wpAny P .any ops Q u (listed.setIfInBounds i true) (a.put oi.dst v) w':=fun φ' v w' hpost=>by
  have h9:=(hM3 (tgt oi x.kl) x.F φ' (res oi x.kl a v) w' (fun t ht=>?_) hpost).congr hacc
  ·rw [zai] at h9
   exact next φ' _ w' hfs h9
  ·cases hd:oi.dst with
   | some d =>
    rw [qhb hd] at ht
    injection ht with ht
    subst ht
    have:=qdg hN i oi (by simpa using hoi)
    exact .inl (qe1 this _ hd)
   | none =>
    rw [qsq hd] at ht
    rw [ht,qwf hd]
    exact .inr rfl
 have hfin:=hloc φ a w _ Q M hM1 hM2 (fun t ht B hB=>by
  cases hA:acc (lst listed) m A0 t with
  | none=>rw [hA] at hB;cases hB
  | some D =>
   rw [hA] at hB
   cases D with
   | v D => obtain rfl : D = B := by simpa [Out.toV] using hB
            exact st.env t D hA
   | own val I=>cases hB) hnext
 unfold wpOp
 simp only [hoi]
 split
 ·rename_i hw
  rw [hw] at hfin
  exact .inl (by simpa using hfin)
 ·rename_i hw
  have hw':Region.wanted oi (yielded ops a.tmps)=false:=by simpa using hw
  rw [hw'] at hfin
  have hidle:x.kl=none∧x.F.idle φ:=by simpa using hfin
  have hM0:M=[]:=by rw [hidle.1] at hM2;exact hM2
  subst hM0
  refine hnext φ undef w ?_
  rw [hidle.1,qfo]
  cases hF:x.F with
  | v F=>rw [hF] at hidle;exact ⟨HP.start (L:=[]) ⟨st.mem.mem.base,by simp,List.Pairwise.nil⟩,hidle.2⟩
  | own val I=>rw [hF] at hidle;exact hidle.2.elim
theorem frun {Q:Exit→Act→World→Prop} {nd:List Nat} {fr dn ks:List Nat} {m:List Ent} {A0:Nat→Option Out} (hg:Good ops nd) (hN:qgm (fun _ o=>qrs N o.dst) ops.toList 0=true) (hv:FV P ops c nd L fr dn ks m A0)
  (exit:∀ φ a w listed,FS ops nd dn m listed→SS c N (acc (lst listed) m A0) L φ a w→wpAny P .any ops Q (unl ops.size listed) listed a w ∨
   ((Region.ready .any ops listed=[]→Q .normal a w)∧∀ i,i∈Region.ready .any ops listed→(∀ x,x∈m→x.i≠i)→wpOp P ops Q i (wpAny P .any ops Q (unl ops.size (listed.setIfInBounds i true)) (listed.setIfInBounds i true)) a w)) :
  ∀ (u:Nat) (φ:Fz) (a:Act) (w:World) (listed:Array Bool),unl ops.size listed=u→FS ops nd dn m listed→SS c N (acc (lst listed) m A0) L φ a w→wpAny P .any ops Q u listed a w:=by
 intro u
 induction u with
 | zero =>
  intro φ a w listed hu hs st
  rcases exit φ a w listed hs st with h|⟨h1,h2⟩
  ·rw [hu] at h;exact h
  ·have hall:=qqn hu
   have hr:Region.ready .any ops listed=[]:=by
    cases hr:Region.ready .any ops listed with
    | nil=>rfl
    | cons i l =>
     exfalso
     have hm:i∈Region.ready .any ops listed:=by rw [hr];exact List.mem_cons_self ..
     obtain ⟨h3,o,ho,_⟩:=mem_ready.1 hm
     rw [hall i (Array.getElem?_eq_some_iff.1 ho).1] at h3
     cases h3
   exact ⟨hr,h1 hr⟩
 | succ u ih =>
  intro φ a w listed hu hs st
  rcases exit φ a w listed hs st with h|⟨h1,h2⟩
  ·rw [hu] at h;exact h
  ·refine ⟨h1,fun i hi=>?_⟩
   obtain ⟨hiu,oi,hoi,_⟩:=mem_ready.1 hi
   have hilt:i<ops.size:=(Array.getElem?_eq_some_iff.1 hoi).1
   have hunl:unl ops.size (listed.setIfInBounds i true)=u:=by
    have:=qnq (by rw [hs.cl.size];exact hilt) hiu hilt;omega
   by_cases hx:∃ x,x∈m∧x.i=i
   ·obtain ⟨x,hxm,rfl⟩:=hx
    exact fstep hg hN hv hs st hxm hi fun φ' a' w' hs' st'=>ih φ' a' w' _ hunl hs' st'
   ·have:=h2 i hi fun x hxm e=>hx ⟨x,hxm,e⟩
    rw [hunl] at this;exact this
theorem SS.bar {A:Nat→Option Out} {φ φ':Fz} {a:Act} {w w':World} {L':List Item} {d:Option Tmp} {F:VP} {v:Value} (h:SS c N A L φ a w) (hd:∀ t,d=some t→t<N) (hp:HP ⟨w,φ,qb4 L,[]⟩ φ' L' w') (hF:F.ok φ' v):SS c N (qs2 A d (.v F)) L' φ' (a.put d v) w':=by
 have hle:Fle φ φ':=hp.fle h.mem.mem.base
 have hmem:HP c φ' L' w':=by
  have:=HP.call (L:=L) (M:=[]) (by rw [List.append_nil];exact h.mem) hp
  rwa [List.append_nil] at this
 obtain ⟨β,hβ,hap⟩:=h.own
 have key:∀ (t:Tmp) (o:Out),qs2 A d (.v F) t=some o→(d=some t∧o = .v F)∨(d≠some t∧A t=some o):=fun t o ht=>by
  by_cases e:d=some t
  ·rw [e,qfw] at ht
   injection ht with ht
   exact .inl ⟨e,ht.symm⟩
  ·rw [qei e] at ht
   exact .inr ⟨e,ht⟩
 refine ⟨by rw [Act.put_defs];exact h.defers,by rw [Act.put_size];exact h.size,fun t B ht=>?_,hmem,β,fun t ι val I ht=>?_,fun t t' ι ι' val I val' I' hne ht ht'=>?_⟩
 ·rcases key t _ ht with ⟨e,e2⟩|⟨e,ht⟩
  ·injection e2 with e2
   subst e2 e
   rw [qi1 (.inl (by rw [h.size];exact hd t rfl))];exact hF
  ·rw [qhw e];exact B.mono hle (h.env t B ht)
 ·rcases key t _ ht with ⟨e,e2⟩|⟨e,ht⟩
  ·cases e2
  ·obtain ⟨h1,⟨h2,h3⟩,h4⟩:=hβ t ι val I ht
   refine ⟨by rw [qhw e];exact h1,⟨?_,fun b hb=>?_⟩,fun b hb=>⟨(h4 b hb).1,fun hn=>?_⟩⟩
   ·cases hat:(β t).at_ with
    | none=>rw [hat] at h2;exact (β t).mono hle h2
    | some b =>
     have h5:=(h3 b hat).1
     have h6:=(h4 b hat).2
     rw [hat] at h2
     simp only [Option.bind_some] at h2 ⊢
     rw [hp.kept.block b h5 h6]
     exact (β t).mono hle h2
   ·refine ⟨Nat.lt_of_lt_of_le (h3 b hb).1 hp.kept.size,fun i=>?_⟩
    rw [hp.old b i (h3 b hb).1];exact (h3 b hb).2 i
   ·rcases hp.mine b hn with h5|h5
    ·exact absurd (h3 b hb).1 (Nat.not_lt.2 h5)
    ·exact (h4 b hb).2 h5
 ·rcases key t _ ht with ⟨e,e2⟩|⟨e,ht⟩
  ·cases e2
  ·rcases key t' _ ht' with ⟨e',e2'⟩|⟨e',ht'⟩
   ·cases e2'
   ·exact hap t t' _ _ val I val' I' hne ht ht'
def JF (P:Program) (ops:Array Oper) (Q:Exit→Act→World→Prop) (c:Ctx) (N:Nat) (nd:List Nat) (fr dn ks mi:List Nat) (EO:EnvO) (L:List Item):Prop:=
 Good ops nd→qgm (fun _ o=>qrs N o.dst) ops.toList 0=true→∀ m A0,FV P ops c nd L fr dn ks m A0→(∀ i,inB mi i=true↔∃ x,x∈m∧x.i=i)→acc (fun _=>true) m A0=qcs EO →
  ∀ φ a w listed,FS ops nd dn m listed→SS c N (acc (lst listed) m A0) L φ a w→wpAny P .any ops Q (unl ops.size listed) listed a w
theorem qx9 {α:Type _} {m m1 m2:List α} {e x:α} (h:m++[e]=m1++x :: m2):(m1=m∧x=e∧m2=[])∨∃ m3,m2=m3++[e]∧m=m1++x :: m3:=by
 rcases List.eq_nil_or_concat m2 with rfl|⟨m3,y,rfl⟩
 ·have:=List.append_inj' h rfl
  obtain ⟨h1,h2⟩:=this
  injection h2 with h2
  exact .inl ⟨h1.symm,h2.symm,rfl⟩
 ·have h':m++[e]=(m1++x :: m3)++[y]:=by rw [h];simp
  obtain ⟨h1,h2⟩:=List.append_inj' h' rfl
  injection h2 with h2
  exact .inr ⟨m3,by rw [h2];simp,h1⟩
def newB (nd mi:List Nat) (i:Nat):Bool:=!inB mi i&&mi.all fun j=>!Nat.blt i j || !(qgr nd j).testBit i
section
variable {Q:Exit→Act→World→Prop} {nd:List Nat} {fr dn ks mi:List Nat} {EO:EnvO}
theorem FV.snoc {m:List Ent} {A0:Nat→Option Out} {e:Ent} {fr' dn' ks':List Nat} {L':List Item} (hv:FV P ops c nd L fr dn ks m A0) (ha:ops[e.i]?=some e.o) (hd:∀ x,x∈m→x.i≠e.i) (ho:∀ x,x∈m→e.i<x.i→(qgr nd x.i).testBit e.i=false)
  (hL:∀ x,x∈m→∀ m1,inB dn' x.i=false→inB dn x.i=false∧((LocOp P ops c L x.o (acc (fun _=>true) m1 A0) x.F x.kl∧(inB fr x.i=true→∀ L'',LocOp P ops c L'' x.o (acc (fun _=>true) m1 A0) x.F x.kl))→(LocOp P ops c L' x.o (acc (fun _=>true) m1 A0) x.F x.kl∧(inB fr' x.i=true→∀ L'',LocOp P ops c L'' x.o (acc (fun _=>true) m1 A0) x.F x.kl))))
  (he:inB dn' e.i=false→LocOp P ops c L' e.o (acc (fun _=>true) m A0) e.F e.kl∧(inB fr' e.i=true→∀ L'',LocOp P ops c L'' e.o (acc (fun _=>true) m A0) e.F e.kl)) (hk:qke ops nd e.i e.o (acc (fun _=>true) m A0) e.kl)
  (hks:∀ s,s∈ks→s∈ks') (hke:∀ s,e.kl=some s→s∈ks'):FV P ops c nd L' fr' dn' ks' (m++[e]) A0:=by
 refine ⟨fun x hx=>?_,List.pairwise_append.2 ⟨hv.dif,List.pairwise_singleton _ _,fun x hx y hy=>?_⟩,List.pairwise_append.2 ⟨hv.ord,List.pairwise_singleton _ _,fun x hx y hy=>?_⟩,fun m1 x m2 hm=>?_,fun x hx s hs=>?_⟩
 ·rcases List.mem_append.1 hx with hx|hx
  ·exact hv.at_ x hx
  ·rw [List.mem_singleton] at hx;subst hx;exact ha
 ·rw [List.mem_singleton] at hy;subst hy;exact hd x hx
 ·rw [List.mem_singleton] at hy;subst hy;exact ho x hx
 ·rcases qx9 hm with ⟨rfl,rfl,rfl⟩|⟨m3,rfl,hm'⟩
  ·exact ⟨he,hk⟩
  ·have hx:x∈m:=by rw [hm'];exact List.mem_append_right _ (List.mem_cons_self ..)
   obtain ⟨h1,h2⟩:=hv.op m1 x m3 hm'
   refine ⟨fun hdn=>?_,h2⟩
   obtain ⟨h3,h4⟩:=hL x hx m1 hdn
   exact h4 (h1 h3)
 ·rcases List.mem_append.1 hx with hx|hx
  ·exact hks _ (hv.kls x hx s hs)
  ·rw [List.mem_singleton] at hx;subst hx;exact hke s hs
theorem qvj {m:List Ent} {e:Ent} (h:∀ i,inB mi i=true↔∃ x,x∈m∧x.i=i):∀ i,inB (e.i :: mi) i=true↔∃ x,x∈m++[e]∧x.i=i:=fun i=>by
 constructor
 ·intro hi
  rcases List.mem_cons.1 (inB_iff.1 hi) with rfl|hi
  ·exact ⟨e,List.mem_append_right _ (List.mem_singleton.2 rfl),rfl⟩
  ·obtain ⟨x,h1,h2⟩:=(h i).1 (inB_iff.2 hi)
   exact ⟨x,List.mem_append_left _ h1,h2⟩
 ·rintro ⟨x,hx,rfl⟩
  refine inB_iff.2 ?_
  rcases List.mem_append.1 hx with hx|hx
  ·exact List.mem_cons_of_mem _ (inB_iff.1 ((h x.i).2 ⟨x,hx,rfl⟩))
  ·rw [List.mem_singleton] at hx;subst hx;exact List.mem_cons_self ..
theorem quk {i:Nat} {o:Oper} {F:Out} {kl:Option Tmp} (fr':List Nat) (hi:ops[i]?=some o) (hB:newB nd mi i=true) (hk:qke ops nd i o (qcs EO) kl) (hl:LocOp P ops c L o (qcs EO) F kl) (hf:fr'=fr∧inB fr i=false∨fr'=i :: fr∧∀ L',LocOp P ops c L' o (qcs EO) F kl)
  (h:JF P ops Q c N nd fr' dn (kl.toList++ks) (i :: mi) (qki (qo7 EO kl) (tgt o kl) F) L):JF P ops Q c N nd fr dn ks mi EO L:=by
 intro hg hN m A0 hv hmi hacc φ a w listed hs st
 unfold newB at hB
 simp only [Bool.and_eq_true] at hB
 obtain ⟨hB1,hB2⟩:=hB
 have hnew:∀ x,x∈m→x.i≠i:=fun x hx e=>by
  have:=(hmi x.i).2 ⟨x,hx,rfl⟩
  rw [e] at this
  rw [this] at hB1;cases hB1
 have hun:listed.getD i false=false:=by
  cases hv':listed.getD i false with
  | false=>rfl
  | true =>
   obtain ⟨x,h1,h2⟩:=hs.only i hv'
   exact absurd h2 (hnew x h1)
 have hfr:∀ x,x∈m→inB fr' x.i=true→inB fr x.i=true:=fun x hx hx'=>by
  rcases hf with ⟨e,_⟩|⟨e,_⟩
  ·rw [e] at hx';exact hx'
  ·rw [e] at hx'
   rcases List.mem_cons.1 (inB_iff.1 hx') with h1|h1
   ·exact absurd h1 (hnew x hx)
   ·exact inB_iff.2 h1
 refine h hg hN (m++[⟨i,o,F,kl⟩]) A0 (hv.snoc hi hnew (fun x hx hlt=>?_) (fun x hx m1 hd=>⟨hd,fun h1=>⟨h1.1,fun h2=>h1.2 (hfr x hx h2)⟩⟩) (fun _=>⟨by rw [hacc];exact hl,fun h1=>?_⟩) (by rw [hacc];exact hk) (fun s hs=>List.mem_append_right _ hs) (fun s hs=>?_)) (qvj (e:=⟨i,o,F,kl⟩) hmi) ?_ φ a w listed ⟨hs.cl,hs.done,fun j hj=>?_⟩ (st.congr fun t=>?_)
 ·have h1:=List.all_eq_true.1 hB2 x.i (inB_iff.1 ((hmi x.i).2 ⟨x,hx,rfl⟩))
  have h2:Nat.blt i x.i=true:=by simpa using hlt
  rw [h2] at h1
  simpa using h1
 ·rw [hacc]
  rcases hf with ⟨e,h2⟩|⟨e,h2⟩
  ·have h1':inB fr' i=true:=h1
   rw [e,h2] at h1';cases h1'
  ·exact h2
 ·have hs':kl=some s:=hs
  rw [hs'];exact List.mem_append_left _ (by simp)
 ·rw [qdv,hacc,qi8,qj0];rfl
 ·obtain ⟨x,h1,h2⟩:=hs.only j hj
  exact ⟨x,List.mem_append_left _ h1,h2⟩
 ·rw [qdv]
  refine (qik fun x hx _=>?_).symm
  rw [List.mem_singleton] at hx;subst hx;exact hun
def barB (ops:Array Oper) (nd fr dn dn' mi:List Nat) (i:Nat):Bool:=
 !inB mi i&&(mi.all fun j=>!(qgr nd j).testBit i)&&((List.range ops.size).all fun j=>inB mi j||Nat.beq j i||(qgr nd j).testBit i) &&
  (dn'.all fun j=>Nat.beq j i||inB dn j||(qgr nd i).testBit j)&&(mi.all fun j=>inB dn' j||inB fr j)&&inB dn' i&&(dn.all fun j=>inB dn' j)
theorem JF_bar {i:Nat} {o:Oper} {ι:Type} {F:ι→VP} {L':ι→List Item} (dn':List Nat) (hi:ops[i]?=some o) (hgd:o.guard=none) (hB:barB ops nd fr dn dn' mi i=true) (hs:∀ c':Ctx,OpS P c' o (vals EO) L F L')
  (h:∀ z,JF P ops Q c N nd fr dn' ks (i :: mi) (qki EO o.dst (.v (F z))) (L' z)):JF P ops Q c N nd fr dn ks mi EO L:=by
 intro hg hN m A0 hv hmi hacc φ a w listed hfs st
 unfold barB at hB
 simp only [Bool.and_eq_true] at hB
 obtain ⟨⟨⟨⟨⟨⟨hB1,hB2⟩,hB3⟩,hB4⟩,hB5⟩,hB6⟩,hB7⟩:=hB
 have hilt:i<ops.size:=(Array.getElem?_eq_some_iff.1 hi).1
 have hnew:∀ x,x∈m→x.i≠i:=fun x hx e=>by
  have:=(hmi x.i).2 ⟨x,hx,rfl⟩
  rw [e] at this
  rw [this] at hB1;cases hB1
 have hnn:∀ x,x∈m→(qgr nd x.i).testBit i=false:=fun x hx=>by
  have:=List.all_eq_true.1 hB2 x.i (inB_iff.1 ((hmi x.i).2 ⟨x,hx,rfl⟩))
  simpa using this
 refine frun hg hN hv (fun φ a w listed hfs st=>.inr ⟨fun hr=>?_,fun j hj hjm=>?_⟩) _ φ a w listed rfl hfs st
 ·have hun:listed.getD i true=false:=by
   cases hv':listed.getD i true with
   | false=>rfl
   | true =>
    have h1:listed.getD i false=true:=by
     have:i<listed.size:=by rw [hfs.cl.size];exact hilt
     simp [this] at hv' ⊢;exact hv'
    obtain ⟨x,h2,h3⟩:=hfs.only i h1
    exact absurd h3 (hnew x h2)
  obtain ⟨i0,h1,h2,h3⟩:=qdi (listed:=listed) ops.size ⟨i,hilt,hun⟩
  have:=qfc hg hfs.cl.size h1 h2 h3
  rw [hr] at this;cases this
 ·have hun:listed.getD i false=false:=by
   cases hv':listed.getD i false with
   | false=>rfl
   | true =>
    obtain ⟨x,h2,h3⟩:=hfs.only i hv'
    exact absurd h3 (hnew x h2)
  have hji:j=i:=by
   obtain ⟨_,oj,hoj,_⟩:=mem_ready.1 hj
   have h1:=List.all_eq_true.1 hB3 j (List.mem_range.2 (Array.getElem?_eq_some_iff.1 hoj).1)
   simp only [Bool.or_eq_true] at h1
   rcases h1 with (h1|h1)|h1
   ·obtain ⟨x,h2,h3⟩:=(hmi j).1 h1
    exact absurd h3 (hjm x h2)
   ·exact Nat.eq_of_beq_eq_true h1
   ·have:=qc2 hg hfs.cl hj h1
    rw [hun] at this;cases this
  subst hji
  unfold wpOp
  simp only [hi]
  rw [if_pos (by simp [Region.wanted,hgd])]
  refine .inl (hs ⟨w,φ,qb4 L,[]⟩ φ a w _ Q (HP.start st.mem.mem) (evs (ops:=ops) st.mem.mem.facts fun t ht B hB=>?_) fun z φ' v w' hle hF hp=>?_)
  ·have h1:acc (lst listed) m A0 t=qcs EO t:=by
    rw [← hacc]
    refine qec rfl fun y hy hyt=>?_
    show listed.getD y.i false=true
    have hyo:=hv.at_ y hy
    have hne:=hnew y hy
    have h2:(y.i<j→(qgr nd j).testBit y.i=true)∧(j<y.i→(qgr nd y.i).testBit j=true):=by
     rcases hyt with hyt|hyt
     ·exact hg.ord y.i y.o t j o hyo hyt hi (List.mem_append_left _ ht) hne
     ·obtain ⟨p1,p2,hp12⟩:=List.append_of_mem hy
      have h3:=((hv.op p1 y p2 hp12).2 t hyt).2 j o hi (.inl (List.mem_append_left _ ht)) (Ne.symm hne)
      exact h3
    rcases Nat.lt_or_gt_of_ne hne with h3|h3
    ·exact qc2 hg hfs.cl hj (h2.1 h3)
    ·have:=h2.2 h3
     rw [hnn y hy] at this;cases this
   cases hA:qcs EO t with
   | none=>rw [hA] at hB;cases hB
   | some D =>
    rw [hA] at hB h1
    cases D with
    | v D => obtain rfl : D = B := by simpa [Out.toV] using hB
             exact st.env t D h1
    | own val I=>cases hB
  ·have hcl:=hfs.cl.set hg hj
   have hjl:j<listed.size:=by rw [hfs.cl.size];exact hilt
   have hjT:(listed.setIfInBounds j true).getD j false=true:=by simp [hjl]
   have hget:∀ q,q≠j→(listed.setIfInBounds j true).getD q false=listed.getD q false:=fun q hq=>getD_set_ne false (Ne.symm hq)
   have hdst:∀ t,o.dst=some t→t<N:=by
    have:=qdg hN j o (by simpa using hi)
    exact qe1 this
   refine h z hg hN (m++[⟨j,o,.v (F z),none⟩]) A0 (hv.snoc hi hnew (fun x hx _=>hnn x hx) (fun x hx m1 hd=>?_) (fun hd=>?_) qe0 (fun s hs=>hs) (fun s hs=>by cases hs)) (qvj (e:=⟨j,o,.v (F z),none⟩) hmi) ?_ φ' _ w' _ ⟨hcl,fun q hq=>?_,fun q hq=>?_⟩ ((st.bar hdst hp hF).congr fun t=>?_)
   ·have hdx:inB dn x.i=false:=by
     cases hv':inB dn x.i with
     | false=>rfl
     | true=>have:=List.all_eq_true.1 hB7 x.i (inB_iff.1 hv');rw [hd] at this;cases this
    refine ⟨hdx,fun h1=>?_⟩
    have h2:=List.all_eq_true.1 hB5 x.i (inB_iff.1 ((hmi x.i).2 ⟨x,hx,rfl⟩))
    rw [hd,Bool.false_or] at h2
    exact ⟨h1.2 h2 _,h1.2⟩
   ·have hd':inB dn' j=false:=hd
    rw [hB6] at hd';cases hd'
   ·rw [qdv,hacc,qi8]
    show Ent.app _ _=_
    unfold Ent.app qgb
    dsimp only
    rw [qjr]
    simp
   ·by_cases hqj:q=j
    ·subst hqj;exact hjT
    ·rw [hget q hqj]
     have h1:=List.all_eq_true.1 hB4 q (inB_iff.1 hq)
     simp only [Bool.or_eq_true] at h1
     rcases h1 with (h1|h1)|h1
     ·exact absurd (Nat.eq_of_beq_eq_true h1) hqj
     ·exact hfs.done q h1
     ·exact qc2 hg hfs.cl hj h1
   ·by_cases hqj:q=j
    ·subst hqj;exact ⟨_,List.mem_append_right _ (List.mem_singleton.2 rfl),rfl⟩
    ·rw [hget q hqj] at hq
     obtain ⟨x,h1,h2⟩:=hfs.only q hq
     exact ⟨x,List.mem_append_left _ h1,h2⟩
   ·rw [qdv]
    have h1:acc (lst (listed.setIfInBounds j true)) [⟨j,o,.v (F z),none⟩] (acc (lst (listed.setIfInBounds j true)) m A0)=(⟨j,o,.v (F z),none⟩:Ent).app (acc (lst (listed.setIfInBounds j true)) m A0):=by
     show (bif lst (listed.setIfInBounds j true) j then _ else _)=_
     rw [show lst (listed.setIfInBounds j true) j=true from hjT];rfl
    rw [h1]
    have h2:∀ t,acc (lst (listed.setIfInBounds j true)) m A0 t=acc (lst listed) m A0 t:=fun t=>qec rfl fun x hx _=>hget x.i (hnew x hx)
    unfold Ent.app
    dsimp only
    rw [qjr]
    by_cases hdt:o.dst=some t
    ·rw [hdt,qfw,qfw]
    ·rw [qei hdt,qei hdt,← h2 t]
     unfold qgb;simp
theorem qeq (hB:((List.range ops.size).all fun j=>inB mi j)=true) (hb:qrz EO []=true) (h:opn EO fun E M=>JQ c N E (M++L) Q .normal):JF P ops Q c N nd fr dn ks mi EO L:=by
 intro hg hN m A0 hv hmi hacc φ a w listed hfs st
 refine frun hg hN hv (fun φ a w listed hfs st=>.inr ⟨fun hr=>?_,fun j hj hjm=>?_⟩) _ φ a w listed rfl hfs st
 ·have hall:∀ x,x∈m→listed.getD x.i false=true:=fun x hx=>by
   have hlt:=(Array.getElem?_eq_some_iff.1 (hv.at_ x hx)).1
   cases hv':listed.getD x.i false with
   | true=>rfl
   | false =>
    have h1:listed.getD x.i true=false:=by
     have:x.i<listed.size:=by rw [hfs.cl.size];exact hlt
     simp [this] at hv' ⊢;exact hv'
    obtain ⟨i0,h1,h2,h3⟩:=qdi (listed:=listed) ops.size ⟨x.i,hlt,h1⟩
    have:=qfc hg hfs.cl.size h1 h2 h3
    rw [hr] at this;cases this
  have st':=st.congr (B:=qcs EO) fun t=>by
   rw [← hacc]
   exact qec rfl fun x hx _=>hall x hx
  obtain ⟨E,M,h1,h2⟩:=st'.open_ hb h
  exact h1 φ a w h2
 ·exfalso
  obtain ⟨_,oj,hoj,_⟩:=mem_ready.1 hj
  have h1:=List.all_eq_true.1 hB j (List.mem_range.2 (Array.getElem?_eq_some_iff.1 hoj).1)
  obtain ⟨x,h2,h3⟩:=(hmi j).1 h1
  exact hjm x h2 h3
def nameB (ops:Array Oper) (nd ks mi:List Nat) (d t:Nat):Bool:=
 inB mi d&&((List.range ops.size).all fun j=>inB mi j||(qgr nd j).testBit d)&&(mi.all fun j=>Nat.beq j d || !(match ops[j]? with|some x=>(qck ops x).any (fun s=>Nat.beq s t)|none=>false)) && !inB ks t
theorem qgk {ι:Type} {val:ι→Value} {I:ι→Item} (t d:Nat) (hB:nameB ops nd ks mi d t=true) (hd:((ops[d]?).bind (·.dst))=some t) (hl:qcs EO t=some (.own val I))
  (h:∀ i,JF P ops Q c N nd fr (d :: dn) ks mi ((t,.v (Is (val i))) :: qo7 EO (some t)) (I i :: L)):JF P ops Q c N nd fr dn ks mi EO L:=by
 intro hg hN m A0 hv hmi hacc φ a w listed hfs st
 unfold nameB at hB
 simp only [Bool.and_eq_true] at hB
 obtain ⟨⟨⟨hB1,hB2⟩,hB3⟩,hB4⟩:=hB
 obtain ⟨xd,hxd1,hxd2⟩:=(hmi d).1 hB1
 have hdlt:d<ops.size:=by rw [← hxd2];exact (Array.getElem?_eq_some_iff.1 (hv.at_ xd hxd1)).1
 have hto:∀ x,x∈m→x.tch t→x.i=d:=fun x hx ht=>by
  rcases ht with ht|ht
  ·have h1:=List.all_eq_true.1 hB3 x.i (inB_iff.1 ((hmi x.i).2 ⟨x,hx,rfl⟩))
   rw [hv.at_ x hx] at h1
   simp only [Bool.or_eq_true] at h1
   rcases h1 with h1|h1
   ·exact Nat.eq_of_beq_eq_true h1
   ·have h2:((qck ops x.o).any fun s=>Nat.beq s t)=true:=List.any_eq_true.2 ⟨t,List.mem_append_right _ (by rw [ht];simp),by simp⟩
    rw [h2] at h1;cases h1
  ·have h1:=inB_iff.2 (hv.kls x hx t ht)
   rw [h1] at hB4;cases hB4
 have hnl:∀ x,x∈m→x.i≠d→t ∉ qck ops x.o:=fun x hx hne h2=>by
  have h1:=List.all_eq_true.1 hB3 x.i (inB_iff.1 ((hmi x.i).2 ⟨x,hx,rfl⟩))
  rw [hv.at_ x hx] at h1
  simp only [Bool.or_eq_true] at h1
  rcases h1 with h1|h1
  ·exact hne (Nat.eq_of_beq_eq_true h1)
  ·have h2:((qck ops x.o).any fun s=>Nat.beq s t)=true:=List.any_eq_true.2 ⟨t,h2,by simp⟩
   rw [h2] at h1;cases h1
 refine frun hg hN hv (fun φ a w listed hfs st=>?_) _ φ a w listed rfl hfs st
 cases hld:listed.getD d false with
 | false =>
  refine .inr ⟨fun hr=>?_,fun j hj hjm=>?_⟩
  ·have h1:listed.getD d true=false:=by
    have:d<listed.size:=by rw [hfs.cl.size];exact hdlt
    simp [this] at hld ⊢;exact hld
   obtain ⟨i0,h1,h2,h3⟩:=qdi (listed:=listed) ops.size ⟨d,hdlt,h1⟩
   have:=qfc hg hfs.cl.size h1 h2 h3
   rw [hr] at this;cases this
  ·exfalso
   obtain ⟨_,oj,hoj,_⟩:=mem_ready.1 hj
   have h1:=List.all_eq_true.1 hB2 j (List.mem_range.2 (Array.getElem?_eq_some_iff.1 hoj).1)
   simp only [Bool.or_eq_true] at h1
   rcases h1 with h1|h1
   ·obtain ⟨x,h2,h3⟩:=(hmi j).1 h1
    exact hjm x h2 h3
   ·have:=qc2 hg hfs.cl hj h1
    rw [hld] at this;cases this
 | true =>
  left
  have hAt:acc (lst listed) m A0 t=some (.own val I):=by
   rw [← hl,← hacc]
   exact qec rfl fun x hx ht=>by rw [hto x hx ht];exact hld
  obtain ⟨i,st2⟩:=st.openT hAt
  let tell:Ent→Ent:=fun x=>if x.i=d then ⟨x.i,x.o,.v (Is (val i)),x.kl⟩ else x
  have htl:∀ x:Ent,x.i≠d→tell x=x:=fun x hx=>if_neg hx
  have htd:∀ x:Ent,x.i=d→tell x=⟨x.i,x.o,.v (Is (val i)),x.kl⟩:=fun x hx=>if_pos hx
  have htio:∀ x:Ent,(tell x).i=x.i∧(tell x).o=x.o:=fun x=>by
   by_cases hx:x.i=d
   ·rw [htd x hx];exact ⟨rfl,rfl⟩
   ·rw [htl x hx];exact ⟨rfl,rfl⟩
  have htk:∀ x:Ent,(tell x).kl=x.kl:=fun x=>by
   by_cases hx:x.i=d
   ·rw [htd x hx]
   ·rw [htl x hx]
  have hxd:∀ x,x∈m→x.i=d→x.o.dst=some t:=fun x hx hi=>by
   have h2:=hv.at_ x hx
   rw [hi] at h2
   rw [h2] at hd;exact hd
  have hkt:∀ x,x∈m→x.kl≠some t:=fun x hx e=>by
   have h1:=inB_iff.2 (hv.kls x hx t e)
   rw [h1] at hB4;cases hB4
  have happ:∀ x,x∈m→∀ s,s≠t→∀ A B:Nat→Option Out,A s=B s→x.app A s=(tell x).app B s:=fun x hx s hs A B hAB=>by
   by_cases hi:x.i=d
   ·rw [htd x hi]
    unfold Ent.app
    dsimp only
    have h1:=qhb (hxd x hx hi) x.kl
    rw [h1,qei (fun e=>hs (Option.some.inj e).symm),qei (fun e=>hs (Option.some.inj e).symm)]
    unfold qgb
    split
    ·rfl
    ·exact hAB
   ·rw [htl x hi]
    by_cases ht:x.tch s
    ·exact Ent.app_same (.inl ht)
    ·exact Ent.app_same (.inr hAB)
  have haway:∀ (p:Nat→Bool) (m1:List Ent),(∀ x,x∈m1→x∈m)→∀ s,s≠t→acc p m1 A0 s=acc p (m1.map tell) A0 s:=fun p m1 hm1 s hs=>by
   refine zcy (by simp) (fun j x x' h1 h2=>?_) rfl
   rw [List.getElem?_map,h1] at h2
   simp only [Option.map_some,Option.some.injEq] at h2
   rw [← h2]
   exact ⟨(htio x).1,happ x (hm1 x (List.mem_of_getElem? h1)) s hs⟩
  have hat:∀ p:Nat→Bool,p d=true→acc p (m.map tell) A0 t=some (.v (Is (val i))):=fun p hpd=>by
   refine acc_at hpd (fun x hx=>?_) (.inr ⟨tell xd,List.mem_map.2 ⟨xd,hxd1,rfl⟩,by rw [(htio xd).1,hxd2]⟩)
   obtain ⟨y,hy,rfl⟩:=List.mem_map.1 hx
   refine ⟨fun hi A=>?_,fun hi ht=>?_⟩
   ·rw [(htio y).1] at hi
    rw [htd y hi]
    unfold Ent.app
    dsimp only
    rw [qhb (hxd y hy hi),qfw]
   ·rw [(htio y).1] at hi
    rw [htl y hi] at ht
    exact hi (hto y hy ht)
  have hv':FV P ops c nd (I i :: L) fr (d :: dn) ks (m.map tell) A0:=by
   refine ⟨fun x hx=>?_,List.pairwise_map.2 (hv.dif.imp fun {x y} h1=>by rw [(htio x).1,(htio y).1];exact h1),List.pairwise_map.2 (hv.ord.imp fun {x y} h1=>by rw [(htio x).1,(htio y).1];exact h1),fun m1 x m2 hm=>?_,fun x hx s hs=>?_⟩
   ·obtain ⟨y,hy,rfl⟩:=List.mem_map.1 hx
    rw [(htio y).1,(htio y).2];exact hv.at_ y hy
   ·obtain ⟨l1,l2,h1,rfl,h3⟩:=List.map_eq_append_iff.1 hm
    obtain ⟨y,l3,h4,rfl,rfl⟩:=List.map_eq_cons_iff.1 h3
    rw [h4] at h1
    have hym:y∈m:=by rw [h1];exact List.mem_append_right _ (List.mem_cons_self ..)
    have hl1:∀ x,x∈l1→x∈m:=fun x hx=>by rw [h1];exact List.mem_append_left _ hx
    obtain ⟨g1,g2⟩:=hv.op l1 y l3 h1
    refine ⟨fun hdn=>?_,fun s hs=>?_⟩
    ·rw [(htio y).1] at hdn
     have hne:y.i≠d:=fun e=>by
      have:inB (d :: dn) y.i=true:=inB_iff.2 (by rw [e];exact List.mem_cons_self ..)
      rw [hdn] at this;cases this
     have hdn':inB dn y.i=false:=by
      cases hv':inB dn y.i with
      | false=>rfl
      | true =>
       have:inB (d :: dn) y.i=true:=inB_iff.2 (List.mem_cons_of_mem _ (inB_iff.1 hv'))
       rw [hdn] at this;cases this
     rw [htl y hne]
     obtain ⟨g3,g4⟩:=g1 hdn'
     have hc:∀ s,s∈y.o.looksAt ops∨y.kl=some s→acc (fun _=>true) (l1.map tell) A0 s=acc (fun _=>true) l1 A0 s:=fun s hs=>by
      refine (haway _ l1 hl1 s ?_).symm
      rintro rfl
      rcases hs with hs|hs
      ·exact hnl y hym hne (List.mem_append_left _ hs)
      ·exact hkt y hym hs
     exact ⟨g3.more.congr hc,fun h5 L''=>(g4 h5 L'').congr hc⟩
    ·rw [htk y] at hs
     have hst:s≠t:=fun e=>hkt y hym (by rw [hs,e])
     obtain ⟨⟨g3,ι',val',I',g4⟩,g5⟩:=g2 s hs
     rw [(htio y).1,(htio y).2]
     exact ⟨⟨g3,ι',val',I',by rw [← haway _ l1 hl1 s hst];exact g4⟩,g5⟩
   ·obtain ⟨y,hy,rfl⟩:=List.mem_map.1 hx
    rw [htk y] at hs;exact hv.kls y hy s hs
  refine h i hg hN (m.map tell) A0 hv' (fun j=>(hmi j).trans ⟨fun ⟨x,h1,h2⟩=>⟨tell x,List.mem_map.2 ⟨x,h1,rfl⟩,by rw [(htio x).1];exact h2⟩,fun ⟨x,h1,h2⟩=>?_⟩) ?_ φ a w listed ⟨hfs.cl,fun j hj=>?_,fun j hj=>?_⟩ (st2.congr fun s=>?_)
  ·obtain ⟨y,hy,rfl⟩:=List.mem_map.1 h1
   exact ⟨y,hy,by rw [← (htio y).1];exact h2⟩
  ·funext s
   by_cases hs:s=t
   ·subst hs
    rw [hat _ rfl]
    simp [qcs]
   ·rw [← haway _ m (fun x hx=>hx) s hs,hacc]
    simp only [qcs,qiq (Ne.symm hs),cond_false]
    rw [qj0,qii (fun e=>hs (Option.some.inj e).symm)]
  ·rcases List.mem_cons.1 (inB_iff.1 hj) with rfl|hj
   ·exact hld
   ·exact hfs.done j (inB_iff.2 hj)
  ·obtain ⟨x,h1,h2⟩:=hfs.only j hj
   exact ⟨tell x,List.mem_map.2 ⟨x,h1,rfl⟩,by rw [(htio x).1];exact h2⟩
  ·by_cases hs:s=t
   ·subst hs
    rw [if_pos rfl,hat _ hld]
   ·rw [if_neg hs];exact haway _ m (fun x hx=>hx) s hs
theorem qgl {its:List Item} {rest:List Oper} {E:Env} (h:JF P ops Q c N nd [] [] [] [] (qmt N its++qm2 E) L):JD P ops Q c N nd 0 rest E (its++L):=fun hg hN hk hrest φ a w listed hp st =>
 h hg hN [] (qcs (qmt N its++qm2 E)) ⟨fun x hx=>(by cases hx),List.Pairwise.nil,List.Pairwise.nil,fun m1 x m2 hm=>(by simp at hm),fun x hx=>(by cases hx)⟩ (fun i=>⟨fun hi=>absurd (inB_iff.1 hi) (by simp),fun ⟨x,hx,_⟩=>(by cases hx)⟩) rfl φ a w listed
  ⟨hp.cl,fun i hi=>absurd (inB_iff.1 hi) (by simp),fun i hi=>by
   exfalso
   have hlt:i<listed.size:=by
    rcases Nat.lt_or_ge i listed.size with h1|h1
    ·exact h1
    ·simp [Nat.not_lt.2 h1] at hi
   have h1:listed.getD i true=true:=by simp [hlt] at hi ⊢;exact hi
   have:=(hp.pre i (by rw [← hp.cl.size];exact hlt)).1 h1
   omega⟩ (SS.startG st)
section
variable {i:Nat} {t:Tmp} {op:Op} {ty:TypeId} {pos:String} {af:Array Edge}
theorem LocOp.p {o:Oper} {F:VP} (hgd:o.guard=none) (hs:OpP P c o (vals EO) L F):LocOp P ops c L o (qcs EO) (.v F) none:=fun φ a w K Q M hm ht hl hk=>by
 rw [if_pos (by simp [Region.wanted,hgd])]
 obtain rfl:M=[]:=ht
 exact hs φ a w K Q hm (evs hm.mem.facts hl) fun φ' v w' hp hf=>hk φ' v w' (by rw [qfo];exact ⟨hp,hf⟩)
theorem LocOp.n {o:Oper} {ι:Type} {val:ι→Value} {I:ι→Item} (hgd:o.guard=none) (hs:OpN P c o (vals EO) L val I):LocOp P ops c L o (qcs EO) (.own val I) none:=fun φ a w K Q M hm ht hl hk=>by
 rw [if_pos (by simp [Region.wanted,hgd])]
 obtain rfl:M=[]:=ht
 exact hs φ a w K Q hm (evs hm.mem.facts hl) fun i φ' w' hp=>hk φ' _ w' ⟨i,qfo _ _ _,hp⟩
def qtg (nd fr mi:List Nat) (i:Nat):Bool:=newB nd mi i && !inB fr i
theorem qfx (h:qtg nd fr mi i=true):newB nd mi i=true∧inB fr i=false:=by
 unfold qtg at h
 simp only [Bool.and_eq_true,Bool.not_eq_true'] at h
 exact h
theorem qkf {F:VP} (i:Nat) (hi:ops[i]?=some ⟨some t,op,ty,pos,af,none⟩) (hB:qtg nd fr mi i=true) (hs:OpP P c ⟨some t,op,ty,pos,af,none⟩ (vals EO) L F) (h:JF P ops Q c N nd fr dn ks (i :: mi) ((t,.v F) :: EO) L):JF P ops Q c N nd fr dn ks mi EO L:=
 quk fr hi (qfx hB).1 qe0 (LocOp.p rfl hs) (.inl ⟨rfl,(qfx hB).2⟩) h
theorem qhq {F:VP} (i:Nat) (hi:ops[i]?=some ⟨some t,op,ty,pos,af,none⟩) (hB:qtg nd fr mi i=true) (hs:∀ L,OpP P c ⟨some t,op,ty,pos,af,none⟩ (vals EO) L F) (h:JF P ops Q c N nd (i :: fr) dn ks (i :: mi) ((t,.v F) :: EO) L):JF P ops Q c N nd fr dn ks mi EO L:=
 quk (i :: fr) hi (qfx hB).1 qe0 (LocOp.p rfl (hs L)) (.inr ⟨rfl,fun L'=>LocOp.p rfl (hs L')⟩) h
theorem JF_n {ι:Type} {val:ι→Value} {I:ι→Item} (i:Nat) (hi:ops[i]?=some ⟨some t,op,ty,pos,af,none⟩) (hB:qtg nd fr mi i=true) (hs:OpN P c ⟨some t,op,ty,pos,af,none⟩ (vals EO) L val I) (h:JF P ops Q c N nd fr dn ks (i :: mi) ((t,.own val I) :: EO) L):JF P ops Q c N nd fr dn ks mi EO L:=
 quk fr hi (qfx hB).1 qe0 (LocOp.n rfl hs) (.inl ⟨rfl,(qfx hB).2⟩) h
theorem qm4 {ι:Type} {val:ι→Value} {I:ι→Item} (i:Nat) (hi:ops[i]?=some ⟨some t,op,ty,pos,af,none⟩) (hB:qtg nd fr mi i=true) (hs:∀ L,OpN P c ⟨some t,op,ty,pos,af,none⟩ (vals EO) L val I) (h:JF P ops Q c N nd (i :: fr) dn ks (i :: mi) ((t,.own val I) :: EO) L):JF P ops Q c N nd fr dn ks mi EO L:=
 quk (i :: fr) hi (qfx hB).1 qe0 (LocOp.n rfl (hs L)) (.inr ⟨rfl,fun L'=>LocOp.n rfl (hs L')⟩) h
theorem JF_b {ι:Type} {F:ι→VP} {L':ι→List Item} (i:Nat) (dn':List Nat) (hi:ops[i]?=some ⟨some t,op,ty,pos,af,none⟩) (hB:barB ops nd fr dn dn' mi i=true) (hs:∀ c':Ctx,OpS P c' ⟨some t,op,ty,pos,af,none⟩ (vals EO) L F L')
  (h:∀ z,JF P ops Q c N nd fr dn' ks (i :: mi) ((t,.v (F z)) :: EO) (L' z)):JF P ops Q c N nd fr dn ks mi EO L:=JF_bar dn' hi rfl hB hs h
theorem qfi {F:Unit→VP} {L':Unit→List Item} (i:Nat) (dn':List Nat) (hi:ops[i]?=some ⟨none,op,ty,pos,af,none⟩) (hB:barB ops nd fr dn dn' mi i=true) (hs:∀ c':Ctx,OpS P c' ⟨none,op,ty,pos,af,none⟩ (vals EO) L F L')
  (h:JF P ops Q c N nd fr dn' ks (i :: mi) EO (L' ())):JF P ops Q c N nd fr dn ks mi EO L:=JF_bar dn' hi rfl hB hs fun _=>h
theorem qm5 {j:Nat} {want b:Bool} {g:Tmp} {F:VP} (i:Nat) (hi:ops[i]?=some ⟨some t,op,ty,pos,af,some (j,want)⟩) (hB:qtg nd fr mi i=true) (hj:(ops[j]?).bind (·.dst)=some g) (hl:vals EO g=some (Is (.bool b)))
  (hs:(b==want)=true→OpP P c ⟨some t,op,ty,pos,af,some (j,want)⟩ (vals EO) L F) (h:JF P ops Q c N nd fr dn ks (i :: mi) ((t,.v (qdn (b==want) F (Is undef))) :: EO) L):JF P ops Q c N nd fr dn ks mi EO L:=by
 refine quk fr hi (qfx hB).1 (F:=.v (qdn (b==want) F (Is undef))) qe0 (fun φ a w K Q M hm ht hlk hk=>?_) (.inl ⟨rfl,(qfx hB).2⟩) h
 obtain rfl:M=[]:=ht
 have hw:=qgz (o:=⟨some t,op,ty,pos,af,some (j,want)⟩) (a:=a) rfl hj (gval rfl hj hlk hl)
 cases hbw:(b==want) with
 | false =>
  rw [if_neg (by rw [hw,hbw];simp)]
  exact ⟨rfl,(rfl:undef=undef)⟩
 | true =>
  rw [if_pos (by rw [hw,hbw])]
  refine hs hbw φ a w K Q hm (evs hm.mem.facts hlk) fun φ' v w' hpp hf=>hk φ' v w' ⟨hpp,?_⟩
  rw [qfo,hbw];exact hf
end
end
end
end Go.Proofs.YtmgoplaamlignaaGreat
