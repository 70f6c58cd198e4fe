/- Texts laid together: walks of functions, what they compute, and plain laws of it. Own work. -/
import Derived.Test.YtmgoplaamlignaaGreatK8
import Derived.Test.YtmgoplaamlignaaGreatK1
namespace Go.Proofs.YtmgoplaamlignaaGreat
open Go.RowKit Tryz
set_option linter.unusedVariables false
set_option linter.unusedSimpArgs false
set_option maxRecDepth 100000
set_option maxHeartbeats 4000000
section
variable {P:Program} {ops:Array Oper} {c:Ctx} {N:Nat}
structure EP where
 i:Nat
 o:Oper
 F:VP
 kd:Nat
 M':List Item
def EP.ok (P:Program) (c:Ctx) (x:EP) (A:Nat→Option VP) (M:List Item):Prop:=
 x.o.guard=none∧((x.kd=0∧OpP P c x.o A [] x.F)∨(x.kd=1∧OpP P c x.o A M x.F)∨(x.kd=2∧OpS P c x.o A M (fun _:Unit=>x.F) (fun _=>x.M'))∨(x.kd=1∧OpS P c x.o A M (fun _:Unit=>x.F) (fun _=>M)))
def qmu (p:Nat→Bool):List EP→(Nat→Option VP)→Nat→Option VP
 | [],A=>A
 | x :: l,A=>qmu p l (bif p x.i then qsi A x.o.dst x.F else A)
def qmv (p:Nat→Bool):List EP→List Item→List Item
 | [],M=>M
 | x :: l,M=>qmv p l (bif p x.i&&Nat.beq x.kd 2 then x.M' else M)
theorem qu6 {A:Nat→Option VP} {d:Option Tmp} {B:VP} {t:Nat} (h:d≠some t):qsi A d B t=A t:=by unfold qsi;rw [if_neg h]
theorem qqw {A:Nat→Option VP} {B:VP} {t:Nat}:qsi A (some t) B t=some B:=by unfold qsi;rw [if_pos rfl]
theorem qgw {p q:Nat→Bool} {t:Nat} {l:List EP}:∀ {A B:Nat→Option VP},A t=B t→(∀ x,x∈l→x.o.dst=some t→p x.i=q x.i)→qmu p l A t=qmu q l B t:=by
 induction l with
 | nil=>intro A B h _;exact h
 | cons y l ih =>
  intro A B h hl
  show qmu p l (bif p y.i then qsi A y.o.dst y.F else A) t=qmu q l (bif q y.i then qsi B y.o.dst y.F else B) t
  refine ih ?_ fun x hx=>hl x (List.mem_cons_of_mem _ hx)
  by_cases hd:y.o.dst=some t
  ·rw [hl y (List.mem_cons_self ..) hd,hd]
   cases q y.i
   ·exact h
   ·simp only [cond_true];rw [qqw,qqw]
  ·have e1:(bif p y.i then qsi A y.o.dst y.F else A) t=A t:=by cases p y.i <;> simp [qu6 hd]
   have e2:(bif q y.i then qsi B y.o.dst y.F else B) t=B t:=by cases q y.i <;> simp [qu6 hd]
   rw [e1,e2];exact h
theorem qkw (p:Nat→Bool):∀ (l l':List EP) (A:Nat→Option VP),qmu p (l++l') A=qmu p l' (qmu p l A)
 | [],_,_=>rfl
 | x :: l,l',A=>by simp only [List.cons_append,qmu,qkw p l l']
theorem qub (l:List EP) (A:Nat→Option VP):qmu (fun _=>false) l A=A:=by
 induction l generalizing A with
 | nil=>rfl
 | cons x l ih=>exact ih A
theorem qua {p:Nat→Bool} {t:Nat} {l:List EP} {A:Nat→Option VP} (h:∀ x,x∈l→x.o.dst=some t→p x.i=false):qmu p l A t=A t:=by
 rw [qgw (q:=fun _=>false) (A:=A) (B:=A) rfl h,qub]
theorem qgx {p q:Nat→Bool} {l:List EP}:∀ {M:List Item},(∀ x,x∈l→x.kd=2→p x.i=q x.i)→qmv p l M=qmv q l M:=by
 induction l with
 | nil=>intro M _;rfl
 | cons y l ih =>
  intro M hl
  show qmv p l (bif p y.i&&Nat.beq y.kd 2 then y.M' else M)=qmv q l (bif q y.i&&Nat.beq y.kd 2 then y.M' else M)
  by_cases h2:y.kd=2
  ·rw [hl y (List.mem_cons_self ..) h2];exact ih fun x hx=>hl x (List.mem_cons_of_mem _ hx)
  ·have hb:Nat.beq y.kd 2=false:=qiq h2
   rw [hb,Bool.and_false,Bool.and_false];exact ih fun x hx=>hl x (List.mem_cons_of_mem _ hx)
theorem qkx (p:Nat→Bool):∀ (l l':List EP) (M:List Item),qmv p (l++l') M=qmv p l' (qmv p l M)
 | [],_,_=>rfl
 | x :: l,l',M=>by simp only [List.cons_append,qmv,qkx p l l']
theorem qud (l:List EP) (M:List Item):qmv (fun _=>false) l M=M:=by
 induction l generalizing M with
 | nil=>rfl
 | cons x l ih=>exact ih M
theorem quc {p:Nat→Bool} {l:List EP} {M:List Item} (h:∀ x,x∈l→x.kd=2→p x.i=false):qmv p l M=M:=by
 rw [qgx (q:=fun _=>false) h,qud]
theorem St.congr {A B:Nat→Option VP} {L L':List Item} {φ:Fz} {a:Act} {w:World} (h:St c N A L φ a w) (e:∀ t,A t=B t) (e':L=L'):St c N B L' φ a w:=by
 have:A=B:=funext e
 subst this;subst e';exact h
theorem phases {Q:Exit→Act→World→Prop} {nd:List Nat} (hg:Good ops nd) (hN:qgm (fun _ o=>qrs N o.dst) ops.toList 0=true) {k n:Nat} (hS:qk8 nd ops.size k n=true) (hkn:k+n≤ops.size)
  {m:List EP} {A0:Nat→Option VP} {M0:List Item} (hm:m.length=n) (hmi:∀ i x,m[i]?=some x→x.i=k+i∧ops[k+i]?=some x.o)
  (hop:∀ m1 x m2,m=m1++x :: m2→x.ok P c (qmu (fun _=>true) m1 A0) (qmv (fun _=>true) m1 M0))
  (hph:∀ x y,x∈m→y∈m→x.i<y.i→(x.kd=2∧y.kd≠0∨x.kd≠0∧y.kd=2)→(qgr nd y.i).testBit x.i=true)
  (next:∀ φ a w listed,Pre ops nd (k+n) listed→St c N (qmu (fun _=>true) m A0) (qmv (fun _=>true) m M0) φ a w→wpAny P .any ops Q (unl ops.size listed) listed a w) :
  ∀ (u:Nat) (φ:Fz) (a:Act) (w:World) (listed:Array Bool),unl ops.size listed=u→Cl ops nd listed→(∀ i,i<k→listed.getD i true=true)→(∀ i,k+n≤i→i<ops.size→listed.getD i true=false) →
   St c N (qmu (fun i=>listed.getD i false) m A0) (qmv (fun i=>listed.getD i false) m M0) φ a w→wpAny P .any ops Q u listed a w:=by
 intro u
 induction u with
 | zero =>
  intro φ a w listed hu hc hlo hhi st
  have hall:=qqn hu
  have hk:k+n=ops.size:=by
   rcases Nat.lt_or_ge (k+n) ops.size with h|h
   ·have h1:=hall _ h;have h2:=hhi (k+n) (Nat.le_refl _) h;rw [h1] at h2;cases h2
   ·omega
  have hall2:∀ x,x∈m→listed.getD x.i false=true:=fun x hx=>by
   obtain ⟨i,hi⟩:=List.mem_iff_getElem?.1 hx
   obtain ⟨e1,e2⟩:=hmi i x hi
   have hlt:k+i<ops.size:=(Array.getElem?_eq_some_iff.1 e2).1
   have h1:=hall _ hlt
   have h2:k+i<listed.size:=by rw [hc.size];exact hlt
   rw [e1]
   simp [h2] at h1 ⊢;exact h1
  rw [← hu]
  exact next φ a w listed ⟨hc,fun i hi=>⟨fun _=>by omega,fun _=>hall i hi⟩⟩ (st.congr (fun t=>qgw rfl fun x hx _=>hall2 x hx) (qgx fun x hx _=>hall2 x hx))
 | succ u ih =>
  intro φ a w listed hu hc hlo hhi st
  by_cases hdone:∃ i,i<k+n∧listed.getD i true=false
  ·obtain ⟨i0,hi0,hu0,hl0⟩:=qdi _ hdone
   have hr0:=qfc hg hc.size (by omega) hu0 hl0
   refine ⟨fun h=>(by rw [h] at hr0;cases hr0),fun i hi=>?_⟩
   obtain ⟨hiu,oi,hoi,hiall⟩:=mem_ready.1 hi
   have hilt:i<ops.size:=(Array.getElem?_eq_some_iff.1 hoi).1
   have hik:k≤i:=by
    rcases Nat.lt_or_ge i k with h|h
    ·have:=hlo i h;rw [hiu] at this;cases this
    ·exact h
   have hin:i<k+n:=by
    rcases Nat.lt_or_ge i (k+n) with h|h
    ·exact h
    ·exfalso
     have hi0k:k≤i0:=by
      rcases Nat.lt_or_ge i0 k with h' | h'
      ·have:=hlo i0 h';rw [hu0] at this;cases this
      ·exact h'
     have h1:=List.all_eq_true.1 hS (i0-k) (List.mem_range.2 (by omega))
     have h2:=List.all_eq_true.1 h1 i (List.mem_range.2 hilt)
     have h3:Nat.blt i (k+n)=false:=qp7 (by omega)
     rw [h3,Bool.false_or,show k+(i0-k)=i0 by omega] at h2
     have h4:=qc2 hg hc hi h2
     rw [qfp hu0] at h4;cases h4
   have hp:(i-k)<m.length:=by omega
   obtain ⟨x,hx⟩:∃ x,m[i-k]?=some x:=⟨m[i-k],by simp [hp]⟩
   obtain ⟨ex1,ex2⟩:=hmi (i-k) x hx
   rw [show k+(i-k)=i by omega] at ex1 ex2
   have hox:x.o=oi:=Option.some.inj (ex2.symm.trans hoi)
   obtain ⟨m1,m2,hsplit,hm1⟩:∃ m1 m2,m=m1++x :: m2∧m1.length=i-k:=by
    refine ⟨m.take (i-k),m.drop (i-k+1),?_,by simp;omega⟩
    have h1:m.drop (i-k)=x :: m.drop (i-k+1):=by
     rw [List.drop_eq_getElem_cons hp]
     congr 1
     rw [List.getElem?_eq_getElem hp] at hx
     exact Option.some.inj hx
    rw [← h1,List.take_append_drop]
   have idx1:∀ y,y∈m1→y.i<i∧ops[y.i]?=some y.o:=fun y hy=>by
    obtain ⟨q,hq⟩:=List.mem_iff_getElem?.1 hy
    have hql:q<m1.length:=(List.getElem?_eq_some_iff.1 hq).1
    have hq':m[q]?=some y:=by rw [hsplit,List.getElem?_append_left hql];exact hq
    obtain ⟨e1,e2⟩:=hmi q y hq'
    exact ⟨by omega,by rw [e1];exact e2⟩
   have idx2:∀ y,y∈m2→i<y.i∧ops[y.i]?=some y.o:=fun y hy=>by
    obtain ⟨q,hq⟩:=List.mem_iff_getElem?.1 hy
    have hq':m[m1.length+1+q]?=some y:=by
     rw [hsplit,List.getElem?_append_right (by omega),show m1.length+1+q-m1.length=q+1 by omega]
     simpa using hq
    obtain ⟨e1,e2⟩:=hmi _ y hq'
    exact ⟨by omega,by rw [e1];exact e2⟩
   have hiL:i<listed.size:=by rw [hc.size];exact hilt
   have hxm:x∈m:=by rw [hsplit];exact List.mem_append_right _ (List.mem_cons_self ..)
   have in1:∀ y,y∈m1→y∈m:=fun y hy=>by rw [hsplit];exact List.mem_append_left _ hy
   have in2:∀ y,y∈m2→y∈m:=fun y hy=>by rw [hsplit];exact List.mem_append_right _ (List.mem_cons_of_mem _ hy)
   have notyet:∀ j,(qgr nd j).testBit i=true→listed.getD j false=false:=fun j hj=>by
    cases hv:listed.getD j false with
    | false=>rfl
    | true=>have h4:=hc.cl _ hv i hj;rw [qfp hiu] at h4;cases h4
   have earlier:∀ y t,y∈m1→y.o.dst=some t→t∈qck ops oi→listed.getD y.i false=true:=fun y t hy ht htn=>by
    obtain ⟨h1,h2⟩:=idx1 y hy
    exact qc2 hg hc hi ((hg.ord y.i y.o t i oi h2 ht hoi htn (by omega)).1 h1)
   have later:∀ y t,y∈m2→y.o.dst=some t→t∈qck ops oi→listed.getD y.i false=false:=fun y t hy ht htn=>by
    obtain ⟨h1,h2⟩:=idx2 y hy
    exact notyet _ ((hg.ord y.i y.o t i oi h2 ht hoi htn (by omega)).2 h1)
   have hsame:∀ t,t∈oi.looksAt ops→qmu (fun i=>listed.getD i false) m A0 t=qmu (fun _=>true) m1 A0 t:=fun t ht=>by
    have htn:t∈qck ops oi:=List.mem_append_left _ ht
    rw [hsplit,qkw]
    have h1:qmu (fun i=>listed.getD i false) (x :: m2) (qmu (fun i=>listed.getD i false) m1 A0) t=qmu (fun i=>listed.getD i false) m1 A0 t:=by
     refine qua fun y hy hyt=>?_
     rcases List.mem_cons.1 hy with rfl|hy
     ·show listed.getD y.i false=false
      rw [ex1];exact qfp hiu
     ·exact later y t hy hyt htn
    rw [h1]
    exact qgw rfl fun y hy hyt=>earlier y t hy hyt htn
   have hget:∀ j,j≠i→(listed.setIfInBounds i true).getD j false=listed.getD j false:=fun j hj=>getD_set_ne false (Ne.symm hj)
   have hiT:(listed.setIfInBounds i true).getD i false=true:=by simp [hiL]
   have hxy:∀ y,y∈m→y.i=i→y=x:=fun y hy hyi=>by
    obtain ⟨q,hq⟩:=List.mem_iff_getElem?.1 hy
    obtain ⟨e1,e2⟩:=hmi q y hq
    have hqi:q=i-k:=by omega
    rw [hqi,hx] at hq
    exact (Option.some.inj hq).symm
   have hacc:∀ t,qsi (qmu (fun i=>listed.getD i false) m A0) oi.dst x.F t=qmu (fun j=>(listed.setIfInBounds i true).getD j false) m A0 t:=fun t=>by
    by_cases hd:oi.dst=some t
    ·rw [hd,qqw,hsplit,qkw]
     simp only [qmu]
     rw [ex1,hiT]
     simp only [cond_true]
     have hnm:t∈qck ops oi:=by unfold qck;rw [hd];simp
     rw [qua fun y hy hyt=>by
      obtain ⟨h1,_⟩:=idx2 y hy
      rw [hget y.i (by omega)]
      exact later y t hy hyt hnm]
     rw [hox,hd,qqw]
    ·rw [qu6 hd]
     refine qgw rfl fun y hy hyt=>(hget y.i fun hyi=>?_).symm
     rw [hxy y hy hyi,hox] at hyt
     exact hd hyt
   have hmem1:x.kd≠2→qmv (fun j=>(listed.setIfInBounds i true).getD j false) m M0=qmv (fun j=>listed.getD j false) m M0:=fun h2=>qgx fun y hy hy2=>hget y.i fun hyi=>by rw [hxy y hy hyi] at hy2;exact h2 hy2
   have hmemR:x.kd≠0→qmv (fun j=>listed.getD j false) m M0=qmv (fun _=>true) m1 M0:=fun h0=>by
    rw [hsplit,qkx]
    rw [quc (l:=x :: m2) fun y hy hy2=>by
     rcases List.mem_cons.1 hy with rfl|hy
     ·show listed.getD y.i false=false
      rw [ex1];exact qfp hiu
     ·obtain ⟨h1,_⟩:=idx2 y hy
      refine notyet _ ?_
      have:=hph x y hxm (in2 y hy) (by omega) (.inr ⟨h0,hy2⟩)
      rw [ex1] at this;exact this]
    refine qgx fun y hy hy2=>?_
    obtain ⟨h1,_⟩:=idx1 y hy
    refine qc2 hg hc hi ?_
    have:=hph y x (in1 y hy) hxm (by omega) (.inl ⟨hy2,h0⟩)
    rw [ex1] at this;exact this
   have hmemW:x.kd=2→qmv (fun j=>(listed.setIfInBounds i true).getD j false) m M0=x.M':=fun h2=>by
    rw [hsplit,qkx]
    simp only [qmv]
    rw [ex1,hiT,h2]
    have hb:Nat.beq 2 2=true:=rfl
    simp only [hb,Bool.and_self,cond_true]
    refine quc fun y hy hy2=>?_
    obtain ⟨h1,_⟩:=idx2 y hy
    rw [hget y.i (by omega)]
    refine notyet _ ?_
    have:=hph x y hxm (in2 y hy) (by omega) (.inl ⟨h2,by rw [hy2];omega⟩)
    rw [ex1] at this;exact this
   have hunl:unl ops.size (listed.setIfInBounds i true)=u:=by
    have:=qnq hiL hiu hilt;omega
   have hdN:qrs N oi.dst=true:=by
    have:=qdg hN i oi (by simpa using hoi)
    exact this
   have hnext:∀ φ' v w' M',Fle φ φ'→x.F.ok φ' v→HP c φ' M' w'→M'=qmv (fun j=>(listed.setIfInBounds i true).getD j false) m M0→wpAny P .any ops Q u (listed.setIfInBounds i true) (a.put oi.dst v) w':=fun φ' v w' M' hle hv hh hM=>by
    have h9:=(st.put (qe1 hdN) hle hv hh).congr hacc hM
    refine ih φ' _ w' _ hunl (hc.set hg hi) (fun j hj=>?_) (fun j hj hj'=>?_) h9
    ·rw [getD_set_ne true (by omega)];exact hlo j hj
    ·rw [getD_set_ne true (by omega)];exact hhi j hj hj'
   obtain ⟨hgd,hrule⟩:=hop m1 x m2 hsplit
   rw [hox] at hgd
   have hev:∀ (L:List Item),qzc φ L→∀ z,z∈oi.op.operands→∀ B,Ev (qmu (fun _=>true) m1 A0) L z B→B.ok φ (a.eval z):=fun L hF z hz B hB=>by
    refine ev_of (A:=qmu (fun _=>true) m1 A0) hF (fun t ht D hD=>?_) hB
    subst ht
    exact st.env t D (by rw [hsame t (qtk hz)];exact hD)
   unfold wpOp
   simp only [hoi]
   rw [if_pos (by simp [Region.wanted,hgd])]
   refine .inl ?_
   rcases hrule with ⟨h0,hr⟩|⟨h1,hr⟩|⟨h2,hr⟩|⟨h1,hr⟩
   ·rw [hox] at hr
    have hm0:HP c φ [] w:=st.mem.lessP (SubP.nil _)
    refine hr φ a w _ Q hm0 (hev [] hm0.mem.facts) fun φ' v w' hp hF=>?_
    exact hnext φ' v w' _ (hp.fle hm0.mem.base) hF (by simpa using st.mem.new hp) (hmem1 (by omega)).symm
   ·rw [hox] at hr
    have hmi:HP c φ (qmv (fun _=>true) m1 M0) w:=by rw [← hmemR (by omega)];exact st.mem
    refine hr φ a w _ Q hmi (hev _ hmi.mem.facts) fun φ' v w' hp hF=>?_
    exact hnext φ' v w' _ (hp.fle hmi.mem.base) hF (by simpa using st.mem.new hp) (hmem1 (by omega)).symm
   ·rw [hox] at hr
    have hmi:HP c φ (qmv (fun _=>true) m1 M0) w:=by rw [← hmemR (by omega)];exact st.mem
    exact hr φ a w _ Q hmi (hev _ hmi.mem.facts) fun _ φ' v w' hle hF hh=>hnext φ' v w' _ hle hF hh (hmemW h2).symm
   ·rw [hox] at hr
    have hmi:HP c φ (qmv (fun _=>true) m1 M0) w:=by rw [← hmemR (by omega)];exact st.mem
    exact hr φ a w _ Q hmi (hev _ hmi.mem.facts) fun _ φ' v w' hle hF hh=>hnext φ' v w' _ hle hF hh ((hmemR (by omega)).symm.trans (hmem1 (by omega)).symm)
  ·have hall:∀ i,i<k+n→listed.getD i true=true:=fun i hi=>by
    cases hv:listed.getD i true with
    | true=>rfl
    | false=>exact absurd ⟨i,hi,hv⟩ hdone
   have hall2:∀ x,x∈m→listed.getD x.i false=true:=fun x hx=>by
    obtain ⟨i,hi⟩:=List.mem_iff_getElem?.1 hx
    obtain ⟨e1,e2⟩:=hmi i x hi
    have hlt:k+i<ops.size:=(Array.getElem?_eq_some_iff.1 e2).1
    have hil:i<m.length:=(List.getElem?_eq_some_iff.1 hi).1
    have h1:=hall (k+i) (by omega)
    have h2:k+i<listed.size:=by rw [hc.size];exact hlt
    rw [e1]
    simp [h2] at h1 ⊢;exact h1
   rw [← hu]
   refine next φ a w listed ⟨hc,fun i hi=>⟨fun h=>?_,fun h=>hall i h⟩⟩ (st.congr (fun t=>qgw rfl fun x hx _=>hall2 x hx) (qgx fun x hx _=>hall2 x hx))
   rcases Nat.lt_or_ge i (k+n) with h' | h'
   ·exact h'
   ·have:=hhi i h' hi;rw [h] at this;cases this
def phaseB (nd:List Nat) (k:Nat) (ks:List Nat):Bool:=(List.range ks.length).all fun j=>(List.range j).all fun i =>
 let a:=ks.getD i 0
 let b:=ks.getD j 0
 !(Nat.beq a 2 && !Nat.beq b 0 || !Nat.beq a 0&&Nat.beq b 2)||(qgr nd (k+j)).testBit (k+i)
def PW (P:Program) (ops:Array Oper) (Q:Exit→Act→World→Prop) (c:Ctx) (N:Nat) (nd:List Nat):List Nat→Nat→List Oper→Env→List Item→Prop
 | [],k,rest,E,L=>JD P ops Q c N nd k rest E L
 | kd :: ks,k,o :: rest,E,L=>∃ F M',(⟨k,o,F,kd,M'⟩:EP).ok P c (look E) L∧PW P ops Q c N nd ks (k+1) rest (qyg E o.dst F) (if kd=2 then M' else L)
 | _ :: _,_,[],_,_=>False
theorem PW.out {Q:Exit→Act→World→Prop} {nd:List Nat}:∀ {ks:List Nat} {k:Nat} {rest:List Oper} {E:Env} {L:List Item},PW P ops Q c N nd ks k rest E L →
  ∃ (m:List EP) (rest':List Oper) (E':Env),m.length=ks.length∧rest.length=ks.length+rest'.length∧(∀ i,rest'[i]?=rest[ks.length+i]?)∧(∀ i x,m[i]?=some x→x.i=k+i∧rest[i]?=some x.o∧ks[i]?=some x.kd) ∧
   (∀ m1 x m2,m=m1++x :: m2→x.ok P c (qmu (fun _=>true) m1 (look E)) (qmv (fun _=>true) m1 L))∧look E'=qmu (fun _=>true) m (look E)∧JD P ops Q c N nd (k+ks.length) rest' E' (qmv (fun _=>true) m L)
 | [],k,rest,E,L,h=>⟨[],rest,E,rfl,by simp,fun i=>by simp,fun i x hx=>by simp at hx,fun m1 x m2 hm=>by simp at hm,rfl,h⟩
 | kd :: ks,k,[],E,L,h=>h.elim
 | kd :: ks,k,o :: rest,E,L,⟨F,M',h1,h2⟩=>by
  obtain ⟨m,rest',E',e1,e2,e3,e4,e5,e6,e7⟩:=PW.out h2
  have hv:qsi (look E) o.dst F=look (qyg E o.dst F):=(qez E o.dst F).symm
  have hM:(bif true&&Nat.beq kd 2 then M' else L)=(if kd=2 then M' else L):=by
   by_cases h:kd=2
   ·subst h;rfl
   ·rw [if_neg h,qiq h];rfl
  refine ⟨⟨k,o,F,kd,M'⟩ :: m,rest',E',by simp [e1],by simp only [List.length_cons];omega,fun i=>?_,fun i x hx=>?_,fun m1 x m2 hm=>?_,?_,?_⟩
  ·rw [e3,List.length_cons,show ks.length+1+i=ks.length+i+1 by omega,List.getElem?_cons_succ]
  ·cases i with
   | zero=>simp at hx;subst hx;exact ⟨rfl,rfl,rfl⟩
   | succ i =>
    obtain ⟨h3,h4,h5⟩:=e4 i x (by simpa using hx)
    exact ⟨by omega,by simpa using h4,by simpa using h5⟩
  ·cases m1 with
   | nil =>
    simp only [List.nil_append,List.cons.injEq] at hm
    obtain ⟨rfl,rfl⟩:=hm
    exact h1
   | cons y m1 =>
    simp only [List.cons_append,List.cons.injEq] at hm
    obtain ⟨rfl,hm⟩:=hm
    have:=e5 m1 x m2 hm
    rw [← hv,← hM] at this
    exact this
  ·rw [e6,← hv];rfl
  ·rw [← hM] at e7
   rw [List.length_cons,show k+(ks.length+1)=k+1+ks.length by omega]
   exact e7
theorem qct {Q:Exit→Act→World→Prop} {nd:List Nat} {k:Nat} {rest:List Oper} {E:Env} {L:List Item} (ks:List Nat) (hS:qk8 nd ops.size k ks.length=true) (hB:phaseB nd k ks=true) (h:PW P ops Q c N nd ks k rest E L):JD P ops Q c N nd k rest E L:=by
 intro hg hN hk hrest φ a w listed hp st
 obtain ⟨m,rest',E',e1,e2,e3,e4,e5,e6,e7⟩:=PW.out h
 have hmi:∀ i x,m[i]?=some x→x.i=k+i∧ops[k+i]?=some x.o:=fun i x hx=>by
  obtain ⟨h1,h2,_⟩:=e4 i x hx
  exact ⟨h1,by rw [← hrest];exact h2⟩
 have hnone:∀ x,x∈m→listed.getD x.i false=false:=fun x hx=>by
  obtain ⟨i,hi⟩:=List.mem_iff_getElem?.1 hx
  obtain ⟨h1,h2⟩:=hmi i x hi
  have hlt:k+i<ops.size:=(Array.getElem?_eq_some_iff.1 h2).1
  rw [h1]
  cases hv:listed.getD (k+i) false with
  | false=>rfl
  | true =>
   have:listed.getD (k+i) true=true:=by
    cases hv2:listed.getD (k+i) true with
    | true=>rfl
    | false=>rw [qfp hv2] at hv;cases hv
   have:=(hp.pre _ hlt).1 this
   omega
 refine phases (Q:=Q) hg hN hS (by omega) e1 hmi e5 (fun x y hx hy hlt hcf=>?_) ?_ _ φ a w listed rfl hp.cl (fun i hi=>?_) (fun i hi hi'=>?_) (st.congr (fun t=>?_) ?_)
 ·obtain ⟨i,hi⟩:=List.mem_iff_getElem?.1 hx
  obtain ⟨j,hj⟩:=List.mem_iff_getElem?.1 hy
  obtain ⟨x1,_,x3⟩:=e4 i x hi
  obtain ⟨y1,_,y3⟩:=e4 j y hj
  have hjl:j<ks.length:=by rw [← e1];exact (List.getElem?_eq_some_iff.1 hj).1
  have h1:=List.all_eq_true.1 (List.all_eq_true.1 hB j (List.mem_range.2 hjl)) i (List.mem_range.2 (by omega))
  have ga:ks.getD i 0=x.kd:=by rw [List.getD_eq_getElem?_getD,x3];rfl
  have gb:ks.getD j 0=y.kd:=by rw [List.getD_eq_getElem?_getD,y3];rfl
  dsimp only at h1
  rw [ga,gb] at h1
  rw [x1,y1]
  have hc:(Nat.beq x.kd 2 && !Nat.beq y.kd 0 || !Nat.beq x.kd 0&&Nat.beq y.kd 2)=true:=by
   rcases hcf with ⟨h2,h3⟩|⟨h2,h3⟩
   ·rw [h2,qiq h3];rfl
   ·rw [h3,qiq h2];simp
  rw [hc] at h1
  simpa using h1
 ·intro φ' a' w' listed' hp' st'
  refine e7 hg hN (by omega) (fun i=>?_) φ' a' w' listed' hp' (st'.congr (fun t=>by rw [e6]) rfl)
  rw [e3,hrest];congr 1;omega
 ·cases hil:decide (i<ops.size) with
  | true=>exact (hp.pre i (of_decide_eq_true hil)).2 hi
  | false =>
   have:¬ i<ops.size:=of_decide_eq_false hil
   omega
 ·cases hv:listed.getD i true with
  | false=>rfl
  | true=>have:=(hp.pre i hi').1 hv;omega
 ·rw [qgw (q:=fun _=>false) (A:=look E) (B:=look E) rfl (fun x hx _=>hnone x hx),qub]
 ·rw [qgx (q:=fun _=>false) (fun x hx _=>hnone x hx),qud]
section
variable {Q:Exit→Act→World→Prop} {nd ks:List Nat} {k:Nat} {rest:List Oper} {E:Env} {L:List Item} {t:Tmp} {op:Op} {ty:TypeId} {pos:String} {af:Array Edge}
theorem qb7 {F:VP} (hs:OpP P c ⟨some t,op,ty,pos,af,none⟩ (look E) [] F) (h:PW P ops Q c N nd ks (k+1) rest ((t,F) :: E) L):PW P ops Q c N nd (0 :: ks) k (⟨some t,op,ty,pos,af,none⟩ :: rest) E L:=⟨F,[],⟨rfl,.inl ⟨rfl,hs⟩⟩,h⟩
theorem qc4 {F:VP} (hs:OpP P c ⟨some t,op,ty,pos,af,none⟩ (look E) L F) (h:PW P ops Q c N nd ks (k+1) rest ((t,F) :: E) L):PW P ops Q c N nd (1 :: ks) k (⟨some t,op,ty,pos,af,none⟩ :: rest) E L:=⟨F,[],⟨rfl,.inr (.inl ⟨rfl,hs⟩)⟩,h⟩
theorem qiy {F:VP} {L':List Item} (hs:OpS P c ⟨none,op,ty,pos,af,none⟩ (look E) L (fun _:Unit=>F) (fun _=>L')) (h:PW P ops Q c N nd ks (k+1) rest E L'):PW P ops Q c N nd (2 :: ks) k (⟨none,op,ty,pos,af,none⟩ :: rest) E L:=⟨F,L',⟨rfl,.inr (.inr (.inl ⟨rfl,hs⟩))⟩,h⟩
theorem PW_3 {F:VP} (hs:OpS P c ⟨none,op,ty,pos,af,none⟩ (look E) L (fun _:Unit=>F) (fun _=>L)) (h:PW P ops Q c N nd ks (k+1) rest E L):PW P ops Q c N nd (1 :: ks) k (⟨none,op,ty,pos,af,none⟩ :: rest) E L:=⟨F,[],⟨rfl,.inr (.inr (.inr ⟨rfl,hs⟩))⟩,h⟩
theorem qeu (h:JD P ops Q c N nd k rest E L):PW P ops Q c N nd [] k rest E L:=h
end
end
theorem ieq {a b:Int} (h:a=b):Is (.int .i64 a)=Is (.int .i64 b):=by rw [h]
section
variable {P:Program} {c:Ctx} {A:Nat→Option VP} {L:List Item} {d:Option Tmp} {ty:TypeId} {pos:String} {af:Array Edge} {g:Option (Nat×Bool)}
theorem qbh {L L':List Item} {it:Item} (h:Drop1 L it L':=by repeat (first|exact Drop1.here _ _|apply Drop1.next)):Drop1 L it L':=h
theorem qdy {f:FuncId} {xs:List Operand} {ts:Array TypeId} {As:List VP} {it:Item} {L1:List Item} {ι:Type} {R:ι→VP} {L':ι→List Item} (hd:Drop1 L it L1) (hc:∀ (args:Array Value) (w:World),(callFunc f args).run P w = .ok (.enter f args) w)
  (hF:Fn P f As [it] R L') (ha:ArgsE A L xs As):OpS P c ⟨d,.call { callee:=.value (.func f),args:=xs.toArray,argTypes:=ts },ty,pos,af,g⟩ A L R (fun i=>L' i++L1):=by
 intro φ a w K Q hm he hk
 have hv:=ha.alls (φ:=φ) (a:=a) fun x hx=>he x (by simp [Op.operands,Call.operands,hx])
 have hm':HP c φ ([it]++L1) w:=hm.lessP (.cons hd (SubP.refl' _))
 unfold Oper.wp
 rw [qg1 hc]
 refine (hF φ w _ hv hm'.mem.left).mono ?_
 rintro e w' ⟨i,v,φ',rfl,h1,h2⟩
 exact hk i φ' v w' (h2.fle hm.mem.base) h1 (hm'.call h2)
theorem qhx {f:FuncId} {xs:List Operand} {ts:Array TypeId} {As:List VP} {it it2:Item} {L1 L2:List Item} {ι:Type} {R:ι→VP} {L':ι→List Item} (hd:Drop1 L it L1) (hd2:Drop1 L1 it2 L2) (hc:∀ (args:Array Value) (w:World),(callFunc f args).run P w = .ok (.enter f args) w)
  (hF:Fn P f As [it,it2] R L') (ha:ArgsE A L xs As):OpS P c ⟨d,.call { callee:=.value (.func f),args:=xs.toArray,argTypes:=ts },ty,pos,af,g⟩ A L R (fun i=>L' i++L2):=by
 intro φ a w K Q hm he hk
 have hv:=ha.alls (φ:=φ) (a:=a) fun x hx=>he x (by simp [Op.operands,Call.operands,hx])
 have hm':HP c φ ([it,it2]++L2) w:=hm.lessP (.cons hd (.cons hd2 (SubP.refl' _)))
 unfold Oper.wp
 rw [qg1 hc]
 refine (hF φ w _ hv hm'.mem.left).mono ?_
 rintro e w' ⟨i,v,φ',rfl,h1,h2⟩
 exact hk i φ' v w' (h2.fle hm.mem.base) h1 (hm'.call h2)
end
end Go.Proofs.YtmgoplaamlignaaGreat
