/- Walks of functions and plain laws, laid together. Own work. -/
import Derived.Lib.AppendZerosOnto
import Derived.Maps.RangeRun
import Derived.Maps.Keyed
import Derived.Test.YteafmggidjjdgaaGreatDoorK4
namespace Go.Proofs.YteafmggidjjdgaaGreatDoor
open Go.RowKit Tryz
set_option linter.unusedVariables false
set_option linter.unusedSimpArgs false
set_option maxRecDepth 100000
set_option maxHeartbeats 4000000
section
variable {P:Program} {c:Ctx} {A:Nat->Option VP} {L:List Item} {d:Option Tmp} {ty:TypeId} {pos:String} {af:Array Edge} {g:Option (Nat×Bool)}
variable {α:Type} {T:Ty α} {xs ys:List α} {x y:Operand} {t u e:TypeId} {i:Option Addr×Nat} {n:Nat}
theorem OpS.conv {o:Oper} {L1:List Item} {ι:Type} {F:ι->VP} {L':ι->List Item} (hc:∀ φ w,HP c φ L w->HP c φ L1 w) (h:OpS P c o A L1 F L'):OpS P c o A L F L':=by
 intro φ a w K Q hm he hk;refine h φ a w K Q (hc φ w hm) (fun x hx B hB=>?_) hk;obtain ⟨D,h1,h2⟩:=hB;exact h2 _ _ (hc φ w hm).mem.facts (he x hx D (.rfl' h1))
theorem OpP.conv {o:Oper} {L1:List Item} {F:VP} (hc:∀ φ w,HP c φ L w->HP c φ L1 w) (h:OpP P c o A L1 F):OpP P c o A L F:=by
 intro φ a w K Q hm he hk;refine h φ a w K Q (hc φ w hm) (fun x hx B hB=>?_) hk;obtain ⟨D,h1,h2⟩:=hB;exact h2 _ _ (hc φ w hm).mem.facts (he x hx D (.rfl' h1))
theorem qw1 {φ:Fz} {w:World} (hm:HP c φ L w) (hL:buf (slV n i) e T xs∈L):n=xs.length∧n<=i.2∧i.2<=maxLen∧(i.1=none->i.2=0∧n=0):=by
 obtain ⟨flat,f1,f2,f3⟩:=qha (hm.mem.items _ hL);obtain ⟨a,cp⟩:=i;rcases f3.2 with ⟨h1,h0⟩|⟨gg,cap,cur,e1,_,e2,e3,e4,e5,e6⟩
 ·unfold slV at h1;injection h1 with h1 h2 h3
  dsimp only at h1 h2 h3;subst h1 h2 h3;exact ⟨h0.symm,Nat.le_refl _,nZ _,fun _=>⟨rfl,rfl⟩⟩
 ·unfold slV at e1;injection e1 with e7 e8 e9
  dsimp only at e7 e8 e9;subst e7 e8 e9;exact ⟨rfl,e3,e4,fun h=>by cases h⟩
theorem qpi {φ:Fz} {a:Act} {w:World} {lo hi:Option Operand} {l h:Nat} {ad:Option Addr} {m cp sz:Nat} (he:∀ v,v∈(Op.slice t x lo hi none).operands->∀ B,Ev A L v B->B.ok φ (a.eval v)) (hx:a.eval x = .slice ad m cp) (hu:P.underlying t=some (.slice e)) (hs:(P.info? e).map (·.size)=some sz) (hl:opN A L 0 lo l) (hh:opN A L m hi h) (h1:l<=h) (h2:h<=m) (h3:m<=cp) :
  (execOp a.eval ⟨d,.slice t x lo hi none,ty,pos,af,g⟩).run P w = .ok (.value (.slice (if cp=l then ad else ad.map (·.add (l*sz))) (h-l) (cp-l))) w:=by
 have hlo:∀ y,lo=some y->∃ k,a.eval y = .int k (l:Int):=fun y hy=>by
  subst hy;obtain ⟨k,i,h3,h4⟩:=hl;have h5:a.eval y = .int k i:=he y (by simp [Op.operands]) _ h3;exact ⟨k,by rw [h5,h4]⟩
 have hhi:∀ y,hi=some y->∃ k,a.eval y = .int k (h:Int):=fun y hy=>by
  subst hy;obtain ⟨k,i,h3,h4⟩:=hh;have h5:a.eval y = .int k i:=he y (by simp [Op.operands]) _ h3;exact ⟨k,by rw [h5,h4]⟩
 have hb:=qhf (P:=P) (a:=a) (lo:=lo) (hi:=hi) (l:=l) (h:=h) (n:=m) (cp:=cp) hlo (fun e=>by subst e;exact hl) hhi (fun e=>by subst e;exact hh) h1 h2 h3 w;simp only [execOp,hx];refine qcd ?_;simp only [Instr.sliceAt,Sem.run_bind,run_underlying hu,Result.andThen_ok,Instr.slice];simp only [Option.map_none] at hb ⊢;simp only [hb,Result.andThen_ok,qbd hs,Sem.run_pure]
theorem za4 {lo hi:Option Operand} {h sz:Nat} (hx:Ev A L x (Is (slV n i))) (hL:buf (slV n i) e T xs∈L) (hu:P.underlying t=some (.slice e)) (hs:(P.info? e).map (·.size)=some sz) (hl:opN A L 0 lo 0) (hh:opN A L n hi h) (h2:h<=n):OpP P c ⟨d,.slice t x lo hi none,ty,pos,af,g⟩ A L (Is (slV h i)):=
 opp fun φ a w hm he=>by
  obtain ⟨e1,e2,e3,e4⟩:=qw1 hm hL;have h1:a.eval x=slV n i:=he x (by simp [Op.operands]) _ hx;refine ⟨_,qpi (A:=A) (L:=L) (φ:=φ) he h1 hu hs hl hh (nZ _) h2 e2,?_⟩;show _=slV h i;obtain ⟨ad,cp⟩:=i;unfold slV;dsimp only;rw [Nat.sub_zero,Nat.sub_zero,Nat.zero_mul];cases ad with
  | none=>simp
  | some ad=>split <;> simp [Addr.add]
def ptV (n l sz:Nat) (i:Option Addr×Nat):Value:=.slice (if i.2=l then i.1 else i.1.map (·.add (l*sz))) (n-l) (i.2-l)
theorem za5 {lo hi:Option Operand} {l:Nat} (hx:Ev A L x (Is (slV n i))) (hL:buf (slV n i) e T xs∈L) (hu:P.underlying t=some (.slice e)) (hs:(P.info? e).map (·.size)=some T.size) (hl:opN A L 0 lo l) (hh:opN A L n hi n) (h2:l<=n):OpP P c ⟨d,.slice t x lo hi none,ty,pos,af,g⟩ A L (Is (ptV n l T.size i)):=
 opp fun φ a w hm he=>by
  obtain ⟨e1,e2,e3,e4⟩:=qw1 hm hL;have h1:a.eval x=slV n i:=he x (by simp [Op.operands]) _ hx;exact ⟨_,qpi (A:=A) (L:=L) (φ:=φ) he h1 hu hs hl hh h2 (Nat.le_refl _) e2,rfl⟩
theorem slV_own (n h:Nat) (i:Option Addr×Nat):(slV n i).ownBlock=(slV h i).ownBlock:=by
 obtain ⟨a,cp⟩:=i;cases a <;> rfl
theorem HP.cutBuf {φ:Fz} {w:World} {h:Nat} {L':List Item} (hm:HP c φ L w) (hr:Repl L (buf (slV n i) e T xs) (buf (slV h i) e T (xs.take h)) L') (hh:h<=xs.length):HP c φ L' w:=by
 have hat:(buf (slV h i) e T (xs.take h)).at_=(buf (slV n i) e T xs).at_:=slV_own h n i;refine hm.upd hr (Kpt.refl _ _) ?_ fun b hb=>.inr (hat ▸ hb);obtain ⟨⟨flat,f0,f1,f2,f3⟩,f4⟩:=hm.mem.items _ hr.mem;have hl:(xs.take h).length=h:=by rw [List.length_take];omega
 have hle:h*T.size<=xs.length*T.size:=Nat.mul_le_mul_right _ hh;refine ⟨⟨flat.take (h*T.size),by rw [List.length_take,f0,hl];omega,by rw [qhx];exact f1.take _,f2.sub fun u hu=>List.mem_of_mem_take hu,?_⟩,fun b hb=>f4 b (hat ▸ hb)⟩;rcases f3 with ⟨h1,h0⟩|⟨gg,cap,cur,e1,e2,e3,e4,e5,e6⟩
 ·refine .inl ⟨?_,by rw [hl];omega⟩;unfold slV at h1 ⊢;injection h1 with h1 h2 h3
  rw [h1,h3,show h=0 by omega]
 ·refine .inr ⟨gg,cap,cur,?_,by rw [hat];exact e2,by rw [hl];omega,e4,e5,?_⟩
  ·unfold slV at e1 ⊢;injection e1 with e7 e8 e9
   rw [e7,e9,hl]
  ·rw [hl,<- e6,List.take_take,Nat.min_eq_left hle]
theorem zef {h:Nat} {L1:List Item} {L':Option Addr×Nat->List Item} (hx:Ev A L1 x (Is (slV h i))) (hr:Repl L (buf (slV n i) e T xs) (buf (slV h i) e T (xs.take h)) L1) (hh:h<=xs.length) (hr2:∀ j,Repl L1 (buf (slV h i) e T (xs.take h)) (buf (slV (xs.take h++ys).length j) e T (xs.take h++ys)) (L' j)) (hy:Ev A L1 y (qad T ys)) (hT:AppT P t e T.size) (hlen:xs.length+ys.length<=1048576) :
  OpS P c ⟨d,.call { callee:=.builtin .append,args:=#[x,y],argTypes:=#[t,t] },ty,pos,af,g⟩ A L (fun j=>Is (slV (xs.take h++ys).length j)) L':=
 OpS.conv (fun φ w hm=>hm.cutBuf hr hh) (qca hx hr2 hy hT (by rw [List.length_take];omega))
theorem qsq {m size l:Nat} {As:List VP} (xs:List α) (hx:Ev A L x (qem m size As)) (hs:SubLs L As (xs.flatMap T.cells)) (hn:m=xs.length) (hsz:size=T.size) (hy:Ev A L y (Is (ptV n l T.size i))) (hL:buf (slV n i) e T ys∈L) (hl:l<=ys.length) (hT:AppT P t e T.size) (hlen:xs.length+ys.length<=1048576) :
  OpP P c ⟨d,.call { callee:=.builtin .append,args:=#[x,y],argTypes:=#[t,t] },ty,pos,af,g⟩ A L (qad T (xs++ys.drop l)):=
 opq fun φ a w hm he=>by
  obtain ⟨b,h1,h2,h3,h4⟩:(qem m size As).ok φ (a.eval x):=he x (by simp [Op.operands,Call.operands]) _ hx;have h5:a.eval y=ptV n l T.size i:=he y (by simp [Op.operands,Call.operands]) _ hy;obtain ⟨olds,f1,f2,f3,f4⟩:=qis h2;have f5:Alls φ (xs.flatMap T.cells) olds:=hs.alls hm.mem.facts f1;obtain ⟨v1,v2,v3,v4⟩:=qw1 hm hL;obtain ⟨z,bytes,t1,t2,t3⟩:=hT.hi;obtain ⟨q,hq,hzz⟩:=Option.map_eq_some_iff.1 t1;simp only [Prod.mk.injEq] at hzz;obtain ⟨hz,hsi,hb⟩:=hzz;subst hn hsz v1;have hol:olds.length=xs.length*T.size:=by rw [f2,h3]
  by_cases h0:l=ys.length
  ·have hnil:ys.drop l=[]:=by rw [h0,List.drop_length]
   have h7:(#[x,y].map a.eval)=#[.slice (some ⟨b,0,none⟩) xs.length xs.length,.slice (if i.2=l then i.1 else i.1.map (·.add (l*T.size))) 0 (i.2-l)]:=by
    simp [h1,h5,ptV,h0]
   generalize (if i.2=l then i.1 else i.1.map (·.add (l*T.size)))=ad at h7;generalize i.2-l=cp at h7;refine ⟨.slice (some ⟨b,0,none⟩) xs.length xs.length,φ,w,?_,HP.start (L:=[]) ⟨hm.mem.base,by simp,List.Pairwise.nil⟩,?_⟩
   ·simp only [execOp,resolve,h7,Sem.run_bind,Sem.run_pure,Result.andThen_ok,invoke,builtin];cases ad <;> simp [Builtin.append_,run_underlying hT.ht,sizeOf,typeInfo,hq,Builtin.lenOf,Builtin.firstCells,storeCells,loadCells,loadCellsFrom]
   ·rw [hnil,List.append_nil];refine ⟨_,_,_,rfl,rfl,Nat.le_refl _,h4,.inr ⟨b,0,rfl,fun k v hk j B hB=>?_⟩⟩;obtain ⟨u,k1,k2⟩:=qny (flat:=olds) f5 hk hB;exact ⟨u,by rw [Nat.zero_add];have:=f4 _ _ k1;rw [Nat.zero_add] at this;exact this,k2,f3 u (List.mem_of_getElem? k1)⟩
  ·have hlt:l<ys.length:=om;obtain ⟨gg,cap,cur,rfl,_,w2,w3,w4,w5,flat,w6,w7,w8,w9⟩:=qlt hm hL hlt;have hcl:¬ cap=l:=om;have h7:(#[x,y].map a.eval)=#[.slice (some ⟨b,0,none⟩) xs.length xs.length,.slice (some ⟨gg,l*T.size,none⟩) (ys.drop l).length (cap-l)]:=by
    simp [h1,h5,ptV,hcl,qcl]
   have hnews:Alls φ ((ys.drop l).flatMap T.cells) (flat.drop (l*T.size)):=by
    have e1:(ys.take l).flatMap T.cells++(ys.drop l).flatMap T.cells=ys.flatMap T.cells:=by rw [<- List.flatMap_append,List.take_append_drop]
    have e2:((ys.take l).flatMap T.cells).length=l*T.size:=by rw [qiz,List.length_take];congr 1;omega
    have e3:=w7.drop (l*T.size);rw [<- e1,<- e2,List.drop_left,e2] at e3;exact e3
   have hnl:(flat.drop (l*T.size)).length=(ys.drop l).length*T.size:=by
    rw [<- hnews.len,qiz]
   have hcell:∀ j u,(flat.drop (l*T.size))[j]?=some u->w.cell? ⟨gg,l*T.size+j,none⟩=some u:=fun j u hj=>by
    rw [List.getElem?_drop] at hj;rw [cell_of_row w gg _ cur e _ w2];rw [<- w6] at hj;have hll:l*T.size+j<ys.length*T.size:=by
     have:=(List.getElem?_eq_some_iff.1 hj).1;rw [List.length_take] at this;omega
    rw [List.getElem?_take_of_lt hll,Array.getElem?_toList] at hj;exact hj
   have hdl:(ys.drop l).length=ys.length-l:=List.length_drop ..;have hby:=Nat.mul_le_mul (show xs.length+(ys.drop l).length<=1048576 by omega) t3;have hr:=run_append_grow (P:=P) w t ty e q z hT.ht hq hz ⟨b,0,none⟩ xs.length xs.length olds (by rw [hol,hsi])
    (fun j u hu=>by rw [qcl];exact hm.mem.base _ _ _ (f4 j u hu)) ⟨gg,l*T.size,none⟩ (ys.drop l).length (cap-l) (flat.drop (l*T.size)) (by rw [hnl,hsi]) (fun j u hu=>by rw [qcl];exact hcell j u hu) om om
    (growslice_fits om (by rw [hb];omega))
   have hd:HP c φ L w.drew:=hm.drew;have hones:ones (flat.drop (l*T.size)):=w8.sub fun u hu=>List.mem_of_mem_drop hu;obtain ⟨φ',g1,g2,g3⟩:=ze7 (e:=e) (vs:=olds++flat.drop (l*T.size)) (rs:=(Builtin.zeroCells z.cells (grownCap w (xs.length+(ys.drop l).length) xs.length e-(xs.length+(ys.drop l).length))).toList) (As:=(xs++ys.drop l).flatMap T.cells) hd (by rw [List.flatMap_append];exact f5.append hnews) (fun u hu=>by
    rcases List.mem_append.1 hu with hu|hu
    ·exact f3 u hu
    ·exact hones u hu)
   have hw:olds.toArray++(flat.drop (l*T.size)).toArray++Builtin.zeroCells z.cells (grownCap w (xs.length+(ys.drop l).length) xs.length e-(xs.length+(ys.drop l).length))=((olds++flat.drop (l*T.size))++(Builtin.zeroCells z.cells (grownCap w (xs.length+(ys.drop l).length) xs.length e-(xs.length+(ys.drop l).length))).toList).toArray:=by simp
   rw [hw] at hr;refine ⟨_,φ',_,?_,⟨g2.mem,⟨g2.kept.os,g2.kept.tape,g2.kept.output,g2.kept.size,g2.kept.block⟩,g2.mine,g2.old⟩,⟨some ⟨w.heap.size,0,none⟩,xs.length+(ys.drop l).length,grownCap w (xs.length+(ys.drop l).length) xs.length e,rfl,by rw [List.length_append],grownCap_ge w _ _ _,grownCap_le_maxLen w _ _ _ (by unfold maxLen;omega),.inr ⟨_,0,rfl,fun k v hk j B hB=>?_⟩⟩⟩
   ·simp only [execOp,resolve,h7,Sem.run_bind,Sem.run_pure,Result.andThen_ok,invoke,builtin,hr]
   ·have:=g3 _ B (qk5 hk hB);rw [<- Nat.add_assoc] at this;exact this
end
section
variable {P:Program} {ops:Array Oper} {c:Ctx} {N:Nat}
structure EP where
 i:Nat
 o:Oper
 F:VP
 kd:Nat
 M':List Item
def EP.ok (P:Program) (c:Ctx) (x:EP) (A:Nat->Option VP) (M:List Item):Prop:=
 x.o.guard=none∧((x.kd=0∧OpP P c x.o A [] x.F)∨(x.kd=1∧OpP P c x.o A M x.F)∨(x.kd=2∧OpS P c x.o A M (fun _:Unit=>x.F) (fun _=>x.M'))∨(x.kd=1∧OpS P c x.o A M (fun _:Unit=>x.F) (fun _=>M)))
def qog (p:Nat->Bool):List EP->(Nat->Option VP)->Nat->Option VP
 | [],A=>A
 | x::l,A=>qog p l (bif p x.i then qtw A x.o.dst x.F else A)
def qoh (p:Nat->Bool):List EP->List Item->List Item
 | [],M=>M
 | x::l,M=>qoh p l (bif p x.i&&Nat.beq x.kd 2 then x.M' else M)
theorem qwy {A:Nat->Option VP} {d:Option Tmp} {B:VP} {t:Nat} (h:d≠some t):qtw A d B t=A t:=by unfold qtw;rw [if_neg h]
theorem qsm {A:Nat->Option VP} {B:VP} {t:Nat}:qtw A (some t) B t=some B:=by unfold qtw;rw [if_pos rfl]
theorem qhj {p q:Nat->Bool} {t:Nat} {l:List EP}:∀ {A B:Nat->Option VP},A t=B t->(∀ x,x∈l->x.o.dst=some t->p x.i=q x.i)->qog p l A t=qog q l B t:=by
 induction l with
 | nil=>intro A B h _;exact h
 | cons y l ih =>
  intro A B h hl;show qog p l (bif p y.i then qtw A y.o.dst y.F else A) t=qog q l (bif q y.i then qtw B y.o.dst y.F else B) t;refine ih ?_ fun x hx=>hl x (List.mem_cons_of_mem _ hx);by_cases hd:y.o.dst=some t
  ·rw [hl y (List.mem_cons_self ..) hd,hd];cases q y.i
   ·exact h
   ·simp only [cond_true];rw [qsm,qsm]
  ·have e1:(bif p y.i then qtw A y.o.dst y.F else A) t=A t:=by cases p y.i <;> simp [qwy hd]
   have e2:(bif q y.i then qtw B y.o.dst y.F else B) t=B t:=by cases q y.i <;> simp [qwy hd]
   rw [e1,e2];exact h
theorem ql3 (p:Nat->Bool):∀ (l l':List EP) (A:Nat->Option VP),qog p (l++l') A=qog p l' (qog p l A)
 | [],_,_=>rfl
 | x::l,l',A=>by simp only [List.cons_append,qog,ql3 p l l']
theorem qvy (l:List EP) (A:Nat->Option VP):qog (fun _=>false) l A=A:=by
 induction l generalizing A with
 | nil=>rfl
 | cons x l ih=>exact ih A
theorem qvx {p:Nat->Bool} {t:Nat} {l:List EP} {A:Nat->Option VP} (h:∀ x,x∈l->x.o.dst=some t->p x.i=false):qog p l A t=A t:=by
 rw [qhj (q:=fun _=>false) (A:=A) (B:=A) rfl h,qvy]
theorem qhk {p q:Nat->Bool} {l:List EP}:∀ {M:List Item},(∀ x,x∈l->x.kd=2->p x.i=q x.i)->qoh p l M=qoh q l M:=by
 induction l with
 | nil=>intro M _;rfl
 | cons y l ih =>
  intro M hl;show qoh p l (bif p y.i&&Nat.beq y.kd 2 then y.M' else M)=qoh q l (bif q y.i&&Nat.beq y.kd 2 then y.M' else M);by_cases h2:y.kd=2
  ·rw [hl y (List.mem_cons_self ..) h2];exact ih fun x hx=>hl x (List.mem_cons_of_mem _ hx)
  ·have hb:Nat.beq y.kd 2=false:=qjm h2;rw [hb,Bool.and_false,Bool.and_false];exact ih fun x hx=>hl x (List.mem_cons_of_mem _ hx)
theorem ql4 (p:Nat->Bool):∀ (l l':List EP) (M:List Item),qoh p (l++l') M=qoh p l' (qoh p l M)
 | [],_,_=>rfl
 | x::l,l',M=>by simp only [List.cons_append,qoh,ql4 p l l']
theorem qv0 (l:List EP) (M:List Item):qoh (fun _=>false) l M=M:=by
 induction l generalizing M with
 | nil=>rfl
 | cons x l ih=>exact ih M
theorem qvz {p:Nat->Bool} {l:List EP} {M:List Item} (h:∀ x,x∈l->x.kd=2->p x.i=false):qoh p l M=M:=by
 rw [qhk (q:=fun _=>false) h,qv0]
theorem St.congr {A B:Nat->Option VP} {L L':List Item} {φ:Fz} {a:Act} {w:World} (h:St c N A L φ a w) (e:∀ t,A t=B t) (e':L=L'):St c N B L' φ a w:=by
 have:A=B:=funext e;subst this;subst e';exact h
theorem phases {Q:Exit->Act->World->Prop} {nd:List Nat} (hg:Good ops nd) (hN:qg0 (fun _ o=>qtd N o.dst) ops.toList 0=true) {k n:Nat} (hS:qmf nd ops.size k n=true) (hkn:k+n<=ops.size)
  {m:List EP} {A0:Nat->Option VP} {M0:List Item} (hm:m.length=n) (hmi:∀ i x,m[i]?=some x->x.i=k+i∧ops[k+i]?=some x.o)
  (hop:∀ m1 x m2,m=m1++x::m2->x.ok P c (qog (fun _=>true) m1 A0) (qoh (fun _=>true) m1 M0))
  (hph:∀ x y,x∈m->y∈m->x.i<y.i->(x.kd=2∧y.kd≠0∨x.kd≠0∧y.kd=2)->(qg7 nd y.i).testBit x.i=true)
  (next:∀ φ a w listed,Pre ops nd (k+n) listed->St c N (qog (fun _=>true) m A0) (qoh (fun _=>true) m M0) φ a w->wpAny P .any ops Q (unl ops.size listed) listed a w) :
  ∀ (u:Nat) (φ:Fz) (a:Act) (w:World) (listed:Array Bool),unl ops.size listed=u->Cl ops nd listed->(∀ i,i<k->listed.getD i true=true)->(∀ i,k+n<=i->i<ops.size->listed.getD i true=false) ->
   St c N (qog (fun i=>listed.getD i false) m A0) (qoh (fun i=>listed.getD i false) m M0) φ a w->wpAny P .any ops Q u listed a w:=by
 intro u;induction u with
 | zero =>
  intro φ a w listed hu hc hlo hhi st;have hall:=qsd hu;have hk:k+n=ops.size:=by
   rcases Nat.lt_or_ge (k+n) ops.size with h|h
   ·have h1:=hall _ h;have h2:=hhi (k+n) (Nat.le_refl _) h;rw [h1] at h2;cases h2
   ·omega
  have hall2:∀ x,x∈m->listed.getD x.i false=true:=fun x hx=>by
   obtain ⟨i,hi⟩:=List.mem_iff_getElem?.1 hx;obtain ⟨e1,e2⟩:=hmi i x hi;have hlt:k+i<ops.size:=(Array.getElem?_eq_some_iff.1 e2).1;have h1:=hall _ hlt;have h2:k+i<listed.size:=by rw [hc.size];exact hlt
   rw [e1];simp [h2] at h1 ⊢;exact h1
  rw [<- hu];exact next φ a w listed ⟨hc,fun i hi=>⟨fun _=>by omega,fun _=>hall i hi⟩⟩ (st.congr (fun t=>qhj rfl fun x hx _=>hall2 x hx) (qhk fun x hx _=>hall2 x hx))
 | succ u ih =>
  intro φ a w listed hu hc hlo hhi st;by_cases hdone:∃ i,i<k+n∧listed.getD i true=false
  ·obtain ⟨i0,hi0,hu0,hl0⟩:=qdc _ hdone;have hr0:=qfm hg hc.size om hu0 hl0;refine ⟨fun h=>(by rw [h] at hr0;cases hr0),fun i hi=>?_⟩;obtain ⟨hiu,oi,hoi,hiall⟩:=mem_ready.1 hi;have hilt:i<ops.size:=(Array.getElem?_eq_some_iff.1 hoi).1;have hik:k<=i:=by
    rcases Nat.lt_or_ge i k with h|h
    ·have:=hlo i h;rw [hiu] at this;cases this
    ·exact h
   have hin:i<k+n:=by
    rcases Nat.lt_or_ge i (k+n) with h|h
    ·exact h
    ·exfalso;have hi0k:k<=i0:=by
      rcases Nat.lt_or_ge i0 k with h' | h'
      ·have:=hlo i0 h';rw [hu0] at this;cases this
      ·exact h'
     have h1:=List.all_eq_true.1 hS (i0-k) (List.mem_range.2 om);have h2:=List.all_eq_true.1 h1 i (List.mem_range.2 hilt);have h3:Nat.blt i (k+n)=false:=qr0 om;rw [h3,Bool.false_or,show k+(i0-k)=i0 by omega] at h2;have h4:=qcy hg hc hi h2;rw [qf5 hu0] at h4;cases h4
   have hp:(i-k)<m.length:=om;obtain ⟨x,hx⟩:∃ x,m[i-k]?=some x:=⟨m[i-k],by simp [hp]⟩
   obtain ⟨ex1,ex2⟩:=hmi (i-k) x hx;rw [show k+(i-k)=i by omega] at ex1 ex2;have hox:x.o=oi:=Option.some.inj (ex2.symm.trans hoi);obtain ⟨m1,m2,hsplit,hm1⟩:∃ m1 m2,m=m1++x::m2∧m1.length=i-k:=by
    refine ⟨m.take (i-k),m.drop (i-k+1),?_,by simp;omega⟩;have h1:m.drop (i-k)=x::m.drop (i-k+1):=by
     rw [List.drop_eq_getElem_cons hp]
     congr 1
     rw [gE hp] at hx;exact Option.some.inj hx
    rw [<- h1,List.take_append_drop]
   have idx1:∀ y,y∈m1->y.i<i∧ops[y.i]?=some y.o:=fun y hy=>by
    obtain ⟨q,hq⟩:=List.mem_iff_getElem?.1 hy;have hql:q<m1.length:=(List.getElem?_eq_some_iff.1 hq).1;have hq':m[q]?=some y:=by rw [hsplit,List.getElem?_append_left hql];exact hq
    obtain ⟨e1,e2⟩:=hmi q y hq';exact ⟨om,by rw [e1];exact e2⟩
   have idx2:∀ y,y∈m2->i<y.i∧ops[y.i]?=some y.o:=fun y hy=>by
    obtain ⟨q,hq⟩:=List.mem_iff_getElem?.1 hy;have hq':m[m1.length+1+q]?=some y:=by
     rw [hsplit,List.getElem?_append_right om,show m1.length+1+q-m1.length=q+1 by omega]
     simpa using hq
    obtain ⟨e1,e2⟩:=hmi _ y hq';exact ⟨om,by rw [e1];exact e2⟩
   have hiL:i<listed.size:=by rw [hc.size];exact hilt
   have hxm:x∈m:=by rw [hsplit];exact List.mem_append_right _ (List.mem_cons_self ..)
   have in1:∀ y,y∈m1->y∈m:=fun y hy=>by rw [hsplit];exact List.mem_append_left _ hy
   have in2:∀ y,y∈m2->y∈m:=fun y hy=>by rw [hsplit];exact List.mem_append_right _ (List.mem_cons_of_mem _ hy)
   have notyet:∀ j,(qg7 nd j).testBit i=true->listed.getD j false=false:=fun j hj=>by
    cases hv:listed.getD j false with
    | false=>rfl
    | true=>have h4:=hc.cl _ hv i hj;rw [qf5 hiu] at h4;cases h4
   have earlier:∀ y t,y∈m1->y.o.dst=some t->t∈qce ops oi->listed.getD y.i false=true:=fun y t hy ht htn=>by
    obtain ⟨h1,h2⟩:=idx1 y hy;exact qcy hg hc hi ((hg.ord y.i y.o t i oi h2 ht hoi htn om).1 h1)
   have later:∀ y t,y∈m2->y.o.dst=some t->t∈qce ops oi->listed.getD y.i false=false:=fun y t hy ht htn=>by
    obtain ⟨h1,h2⟩:=idx2 y hy;exact notyet _ ((hg.ord y.i y.o t i oi h2 ht hoi htn om).2 h1)
   have hsame:∀ t,t∈oi.looksAt ops->qog (fun i=>listed.getD i false) m A0 t=qog (fun _=>true) m1 A0 t:=fun t ht=>by
    have htn:t∈qce ops oi:=List.mem_append_left _ ht;rw [hsplit,ql3];have h1:qog (fun i=>listed.getD i false) (x::m2) (qog (fun i=>listed.getD i false) m1 A0) t=qog (fun i=>listed.getD i false) m1 A0 t:=by
     refine qvx fun y hy hyt=>?_;rcases List.mem_cons.1 hy with rfl|hy
     ·show listed.getD y.i false=false;rw [ex1];exact qf5 hiu
     ·exact later y t hy hyt htn
    rw [h1];exact qhj rfl fun y hy hyt=>earlier y t hy hyt htn
   have hget:∀ j,j≠i->(listed.setIfInBounds i true).getD j false=listed.getD j false:=fun j hj=>getD_set_ne false (Ne.symm hj);have hiT:(listed.setIfInBounds i true).getD i false=true:=by simp [hiL]
   have hxy:∀ y,y∈m->y.i=i->y=x:=fun y hy hyi=>by
    obtain ⟨q,hq⟩:=List.mem_iff_getElem?.1 hy;obtain ⟨e1,e2⟩:=hmi q y hq;have hqi:q=i-k:=om;rw [hqi,hx] at hq;exact (Option.some.inj hq).symm
   have hacc:∀ t,qtw (qog (fun i=>listed.getD i false) m A0) oi.dst x.F t=qog (fun j=>(listed.setIfInBounds i true).getD j false) m A0 t:=fun t=>by
    by_cases hd:oi.dst=some t
    ·rw [hd,qsm,hsplit,ql3];simp only [qog];rw [ex1,hiT];simp only [cond_true];have hnm:t∈qce ops oi:=by unfold qce;rw [hd];simp
     rw [qvx fun y hy hyt=>by
      obtain ⟨h1,_⟩:=idx2 y hy;rw [hget y.i om];exact later y t hy hyt hnm]
     rw [hox,hd,qsm]
    ·rw [qwy hd];refine qhj rfl fun y hy hyt=>(hget y.i fun hyi=>?_).symm;rw [hxy y hy hyi,hox] at hyt;exact hd hyt
   have hmem1:x.kd≠2->qoh (fun j=>(listed.setIfInBounds i true).getD j false) m M0=qoh (fun j=>listed.getD j false) m M0:=fun h2=>qhk fun y hy hy2=>hget y.i fun hyi=>by rw [hxy y hy hyi] at hy2;exact h2 hy2
   have hmemR:x.kd≠0->qoh (fun j=>listed.getD j false) m M0=qoh (fun _=>true) m1 M0:=fun h0=>by
    rw [hsplit,ql4];rw [qvz (l:=x::m2) fun y hy hy2=>by
     rcases List.mem_cons.1 hy with rfl|hy
     ·show listed.getD y.i false=false;rw [ex1];exact qf5 hiu
     ·obtain ⟨h1,_⟩:=idx2 y hy;refine notyet _ ?_;have:=hph x y hxm (in2 y hy) om (.inr ⟨h0,hy2⟩);rw [ex1] at this;exact this]
    refine qhk fun y hy hy2=>?_;obtain ⟨h1,_⟩:=idx1 y hy;refine qcy hg hc hi ?_;have:=hph y x (in1 y hy) hxm om (.inl ⟨hy2,h0⟩);rw [ex1] at this;exact this
   have hmemW:x.kd=2->qoh (fun j=>(listed.setIfInBounds i true).getD j false) m M0=x.M':=fun h2=>by
    rw [hsplit,ql4];simp only [qoh];rw [ex1,hiT,h2];have hb:Nat.beq 2 2=true:=rfl;simp only [hb,Bool.and_self,cond_true];refine qvz fun y hy hy2=>?_;obtain ⟨h1,_⟩:=idx2 y hy;rw [hget y.i om];refine notyet _ ?_;have:=hph x y hxm (in2 y hy) om (.inl ⟨h2,by rw [hy2];omega⟩);rw [ex1] at this;exact this
   have hunl:unl ops.size (listed.setIfInBounds i true)=u:=by
    have:=qpb hiL hiu hilt;omega
   have hdN:qtd N oi.dst=true:=by
    have:=qdb hN i oi (by simpa using hoi);exact this
   have hnext:∀ φ' v w' M',Fle φ φ'->x.F.ok φ' v->HP c φ' M' w'->M'=qoh (fun j=>(listed.setIfInBounds i true).getD j false) m M0->wpAny P .any ops Q u (listed.setIfInBounds i true) (a.put oi.dst v) w':=fun φ' v w' M' hle hv hh hM=>by
    have h9:=(st.put (qe2 hdN) hle hv hh).congr hacc hM;refine ih φ' _ w' _ hunl (hc.set hg hi) (fun j hj=>?_) (fun j hj hj'=>?_) h9
    ·rw [getD_set_ne true om];exact hlo j hj
    ·rw [getD_set_ne true om];exact hhi j hj hj'
   obtain ⟨hgd,hrule⟩:=hop m1 x m2 hsplit;rw [hox] at hgd;have hev:∀ (L:List Item),zbz φ L->∀ z,z∈oi.op.operands->∀ B,Ev (qog (fun _=>true) m1 A0) L z B->B.ok φ (a.eval z):=fun L hF z hz B hB=>by
    refine ev_of (A:=qog (fun _=>true) m1 A0) hF (fun t ht D hD=>?_) hB;subst ht;exact st.env t D (by rw [hsame t (qu0 hz)];exact hD)
   unfold wpOp;simp only [hoi];rw [if_pos (by simp [Region.wanted,hgd])];refine .inl ?_;rcases hrule with ⟨h0,hr⟩|⟨h1,hr⟩|⟨h2,hr⟩|⟨h1,hr⟩
   ·rw [hox] at hr;have hm0:HP c φ [] w:=st.mem.lessP (SubP.nil _);refine hr φ a w _ Q hm0 (hev [] hm0.mem.facts) fun φ' v w' hp hF=>?_;exact hnext φ' v w' _ (hp.fle hm0.mem.base) hF (by simpa using st.mem.new hp) (hmem1 om).symm
   ·rw [hox] at hr;have hmi:HP c φ (qoh (fun _=>true) m1 M0) w:=by rw [<- hmemR om];exact st.mem
    refine hr φ a w _ Q hmi (hev _ hmi.mem.facts) fun φ' v w' hp hF=>?_;exact hnext φ' v w' _ (hp.fle hmi.mem.base) hF (by simpa using st.mem.new hp) (hmem1 om).symm
   ·rw [hox] at hr;have hmi:HP c φ (qoh (fun _=>true) m1 M0) w:=by rw [<- hmemR om];exact st.mem
    exact hr φ a w _ Q hmi (hev _ hmi.mem.facts) fun _ φ' v w' hle hF hh=>hnext φ' v w' _ hle hF hh (hmemW h2).symm
   ·rw [hox] at hr;have hmi:HP c φ (qoh (fun _=>true) m1 M0) w:=by rw [<- hmemR om];exact st.mem
    exact hr φ a w _ Q hmi (hev _ hmi.mem.facts) fun _ φ' v w' hle hF hh=>hnext φ' v w' _ hle hF hh ((hmemR om).symm.trans (hmem1 om).symm)
  ·have hall:∀ i,i<k+n->listed.getD i true=true:=fun i hi=>by
    cases hv:listed.getD i true with
    | true=>rfl
    | false=>exact absurd ⟨i,hi,hv⟩ hdone
   have hall2:∀ x,x∈m->listed.getD x.i false=true:=fun x hx=>by
    obtain ⟨i,hi⟩:=List.mem_iff_getElem?.1 hx;obtain ⟨e1,e2⟩:=hmi i x hi;have hlt:k+i<ops.size:=(Array.getElem?_eq_some_iff.1 e2).1;have hil:i<m.length:=(List.getElem?_eq_some_iff.1 hi).1;have h1:=hall (k+i) om;have h2:k+i<listed.size:=by rw [hc.size];exact hlt
    rw [e1];simp [h2] at h1 ⊢;exact h1
   rw [<- hu];refine next φ a w listed ⟨hc,fun i hi=>⟨fun h=>?_,fun h=>hall i h⟩⟩ (st.congr (fun t=>qhj rfl fun x hx _=>hall2 x hx) (qhk fun x hx _=>hall2 x hx))
   rcases Nat.lt_or_ge i (k+n) with h' | h'
   ·exact h'
   ·have:=hhi i h' hi;rw [h] at this;cases this
def phaseB (nd:List Nat) (k:Nat) (ks:List Nat):Bool:=(List.range ks.length).all fun j=>(List.range j).all fun i =>
 let a:=ks.getD i 0
 let b:=ks.getD j 0
 !(Nat.beq a 2 && !Nat.beq b 0 || !Nat.beq a 0&&Nat.beq b 2)||(qg7 nd (k+j)).testBit (k+i)
def PW (P:Program) (ops:Array Oper) (Q:Exit->Act->World->Prop) (c:Ctx) (N:Nat) (nd:List Nat):List Nat->Nat->List Oper->Env->List Item->Prop
 | [],k,rest,E,L=>JD P ops Q c N nd k rest E L
 | kd::ks,k,o::rest,E,L=>∃ F M',(⟨k,o,F,kd,M'⟩:EP).ok P c (look E) L∧PW P ops Q c N nd ks (k+1) rest (za1 E o.dst F) (if kd=2 then M' else L)
 | _::_,_,[],_,_=>False
theorem PW.out {Q:Exit->Act->World->Prop} {nd:List Nat}:∀ {ks:List Nat} {k:Nat} {rest:List Oper} {E:Env} {L:List Item},PW P ops Q c N nd ks k rest E L ->
  ∃ (m:List EP) (rest':List Oper) (E':Env),m.length=ks.length∧rest.length=ks.length+rest'.length∧(∀ i,rest'[i]?=rest[ks.length+i]?)∧(∀ i x,m[i]?=some x->x.i=k+i∧rest[i]?=some x.o∧ks[i]?=some x.kd) ∧
   (∀ m1 x m2,m=m1++x::m2->x.ok P c (qog (fun _=>true) m1 (look E)) (qoh (fun _=>true) m1 L))∧look E'=qog (fun _=>true) m (look E)∧JD P ops Q c N nd (k+ks.length) rest' E' (qoh (fun _=>true) m L)
 | [],k,rest,E,L,h=>⟨[],rest,E,rfl,by simp,fun i=>by simp,fun i x hx=>by simp at hx,fun m1 x m2 hm=>by simp at hm,rfl,h⟩
 | kd::ks,k,[],E,L,h=>h.elim
 | kd::ks,k,o::rest,E,L,⟨F,M',h1,h2⟩=>by
  obtain ⟨m,rest',E',e1,e2,e3,e4,e5,e6,e7⟩:=PW.out h2;have hv:qtw (look E) o.dst F=look (za1 E o.dst F):=(qe0 E o.dst F).symm;have hM:(bif true&&Nat.beq kd 2 then M' else L)=(if kd=2 then M' else L):=by
   by_cases h:kd=2
   ·subst h;rfl
   ·rw [if_neg h,qjm h];rfl
  refine ⟨⟨k,o,F,kd,M'⟩::m,rest',E',by simp [e1],by simp only [List.length_cons];omega,fun i=>?_,fun i x hx=>?_,fun m1 x m2 hm=>?_,?_,?_⟩
  ·rw [e3,List.length_cons,show ks.length+1+i=ks.length+i+1 by omega,List.getElem?_cons_succ]
  ·cases i with
   | zero=>simp at hx;subst hx;exact ⟨rfl,rfl,rfl⟩
   | succ i =>
    obtain ⟨h3,h4,h5⟩:=e4 i x (by simpa using hx);exact ⟨om,by simpa using h4,by simpa using h5⟩
  ·cases m1 with
   | nil =>
    simp only [List.nil_append,List.cons.injEq] at hm;obtain ⟨rfl,rfl⟩:=hm;exact h1
   | cons y m1 =>
    simp only [List.cons_append,List.cons.injEq] at hm;obtain ⟨rfl,hm⟩:=hm;have:=e5 m1 x m2 hm;rw [<- hv,<- hM] at this;exact this
  ·rw [e6,<- hv];rfl
  ·rw [<- hM] at e7;rw [List.length_cons,show k+(ks.length+1)=k+1+ks.length by omega];exact e7
theorem qdn {Q:Exit->Act->World->Prop} {nd:List Nat} {k:Nat} {rest:List Oper} {E:Env} {L:List Item} (ks:List Nat) (hS:qmf nd ops.size k ks.length=true) (hB:phaseB nd k ks=true) (h:PW P ops Q c N nd ks k rest E L):JD P ops Q c N nd k rest E L:=by
 intro hg hN hk hrest φ a w listed hp st;obtain ⟨m,rest',E',e1,e2,e3,e4,e5,e6,e7⟩:=PW.out h;have hmi:∀ i x,m[i]?=some x->x.i=k+i∧ops[k+i]?=some x.o:=fun i x hx=>by
  obtain ⟨h1,h2,_⟩:=e4 i x hx;exact ⟨h1,by rw [<- hrest];exact h2⟩
 have hnone:∀ x,x∈m->listed.getD x.i false=false:=fun x hx=>by
  obtain ⟨i,hi⟩:=List.mem_iff_getElem?.1 hx;obtain ⟨h1,h2⟩:=hmi i x hi;have hlt:k+i<ops.size:=(Array.getElem?_eq_some_iff.1 h2).1;rw [h1];cases hv:listed.getD (k+i) false with
  | false=>rfl
  | true =>
   have:listed.getD (k+i) true=true:=by
    cases hv2:listed.getD (k+i) true with
    | true=>rfl
    | false=>rw [qf5 hv2] at hv;cases hv
   have:=(hp.pre _ hlt).1 this;omega
 refine phases (Q:=Q) hg hN hS om e1 hmi e5 (fun x y hx hy hlt hcf=>?_) ?_ _ φ a w listed rfl hp.cl (fun i hi=>?_) (fun i hi hi'=>?_) (st.congr (fun t=>?_) ?_)
 ·obtain ⟨i,hi⟩:=List.mem_iff_getElem?.1 hx;obtain ⟨j,hj⟩:=List.mem_iff_getElem?.1 hy;obtain ⟨x1,_,x3⟩:=e4 i x hi;obtain ⟨y1,_,y3⟩:=e4 j y hj;have hjl:j<ks.length:=by rw [<- e1];exact (List.getElem?_eq_some_iff.1 hj).1
  have h1:=List.all_eq_true.1 (List.all_eq_true.1 hB j (List.mem_range.2 hjl)) i (List.mem_range.2 om);have ga:ks.getD i 0=x.kd:=by rw [List.getD_eq_getElem?_getD,x3];rfl
  have gb:ks.getD j 0=y.kd:=by rw [List.getD_eq_getElem?_getD,y3];rfl
  dsimp only at h1;rw [ga,gb] at h1;rw [x1,y1];have hc:(Nat.beq x.kd 2 && !Nat.beq y.kd 0 || !Nat.beq x.kd 0&&Nat.beq y.kd 2)=true:=by
   rcases hcf with ⟨h2,h3⟩|⟨h2,h3⟩
   ·rw [h2,qjm h3];rfl
   ·rw [h3,qjm h2];simp
  rw [hc] at h1
  simpa using h1
 ·intro φ' a' w' listed' hp' st';refine e7 hg hN om (fun i=>?_) φ' a' w' listed' hp' (st'.congr (fun t=>by rw [e6]) rfl);rw [e3,hrest];congr 1;omega
 ·cases hil:decide (i<ops.size) with
  | true=>exact (hp.pre i (of_decide_eq_true hil)).2 hi
  | false =>
   have:¬ i<ops.size:=of_decide_eq_false hil;omega
 ·cases hv:listed.getD i true with
  | false=>rfl
  | true=>have:=(hp.pre i hi').1 hv;omega
 ·rw [qhj (q:=fun _=>false) (A:=look E) (B:=look E) rfl (fun x hx _=>hnone x hx),qvy]
 ·rw [qhk (q:=fun _=>false) (fun x hx _=>hnone x hx),qv0]
section
variable {Q:Exit->Act->World->Prop} {nd ks:List Nat} {k:Nat} {rest:List Oper} {E:Env} {L:List Item} {t:Tmp} {op:Op} {ty:TypeId} {pos:String} {af:Array Edge}
theorem qhc {F:VP} (hs:OpP P c ⟨some t,op,ty,pos,af,none⟩ (look E) [] F) (h:PW P ops Q c N nd ks (k+1) rest ((t,F)::E) L):PW P ops Q c N nd (0::ks) k (⟨some t,op,ty,pos,af,none⟩::rest) E L:=⟨F,[],⟨rfl,.inl ⟨rfl,hs⟩⟩,h⟩
theorem qfq {F:VP} (hs:OpP P c ⟨some t,op,ty,pos,af,none⟩ (look E) L F) (h:PW P ops Q c N nd ks (k+1) rest ((t,F)::E) L):PW P ops Q c N nd (1::ks) k (⟨some t,op,ty,pos,af,none⟩::rest) E L:=⟨F,[],⟨rfl,.inr (.inl ⟨rfl,hs⟩)⟩,h⟩
theorem qwj {F:VP} {L':List Item} (hs:OpS P c ⟨none,op,ty,pos,af,none⟩ (look E) L (fun _:Unit=>F) (fun _=>L')) (h:PW P ops Q c N nd ks (k+1) rest E L'):PW P ops Q c N nd (2::ks) k (⟨none,op,ty,pos,af,none⟩::rest) E L:=⟨F,L',⟨rfl,.inr (.inr (.inl ⟨rfl,hs⟩))⟩,h⟩
theorem PW_3 {F:VP} (hs:OpS P c ⟨none,op,ty,pos,af,none⟩ (look E) L (fun _:Unit=>F) (fun _=>L)) (h:PW P ops Q c N nd ks (k+1) rest E L):PW P ops Q c N nd (1::ks) k (⟨none,op,ty,pos,af,none⟩::rest) E L:=⟨F,[],⟨rfl,.inr (.inr (.inr ⟨rfl,hs⟩))⟩,h⟩
theorem qjn (h:JD P ops Q c N nd k rest E L):PW P ops Q c N nd [] k rest E L:=h
end
end
theorem ieq {a b:Int} (h:a=b):Ii a=Ii b:=by rw [h]
section
variable {P:Program} {c:Ctx} {A:Nat->Option VP} {L:List Item} {d:Option Tmp} {ty:TypeId} {pos:String} {af:Array Edge} {g:Option (Nat×Bool)}
theorem qam {L L':List Item} {it:Item} (h:Drop1 L it L':=by repeat (first|exact Drop1.here _ _|apply Drop1.next)):Drop1 L it L':=h
theorem qbn {f:FuncId} {xs:List Operand} {ts:Array TypeId} {As:List VP} {it:Item} {L1:List Item} {ι:Type} {R:ι->VP} {L':ι->List Item} (hd:Drop1 L it L1) (hc:∀ (args:Array Value) (w:World),(callFunc f args).run P w = .ok (.enter f args) w)
  (hF:Fn P f As [it] R L') (ha:ArgsE A L xs As):OpS P c ⟨d,.call { callee:=.value (.func f),args:=xs.toArray,argTypes:=ts },ty,pos,af,g⟩ A L R (fun i=>L' i++L1):=by
 intro φ a w K Q hm he hk;have hv:=ha.alls (φ:=φ) (a:=a) fun x hx=>he x (by simp [Op.operands,Call.operands,hx]);have hm':HP c φ ([it]++L1) w:=hm.lessP (.cons hd (SubP.refl' _));unfold Oper.wp;rw [qeu hc];refine (hF φ w _ hv hm'.mem.left).mono ?_;rintro e w' ⟨i,v,φ',rfl,h1,h2⟩;exact hk i φ' v w' (h2.fle hm.mem.base) h1 (hm'.call h2)
theorem qb3 {f:FuncId} {xs:List Operand} {ts:Array TypeId} {As:List VP} {it it2:Item} {L1 L2:List Item} {ι:Type} {R:ι->VP} {L':ι->List Item} (hd:Drop1 L it L1) (hd2:Drop1 L1 it2 L2) (hc:∀ (args:Array Value) (w:World),(callFunc f args).run P w = .ok (.enter f args) w)
  (hF:Fn P f As [it,it2] R L') (ha:ArgsE A L xs As):OpS P c ⟨d,.call { callee:=.value (.func f),args:=xs.toArray,argTypes:=ts },ty,pos,af,g⟩ A L R (fun i=>L' i++L2):=by
 intro φ a w K Q hm he hk;have hv:=ha.alls (φ:=φ) (a:=a) fun x hx=>he x (by simp [Op.operands,Call.operands,hx]);have hm':HP c φ ([it,it2]++L2) w:=hm.lessP (.cons hd (.cons hd2 (SubP.refl' _)));unfold Oper.wp;rw [qeu hc];refine (hF φ w _ hv hm'.mem.left).mono ?_;rintro e w' ⟨i,v,φ',rfl,h1,h2⟩;exact hk i φ' v w' (h2.fle hm.mem.base) h1 (hm'.call h2)
end
def qq8 (a b:Int):Int:=if a<b then -1 else if a>b then 1 else 0
theorem qo2 (a b:Int):decide (qq8 a b<0)=decide (a<b):=by
 unfold qq8;by_cases h:a<b
 ·simp [h]
 ·by_cases h2:a>b <;> simp [h,h2]
theorem qzt (a:Int):FnP prog 77 [Ii a] (Ib false):=by
 refine FnP.enter func77 ntmps77 rfl rfl ?_;intro c hX;refine t14 ?_;refine rB results77 rfl ?_;simp
theorem zb1 (a b:Int):FnP prog 29 [Ii a,Ii b] (Ii (qq8 a b)):=by
 refine FnP.enter func29 ntmps29 rfl rfl ?_;intro c hX;refine t8 ?_;refine qao rfl (qac call77 (qzt _) ⟨evS,trivial⟩) ?_;refine t6 ?_;refine qao rfl (qac call77 (qzt _) ⟨evS,trivial⟩) ?_;refine t9 ?_;refine cN ?_ ?_<;>intro h3
 ·exact absurd h3 (by simp)
 refine t8 ?_;refine cN ?_ ?_<;>intro h7
 ·exact absurd h7 (by simp)
 refine t10 ?_;refine cN ?_ ?_<;>intro h9
 ·have h:a<b:=of_decide_eq_true h9;have e:qq8 a b = -1:=by unfold qq8;rw [if_pos h]
  refine t7 ?_;refine rB results29 rfl ?_;rw [e]
 have h:¬ a<b:=of_decide_eq_false h9;refine t10 ?_;refine cN ?_ ?_<;>intro h11
 ·have h':a>b:=of_decide_eq_true h11;have e:qq8 a b=1:=by unfold qq8;rw [if_neg h,if_pos h']
  refine t7 ?_;refine rB results29 rfl ?_;rw [e]
 have h':¬ a>b:=of_decide_eq_false h11;have e:qq8 a b=0:=by unfold qq8;rw [if_neg h,if_neg h']
 refine t8 ?_;refine rB results29 rfl ?_;rw [e]
theorem Z8 {A B:Prop} (h:A) (f:Bx A→B:=by intro z;refine qhc (qeq rfl) ?_;refine qhc (qeq rfl) ?_;exact z.out):B:=f ⟨h⟩
theorem Z28 {A B:Prop} (h:A) (f:Bx A→B:=by intro z;refine qhc (by exact qa0 (k:=2) (er rfl) rfl rfl rfl rfl qbx) ?_;refine qhc (by exact qcj (er rfl) rfl rfl rfl) ?_;refine qhc (by exact qa0 (k:=8) (er rfl) rfl rfl rfl rfl qbx) ?_;refine qhc (by exact qa6 (n:=3) (er rfl) rfl rfl rfl rf qbx) ?_;exact z.out):B:=f ⟨h⟩
theorem Z30 {A B:Prop} (h:A) (f:Bx A→B:=by intro z;refine qfq (by exact qcr (k:=2) (er rfl) qba qcn rfl rfl rfl rfl) ?_;exact z.out):B:=f ⟨h⟩
theorem Z49 {A B:Prop} (h:A) (f:Bx A→B:=by intro z;refine qfq (by exact qa0 (k:=3) (er rfl) rfl rfl rfl rfl qbx) ?_;refine qfq (by exact qcj (er rfl) rfl rfl rfl) ?_;exact z.out):B:=f ⟨h⟩
theorem Z66 {A B:Prop} (h:A) (f:Bx A→B:=by intro z;refine qfq (by exact qcr (k:=1) (er rfl) qba qcn rfl rfl rfl rfl) ?_;exact z.out):B:=f ⟨h⟩
theorem Z72 {A B:Prop} (h:A) (f:Bx A→B:=by intro z;refine qjn ?_;refine qda ?_;refine t8 ?_;exact z.out):B:=f ⟨h⟩
theorem Z103 {A B:Prop} (h:A) (f:Bx A→B:=by intro z;refine qhc (by exact qcj (er rfl) rfl rfl rfl) ?_;exact z.out):B:=f ⟨h⟩
theorem Z107 {A B:Prop} (h:A) (f:Bx A→B:=by intro z;refine qfq (by exact qbe (k:=2) (er rfl) rfl rfl rfl rfl) ?_;exact z.out):B:=f ⟨h⟩
theorem op_half {P:Program} {c:Ctx} {A:Nat->Option VP} {L:List Item} {d:Option Tmp} {ty:TypeId} {pos:String} {af:Array Edge} {g:Option (Nat×Bool)} {x y:Operand} {t u:TypeId} {n:Int} {m:Nat}
  (hx:Ev A L x (Is (.int .u64 n))) (hy:Ev A L y (Is (.int .u64 1))) (hn:n=(m:Int)):OpP P c ⟨d,.binOp .shr t x y u,ty,pos,af,g⟩ A L (Is (.int .u64 ((m / 2:Nat):Int))):=
 qps hx hy om (by
  subst hn;have:(2:Int) ^ (min (1:Int).toNat IntKind.u64.bits)=2:=rfl;rw [this,Int.fdiv_eq_ediv_of_nonneg _ om];omega)
structure Dbl (s n k:Nat) (us:List Pg):Prop where
 done:∀ j,j<k->Srt Pg.l (j*(2*s)) ((j+1)*(2*s)) us
 left:∀ j,2*k<=j->Srt Pg.l (j*s) (min ((j+1)*s) n) us
theorem Dbl.start {s n:Nat} {us:List Pg} (h:Blks Pg.l s n us):Dbl s n 0 us:=⟨fun j hj=>by omega,fun j _=>h j⟩
theorem zcs {s k A:Nat} (hA:A=k*(2*s)):2*k*s=A∧(2*k+1)*s=A+s∧(2*k+1+1)*s=A+2*s∧(k+1)*(2*s)=A+2*s:=by
 have h1:2*k*s=A:=by rw [hA,Nat.mul_comm 2 k,Nat.mul_assoc]
 refine ⟨h1,by rw [Nat.add_mul,h1,Nat.one_mul],by rw [Nat.add_mul,Nat.add_mul,h1];omega,by rw [Nat.add_mul,<- hA];omega⟩
theorem Dbl.step {s n k A:Nat} {us zs:List Pg} (h:Dbl s n k us) (hA:A=k*(2*s)) (hs:Srt Pg.l A (A+2*s) zs) (hp:PI A (A+2*s) us zs):Dbl s n (k+1) zs:=by
 obtain ⟨h1,h2,h3,h4⟩:=zcs hA;refine ⟨fun j hj=>?_,fun j hj=>?_⟩
 ·by_cases hjk:j=k
  ·subst hjk;rw [h4,<- hA];exact hs
  ·have hle:(j+1)*(2*s)<=A:=by rw [hA];exact Nat.mul_le_mul_right _ om
   exact (h.done j om).same fun q _ hq=>hp.out q (.inl om)
 ·have hge:A+2*s<=j*s:=by rw [<- h3];exact Nat.mul_le_mul_right _ om
  exact (h.left j om).same fun q hq _=>hp.out q (.inr om)
section
open Go.ChangeMaps (setBlock)
section
variable {α:Type}
def MapAll (φ:Fz) (V:α->VP):List (Int×α)->List MapEntry->Prop
 | [],[]=>True
 | p::l,e::es=>(e.key = .int .i64 p.1∧(V p.2).ok φ e.val)∧MapAll φ V l es
 | _,_=>False
theorem MapAll.mono {φ φ':Fz} (h:Fle φ φ') {V:α->VP}:∀ {l:List (Int×α)} {es:List MapEntry},MapAll φ V l es->MapAll φ' V l es
 | [],[],_=>trivial
 | p::l,e::es,⟨h1,h2⟩=>⟨⟨h1.1,(V p.2).mono h h1.2⟩,MapAll.mono h h2⟩
theorem MapAll.len {φ:Fz} {V:α->VP}:∀ {l:List (Int×α)} {es:List MapEntry},MapAll φ V l es->l.length=es.length
 | [],[],_=>rfl
 | p::l,e::es,⟨h1,h2⟩=>by simp [MapAll.len h2]
theorem MapAll.get {φ:Fz} {V:α->VP}:∀ {l:List (Int×α)} {es:List MapEntry} {j:Nat} {p:Int×α},MapAll φ V l es->l[j]?=some p->∃ e,es[j]?=some e∧e.key = .int .i64 p.1∧(V p.2).ok φ e.val
 | [],[],j,p,_,h=>by simp at h
 | q::l,e::es,0,p,⟨h1,_⟩,h=>by simp at h;subst h;exact ⟨e,rfl,h1⟩
 | q::l,e::es,j+1,p,⟨_,h2⟩,h=>by
  obtain ⟨e',h3,h4⟩:=MapAll.get h2 (by simpa using h);exact ⟨e',by simpa using h3,h4⟩
theorem MapAll.set {φ:Fz} {V:α->VP}:∀ {l:List (Int×α)} {es:List MapEntry} (j:Nat) {p:Int×α} {e:MapEntry},MapAll φ V l es->e.key = .int .i64 p.1->(V p.2).ok φ e.val->MapAll φ V (l.set j p) (es.set j e)
 | [],[],_,_,_,_,_,_=>trivial
 | q::l,e::es,0,p,f,⟨_,h2⟩,h3,h4=>⟨⟨h3,h4⟩,h2⟩
 | q::l,e::es,j+1,p,f,⟨h1,h2⟩,h3,h4=>⟨h1,MapAll.set j h2 h3 h4⟩
theorem MapAll.push {φ:Fz} {V:α->VP}:∀ {l:List (Int×α)} {es:List MapEntry} {p:Int×α} {e:MapEntry},MapAll φ V l es->e.key = .int .i64 p.1->(V p.2).ok φ e.val->MapAll φ V (l++[p]) (es++[e])
 | [],[],_,_,_,h3,h4=>⟨⟨h3,h4⟩,trivial⟩
 | q::l,e::es,p,f,⟨h1,h2⟩,h3,h4=>⟨h1,MapAll.push h2 h3 h4⟩
def mput:List (Int×α)->Int->α->List (Int×α)
 | [],k,x=>[(k,x)]
 | (j,y)::l,k,x=>if j=k then (k,x)::l else (j,y)::mput l k x
def mp (b:Nat) (V:α->VP) (l:List (Int×α)):Item:=⟨some b,fun φ o=>∃ es clock,o=some (.map es clock)∧MapKept.Stamped es clock∧MapAll φ V l es.toList,fun h ⟨es,ck,h1,h2,h3⟩=>⟨es,ck,h1,h2,h3.mono h⟩⟩
def mpr (b:Nat) (V:α->VP) (l:List (Int×α)) (bs:List Nat) (ck:Nat):Item:=⟨some b,fun φ o=>∃ es:Array MapEntry,o=some (.map es ck)∧MapKept.Stamped es ck∧es.toList.map (·.born)=bs∧MapAll φ V l es.toList,fun h ⟨es,h1,h2,h3,h4⟩=>⟨es,h1,h2,h3,h4.mono h⟩⟩
section
variable {P:Program} {c:Ctx} {A:Nat->Option VP} {L:List Item} {d:Option Tmp} {ty:TypeId} {pos:String} {af:Array Edge} {g:Option (Nat×Bool)}
variable {V:α->VP} {l:List (Int×α)} {b:Nat} {x y z:Operand} {t kt et:TypeId}
end
end
end
def qju:List Pg->Pg->List Pg
 | [],p=>[p]
 | q::l,p=>if q.l<p.l then q::qju l p else if q.l=p.l then p::l else p::q::l
def qck (a b:List Pg):List Pg:=(a++b).foldl qju []
@[reducible] def Asc (l:List Pg):Prop:=l.Pairwise fun x y=>x.l<y.l
theorem qzn {p:Pg}:∀ {l:List Pg},Asc l->∀ {x:Pg},x∈qju l p↔x=p∨(x∈l∧x.l≠p.l)
 | [],_,x=>by simp [qju]
 | q::l,h,x=>by
  obtain ⟨h1,h2⟩:=List.pairwise_cons.1 h;unfold qju;split
  ·rename_i hq;rw [List.mem_cons,qzn h2,List.mem_cons];constructor
   ·rintro (rfl|rfl|⟨h3,h4⟩)
    ·exact .inr ⟨.inl rfl,om⟩
    ·exact .inl rfl
    ·exact .inr ⟨.inr h3,h4⟩
   ·rintro (rfl|⟨rfl|h3,h4⟩)
    ·exact .inr (.inl rfl)
    ·exact .inl rfl
    ·exact .inr (.inr ⟨h3,h4⟩)
  ·rename_i hq;split
   ·rename_i he;rw [List.mem_cons,List.mem_cons];constructor
    ·rintro (rfl|h3)
     ·exact .inl rfl
     ·have:=h1 x h3;exact .inr ⟨.inr h3,om⟩
    ·rintro (rfl|⟨rfl|h3,h4⟩)
     ·exact .inl rfl
     ·exact absurd he h4
     ·exact .inr h3
   ·rename_i he;rw [List.mem_cons,List.mem_cons];constructor
    ·rintro (rfl|rfl|h3)
     ·exact .inl rfl
     ·exact .inr ⟨.inl rfl,he⟩
     ·have:=h1 x h3;exact .inr ⟨.inr h3,om⟩
    ·rintro (rfl|⟨h3,h4⟩)
     ·exact .inl rfl
     ·exact .inr h3
theorem zaf {p:Pg}:∀ {l:List Pg},Asc l->Asc (qju l p)
 | [],_=>List.pairwise_singleton _ _
 | q::l,h=>by
  obtain ⟨h1,h2⟩:=List.pairwise_cons.1 h;unfold qju;split
  ·rename_i hq;refine List.pairwise_cons.2 ⟨fun x hx=>?_,zaf h2⟩;rcases (qzn h2).1 hx with rfl|⟨h3,_⟩
   ·exact hq
   ·exact h1 x h3
  ·rename_i hq;split
   ·rename_i he;exact List.pairwise_cons.2 ⟨fun x hx=>by have:=h1 x hx;omega,h2⟩
   ·rename_i he;refine List.pairwise_cons.2 ⟨fun x hx=>?_,h⟩;rcases List.mem_cons.1 hx with rfl|hx
    ·omega
    ·have:=h1 x hx;omega
theorem zag:∀ (l:List Pg) {w:List Pg},Asc w->Asc (l.foldl qju w)
 | [],_,h=>h
 | p::l,_,h=>zag l (zaf h)
theorem qvv (a b:List Pg):Asc (qck a b):=zag _ List.Pairwise.nil
theorem qzx (p:Pg):∀ l:List Pg,(qju l p).length<=l.length+1
 | []=>by simp [qju]
 | q::l=>by
  unfold qju;have:=qzx p l;split
  ·simp only [List.length_cons];omega
  ·split <;> simp
theorem qs7:∀ (l w:List Pg),(l.foldl qju w).length<=w.length+l.length
 | [],w=>by simp
 | p::l,w=>by
  have h1:=qzx p w;have h2:=qs7 l (qju w p);simp only [List.foldl_cons,List.length_cons];omega
theorem qae (a b:List Pg):(qck a b).length<=a.length+b.length:=by
 have:=qs7 (a++b) [];rw [List.length_append] at this;unfold qck
 simpa using this
structure Keyd (m:List (Int×Pg)):Prop where
 own:∀ e,e∈m->e.2.l=e.1
 nod:(m.map Prod.fst).Nodup
theorem qkx {α:Type} {k:Int} {v:α}:∀ {m:List (Int×α)},(m.map Prod.fst).Nodup->∀ {e:Int×α},e∈mput m k v↔e=(k,v)∨(e∈m∧e.1≠k)
 | [],_,e=>by simp [mput]
 | (j,y)::m,h,e=>by
  have h':j ∉ m.map Prod.fst∧(m.map Prod.fst).Nodup:=List.nodup_cons.1 h;unfold mput;split
  ·rename_i hj;subst hj;rw [List.mem_cons,List.mem_cons];constructor
   ·rintro (rfl|h3)
    ·exact .inl rfl
    ·exact .inr ⟨.inr h3,fun e1=>h'.1 (e1 ▸ List.mem_map.2 ⟨e,h3,rfl⟩)⟩
   ·rintro (rfl|⟨rfl|h3,h4⟩)
    ·exact .inl rfl
    ·exact absurd rfl h4
    ·exact .inr h3
  ·rename_i hj;rw [List.mem_cons,qkx h'.2,List.mem_cons];constructor
   ·rintro (rfl|rfl|⟨h3,h4⟩)
    ·exact .inr ⟨.inl rfl,hj⟩
    ·exact .inl rfl
    ·exact .inr ⟨.inr h3,h4⟩
   ·rintro (rfl|⟨rfl|h3,h4⟩)
    ·exact .inr (.inl rfl)
    ·exact .inl rfl
    ·exact .inr (.inr ⟨h3,h4⟩)
theorem qzm {α:Type} {k:Int} {v:α}:∀ {m:List (Int×α)},(m.map Prod.fst).Nodup->((mput m k v).map Prod.fst).Nodup
 | [],_=>by simp [mput]
 | (j,y)::m,h=>by
  have h':j ∉ m.map Prod.fst∧(m.map Prod.fst).Nodup:=List.nodup_cons.1 h;unfold mput;split
  ·rename_i hj;subst hj;exact h
  ·rename_i hj;refine List.nodup_cons.2 ⟨fun hm=>?_,qzm h'.2⟩;obtain ⟨e,he,hje⟩:=List.mem_map.1 hm;rcases (qkx h'.2).1 he with rfl|⟨h3,_⟩
   ·exact hj hje.symm
   ·exact h'.1 (List.mem_map.2 ⟨e,h3,hje⟩)
theorem Keyd.put {m:List (Int×Pg)} (h:Keyd m) (p:Pg):Keyd (mput m p.l p):=
 ⟨fun e he=>by
  rcases (qkx h.nod).1 he with rfl|⟨h3,_⟩
  ·rfl
  ·exact h.own e h3,qzm h.nod⟩
theorem Keyd.mem {m:List (Int×Pg)} (h:Keyd m) {p x:Pg}:x∈(mput m p.l p).map Prod.snd↔x=p∨(x∈m.map Prod.snd∧x.l≠p.l):=by
 constructor
 ·intro hx;obtain ⟨e,he,rfl⟩:=List.mem_map.1 hx;rcases (qkx h.nod).1 he with rfl|⟨h3,h4⟩
  ·exact .inl rfl
  ·exact .inr ⟨List.mem_map.2 ⟨e,h3,rfl⟩,by rw [h.own e h3];exact h4⟩
 ·rintro (rfl|⟨hx,hne⟩)
  ·exact List.mem_map.2 ⟨(x.l,x),(qkx h.nod).2 (.inl rfl),rfl⟩
  ·obtain ⟨e,he,rfl⟩:=List.mem_map.1 hx;exact List.mem_map.2 ⟨e,(qkx h.nod).2 (.inr ⟨he,by rw [<- h.own e he];exact hne⟩),rfl⟩
theorem qzv:∀ {W:List Pg} {p:Pg} (k:Nat),(∀ j q,j<k->W[j]?=some q->q.l<p.l)->∀ {q:Pg},W[k]?=some q->q.l=p.l->qju W p=W.set k p
 | [],p,k,_,q,hq,_=>by simp at hq
 | x::W,p,0,_,q,hq,he=>by
  simp at hq;subst hq;unfold qju;rw [if_neg om,if_pos he];rfl
 | x::W,p,k+1,h,q,hq,he=>by
  have h0:=h 0 x om rfl;unfold qju;rw [if_pos h0,qzv k (fun j q hj hq=>h (j+1) q om (by simpa using hq)) (by simpa using hq) he];rfl
theorem qzw:∀ {W:List Pg} {p:Pg} (k:Nat),k<=W.length->(∀ j q,j<k->W[j]?=some q->q.l<p.l)->(∀ q,W[k]?=some q->p.l<q.l)->qju W p=W.take k++([p]++W.drop k)
 | [],p,k,hk,_,_=>by
  have:k=0:=by simpa using hk
  subst this;rfl
 | x::W,p,0,_,_,h2=>by
  have:=h2 x rfl;unfold qju;rw [if_neg om,if_neg om];rfl
 | x::W,p,k+1,hk,h,h2=>by
  have h0:=h 0 x om rfl;unfold qju;rw [if_pos h0,qzw k (by simpa using hk) (fun j q hj hq=>h (j+1) q om (by simpa using hq)) (fun q hq=>h2 q (by simpa using hq))];rfl
theorem zfj {l:List Pg} {k:Nat} {p:Pg} (h:l[k]?=some p):(l.take (k+1)).foldl qju []=qju ((l.take k).foldl qju []) p:=by
 rw [List.take_add_one,h,List.foldl_append];rfl
def Pg.nil:Pg:=⟨0,0#64,0#64,0#64,0#64,0#64,0#64,0#64,0#64⟩
theorem zfi (l:List Pg) (k:Nat):((l.take k).foldl qju []).length<=k:=by
 have h1:=qs7 (l.take k) [];rw [List.length_take] at h1;simp at h1;omega
theorem getDq {W:List Pg} {k:Nat} (h:k<W.length):W[k]?=some (W.getD k Pg.nil):=by
 rw [gE h,List.getD_eq_getElem?_getD,gE h];rfl
theorem qr6 (a b:List Pg) (hn:a.length+b.length<=400000):Fn prog 88 [qad tPg a,qad tPg b] [] (fun i:Option Addr×Nat=>Is (slV (qck a b).length i)) (fun i=>[buf (slV (qck a b).length i) 50 tPg (qck a b)]):=by
 have hal:(a++b).length<=400000:=by rw [List.length_append];exact hn
 refine Fn.enterN func88 ntmps88 rfl rfl ?_;intro c hX;refine t12 ?_;(refine JL_n rfl (qll tPg rfl rfl) ?_;intro i9);refine s1 ?_;(refine qc6 rfl (qca (er rfl) (fun _=>qaf) evS (by exact qfz rfl rfl rfl) qcn) ?_;intro i11);refine s1 ?_;(refine qc6 rfl (qca (er rfl) (fun _=>qaf) evS (by exact qfz rfl rfl rfl) qcn) ?_;intro i13);refine t5 ?_;rw [List.nil_append];refine qa7 hX (v:=slV (a++b).length i13) qaf ?_;refine qbl 6 (qad tPg (a++b)) rfl (SubL.fact qba) ?_;refine Z62 ?_;refine t5 ?_;refine qbm (fun z:Nat×(Option Addr×Nat)=>z.1<=(a++b).length) (fun z=>[(5,Is (slV (((a++b).take z.1).foldl qju []).length z.2)),(6,qad tPg (a++b)),(7,Ii (z.1:Nat))]) (fun z=>[buf (slV (((a++b).take z.1).foldl qju []).length z.2) 50 tPg (((a++b).take z.1).foldl qju [])]) (fun z=>(a++b).length-z.1) (0,(none,0)) (nZ _) qa8 qab ?_;rintro ⟨k,s⟩ hk;dsimp only at hk ⊢;refine t9 ?_;refine cN ?_ ?_<;>intro h4
 ·have hlt:k<(a++b).length:=by have:=of_decide_eq_true h4;omega
  clear h4;obtain ⟨p,hp⟩:∃ z,(a++b)[k]?=some z:=⟨(a++b)[k],gE hlt⟩
  have hft:=zfj hp;have hwl:=zfi (a++b) k;obtain ⟨W,hW⟩:=xE (((a++b).take k).foldl qju []);rw [hW] at hft hwl;rw [hW];refine t11 ?_;refine qbm (fun j:Nat=>j<=W.length∧∀ i q,i<j->W[i]?=some q->q.l<p.l) (fun j=>[(5,Is (slV W.length s)),(6,qad tPg (a++b)),(7,Ii (k:Nat)),(8,Ii (j:Nat))]) (fun _=>[buf (slV W.length s) 50 tPg W]) (fun j=>W.length-j) 0 ⟨nZ _,fun i q hi=>by omega⟩ qa8 qab ?_;rintro j ⟨hj,hlo⟩;obtain ⟨q,hq0⟩:=xE (W.getD j Pg.nil);have hq:j<W.length->W[j]?=some q:=fun h=>by rw [<- hq0];exact getDq h
  refine t2 ?_;refine Z5 ?_;refine qaj 17 kr ?_;refine t7 ?_;(refine qch rfl rfl (fun hg=>(by have hg0:=hg;(try simp at hg);exact qay (k:=j) evG qba evG rfl rfl qdh qcn)) ?_);(refine qch rfl rfl (fun hg=>(by have hg0:=hg;(try simp at hg);exact qcr (k:=0) evG qba qcn rfl rfl rfl rfl)) ?_);(refine qch rfl rfl (fun hg=>(by have hg0:=hg;(try simp at hg);exact qep evG qba (hq om) rfl rfl rf)) ?_);refine t2 ?_;(refine qch rfl rfl (fun hg=>(by have hg0:=hg;(try simp at hg);exact qak (j:=_) evG evG rfl rfl rf hp)) ?_);refine t4 ?_;refine ⟨rfl,?_⟩;refine Z20 ?_;refine cN ?_ ?_<;>intro h7
  ·have h':j<W.length∧q.l<p.l:=by
    rw [Bool.and_eq_true] at h7;have h8:=of_decide_eq_true h7.1;exact ⟨om,of_decide_eq_true h7.2⟩
   clear h7;refine t9 ?_;exact qaa (j+1) ⟨om,fun i q' hi hq'=>by
    by_cases hij:i=j
    ·subst hij;rw [hq h'.1] at hq';cases hq';exact h'.2
    ·exact hlo i q' om hq'⟩ om qa8 qab
  have h':j=W.length∨¬ q.l<p.l:=by
   by_cases hjl:j=W.length
   ·exact .inl hjl
   ·refine .inr fun hh=>?_;have e1:decide ((j:Int)<(W.length:Int))=true:=decide_eq_true om;rw [e1,Bool.true_and,decide_eq_true hh] at h7;cases h7
  clear h7;refine t7 ?_;refine Z5 ?_;refine qaj 17 kr ?_;refine t7 ?_;(refine qch rfl rfl (fun hg=>(by have hg0:=hg;(try simp at hg);exact qay (k:=j) evG qba evG rfl rfl qdh qcn)) ?_);(refine qch rfl rfl (fun hg=>(by have hg0:=hg;(try simp at hg);exact qcr (k:=0) evG qba qcn rfl rfl rfl rfl)) ?_);(refine qch rfl rfl (fun hg=>(by have hg0:=hg;(try simp at hg);exact qep evG qba (hq om) rfl rfl rf)) ?_);refine t2 ?_;(refine qch rfl rfl (fun hg=>(by have hg0:=hg;(try simp at hg);exact qak (j:=_) evG evG rfl rfl rf hp)) ?_);refine t4 ?_;refine ⟨rfl,?_⟩;refine Z20 ?_;refine cN ?_ ?_<;>intro h9
  ·have h2:j<W.length∧q.l=p.l:=by
    rw [Bool.and_eq_true] at h9;have h8:=of_decide_eq_true h9.1;exact ⟨om,by simpa using h9.2⟩
   clear h9;have hs:=qzv j hlo (hq h2.1) h2.2;refine t6 ?_;refine qao rfl (by exact qak (j:=_) (er rfl) (er rfl) rfl rfl rf hp) ?_;refine s1 ?_;refine qao rfl (by exact qay (k:=j) (er rfl) qba (er rfl) rfl rfl qdh qcn) ?_;refine qjw (by exact qgn (z':=p) (er rfl) (er rfl) qa5 qaf (hq h2.1) rfl rf rf) ?_;refine t11 ?_;(rw [<- hs,<- hft];refine qaa (k+1,s) (by dsimp only;omega) (by dsimp only;omega) ⟨⟨_,rfl,SubL.eq (by rw [hft,hs,List.length_set])⟩,⟨_,rfl,SubL.rfl'⟩,⟨_,rfl,SubL.eq (ieq (by dsimp only;omega))⟩,trivial⟩ ?_;rw [show (slV W.length s)=slV (((a++b).take (k+1)).foldl qju []).length s by rw [hft,hs,List.length_set]];exact qab)
  have h2:∀ q',W[j]?=some q'->p.l<q'.l:=fun q' hq'=>by
   have hjl:=(List.getElem?_eq_some_iff.1 hq').1;rw [hq hjl] at hq';cases hq';have e1:decide ((j:Int)<(W.length:Int))=true:=decide_eq_true om;rw [e1,Bool.true_and] at h9;have h10:¬ q.l=p.l:=by simpa using h9
   rcases h' with h' | h'
   ·omega
   ·omega
  clear h9;have hs2:=qzw j hj hlo h2;refine t2 ?_;refine Z5 ?_;refine zaj ?_;refine t2 ?_;refine qbc (za4 (h:=j) (er rfl) qba rfl rfl rfl ⟨_,_,(er rfl),(show _=((j:Nat):Int) by rfl)⟩ qcn) ?_;refine t2 ?_;refine qbc (by exact qak (j:=_) (er rfl) (er rfl) rfl rfl rf hp) ?_;refine s1 ?_;refine qbc (qb7 (size:=9) (qs:=[(0,_)]) rfl rfl rfl ⟨⟨rfl,_,(er rfl),qa5⟩,trivial⟩ rf rf) ?_;refine t2 ?_;refine qbc (za5 (l:=j) (er rfl) qba rfl rfl ⟨_,_,(er rfl),(show _=((j:Nat):Int) by rfl)⟩ rfl qcn) ?_;refine qbc (qsq (T:=tPg) ([p]) (er rfl) zc3 rfl rfl (er rfl) qba qcn (by exact qfz rfl rfl rfl) qcn) ?_;refine ⟨rfl,?_⟩;(refine JD_s kr rfl rfl (zef (h:=j) (er rfl) qaf qcn (fun _=>qaf) evS (by exact qfz rfl rfl rfl) qcn) ?_;intro i75);refine Z80 ?_;refine Z74 ?_;(rw [<- hs2,<- hft];exact qaa (k+1,i75) (by dsimp only;omega) (by dsimp only;omega) qa8 qab)
 have hke:k=(a++b).length:=by have:=of_decide_eq_false h4;omega
 subst hke;rw [List.take_length];refine t12 ?_;exact qbp (Bs:=[Is (slV (qck a b).length s)]) results88 eT s SubL.rfl' qab
theorem qoc {α:Type} {xs ys:List α} {k:Nat} {x y:α} (hx:xs[k]?=some x) (hy:ys[k]?=some y) (h:xs.take k=ys.take k):(xs.take (k+1)=ys.take (k+1))↔x=y:=by
 rw [List.take_add_one,List.take_add_one,hx,hy,h];simp
def qld (p:Pg):List Value:=[.int .u64 (UV p.d0),.int .u64 (UV p.d1),.int .u64 (UV p.d2),.int .u64 (UV p.d3),.int .u64 (UV p.d4),.int .u64 (UV p.d5),.int .u64 (UV p.d6)]
def qhy (p q:Pg):Bool:=p.d0==q.d0&&(p.d1==q.d1&&(p.d2==q.d2&&(p.d3==q.d3&&(p.d4==q.d4&&(p.d5==q.d5&&p.d6==q.d6)))))
theorem data_iff {p q:Pg}:qhy p q=true↔p.d0=q.d0∧p.d1=q.d1∧p.d2=q.d2∧p.d3=q.d3∧p.d4=q.d4∧p.d5=q.d5∧p.d6=q.d6:=by
 unfold qhy;simp only [Bool.and_eq_true,beq_iff_eq]
theorem eqD_run (p q:Pg) (w:World):(Op.equal 48 (.agg (qld p).toArray) (.agg (qld q).toArray)).run prog w = .ok (qhy p q) w:=
 eq7 9998 w p.d0 p.d1 p.d2 p.d3 p.d4 p.d5 p.d6 q.d0 q.d1 q.d2 q.d3 q.d4 q.d5 q.d6
theorem qp2 (o:BinOp) (x y:Operand) (p q:Pg) (w:World):(eqGuard o 48 x y (.agg (qld p).toArray) (.agg (qld q).toArray)).run prog w = .ok () w:=by
 have h:Tryz.prog.eqGuardType Tryz.prog.depth 48=false:=by kernel_rfl
 cases o <;> simp [eqGuard,program,Sem.run,h]
theorem eqD_neq (p q:Pg) (w:World):(binOp .neq 48 (.agg (qld p).toArray) (.agg (qld q).toArray)).run prog w = .ok (.bool (!qhy p q)) w:=by
 simp only [binOp,Sem.run_bind,eqD_run,Result.andThen_ok,Sem.run_pure]
theorem same_pg (p q:Pg):(p.l != q.l||(UV p.h != UV q.h || !qhy p q)) = !decide (p=q):=by
 obtain ⟨l,h,d0,d1,d2,d3,d4,d5,d6⟩:=p;obtain ⟨l',h',d0',d1',d2',d3',d4',d5',d6'⟩:=q;by_cases h1:l=l'
 case neg=>simp [h1]
 by_cases h2:h=h'
 case neg =>
  have:UV h≠UV h':=fun e=>h2 (by rw [zal] at e;exact e);simp [h1,h2,this]
 subst h1 h2;by_cases h3:qhy ⟨l,h,d0,d1,d2,d3,d4,d5,d6⟩ ⟨l,h,d0',d1',d2',d3',d4',d5',d6'⟩=true
 ·rw [h3];have:=data_iff.1 h3;simp only at this;simp [this]
 ·have h4:qhy ⟨l,h,d0,d1,d2,d3,d4,d5,d6⟩ ⟨l,h,d0',d1',d2',d3',d4',d5',d6'⟩=false:=by simpa using h3
  rw [h4];have:¬ ((⟨l,h,d0,d1,d2,d3,d4,d5,d6⟩:Pg)=⟨l,h,d0',d1',d2',d3',d4',d5',d6'⟩):=fun e=>by
   injection e with _ _ e0 e1 e2 e3 e4 e5 e6
   exact h3 (data_iff.2 ⟨e0,e1,e2,e3,e4,e5,e6⟩)
  simp [this]
theorem Fn.pgF {P:Program} {f:FuncId} {As:List VP} {n:Nat} {e:TypeId} {xs:List Pg} (h:Fn P f As [] (fun i:Option Addr×Nat=>Is (slV n i)) (fun i=>[buf (slV n i) e tPg xs])):FnF P f As (fun B=>qa9 B (qad tPg xs)):=
 h.toF (fun _=>⟨qcp,qcp,qcp,qcp,qcp,qcp,qcp,qcp,qcp,trivial⟩) (fun i B φ v h1 h2=>by rw [show v=slV n i from h2];exact h1)
theorem Fn.pgP {P:Program} {f:FuncId} {As:List VP} {n:Nat} {e:TypeId} {xs:List Pg} (h:Fn P f As [] (fun i:Option Addr×Nat=>Is (slV n i)) (fun i=>[buf (slV n i) e tPg xs])):FnP P f As (qad tPg xs):=
 h.pgF.toP fun B φ v k=>(qad tPg xs).mono (qzz B φ) k
theorem qng (a b:List Pg) (hn:a.length+b.length<=400000):FnP prog 88 [qad tPg a,qad tPg b] (qad tPg (qck a b)):=(qr6 a b hn).pgP
theorem qb8 (a b:List Pg) (hn:a.length+b.length<=400000):FnF prog 88 [qad tPg a,qad tPg b] (fun B=>qa9 B (qad tPg (qck a b))):=(qr6 a b hn).pgF
theorem SamePages_ok (xs ys:List Pg):FnP prog 15 [qad tPg xs,qad tPg ys] (Ib (decide (xs=ys))):=by
 refine FnP.enter func15 ntmps15 rfl rfl ?_;intro c hX;refine qjp (t:=0) rfl (fun hlen=>?_);refine t15 ?_;refine cN ?_ ?_<;>intro h1
 ·have e:xs≠ys:=by rintro rfl;simp at h1
  refine t7 ?_;refine rB results15 rfl ?_;rw [decide_eq_false e]
 have hl:xs.length=ys.length:=by simp at h1;omega
 clear h1;refine t9 ?_;refine qbm (fun k:Nat=>k<=xs.length∧xs.take k=ys.take k) (fun k=>[(0,qad tPg xs),(1,qad tPg ys),(5,Ii (k:Nat))]) (fun _=>[]) (fun k=>xs.length-k) 0 ⟨nZ _,rfl⟩ qa8 qab ?_;rintro k ⟨hk,hs⟩;refine t9 ?_;refine cN ?_ ?_<;>intro h4
 ·have h':(k:Int)<xs.length:=of_decide_eq_true h4;clear h4;obtain ⟨mx,hx⟩:∃ m,xs[k]?=some m:=⟨xs[k],gE om⟩
  obtain ⟨my,hy⟩:∃ m,ys[k]?=some m:=⟨ys[k],gE om⟩
  have hsp:=same_pg mx my;refine Z70 ?_;refine qaj 37 kr ?_;refine t2 ?_;refine qbc (by exact qak (j:=_) (er rfl) (er rfl) rfl rfl rf hx) ?_;refine t4 ?_;refine qbc (by exact qak (j:=_) (er rfl) (er rfl) rfl rfl rf hy) ?_;refine t6 ?_;(refine qch rfl rfl (fun hg=>(by have hg0:=hg;(try simp at hg);exact qak (j:=_) evG evG rfl rfl rf hx)) ?_);refine t4 ?_;(refine qch rfl rfl (fun hg=>(by have hg0:=hg;(try simp at hg);exact qak (j:=_) evG evG rfl rfl rf hy)) ?_);refine t7 ?_;(refine qch rfl rfl (fun hg=>(by have hg0:=hg;(try simp at hg);exact qak (j:=_) evG evG rfl rfl rf hx)) ?_);refine s1 ?_;(refine qch rfl rfl (fun hg=>(by have hg0:=hg;(try simp at hg);exact qa6 (n:=7) evG rfl rfl rfl rf qbx)) ?_);refine t2 ?_;(refine qch rfl rfl (fun hg=>(by have hg0:=hg;(try simp at hg);exact qak (j:=_) evG evG rfl rfl rf hy)) ?_);refine s1 ?_;(refine qch rfl rfl (fun hg=>(by have hg0:=hg;(try simp at hg);exact qa6 (n:=7) evG rfl rfl rfl rf qbx)) ?_);(refine qch rfl rfl (fun hg=>(by have hg0:=hg;(try simp at hg);exact qb0 (vs:=qld mx) (ws:=qld my) evG evG (qp2 _ _ _ mx my) (eqD_neq mx my))) ?_);refine s1 ?_;refine ⟨rfl,?_⟩;refine Z20 ?_;refine cN ?_ ?_<;>intro h6
  ·have e:xs≠ys:=by
    rintro rfl;rw [hx] at hy;have hm:mx=my:=by simpa using hy
    subst hm;rw [<- Bool.or_assoc] at hsp;rw [hsp] at h6;simp at h6
   refine t11 ?_;refine rB results15 rfl ?_;rw [decide_eq_false e]
  have e:mx=my:=by
   rw [<- Bool.or_assoc] at hsp;rw [hsp] at h6
   simpa using h6
  clear h6;refine t8 ?_;exact qaa (k+1) ⟨om,(qoc hx hy hs).2 e⟩ om qa8 qab
 have e:xs=ys:=by
  have h':¬ (k:Int)<xs.length:=of_decide_eq_false h4;rw [List.take_of_length_le om,List.take_of_length_le om] at hs;exact hs
 clear h4;refine t11 ?_;refine rB results15 rfl ?_;rw [decide_eq_true e]
theorem qqf (xs ys:List Int):FnP prog 14 [qad qaw xs,qad qaw ys] (Ib (decide (xs=ys))):=by
 refine FnP.enter func14 ntmps14 rfl rfl ?_;intro c hX;refine qjp (t:=0) rfl (fun hlen=>?_);refine t15 ?_;refine cN ?_ ?_<;>intro h1
 ·have e:xs≠ys:=by rintro rfl;simp at h1
  refine t7 ?_;refine rB results14 rfl ?_;rw [decide_eq_false e]
 have hl:xs.length=ys.length:=by simp at h1;omega
 clear h1;refine t9 ?_;refine qbm (fun k:Nat=>k<=xs.length∧xs.take k=ys.take k) (fun k=>[(0,qad qaw xs),(1,qad qaw ys),(5,Ii (k:Nat))]) (fun _=>[]) (fun k=>xs.length-k) 0 ⟨nZ _,rfl⟩ qa8 qab ?_;rintro k ⟨hk,hs⟩;refine t9 ?_;refine cN ?_ ?_<;>intro h4
 ·have h':(k:Int)<xs.length:=of_decide_eq_true h4;clear h4;obtain ⟨mx,hx⟩:∃ m,xs[k]?=some m:=⟨xs[k],gE om⟩
  obtain ⟨my,hy⟩:∃ m,ys[k]?=some m:=⟨ys[k],gE om⟩
  refine Z70 ?_;refine qaj 9 kr ?_;refine t2 ?_;refine qbc (by exact qak (j:=_) (er rfl) (er rfl) rfl rfl rf hx) ?_;refine t3 ?_;refine qbc (by exact qak (j:=_) (er rfl) (er rfl) rfl rfl rf hy) ?_;refine t2 ?_;refine ⟨rfl,?_⟩;refine Z20 ?_;refine cN ?_ ?_<;>intro h6
  ·have e:xs≠ys:=by
    rintro rfl;rw [hx] at hy;have hm:mx=my:=by simpa using hy
    subst hm;simp at h6
   refine t11 ?_;refine rB results14 rfl ?_;rw [decide_eq_false e]
  have e:mx=my:=by simpa [zal] using h6
  clear h6;refine t8 ?_;exact qaa (k+1) ⟨om,(qoc hx hy hs).2 e⟩ om qa8 qab
 have e:xs=ys:=by
  have h':¬ (k:Int)<xs.length:=of_decide_eq_false h4;rw [List.take_of_length_le om,List.take_of_length_le om] at hs;exact hs
 clear h4;refine t11 ?_;refine rB results14 rfl ?_;rw [decide_eq_true e]
section
variable {P:Program} {c:Ctx} {A:Nat->Option VP} {L:List Item} {d:Option Tmp} {ty:TypeId} {pos:String} {af:Array Edge} {g:Option (Nat×Bool)}
variable {α:Type} {T:Ty α}
theorem quk (xs:List α) {x y z:Operand} {t e:TypeId} {n l u:Nat} {k1 k2:IntKind} {i1 i2:Int} {As:List VP} (hx:Ev A L x (IsRef As)) (hu:P.underlying t=some (.array n e)) (hs:(P.info? e).map (·.size)=some T.size) (hy:Ev A L y (Is (.int k1 i1))) (hz:Ev A L z (Is (.int k2 i2)))
  (e1:i1=l) (e2:i2=u) (h1:l<=u) (h2:u<=xs.length) (hn:xs.length=n) (hm:Nat.ble n maxLen=true) (h:SubLs L (As.take (n*T.size)) (xs.flatMap T.cells)) :
  OpP P c ⟨d,.slice t x (some y) (some z) none,ty,pos,af,g⟩ A L (qad T ((xs.take u).drop l)):=by
 intro φ a w K Q hh he hk;obtain ⟨b,o,f1,f2⟩:(IsRef As).ok φ (a.eval x):=he x (by simp [Op.operands]) _ hx;have g1:a.eval y = .int k1 i1:=he y (by simp [Op.operands]) _ hy;have g2:a.eval z = .int k2 i2:=he z (by simp [Op.operands]) _ hz;have hat:SlAt T φ (some ⟨b,o,none⟩) n n xs:=by
  refine ⟨hn.symm,Nat.le_refl _,Nat.le_of_ble_eq_true hm,.inr ⟨b,o,rfl,fun k z hj j B hB=>?_⟩⟩;obtain ⟨D,h3,h4⟩:=qme (Bs:=[]) h (qk5 hj hB);have h5:As[k*T.size+j]?=some D:=by
   rw [List.getElem?_take] at h3;split at h3
   ·exact h3
   ·cases h3
  obtain ⟨v,h6,h7,h8⟩:=f2 _ D h5;exact ⟨v,by rw [Nat.add_assoc];exact h6,h4 φ v hh.mem.facts h7,h8⟩
 have hrun:(execOp a.eval ⟨d,.slice t x (some y) (some z) none,ty,pos,af,g⟩).run P w = .ok (.value (.slice (if n=l then some ⟨b,o,none⟩ else (some ⟨b,o,none⟩:Option Addr).map (·.add (l*T.size))) (u-l) (n-l))) w:=by
  simp only [execOp,f1];refine qcd ?_;simp only [Instr.sliceAt,Sem.run_bind,run_underlying hu,Result.andThen_ok,Instr.sureAddr,Sem.run_pure,Option.map_none,Option.map_some,Instr.sliceBounds,g1,g2,qdy (P:=P) (y:=k2) (k:=k2) e2 (show u<=n by omega),qdy (P:=P) (y:=k1) (k:=k1) e1 h1,qbd hs];by_cases hc:n=l <;> simp [hc]
 unfold Oper.wp;rw [hrun];exact hk φ _ w hh.idle ⟨_,_,_,rfl,hat.cut h1 om⟩
end
def qwh (l:Int):Bool:=decide (l>=98)&&decide (l<104)
def qi2 (l:Int):Int:=if 104<=l∧l<=256 then (l-104) / 16 else 0
def qbh (s:Int):Int:=if 0<=s∧s<=8 then 104+16*s else -1
def hdrB (l:Int):Bool:=decide (104<=l∧l<248∧(l-104) % 16=0)
def qk0 (lines line:Int):Int×Int×Bool:=if 104<=line∧line<104+16*qi2 lines∧(line-104) % 16≠0 then ((line-104) / 16,(line-104) % 16,true) else (0,0,false)
theorem qp3 (l:Int):0<=qi2 l∧qi2 l<=9:=by unfold qi2;split <;> omega
theorem line_rng (s:Int):-1<=qbh s∧qbh s<=232:=by unfold qbh;split <;> omega
theorem qzs (l:Int):FnP prog 171 [Ii l] (Ib (qwh l)):=by
 refine FnP.enter func171 ntmps171 rfl rfl ?_;intro c hX;refine t17 ?_;refine rB results171 rfl ?_;rfl
theorem zfy {l:Int} (h:104<=l∧l<=256):qi2 l=IntKind.i64.wrap ((l-104).tdiv 16):=by
 unfold qi2;rw [if_pos h,Int.tdiv_eq_ediv_of_nonneg om,qqq om]
theorem qwb (l:Int):FnP prog 106 [Ii l] (Ii (qi2 l)):=by
 refine FnP.enter func106 ntmps106 rfl rfl ?_;intro c hX;refine t16 ?_;refine cN ?_ ?_<;>intro h1
 ·have h:¬ (104<=l∧l<=256):=by simp at h1;omega
  refine t7 ?_;refine rB results106 rfl ?_;unfold qi2;rw [if_neg h]
 have h:104<=l∧l<=256:=by simp at h1;omega
 refine t6 ?_;refine qao rfl (qiw (er rfl) (er rfl) om rfl) ?_;refine t4 ?_;refine rB results106 rfl ?_;rw [zfy h]
theorem qbz (s:Int):FnP prog 107 [Ii s] (Ii (qbh s)):=by
 refine FnP.enter func107 ntmps107 rfl rfl ?_;intro c hX;refine t16 ?_;refine cN ?_ ?_<;>intro h1
 ·have h:¬ (0<=s∧s<=8):=by simp at h1;omega
  refine t7 ?_;refine rB results107 rfl ?_;unfold qbh;rw [if_neg h]
 have h:0<=s∧s<=8:=by simp at h1;omega
 refine t11 ?_;refine rB results107 rfl ?_;unfold qbh;rw [if_pos h]
theorem qn8 (lines line:Int):FnP prog 238 [Ii lines,Ii line] (qbs [Ii ((qk0 lines line).1),Ii ((qk0 lines line).2.1),Ib ((qk0 lines line).2.2)]):=by
 have hc:=qp3 lines;refine FnP.enter func238 ntmps238 rfl rfl ?_;intro c hX;refine t14 ?_;refine qbm (fun k:Nat=>(k:Int)<=qi2 lines∧∀ j:Nat,j<k->¬ (104+16*(j:Int)<line∧line<104+16*(j:Int)+16)) (fun k=>[(0,Ii lines),(1,Ii line),(7,Ii (k:Nat))]) (fun _=>[]) (fun k=>9-k) 0 ⟨om,fun j hj=>by omega⟩ qa8 qab ?_;rintro k ⟨hk,hs⟩;refine t5 ?_;refine qao rfl (qac call106 (qwb _) ⟨evS,trivial⟩) ?_;refine t3 ?_;refine cN ?_ ?_<;>intro h2
 ·have hlt:(k:Int)<qi2 lines:=of_decide_eq_true h2;have hline:qbh (k:Int)=104+16*k:=by unfold qbh;rw [if_pos om]
  clear h2;refine t8 ?_;refine qao rfl (qac call107 (qbz _) ⟨evS,trivial⟩) ?_;refine qao rfl (qlk (er rfl) (er rfl) rfl) ?_;rw [hline];refine t7 ?_;refine qao rfl (qac call107 (qbz _) ⟨evS,trivial⟩) ?_;refine t4 ?_;(refine qcg rfl rfl rfl (fun hg=>(by have hg0:=hg;(try simp at hg);exact qac call107 (qbz _) ⟨evS,trivial⟩)) ?_);refine t5 ?_;refine cN ?_ ?_<;>intro h5
  ·have h6:104+16*(k:Int)<line∧line<104+16*(k:Int)+16:=by rw [hline] at h5;simp at h5;omega
   have e:qk0 lines line=((k:Int),line-(104+16*(k:Int)),true):=by
    unfold qk0;rw [if_pos om];have e1:(line-104) / 16=k:=om;have e2:(line-104) % 16=line-(104+16*(k:Int)):=om;rw [e1,e2]
   have hw:IntKind.i64.wrap (line-(104+16*(k:Int)))=line-(104+16*(k:Int)):=qqq om;rw [e,hw];refine t15 ?_;exact qbq (Bs:=[Ii (k:Int),Ii (line-(104+16*(k:Int))),Ib true]) results238 eT () SubL.rfl' (List.nil_sublist _)
  have h6:¬ (104+16*(k:Int)<line∧line<104+16*(k:Int)+16):=by rw [hline] at h5;simp at h5;omega
  clear h5;refine t8 ?_;exact qaa (k+1) ⟨om,fun j hj=>by
   by_cases hjk:j=k
   ·subst hjk;exact h6
   ·exact hs j om⟩ om qa8 qab
 have hge:qi2 lines<=k:=by have:=of_decide_eq_false h2;omega
 have e:qk0 lines line=(0,0,false):=by
  unfold qk0;rw [if_neg];rintro ⟨g1,g2,g3⟩;have:=hs ((line-104) / 16).toNat om;omega
 rw [e];refine t13 ?_;exact qbq (Bs:=[Ii 0,Ii 0,Ib false]) results238 eT () SubL.rfl' (List.nil_sublist _)
section
variable {P:Program} {c:Ctx} {A:Nat->Option VP} {L:List Item} {d:Option Tmp} {ty:TypeId} {pos:String} {af:Array Edge} {g:Option (Nat×Bool)}
theorem qd1 {t e:TypeId} {len size:Nat} {ps:Array (Nat×Operand)} {zs:List Value} {qs:List (Nat×List VP)} {Rs Rs':List VP} (hu:P.underlying t=some (.array len e)) (hs:(P.info? e).map (·.size)=some size) (hz:(P.info? t).map (·.zero)=some (some (.agg zs.toArray))) (h1:(zs.all Value.oneCell')=true)
  (hq:PartsE A L ps.toList qs) (hf:qlz (fun i=>some (i*size,size)) (zs.map Is) qs=some Rs) (hR:Rs=Rs'):OpP P c ⟨d,.build t ps,ty,pos,af,g⟩ A L (IsAgg Rs'):=by
 subst hR;exact opp fun φ a w hm he=>by
  have hp:=hq.at_ (φ:=φ) (a:=a) fun i x hx=>he x (by simp only [Op.operands];simp;exact ⟨i,by simpa using hx⟩);obtain ⟨rs,g1,g2⟩:=qnz (qil (φ:=φ) zs) (qgh h1) hp hf;refine ⟨.agg rs.toArray,?_,⟨rs,rfl,g2⟩⟩;simp only [execOp];refine qcd ?_;have h3:(ps.map fun x=>(x.1,a.eval x.2)).toList=ps.toList.map fun p=>(p.1,a.eval p.2):=by simp
  simp only [Instr.build,Sem.run_bind,qi8 hz,Result.andThen_ok,run_underlying hu,qbd hs];rw [h3];show (match Instr.fill (fun i=>some (i*size,size)) zs.toArray (ps.toList.map fun p=>(p.1,a.eval p.2)) with|some cells=>pure (.agg cells)|_=>stuck _:Sem Value).run P w=_
  rw [g1];rfl
end
theorem qu6 (l:Int):FnP prog 170 [Ii l] (Ib (hdrB l)):=by
 refine FnP.enter func170 ntmps170 rfl rfl ?_;intro c hX;refine t12 ?_;refine qbm (fun k:Nat=>k<=9∧∀ j:Nat,j<k->l≠104+16*(j:Int)) (fun k=>[(0,Ii l),(3,Ii (k:Nat))]) (fun _=>[]) (fun k=>9-k) 0 ⟨om,fun j hj=>by omega⟩ qa8 qab ?_;rintro k ⟨hk,hs⟩;refine t7 ?_;refine cN ?_ ?_<;>intro h2
 ·have hlt:k<=8:=by have:=of_decide_eq_true h2;omega
  have hline:qbh (k:Int)=104+16*k:=by unfold qbh;rw [if_pos om]
  clear h2;refine t8 ?_;refine qao rfl (qac call107 (qbz _) ⟨evS,trivial⟩) ?_;refine t3 ?_;refine cN ?_ ?_<;>intro h4
  ·have h5:l=104+16*(k:Int):=by rw [hline] at h4;simpa using h4
   have e:hdrB l=true:=by unfold hdrB;rw [decide_eq_true];omega
   refine t11 ?_;refine rB results170 rfl ?_;rw [e]
  have h5:l≠104+16*(k:Int):=by rw [hline] at h4;simpa using h4
  clear h4;refine t8 ?_;exact qaa (k+1) ⟨om,fun j hj=>by
   by_cases hjk:j=k
   ·subst hjk;exact h5
   ·exact hs j om⟩ om qa8 qab
 have hge:9<=k:=by have:=of_decide_eq_false h2;omega
 have e:hdrB l=false:=by
  unfold hdrB;rw [decide_eq_false];rintro ⟨g1,g2,g3⟩;have:=hs ((l-104) / 16).toNat om;omega
 refine t11 ?_;refine rB results170 rfl ?_;rw [e]
def dat (p:Pg):List (BitVec 64):=[p.d0,p.d1,p.d2,p.d3,p.d4,p.d5,p.d6]
def qxy (p:Pg) (k:Nat):BitVec 64:=(dat p).getD k 0#64
def zB (p:Pg):Bool:=decide (p.d2=0#64)&&(decide (p.d3=0#64)&&(decide (p.d4=0#64)&&(decide (p.d5=0#64)&&decide (p.d6=0#64))))
def useB (p:Pg):Bool:=decide (UV p.d0>6)||UV (p.d1 &&& ~~~BitVec.ofInt 64 65534) != 0
def qii (p:Pg):Hd×Int:=if hdrB p.l=true then (if (useB p || !zB p)=true then (Hd.nil,14) else (⟨UV p.d0-1,p.d1.setWidth 32⟩,0)) else (Hd.nil,1)
theorem use_rng {p:Pg} (h:useB p=false):UV p.d0<=6:=by
 unfold useB at h;simp at h;exact h.1
theorem dat_at (p:Pg) (k:Nat) (h:k<7):(dat p)[k]?=some (qxy p k):=by
 unfold qxy;rw [List.getD_eq_getElem?_getD,gE (by simpa [dat] using h)];rfl
theorem zB_iff {p:Pg}:zB p=true↔∀ k:Nat,2<=k->k<7->qxy p k=0#64:=by
 unfold zB;simp only [Bool.and_eq_true,decide_eq_true_eq];constructor
 ·rintro ⟨h2,h3,h4,h5,h6⟩ k hk hk7;have:k=2∨k=3∨k=4∨k=5∨k=6:=om;rcases this with rfl|rfl|rfl|rfl|rfl <;> simp [qxy,dat,h2,h3,h4,h5,h6]
 ·intro h;exact ⟨h 2 om om,h 3 om om,h 4 om om,h 5 om om,h 6 om om⟩
theorem qo9 {w:Nat} {x:BitVec w}:UV x=0↔x=0#w:=by
 constructor
 ·intro h;have:UV x=UV (0#w):=by rw [h];simp [UV]
  rw [zal] at this;exact this
 ·rintro rfl;simp [UV]
theorem qgj (p:Pg):FnP prog 108 [qcv p] (qbs [IsHd (qii p).1,Ii ((qii p).2)]):=by
 have h0:=qa2 p.d0;have hd0:(dat p)[0]?=some p.d0:=rfl;have hd1:(dat p)[1]?=some p.d1:=rfl;refine FnP.enter func108 ntmps108 rfl rfl ?_;intro c hX;refine t3 ?_;intro i1;refine s1 ?_;intro i2;refine t5 ?_;refine qec hX (b:=i1) qaf ?_;refine qbl 1 (IsRef (tPg.cells p)) rfl (SubL.fact qba) ?_;refine t3 ?_;refine qao rfl (qac call170 (qu6 _) ⟨evS,trivial⟩) ?_;refine t3 ?_;refine cN ?_ ?_<;>intro h1
 ·have e:qii p=(Hd.nil,1):=by unfold qii;rw [if_neg (by simpa using h1)]
  rw [e];refine t9 ?_;exact qbq (Bs:=[IsHd Hd.nil,Ii 1]) results108 eT () SubL.rfl' (List.nil_sublist _)
 have hl:hdrB p.l=true:=by simpa using h1
 refine t9 ?_;refine qbm (fun k:Nat=>2<=k∧k<=7∧∀ j:Nat,2<=j->j<k->qxy p j=0#64) (fun k=>[(1,IsRef (tPg.cells p)),(2,Is (.pointer (some ⟨i2,0,none⟩))),(4,Ii (k:Nat))]) (fun _=>[blk i2 218 (tHd.cells Hd.nil)]) (fun k=>7-k) 2 ⟨om,om,fun j hj=>by omega⟩ qa8 qab ?_;rintro k ⟨hk2,hk7,hs⟩;refine t7 ?_;refine cN ?_ ?_<;>intro h4
 ·have hlt:k<7:=by have:=of_decide_eq_true h4;omega
  have hdk:=dat_at p k hlt;clear h4;refine t8 ?_;refine qao rfl (by exact qgd (j:=k) (T:=tU64) (dat p) (er rfl) (er rfl) rfl rfl rf qih rf hdk) ?_;refine t4 ?_;refine cN ?_ ?_<;>intro h6
  ·have h7:¬ qxy p k=0#64:=by rw [<- qo9];simpa using h6
   have e:qii p=(Hd.nil,14):=by
    unfold qii;rw [if_pos hl,if_pos];have:zB p=false:=by
     cases hz:zB p with
     | false=>rfl
     | true=>exact absurd (zB_iff.1 hz k hk2 hlt) h7
    rw [this];simp
   rw [e];refine t13 ?_;exact qbq (Bs:=[IsHd Hd.nil,Ii 14]) results108 eT () SubL.rfl' (List.nil_sublist _)
  have h7:qxy p k=0#64:=by rw [<- qo9];simpa using h6
  clear h6;refine t8 ?_;exact qaa (k+1) ⟨om,om,fun j hj hjk=>by
   by_cases hjk2:j=k
   ·subst hjk2;exact h7
   ·exact hs j hj om⟩ om qa8 qab
 have hk:k=7:=by have:=of_decide_eq_false h4;omega
 subst hk;have hz:zB p=true:=zB_iff.2 hs;clear h4;refine t9 ?_;refine qao rfl (by exact qgd (j:=0) (T:=tU64) (dat p) (er rfl) (er rfl) rfl rfl rf qih rf hd0) ?_;refine t4 ?_;(refine qcg rfl rfl rfl (fun hg=>(by have hg0:=hg;(try simp at hg);exact qgd (j:=1) (T:=tU64) (dat p) evG evG rfl rfl rf qih rf hd1)) ?_);refine t6 ?_;refine cN ?_ ?_<;>intro h8
 ·have h9:useB p=true:=h8;have e:qii p=(Hd.nil,14):=by unfold qii;rw [if_pos hl,if_pos (by rw [h9];simp)]
  rw [e];refine t9 ?_;exact qbq (Bs:=[IsHd Hd.nil,Ii 14]) results108 eT () SubL.rfl' (List.nil_sublist _)
 have h9:useB p=false:=h8;have hr:=use_rng h9;have e:qii p=(⟨UV p.d0-1,p.d1.setWidth 32⟩,0):=by unfold qii;rw [if_pos hl,if_neg (by rw [h9,hz];simp)]
 rw [e];clear h8;refine t5 ?_;refine qao rfl (by exact qgd (j:=0) (T:=tU64) (dat p) (er rfl) (er rfl) rfl rfl rf qih rf hd0) ?_;refine t4 ?_;refine qao rfl (by exact qgd (j:=1) (T:=tU64) (dat p) (er rfl) (er rfl) rfl rfl rf qih rf hd1) ?_;refine t8 ?_;exact qbq (Bs:=[IsHd ⟨UV p.d0-1,p.d1.setWidth 32⟩,Ii 0]) results108 eT () SubL.rfl' (List.nil_sublist _)
theorem Z87 {A B:Prop} (h:A) (f:Bx A→B:=by intro z;refine qao rfl (qd1 (size:=1) (qs:=[]) rfl rfl rfl rfl trivial rf qbx) ?_;exact z.out):B:=f ⟨h⟩
@[reducible] def qiu (x:BitVec 32) (y:BitVec 64):BitVec 64:=x.setWidth 64|||y<<<32
theorem zdz (x:BitVec 32) (y:BitVec 64):x.setWidth 64&&&y<<<32=0#64:=by
 apply BitVec.eq_of_getLsbD_eq
 intro i hi;simp only [BitVec.getLsbD_and,BitVec.getLsbD_setWidth,BitVec.getLsbD_shiftLeft];rcases Nat.lt_or_ge i 32 with h|h
 ·simp [h]
 ·rw [BitVec.getLsbD_of_ge x i h];simp
theorem qvw (x:BitVec 32) (y:BitVec 64):x.setWidth 64+y<<<32=qiu x y:=BitVec.add_eq_or_of_and_eq_zero _ _ (zdz x y)
theorem pack_low (x:BitVec 32) (y:BitVec 64):(qiu x y).setWidth 32=x:=by
 apply BitVec.eq_of_getLsbD_eq
 intro i hi;simp only [qiu,BitVec.getLsbD_setWidth,BitVec.getLsbD_or,BitVec.getLsbD_shiftLeft];simp [hi,show i<64 by omega]
theorem zdy (x z:BitVec 32):qiu x (z.setWidth 64)>>>32=z.setWidth 64:=by
 apply BitVec.eq_of_getLsbD_eq
 intro i hi;simp only [qiu,BitVec.getLsbD_ushiftRight,BitVec.getLsbD_setWidth,BitVec.getLsbD_or,BitVec.getLsbD_shiftLeft];rw [BitVec.getLsbD_of_ge x (32+i) om];rcases Nat.lt_or_ge i 32 with h|h
 ·simp [hi,h,show 32+i<64 by omega,show 32+i-32=i by omega]
 ·rw [BitVec.getLsbD_of_ge z i h];simp;omega
theorem qph (z:BitVec 32):(z.setWidth 64).setWidth 32=z:=by
 apply BitVec.eq_of_toNat_eq
 simp only [BitVec.toNat_setWidth];have:=z.isLt;omega
def qtv (w:BitVec 64):Re:=if w=0#64 then Re.nil else ⟨qbb (w.setWidth 32),(w>>>32).setWidth 32⟩
def qlj (w:BitVec 64):Bool:=decide (w=0#64)||qbt (qbb (w.setWidth 32))
theorem qqw {w:BitVec 64} (h:w=0#64):qtv w=Re.nil∧qlj w=true:=by
 refine ⟨by unfold qtv;rw [if_pos h],by unfold qlj;rw [decide_eq_true h];rfl⟩
theorem qlr {w:BitVec 64} (h:¬ w=0#64):qtv w=⟨qbb (w.setWidth 32),(w>>>32).setWidth 32⟩∧qlj w=qbt (qbb (w.setWidth 32)):=by
 refine ⟨by unfold qtv;rw [if_neg h],by unfold qlj;rw [decide_eq_false h];rfl⟩
def pinV (p:Pg):Bool:=decide (UV p.d0>0)
def epV (p:Pg):BitVec 32:=if UV p.d0>0 then (p.d0-1#64).setWidth 32 else 0#32
def reK (k j:Nat) (r:Re):Re:=if j<k then r else Re.nil
def ndK (p:Pg) (k:Nat):Nd:=⟨pinV p,epV p,p.d1.setWidth 32,UV p.d2,reK k 0 (qtv p.d3),reK k 1 (qtv p.d4),reK k 2 (qtv p.d5),reK k 3 (qtv p.d6)⟩
def okN (p:Pg) (k:Nat):Bool:=match k with
 | 0=>true
 | 1=>qlj p.d3
 | 2=>qlj p.d3&&qlj p.d4
 | 3=>qlj p.d3&&qlj p.d4&&qlj p.d5
 | _=>qlj p.d3&&qlj p.d4&&qlj p.d5&&qlj p.d6
def zf7 (p:Pg):Bool:=decide (UV p.d0>4294967296)||decide (UV p.d1>511)||decide (UV p.d2>59)
def qeo (p:Pg):Nd×Int:=if qwh p.l=true then (if zf7 p=true then (Nd.nil,14) else if okN p 4=true then (ndK p 4,0) else (Nd.nil,14)) else (Nd.nil,1)
theorem zf6 {p:Pg} (h:zf7 p=false):UV p.d0<=4294967296∧UV p.d1<=511∧UV p.d2<=59:=by
 unfold zf7 at h;simp at h;omega
theorem zdm {p:Pg} (h:qwh p.l=false):qeo p=(Nd.nil,1):=by unfold qeo;rw [if_neg (by rw [h];simp)]
theorem zdl {p:Pg} (h:qwh p.l=true) (h1:zf7 p=true):qeo p=(Nd.nil,14):=by unfold qeo;rw [if_pos h,if_pos h1]
theorem readN_x {p:Pg} (h:qwh p.l=true) (h1:zf7 p=false) (h2:okN p 4=false):qeo p=(Nd.nil,14):=by unfold qeo;rw [if_pos h,if_neg (by rw [h1];simp),if_neg (by rw [h2];simp)]
theorem zdn {p:Pg} (h:qwh p.l=true) (h1:zf7 p=false) (h2:okN p 4=true):qeo p=(ndK p 4,0):=by unfold qeo;rw [if_pos h,if_neg (by rw [h1];simp),if_pos h2]
theorem okN_bad0 {p:Pg} (h:qlj p.d3=false):okN p 4=false:=by unfold okN;simp [h]
theorem qzk {p:Pg} (h0:okN p 0=true) (h:qlj p.d3=true):okN p 1=true:=by unfold okN at h0 ⊢;simp_all
theorem okN_bad1 {p:Pg} (h:qlj p.d4=false):okN p 4=false:=by unfold okN;simp [h]
theorem qzj {p:Pg} (h0:okN p 1=true) (h:qlj p.d4=true):okN p 2=true:=by unfold okN at h0 ⊢;simp_all
theorem okN_bad2 {p:Pg} (h:qlj p.d5=false):okN p 4=false:=by unfold okN;simp [h]
theorem qzi {p:Pg} (h0:okN p 2=true) (h:qlj p.d5=true):okN p 3=true:=by unfold okN at h0 ⊢;simp_all
theorem okN_bad3 {p:Pg} (h:qlj p.d6=false):okN p 4=false:=by unfold okN;simp [h]
theorem qzh {p:Pg} (h0:okN p 3=true) (h:qlj p.d6=true):okN p 4=true:=by unfold okN at h0 ⊢;simp_all
theorem d1_low {p:Pg} (h:UV p.d1<=511):UV (BitVec.ofInt 32 ((UV p.d1).tmod 512))=UV (p.d1.setWidth 32):=by
 have h0:=qa2 p.d1;rw [Int.tmod_eq_emod_of_nonneg h0,show UV p.d1 % 512=UV p.d1 by omega];unfold UV at *;rw [BitVec.toNat_ofInt,BitVec.toNat_setWidth];omega
theorem ndK_nil0 {p:Pg} (h:qtv p.d3=Re.nil):ndK p 1=ndK p 0:=by unfold ndK reK;simp [h]
theorem ndK_re0 {p:Pg} (h:¬ p.d3=0#64):ndK p 1={ ndK p 0 with r0:=⟨qbb (p.d3.setWidth 32),(p.d3>>>32).setWidth 32⟩ }:=by unfold ndK reK;simp [(qlr h).1]
theorem ndK_nil1 {p:Pg} (h:qtv p.d4=Re.nil):ndK p 2=ndK p 1:=by unfold ndK reK;simp [h]
theorem ndK_re1 {p:Pg} (h:¬ p.d4=0#64):ndK p 2={ ndK p 1 with r1:=⟨qbb (p.d4.setWidth 32),(p.d4>>>32).setWidth 32⟩ }:=by unfold ndK reK;simp [(qlr h).1]
theorem ndK_nil2 {p:Pg} (h:qtv p.d5=Re.nil):ndK p 3=ndK p 2:=by unfold ndK reK;simp [h]
theorem ndK_re2 {p:Pg} (h:¬ p.d5=0#64):ndK p 3={ ndK p 2 with r2:=⟨qbb (p.d5.setWidth 32),(p.d5>>>32).setWidth 32⟩ }:=by unfold ndK reK;simp [(qlr h).1]
theorem ndK_nil3 {p:Pg} (h:qtv p.d6=Re.nil):ndK p 4=ndK p 3:=by unfold ndK reK;simp [h]
theorem ndK_re3 {p:Pg} (h:¬ p.d6=0#64):ndK p 4={ ndK p 3 with r3:=⟨qbb (p.d6.setWidth 32),(p.d6>>>32).setWidth 32⟩ }:=by unfold ndK reK;simp [(qlr h).1]
theorem zeroK {x:BitVec 64} (h:(UV x==0)=true):x=0#64:=by rw [<- qo9];simpa using h
theorem nzK {x:BitVec 64} (h:(UV x==0)=false):¬ x=0#64:=by rw [<- qo9];simpa using h
set_option maxHeartbeats 8000000 in
theorem qok (p:Pg):FnP prog 147 [qcv p] (qbs [IsNd (qeo p).1,Ii ((qeo p).2)]):=by
 have z2:=qa2 p.d2;have z1:=qa2 p.d1;refine FnP.enter func147 ntmps147 rfl rfl ?_;intro c hX;refine t3 ?_;intro i1;refine s1 ?_;intro i2;refine t8 ?_;refine qao rfl (qac call171 (qzs _) ⟨evS,trivial⟩) ?_;refine t3 ?_;refine cN ?_ ?_<;>intro h1
 ·have hl:qwh p.l=false:=by simpa using h1
  rw [zdm hl];refine t9 ?_;exact qbq (Bs:=[IsNd Nd.nil,Ii 1]) results147 eT () SubL.rfl' (List.nil_sublist _)
 have hl:qwh p.l=true:=by simpa using h1
 have q1:0<=(UV p.d1).tmod 512∧(UV p.d1).tmod 512<512:=by rw [Int.tmod_eq_emod_of_nonneg z1];omega
 have q2:0<=(UV p.d2).tmod 1024∧(UV p.d2).tmod 1024<1024:=by rw [Int.tmod_eq_emod_of_nonneg z2];omega
 refine t8 ?_;refine qao rfl (qhr (er rfl) rfl rfl (wU32 om)) ?_;refine t4 ?_;refine qao rfl (qhr (er rfl) rfl rfl (qqq om)) ?_;refine t2 ?_;intro i4;refine t24 ?_;refine cN ?_ ?_<;>intro h4
 ·have hb:zf7 p=true:=h4;rw [zdl hl hb];refine t9 ?_;exact qbq (Bs:=[IsNd Nd.nil,Ii 14]) results147 eT () SubL.rfl' (List.nil_sublist _)
 have hb:zf7 p=false:=h4;clear h4;obtain ⟨b0,b1,b2⟩:=zf6 hb;have e3:Value.int .u32 ((UV p.d1).tmod 512) = .int .u32 (UV (p.d1.setWidth 32)):=by rw [<- d1_low b1,qk7 om]
 have e4:(UV p.d2).tmod 1024=UV p.d2:=by rw [Int.tmod_eq_emod_of_nonneg z2];omega
 rw [e3,e4];refine t11 ?_;refine qyd (fun _:Unit=>True) (fun _=>[(1,Is (.pointer (some ⟨i1,0,none⟩))),(2,Is (.pointer (some ⟨i2,0,none⟩))),(4,Is (.pointer (some ⟨i4,0,none⟩)))]) (fun _=>[blk i4 214 (tNd.cells (ndK p 0)),blk i2 214 (tNd.cells Nd.nil),blk i1 50 (tPg.cells p)]) ?_ ?_
 rotate_left
 focus
  refine cN ?_ ?_<;>intro h6
  ·have h7:UV p.d0>0:=of_decide_eq_true h6;have e1:pinV p=true:=h6;have e2:epV p=(p.d0-1#64).setWidth 32:=by unfold epV;rw [if_pos h7]
   clear h6;refine t15 ?_;refine qan (b:=i4) (As':=tNd.cells (ndK p 0)) qaf (by show SubLs _ _ [Ib (pinV p),Is (.int .u32 (UV (epV p))),_,_,_,_,_,_,_,_,_,_,_,_,_,_];rw [e1,e2];exact qih) ?_;exact qal () trivial qa8 qab
  have h7:¬ UV p.d0>0:=of_decide_eq_false h6;have e1:pinV p=false:=h6;have e2:epV p=0#32:=by unfold epV;rw [if_neg h7]
  clear h6;refine s1 ?_;refine qan (b:=i4) (As':=tNd.cells (ndK p 0)) qaf (by show SubLs _ _ [Ib (pinV p),Is (.int .u32 (UV (epV p))),_,_,_,_,_,_,_,_,_,_,_,_,_,_];rw [e1,e2];exact qih) ?_;exact qal () trivial qa8 qab
 rintro _ _;refine t7 ?_;refine qbm (fun k:Nat=>k<=4∧okN p k=true) (fun k=>[(1,Is (.pointer (some ⟨i1,0,none⟩))),(2,Is (.pointer (some ⟨i2,0,none⟩))),(4,Is (.pointer (some ⟨i4,0,none⟩))),(5,Ii (k:Nat))]) (fun k=>[blk i4 214 (tNd.cells (ndK p k)),blk i2 214 (tNd.cells Nd.nil),blk i1 50 (tPg.cells p)]) (fun k=>4-k) 0 ⟨nZ _,rfl⟩ qa8 qab ?_;rintro k ⟨hk,hok⟩;refine t7 ?_;refine cN ?_ ?_<;>intro h10
 ·have hk4:k=0∨k=1∨k=2∨k=3:=by have:=of_decide_eq_true h10;omega
  clear h10;rcases hk4 with rfl|rfl|rfl|rfl
  all_goals
   refine t9 ?_;refine qao rfl (by first|exact qah (k:=3) (sz:=1) (er rfl) (er rfl) rfl rfl de de|exact qah (k:=4) (sz:=1) (er rfl) (er rfl) rfl rfl de de|exact qah (k:=5) (sz:=1) (er rfl) (er rfl) rfl rfl de de|exact qah (k:=6) (sz:=1) (er rfl) (er rfl) rfl rfl de de) ?_;refine t11 ?_;refine cN ?_ ?_<;>intro h13
   ·have hz:=zeroK h13;refine t9 ?_;first|(refine qan (b:=i4) (As':=tNd.cells (ndK p 1)) qaf (by rw [ndK_nil0 (qqw hz).1];exact SubLs.rfl') ?_;exact qaa 1 ⟨om,qzk hok (qqw hz).2⟩ om qa8 qab)|(refine qan (b:=i4) (As':=tNd.cells (ndK p 2)) qaf (by rw [ndK_nil1 (qqw hz).1];exact SubLs.rfl') ?_;exact qaa 2 ⟨om,qzj hok (qqw hz).2⟩ om qa8 qab)|(refine qan (b:=i4) (As':=tNd.cells (ndK p 3)) qaf (by rw [ndK_nil2 (qqw hz).1];exact SubLs.rfl') ?_;exact qaa 3 ⟨om,qzi hok (qqw hz).2⟩ om qa8 qab)|(refine qan (b:=i4) (As':=tNd.cells (ndK p 4)) qaf (by rw [ndK_nil3 (qqw hz).1];exact SubLs.rfl') ?_;exact qaa 4 ⟨om,qzh hok (qqw hz).2⟩ om qa8 qab)
   have hz:=nzK h13;refine t6 ?_;refine qao rfl (qac call187 (qfv _) ⟨evS,trivial⟩) ?_;refine s1 ?_;intro i7;refine t7 ?_;refine qao rfl (qac call30 (qb5 _) ⟨evS,trivial⟩) ?_;refine t3 ?_;refine cN ?_ ?_<;>intro h15
   ·have hbad:okN p 4=false:=by first|exact okN_bad0 (by rw [(qlr hz).2];simpa using h15)|exact okN_bad1 (by rw [(qlr hz).2];simpa using h15)|exact okN_bad2 (by rw [(qlr hz).2];simpa using h15)|exact okN_bad3 (by rw [(qlr hz).2];simpa using h15)
    rw [readN_x hl hb hbad];refine t14 ?_;exact qbq (Bs:=[IsNd Nd.nil,Ii 14]) results147 eT () SubL.rfl' (List.nil_sublist _)
   refine t6 ?_;refine Z108 ?_;refine t3 ?_;refine Z64 ?_;refine t9 ?_;first|(refine qan (b:=i4) (As':=tNd.cells (ndK p 1)) qaf (by rw [ndK_re0 hz];exact qih) ?_;exact qaa 1 ⟨om,qzk hok (by rw [(qlr hz).2];simpa using h15)⟩ om qa8 qab)|(refine qan (b:=i4) (As':=tNd.cells (ndK p 2)) qaf (by rw [ndK_re1 hz];exact qih) ?_;exact qaa 2 ⟨om,qzj hok (by rw [(qlr hz).2];simpa using h15)⟩ om qa8 qab)|(refine qan (b:=i4) (As':=tNd.cells (ndK p 3)) qaf (by rw [ndK_re2 hz];exact qih) ?_;exact qaa 3 ⟨om,qzi hok (by rw [(qlr hz).2];simpa using h15)⟩ om qa8 qab)|(refine qan (b:=i4) (As':=tNd.cells (ndK p 4)) qaf (by rw [ndK_re3 hz];exact qih) ?_;exact qaa 4 ⟨om,qzh hok (by rw [(qlr hz).2];simpa using h15)⟩ om qa8 qab)
 have hk4:k=4:=by have:=of_decide_eq_false h10;omega
 subst hk4;rw [zdn hl hb hok];refine t13 ?_;exact qbq (Bs:=[IsNd (ndK p 4),Ii 0]) results147 eT () SubL.rfl' (List.nil_sublist _)
def rwV (r:Re):BitVec 64:=if r=Re.nil then 0#64 else qiu (qcq r.to) (r.ep.setWidth 64)
def rwB (r:Re):Bool:=decide (r=Re.nil)||qbt r.to
def rwK (k j:Nat) (w:BitVec 64):BitVec 64:=if j<k then w else 0#64
def pinW (n:Nd):BitVec 64:=if n.pin=true then n.ep.setWidth 64+1#64 else 0#64
def pgK (p:Pg) (n:Nd) (k:Nat):Pg:=⟨p.l,p.h,pinW n,n.sg.setWidth 64,BitVec.ofInt 64 n.inc,rwK k 0 (rwV n.r0),rwK k 1 (rwV n.r1),rwK k 2 (rwV n.r2),rwK k 3 (rwV n.r3)⟩
def okR (n:Nd) (k:Nat):Bool:=match k with
 | 0=>true
 | 1=>rwB n.r0
 | 2=>rwB n.r0&&rwB n.r1
 | 3=>rwB n.r0&&rwB n.r1&&rwB n.r2
 | _=>rwB n.r0&&rwB n.r1&&rwB n.r2&&rwB n.r3
def qxz (p:Pg) (n:Nd):Bool:=!qwh p.l||((!n.pin&&UV n.ep != 0)||(decide (UV n.sg>511)||(decide (n.inc<0)||decide (n.inc>59))))
def qfa (p:Pg) (n:Nd):Pg×Int:=if qxz p n=true then (Pg.nil,1) else if okR n 4=true then (pgK p n 4,0) else (Pg.nil,1)
theorem zad {p:Pg} {n:Nd} (h:qxz p n=false):0<=n.inc∧n.inc<=59∧UV n.sg<=511:=by
 unfold qxz at h;simp at h;omega
theorem qyk {p:Pg} {n:Nd} (h:qxz p n=true):qfa p n=(Pg.nil,1):=by unfold qfa;rw [if_pos h]
theorem qyj {p:Pg} {n:Nd} (h:qxz p n=false) (h2:okR n 4=false):qfa p n=(Pg.nil,1):=by unfold qfa;rw [if_neg (by rw [h];simp),if_neg (by rw [h2];simp)]
theorem qyl {p:Pg} {n:Nd} (h:qxz p n=false) (h2:okR n 4=true):qfa p n=(pgK p n 4,0):=by unfold qfa;rw [if_neg (by rw [h];simp),if_pos h2]
theorem okR_bad0 {n:Nd} (h:rwB n.r0=false):okR n 4=false:=by unfold okR;simp [h]
theorem qzg {n:Nd} (h0:okR n 0=true) (h:rwB n.r0=true):okR n 1=true:=by unfold okR at h0 ⊢;simp_all
theorem pgK_nil0 {p:Pg} {n:Nd} (h:n.r0=Re.nil):pgK p n 1=pgK p n 0:=by unfold pgK rwK rwV;simp [h]
theorem pgK_re0 {p:Pg} {n:Nd} (h:¬ n.r0=Re.nil):pgK p n 1={ pgK p n 0 with d3:=qiu (qcq n.r0.to) (n.r0.ep.setWidth 64) }:=by unfold pgK rwK rwV;simp [h]
theorem okR_bad1 {n:Nd} (h:rwB n.r1=false):okR n 4=false:=by unfold okR;simp [h]
theorem qzf {n:Nd} (h0:okR n 1=true) (h:rwB n.r1=true):okR n 2=true:=by unfold okR at h0 ⊢;simp_all
theorem pgK_nil1 {p:Pg} {n:Nd} (h:n.r1=Re.nil):pgK p n 2=pgK p n 1:=by unfold pgK rwK rwV;simp [h]
theorem pgK_re1 {p:Pg} {n:Nd} (h:¬ n.r1=Re.nil):pgK p n 2={ pgK p n 1 with d4:=qiu (qcq n.r1.to) (n.r1.ep.setWidth 64) }:=by unfold pgK rwK rwV;simp [h]
theorem okR_bad2 {n:Nd} (h:rwB n.r2=false):okR n 4=false:=by unfold okR;simp [h]
theorem qze {n:Nd} (h0:okR n 2=true) (h:rwB n.r2=true):okR n 3=true:=by unfold okR at h0 ⊢;simp_all
theorem pgK_nil2 {p:Pg} {n:Nd} (h:n.r2=Re.nil):pgK p n 3=pgK p n 2:=by unfold pgK rwK rwV;simp [h]
theorem pgK_re2 {p:Pg} {n:Nd} (h:¬ n.r2=Re.nil):pgK p n 3={ pgK p n 2 with d5:=qiu (qcq n.r2.to) (n.r2.ep.setWidth 64) }:=by unfold pgK rwK rwV;simp [h]
theorem okR_bad3 {n:Nd} (h:rwB n.r3=false):okR n 4=false:=by unfold okR;simp [h]
theorem qzd {n:Nd} (h0:okR n 3=true) (h:rwB n.r3=true):okR n 4=true:=by unfold okR at h0 ⊢;simp_all
theorem pgK_nil3 {p:Pg} {n:Nd} (h:n.r3=Re.nil):pgK p n 4=pgK p n 3:=by unfold pgK rwK rwV;simp [h]
theorem pgK_re3 {p:Pg} {n:Nd} (h:¬ n.r3=Re.nil):pgK p n 4={ pgK p n 3 with d6:=qiu (qcq n.r3.to) (n.r3.ep.setWidth 64) }:=by unfold pgK rwK rwV;simp [h]
theorem nilB {r:Re} (h:decide (r=Re.nil)=true):r=Re.nil:=of_decide_eq_true h
theorem nnilB {r:Re} (h:decide (r=Re.nil)=false):¬ r=Re.nil:=of_decide_eq_false h
theorem qnm {r:Re} (h:r=Re.nil):rwB r=true:=by unfold rwB;rw [decide_eq_true h];rfl
theorem qmh {r:Re} (h:¬ r=Re.nil):rwB r=qbt r.to:=by unfold rwB;rw [decide_eq_false h];rfl
theorem zae (p:Pg) (n:Nd):((((!qwh p.l||decide (UV n.sg>511))||decide (n.inc<0))||decide (n.inc>59))||(!n.pin&&UV n.ep != 0))=qxz p n:=by
 unfold qxz;cases qwh p.l <;> cases decide (UV n.sg>511) <;> cases decide (n.inc<0) <;> cases decide (n.inc>59) <;> simp
set_option maxHeartbeats 8000000 in
theorem qdk (p:Pg) (n:Nd):FnP prog 109 [qcv p,IsNd n] (qbs [qcv (qfa p n).1,Ii ((qfa p n).2)]):=by
 refine FnP.enter func109 ntmps109 rfl rfl ?_;intro c hX;refine t3 ?_;intro i2;refine s1 ?_;intro i3;refine s1 ?_;intro i4;refine t8 ?_;refine qao rfl (qac call171 (qzs _) ⟨evS,trivial⟩) ?_;refine t28 ?_;refine cN ?_ ?_<;>intro h1
 ·have hb:qxz p n=true:=by rw [<- zae];exact h1
  rw [qyk hb];refine t9 ?_;exact qbq (Bs:=[qcv Pg.nil,Ii 1]) results109 eT () SubL.rfl' (List.nil_sublist _)
 have hb:qxz p n=false:=by rw [<- zae];exact h1
 clear h1;obtain ⟨b0,b1,b2⟩:=zad hb;refine t10 ?_;intro i6;refine t10 ?_;refine qyd (fun _:Unit=>True) (fun _=>[(3,Is (.pointer (some ⟨i3,0,none⟩))),(4,Is (.pointer (some ⟨i4,0,none⟩))),(6,Is (.pointer (some ⟨i6,0,none⟩)))]) (fun _=>[blk i6 50 [Ii p.l,Iw p.h,Iw (pinW n),Is (.int .u64 0),Is (.int .u64 0),Is (.int .u64 0),Is (.int .u64 0),Is (.int .u64 0),Is (.int .u64 0)],blk i4 50 (tPg.cells Pg.nil),blk i3 214 (tNd.cells n)]) ?_ ?_
 rotate_left
 focus
  refine cN ?_ ?_<;>intro h4
  ·have e1:pinW n=n.ep.setWidth 64+1#64:=by unfold pinW;rw [if_pos h4]
   refine t9 ?_;rw [e1];exact qal () trivial qa8 qab
  have e1:pinW n=0#64:=by unfold pinW;rw [if_neg (by rw [h4];simp)]
  refine s1 ?_;rw [e1];exact qal () trivial qa8 qab
 rintro _ _;refine t15 ?_;refine qln 59 (Iw (BitVec.ofInt 64 n.inc)) rfl (SubL.eq (congrArg Is (qc3 om))) ?_;refine t7 ?_;refine qbv (b:=i6) (As':=tPg.cells (pgK p n 0)) qaf qih ?_;refine t5 ?_;refine qbm (fun k:Nat=>k<=4∧okR n k=true) (fun k=>[(3,Is (.pointer (some ⟨i3,0,none⟩))),(4,Is (.pointer (some ⟨i4,0,none⟩))),(6,Is (.pointer (some ⟨i6,0,none⟩))),(7,Ii (k:Nat))]) (fun k=>[blk i6 50 (tPg.cells (pgK p n k)),blk i4 50 (tPg.cells Pg.nil),blk i3 214 (tNd.cells n)]) (fun k=>4-k) 0 ⟨nZ _,rfl⟩ qa8 qab ?_;rintro k ⟨hk,hok⟩;refine t7 ?_;refine cN ?_ ?_<;>intro h9
 ·have hk4:k=0∨k=1∨k=2∨k=3:=by have:=of_decide_eq_true h9;omega
  clear h9;rcases hk4 with rfl|rfl|rfl|rfl
  all_goals
   refine t8 ?_;refine Z64 ?_;refine t2 ?_;intro i8;refine t8 ?_;refine qao rfl (by first|exact qb0 (vs:=Re.cells n.r0) (ws:=Re.cells Re.nil) (er rfl) evS (qgf _ _ _ n.r0 Re.nil) (qj7 n.r0 Re.nil)|exact qb0 (vs:=Re.cells n.r1) (ws:=Re.cells Re.nil) (er rfl) evS (qgf _ _ _ n.r1 Re.nil) (qj7 n.r1 Re.nil)|exact qb0 (vs:=Re.cells n.r2) (ws:=Re.cells Re.nil) (er rfl) evS (qgf _ _ _ n.r2 Re.nil) (qj7 n.r2 Re.nil)|exact qb0 (vs:=Re.cells n.r3) (ws:=Re.cells Re.nil) (er rfl) evS (qgf _ _ _ n.r3 Re.nil) (qj7 n.r3 Re.nil)) ?_;refine t2 ?_;refine cN ?_ ?_<;>intro h12
   ·have hz:=nilB h12;refine t9 ?_;first|(refine qan (b:=i6) (As':=tPg.cells (pgK p n 1)) qaf (by rw [pgK_nil0 hz];exact SubLs.rfl') ?_;exact qaa 1 ⟨om,qzg hok (qnm hz)⟩ om qa8 qab)|(refine qan (b:=i6) (As':=tPg.cells (pgK p n 2)) qaf (by rw [pgK_nil1 hz];exact SubLs.rfl') ?_;exact qaa 2 ⟨om,qzf hok (qnm hz)⟩ om qa8 qab)|(refine qan (b:=i6) (As':=tPg.cells (pgK p n 3)) qaf (by rw [pgK_nil2 hz];exact SubLs.rfl') ?_;exact qaa 3 ⟨om,qze hok (qnm hz)⟩ om qa8 qab)|(refine qan (b:=i6) (As':=tPg.cells (pgK p n 4)) qaf (by rw [pgK_nil3 hz];exact SubLs.rfl') ?_;exact qaa 4 ⟨om,qzd hok (qnm hz)⟩ om qa8 qab)
   have hz:=nnilB h12;refine t7 ?_;refine qao rfl (qac call30 (qb5 _) ⟨evS,trivial⟩) ?_;refine t3 ?_;refine cN ?_ ?_<;>intro h13
   ·have hbad:okR n 4=false:=by first|exact okR_bad0 (by rw [qmh hz];simpa using h13)|exact okR_bad1 (by rw [qmh hz];simpa using h13)|exact okR_bad2 (by rw [qmh hz];simpa using h13)|exact okR_bad3 (by rw [qmh hz];simpa using h13)
    rw [qyj hb hbad];refine t14 ?_;exact qbq (Bs:=[qcv Pg.nil,Ii 1]) results109 eT () SubL.rfl' (List.nil_sublist _)
   refine t2 ?_;refine Z5 ?_;refine qdn [0,0,1,1,1,0,1,1,0,0,0,1,1,2] kr kr ?_;refine qhc (qeq rfl) ?_;refine qhc (qms (er rfl) (er rfl) qjq) ?_;refine qfq (by exact qbe (k:=0) (er rfl) rfl rfl rfl rfl) ?_;refine qfq (by exact qa3 (n:=2) (er rfl) qba rf rf rf rf qbx) ?_;refine qfq (qac call96 (qji _) ⟨evS,trivial⟩) ?_;refine qhc (qhr (er rfl) rfl rfl convT) ?_;refine Z107 ?_;refine qfq (by exact qc8 (er rfl) qba rf rf rf) ?_;refine qhc (qhr (er rfl) rfl rfl convT) ?_;refine qhc (by exact qeg (k:=32) qhh (er rfl) om qdh) ?_;refine qhc (by exact qfo qhh qhh (qqb _ _ _)) ?_;refine Z107 ?_;refine qfq (by first|exact qah (k:=3) (sz:=1) (er rfl) (er rfl) rfl rfl de de|exact qah (k:=4) (sz:=1) (er rfl) (er rfl) rfl rfl de de|exact qah (k:=5) (sz:=1) (er rfl) (er rfl) rfl rfl de de|exact qah (k:=6) (sz:=1) (er rfl) (er rfl) rfl rfl de de) ?_;refine qwj (qdf (er rfl) (er rfl) qa5 qaf qbx rf rf rf) ?_;refine qjn ?_;refine Z33 ?_;rw [qvw];refine t5 ?_;first|(refine qan (b:=i6) (As':=tPg.cells (pgK p n 1)) qaf (by rw [pgK_re0 hz];exact qih) ?_;exact qaa 1 ⟨om,qzg hok (by rw [qmh hz];simpa using h13)⟩ om qa8 qab)|(refine qan (b:=i6) (As':=tPg.cells (pgK p n 2)) qaf (by rw [pgK_re1 hz];exact qih) ?_;exact qaa 2 ⟨om,qzf hok (by rw [qmh hz];simpa using h13)⟩ om qa8 qab)|(refine qan (b:=i6) (As':=tPg.cells (pgK p n 3)) qaf (by rw [pgK_re2 hz];exact qih) ?_;exact qaa 3 ⟨om,qze hok (by rw [qmh hz];simpa using h13)⟩ om qa8 qab)|(refine qan (b:=i6) (As':=tPg.cells (pgK p n 4)) qaf (by rw [pgK_re3 hz];exact qih) ?_;exact qaa 4 ⟨om,qzd hok (by rw [qmh hz];simpa using h13)⟩ om qa8 qab)
 have hk4:k=4:=by have:=of_decide_eq_false h9;omega
 subst hk4;rw [qyl hb hok];refine t13 ?_;exact qbq (Bs:=[qcv (pgK p n 4),Ii 0]) results109 eT () SubL.rfl' (List.nil_sublist _)
theorem qjd {P:Program} {c:Ctx} {A:Nat->Option VP} {L:List Item} {d:Option Tmp} {ty:TypeId} {pos:String} {af:Array Edge} {g:Option (Nat×Bool)} {t:TypeId} {s:ByteArray} {y:Operand} {q:IntKind} {j:Int} {k:Nat} {b:UInt8} (hu:P.underlying t=some .string) (hy:Ev A L y (Is (.int q j))) (hj:j=k) (hb:s[k]?=some b) :
  OpP P c ⟨d,.index t (.const (.string s)) y,ty,pos,af,g⟩ A L (Is (.int .u8 b.toNat)):=
 opp fun φ a w hm he=>by
  have h1:a.eval y = .int q j:=he y (by simp [Op.operands]) _ hy;refine ⟨_,?_,rfl⟩;have h2:a.eval (.const (.string s)) = .string s:=rfl;subst hj;simp only [execOp,h1,h2];refine qcd ?_;simp only [Instr.index,asIntOf,Sem.run_bind,Sem.run_pure,Result.andThen_ok,run_underlying hu];rw [if_pos om];simp only [Int.toNat_natCast,hb];rfl
def qq4 (xs:List Pg) (l:Int):Option Pg:=(xs.filter fun p=>decide (p.l=l)).getLast?
theorem lat_hit {xs:List Pg} {k:Nat} {l:Int} {p:Pg} (h:xs[k]?=some p) (hl:p.l=l) (hs:∀ (j:Nat) q,k<j->xs[j]?=some q->q.l≠l):qq4 xs l=some p:=by
 obtain ⟨hk,rfl⟩:=List.getElem?_eq_some_iff.1 h;have e:xs=xs.take k++(xs[k]::xs.drop (k+1)):=by rw [List.getElem_cons_drop,List.take_append_drop]
 have e2:(xs.drop (k+1)).filter (fun p=>decide (p.l=l))=[]:=List.filter_eq_nil_iff.2 fun q hq=>by
  obtain ⟨j,hj,rfl⟩:=List.getElem_of_mem hq;have:=hs (k+1+j) (xs.drop (k+1))[j] om (by rw [<- List.getElem?_drop,gE hj])
  simpa using this
 unfold qq4
 conv=>lhs;rw [e]
 rw [List.filter_append,List.filter_cons,e2];simp [hl]
theorem lat_none {xs:List Pg} {l:Int} (hs:∀ (j:Nat) q,xs[j]?=some q->q.l≠l):qq4 xs l=none:=by
 unfold qq4;rw [List.getLast?_eq_none_iff,List.filter_eq_nil_iff];intro q hq;obtain ⟨j,hj,rfl⟩:=List.getElem_of_mem hq
 simpa using hs j _ (gE hj)
theorem zgq (xs:List Pg) (l:Int):FnP prog 51 [qad tPg xs,Ii l] (qbs [qcv ((qq4 xs l).getD Pg.nil),Ib ((qq4 xs l).isSome)]):=by
 refine FnP.enter func51 ntmps51 rfl rfl ?_;intro c hX;refine qjp (t:=0) rfl (fun hlen=>?_);refine t3 ?_;intro i4;refine t8 ?_;refine qao rfl (qlk (er rfl) (er rfl) rfl) ?_;refine t4 ?_;refine qbm (fun k:Nat=>k<=xs.length∧∀ (j:Nat) q,k<=j->xs[j]?=some q->q.l≠l) (fun k=>[(0,qad tPg xs),(1,Ii l),(4,Is (.pointer (some ⟨i4,0,none⟩))),(6,Ii ((k:Int)-1))]) (fun _=>[blk i4 50 (tPg.cells Pg.nil)]) (fun k=>k) xs.length ⟨Nat.le_refl _,fun j q hj hq=>absurd (List.getElem?_eq_some_iff.1 hq).1 om⟩ ⟨⟨_,rfl,SubL.rfl'⟩,⟨_,rfl,SubL.rfl'⟩,⟨_,rfl,SubL.rfl'⟩,⟨_,rfl,SubL.eq (ieq (qqq om))⟩,trivial⟩ qab ?_;rintro k ⟨hk,hs⟩;refine t7 ?_;refine cN ?_ ?_<;>intro h2
 ·have h':0<k:=by have:=of_decide_eq_true h2;omega
  clear h2;obtain ⟨k,rfl⟩:∃ j,k=j+1:=⟨k-1,om⟩
  obtain ⟨z,hz⟩:∃ z,xs[k]?=some z:=⟨xs[k],gE om⟩
  refine t8 ?_;refine qao rfl (by exact qak (j:=_) (er rfl) (er rfl) rfl rfl om hz) ?_;refine t6 ?_;refine cN ?_ ?_<;>intro h4
  ·have hzl:z.l=l:=by simpa using h4
   clear h4;have e:qq4 xs l=some z:=lat_hit hz hzl fun j q hj hq=>hs j q om hq;refine t4 ?_;refine qao rfl (by exact qak (j:=_) (er rfl) (er rfl) rfl rfl om hz) ?_;refine t11 ?_;exact qbq (Bs:=[qcv z,Ib true]) results51 eT () (SubL.eq (by rw [e];rfl)) (List.nil_sublist _)
  have hzl:¬ z.l=l:=by simpa using h4
  clear h4;refine t5 ?_;refine qao rfl (qlk (er rfl) (er rfl) rfl) ?_;refine t2 ?_;exact qaa k ⟨om,fun j q hj hq=>by
   by_cases hjk:j=k
   ·subst hjk;rw [hz] at hq;cases hq;exact hzl
   ·exact hs j q om hq⟩ om ⟨⟨_,rfl,SubL.rfl'⟩,⟨_,rfl,SubL.rfl'⟩,⟨_,rfl,SubL.rfl'⟩,⟨_,rfl,SubL.eq (ieq (by rw [qqq om];omega))⟩,trivial⟩ qab
 have h':k=0:=by have:=of_decide_eq_false h2;omega
 subst h';clear h2;have e:qq4 xs l=none:=lat_none fun j q hq=>hs j q (nZ _) hq;refine t13 ?_;exact qbq (Bs:=[qcv Pg.nil,Ib false]) results51 eT () (SubL.eq (by rw [e];rfl)) (List.nil_sublist _)
theorem qv5 (p:Pg):FnP prog 53 [qcv p] (Ib (UV (p.h&&&255#64) != 0)):=by
 refine FnP.enter func53 ntmps53 rfl rfl ?_;intro c hX;refine t3 ?_;intro i1;refine t13 ?_;refine rB results53 rfl ?_;rfl
def qxe (ks:List Pg) (ls:List Int):List Int:=ls.filter fun l=>(qq4 ks l).isNone
theorem zer {ks:List Pg} {ls:List Int} {k:Nat} {l:Int} (h:ls[k]?=some l):qxe ks (ls.take (k+1))=if (qq4 ks l).isNone=true then qxe ks (ls.take k)++[l] else qxe ks (ls.take k):=by
 unfold qxe;rw [List.take_add_one,h,List.filter_append];by_cases g:(qq4 ks l).isNone=true
 ·rw [if_pos g];simp [g]
 ·rw [if_neg g];simp [g]
def bitB (bm:BitVec 32) (s:Nat):Bool:=UV ((bm>>>s)&&&1#32)==1
def ql7 (bm:BitVec 32):Nat->List Int
 | 0=>[]
 | n+1=>if bitB bm n=true then ql7 bm n++[(n:Int)] else ql7 bm n
theorem qso (bm:BitVec 32):∀ n:Nat,(ql7 bm n).length<=n
 | 0=>Nat.le_refl _
 | n+1=>by
  have:=qso bm n;unfold ql7;split
  ·rw [List.length_append,List.length_singleton];omega
  ·omega
def qet (p:Pg):Bool:=UV (p.h&&&255#64) != 0
def qb9 (ks:List Pg) (l:Int):Pg:=(qq4 ks l).getD Pg.nil
def qjt (ks:List Pg) (l:Int):Bool:=(qq4 ks l).isSome
def qb1 (l:Int):Nat:=(qi2 l).toNat
theorem qp4 (l:Int):qb1 l<=9:=by unfold qb1;have:=qp3 l;omega
def pgN (k:Nat):Pg:=⟨96+k,256#64,0#64,0#64,0#64,0#64,0#64,0#64,0#64⟩
def za8:Nat->List Pg
 | 0=>[]
 | n+1=>za8 n++[pgN n]
theorem qkw:∀ n:Nat,(za8 n).length=n
 | 0=>rfl
 | n+1=>by unfold za8;rw [List.length_append,qkw n];rfl
theorem zel (n:Nat):za8 (n+1)=za8 n++[pgN n]:=rfl
@[reducible] def heapC (pv:Value) (lines:Int):List VP:=[Is pv,Ii lines,Ii 0,Is (.slice none 0 0),Ii 1,Ii 0,Is (.int .u32 1)]
theorem New_ok (n:Nat) (hn:n<=200):Fn prog 18 [Ii (96+(n:Int))] [] (fun i:Nat×(Option Addr×Nat)=>Is (.pointer (some ⟨i.1,0,none⟩))) (fun i=>[blk i.1 41 (heapC (slV n i.2) (96+(n:Int))),buf (slV n i.2) 50 tPg (za8 n)]):=by
 refine Fn.enterN func18 ntmps18 rfl rfl ?_;intro c hX;refine t11 ?_;intro i8;refine t5 ?_;refine Z62 ?_;refine t5 ?_;refine qbm (fun z:Nat×(Option Addr×Nat)=>z.1<=n) (fun z=>[(0,Ii (96+(n:Int))),(3,Is (.pointer (some ⟨i8,0,none⟩))),(4,Ii (96+(z.1:Int)))]) (fun z=>[blk i8 41 (heapC (slV (za8 z.1).length z.2) (96+(n:Int))),buf (slV (za8 z.1).length z.2) 50 tPg (za8 z.1)]) (fun z=>n-z.1) (0,(none,0)) (nZ _) qa8 qab ?_;rintro ⟨k,s⟩ hk;dsimp only at hk ⊢;have hkl:=qkw k;refine t8 ?_;refine cN ?_ ?_<;>intro h3
 ·have hlt:k<n:=by have:=of_decide_eq_true h3;omega
  clear h3;refine t12 ?_;refine qao rfl (qb7 (size:=9) (qs:=[(0,_)]) rfl rfl rfl ⟨⟨rfl,_,(er rfl),qa5⟩,trivial⟩ rf rf) ?_;(refine qc6 rfl (qca (er rfl) (fun _=>qaf) (by exact Ev.sub rfl (by exact SubL.row (xs:=[pgN k]) rf rf qih)) (by exact qfz rfl rfl rfl) qcn) ?_;intro i22);refine t11 ?_;rw [<- zel];exact qaa (k+1,i22) (by dsimp only;omega) (by dsimp only;omega) ⟨⟨_,rfl,SubL.rfl'⟩,⟨_,rfl,SubL.rfl'⟩,⟨_,rfl,SubL.eq (ieq om)⟩,trivial⟩ qab
 have hke:k=n:=by have:=of_decide_eq_false h3;omega
 subst hke;clear h3;rw [hkl];refine t12 ?_;exact qbp (Bs:=[Is (.pointer (some ⟨i8,0,none⟩))]) results18 eT (i8,s) SubL.rfl' qab
theorem zdt (n k:Int) (h:1<=k):(n.tmod k+k) % k=n % k:=by
 rw [Int.add_emod_right,Int.tmod_eq_emod];split
 ·show (n % k-0) % k=_;rw [Int.sub_zero,Int.emod_emod_of_dvd _ (Int.dvd_refl k)]
 ·rw [Int.natAbs_of_nonneg om,Int.sub_emod,Int.emod_self];simp
theorem zds (n k:Int) (h:1<=k):(n.tmod k+k).tmod k=n % k:=by
 have h2:=Int.lt_tmod_of_pos n (show 0<k by omega);rw [Int.tmod_eq_emod_of_nonneg om,zdt n k h]
theorem qd0 (n k:Int) (hb:1<=k) (hb2:k<=4611686018427387903):FnP prog 7 [Ii n,Ii k] (Ii (n % k)):=by
 have h1:=Int.tmod_lt_of_pos n (show 0<k by omega);have h2:=Int.lt_tmod_of_pos n (show 0<k by omega);refine FnP.enter func7 ntmps7 rfl rfl ?_;intro c hX;(refine zap ?_);refine t3 ?_
 (repeat with_reducible first|refine zap ?_|refine qqh ?_)
 (skip)
 refine t4 ?_;(refine qqh ?_);refine zgx (er rfl) (fun h=>absurd (of_decide_eq_true h) om) (fun h=>?_)
 (repeat with_reducible first|refine zap ?_|refine qqh ?_|refine zgu ?_)
 refine t10 ?_
 (repeat with_reducible first|refine qqh ?_|refine JC_ret ?_)
 exact qyc results7 rfl () (SubL.eq (by rw [zds n k hb])) (List.nil_sublist _)
theorem qk6 {n:Int} (h:0<=n∧n<18446744073709551616):UV (BitVec.ofInt 64 n)=n:=by
 unfold UV;rw [BitVec.toNat_ofInt];simp;omega
theorem wrr (n:Int):0<=IntKind.u64.wrap n∧IntKind.u64.wrap n<18446744073709551616:=by
 rw [qc2];omega
theorem zak (x:BitVec 32):UV (x.setWidth 64)=UV x:=by
 unfold UV;rw [BitVec.toNat_setWidth];have:=x.isLt
 congr 1
 omega
theorem qsl {r:Re} (h:rwB r=true):qtv (rwV r)=r∧qlj (rwV r)=true:=by
 by_cases hr:r=Re.nil
 ·subst hr;exact qqw (by unfold rwV;rw [if_pos rfl])
 ·have hv:qbt r.to=true:=by rw [qmh hr] at h;exact h
  have e:rwV r=qiu (qcq r.to) (r.ep.setWidth 64):=by unfold rwV;rw [if_neg hr]
  have e1:(rwV r).setWidth 32=qcq r.to:=by rw [e];exact pack_low _ _
  have e2:(rwV r>>>32).setWidth 32=r.ep:=by rw [e,zdy];exact qph _
  have hne:¬ rwV r=0#64:=fun h0=>by
   rw [h0] at e1;exact pack_ne hv e1.symm
  obtain ⟨h1,h2⟩:=qlr hne;rw [h1,h2,e1,e2,qwo hv];exact ⟨rfl,hv⟩
theorem okR_all {n:Nd} (h:okR n 4=true):rwB n.r0=true∧rwB n.r1=true∧rwB n.r2=true∧rwB n.r3=true:=by
 unfold okR at h;simp only [Bool.and_eq_true] at h;simp_all
theorem zf9 {p:Pg} {n:Nd} (e:(qfa p n).2=0):qeo (qfa p n).1=(n,0)∧(qfa p n).1.l=p.l∧(qfa p n).1.h=p.h:=by
 cases hb:qxz p n with
 | true=>rw [qyk hb] at e;exact absurd e de
 | false =>
  cases hk:okR n 4 with
  | false=>rw [qyj hb hk] at e;exact absurd e de
  | true =>
   rw [qyl hb hk];refine ⟨?_,rfl,rfl⟩;obtain ⟨i1,i2,i3⟩:=zad hb;have hl:qwh p.l=true:=by
    unfold qxz at hb;simp only [Bool.or_eq_false_iff,Bool.not_eq_false'] at hb;exact hb.1
   have hpin:n.pin=false->UV n.ep=0:=fun h=>by
    unfold qxz at hb;simp only [Bool.or_eq_false_iff] at hb;have:=hb.2.1;rw [h] at this
    simpa using this
   obtain ⟨k0,k1,k2,k3⟩:=okR_all hk;obtain ⟨a0,b0⟩:=qsl k0;obtain ⟨a1,b1⟩:=qsl k1;obtain ⟨a2,b2⟩:=qsl k2;obtain ⟨a3,b3⟩:=qsl k3;have hep:=zak n.ep;have hepr:0<=UV n.ep∧UV n.ep<4294967296:=by unfold UV;have:=n.ep.isLt;omega
   have d0:UV (pgK p n 4).d0=if n.pin=true then UV n.ep+1 else 0:=by
    show UV (pinW n)=_;unfold pinW;split
    ·unfold UV;rw [BitVec.toNat_add,BitVec.toNat_setWidth];have:=n.ep.isLt;simp;omega
    ·rfl
   have d1:UV (pgK p n 4).d1=UV n.sg:=zak n.sg;have d2:UV (pgK p n 4).d2=n.inc:=qk6 om;have hbad:zf7 (pgK p n 4)=false:=by
    unfold zf7;rw [d0,d1,d2];simp only [Bool.or_eq_false_iff,decide_eq_false_iff_not];refine ⟨⟨?_,om⟩,om⟩;split <;> omega
   have hok:okN (pgK p n 4) 4=true:=by
    unfold okN;show _=_;have c0:qlj (pgK p n 4).d3=true:=b0;have c1:qlj (pgK p n 4).d4=true:=b1;have c2:qlj (pgK p n 4).d5=true:=b2;have c3:qlj (pgK p n 4).d6=true:=b3;simp [c0,c1,c2,c3]
   rw [zdn (show qwh (pgK p n 4).l=true from hl) hbad hok];have f0:pinV (pgK p n 4)=n.pin:=by
    unfold pinV;rw [d0];cases n.pin <;> simp;omega
   have f1:epV (pgK p n 4)=n.ep:=by
    unfold epV;rw [d0];cases hp:n.pin with
    | true =>
     rw [if_pos rfl,if_pos om];show (pinW n-1#64).setWidth 32=n.ep;unfold pinW;rw [if_pos hp,BitVec.add_sub_cancel];exact qph _
    | false =>
     have:=(qo9).1 (hpin hp);simp [this]
   have f2:(pgK p n 4).d1.setWidth 32=n.sg:=qph n.sg;have g0:reK 4 0 (qtv (pgK p n 4).d3)=n.r0:=a0;have g1:reK 4 1 (qtv (pgK p n 4).d4)=n.r1:=a1;have g2:reK 4 2 (qtv (pgK p n 4).d5)=n.r2:=a2;have g3:reK 4 3 (qtv (pgK p n 4).d6)=n.r3:=a3;unfold ndK;rw [f0,f1,f2,d2,g0,g1,g2,g3]
end Go.Proofs.YteafmggidjjdgaaGreatDoor
