/- Walks of functions and plain laws, laid together. Own work. -/
import Derived.Maps.AppendAt
import Derived.IntWalk
import Derived.Deep.OwnRows
import Derived.OwnWalk
import Derived.RangeFuncIn
import Derived.RangeFuncLeaves
import Derived.RangeFuncRecord
import Derived.RangeFuncCalls
import Derived.OrdersIn
import Derived.TacticsIn
import Derived.Test.YteafmggidjjdgaaGreatDoorK2
namespace Go.Proofs.YteafmggidjjdgaaGreatDoor
open Go.RowKit Tryz
set_option linter.unusedVariables false
set_option linter.unusedSimpArgs false
set_option maxRecDepth 100000
set_option maxHeartbeats 4000000
section
variable {P:Program} {c:Ctx} {A:Nat->Option VP} {L:List Item} {d:Option Tmp} {ty:TypeId} {pos:String} {af:Array Edge} {g:Option (Nat×Bool)}
theorem qpw (X:List Nat) (w:World) (o:Obj):Kpt X w (w.alloc o):=⟨rfl,rfl,rfl,by simp,fun k hk _=>Below.heap_alloc w o k hk⟩
theorem qs2 (w:World) (o:Obj):(w.alloc o).heap[w.heap.size]?=some o:=heap_alloc_new w o
theorem qm7 {w w':World} {b i:Nat} (h:w'.heap[b]?=w.heap[b]?):w'.cell? ⟨b,i,none⟩=w.cell? ⟨b,i,none⟩:=World.cell?_of_block h
theorem qvb {φ:Fz} {w:World} {b:Nat} {it:Item} {o:Obj} (hm:HP c φ L w) (hat:it.at_=some w.heap.size) (hok:it.ok φ (some o)):HP ⟨w,φ,[],[]⟩ φ [it] (w.alloc o):=by
 refine ⟨⟨fun b i v e=>?_,fun x hx=>?_,List.pairwise_singleton _ _⟩,qpw _ _ _,fun b hb=>?_,fun _ _ _=>rfl⟩
 ·have h1:=hm.mem.base b i v e;rw [qm7 (Below.heap_alloc w o b (qfp h1))];exact h1
 ·rw [List.mem_singleton] at hx;subst hx;refine ⟨by rw [hat];simp only [Option.bind_some,qs2];exact hok,fun b hb=>?_⟩;rw [hat] at hb;injection hb with hb;subst hb
  refine ⟨by simp,fun i=>?_⟩;cases hφ:φ w.heap.size i with
  | none=>rfl
  | some v=>have:=qfp (hm.mem.base _ _ _ hφ);omega
 ·obtain ⟨x,hx,hxb⟩:=mem_names.1 hb;rw [List.mem_singleton] at hx;subst hx;rw [hat] at hxb;injection hxb with hxb
  exact .inl (by show w.heap.size<=b;omega)
def qen (z:Value):List Value:=z.cells.toList
theorem op_alloc {t:TypeId} {z:Value} (hz:(P.info? t).map (·.zero)=some (some z)) (h1:((qen z).all Value.oneCell')=true):OpN P c ⟨d,.alloc t,ty,pos,af,g⟩ A L (fun b:Nat=>.pointer (some ⟨b,0,none⟩)) (fun b=>blk b t ((qen z).map Is)):=by
 intro φ a w K Q hm he hk;have hrun:(execOp a.eval ⟨d,.alloc t,ty,pos,af,g⟩).run P w = .ok (.value (.pointer (some ⟨w.heap.size,0,none⟩))) (w.alloc (.cells (qen z).toArray t)):=by
  simp only [execOp];refine qcd ?_;simp [Instr.alloc,qi8 hz,newVar,newRow,qen]
 unfold Oper.wp;rw [hrun];exact hk w.heap.size φ _ (qvb (b:=0) hm rfl ⟨qen z,rfl,qil _,qgh h1⟩)
theorem op_box {t:TypeId} {x:Operand} {D:VP} {Bs:List VP} (hx:Ev A L x D) (hD:qde D Bs):OpN P c ⟨d,.box t x,ty,pos,af,g⟩ A L (fun b:Nat=>.pointer (some ⟨b,0,none⟩)) (fun b=>blk b t Bs):=by
 intro φ a w K Q hm he hk;obtain ⟨vs,h1,h2,h3⟩:=hD φ _ (he x (by simp [Op.operands]) _ hx);have hrun:(execOp a.eval ⟨d,.box t x,ty,pos,af,g⟩).run P w = .ok (.value (.pointer (some ⟨w.heap.size,0,none⟩))) (w.alloc (.cells vs.toArray t)):=by
  simp only [execOp];refine qcd ?_;simp [Instr.box,newVar,newRow,h1]
 unfold Oper.wp;rw [hrun];exact hk w.heap.size φ _ (qvb (b:=0) hm rfl ⟨vs,rfl,h2,h3⟩)
theorem qir (X:List Nat) (w:World) (b:Nat) (cs:Array Value) (hb:b∈X):Kpt X w (w.setRow b cs):=⟨rfl,rfl,rfl,by simp [World.setRow],fun k _ hk=>setRow_other w b k cs (fun e=>hk (by rw [e];exact hb))⟩
theorem qpp:∀ (Bs As:List VP) (o:Nat),o+Bs.length<=As.length->ovr As o Bs=As.take o++Bs++As.drop (o+Bs.length)
 | [],As,o,_=>by simp [ovr]
 | B::Bs,As,o,h=>by
  simp only [List.length_cons] at h;rw [ovr,qpp Bs (As.set o B) (o+1) (by simp;omega)];have h1:(As.set o B).take (o+1)=As.take o++[B]:=by
   rw [List.take_succ_eq_append_getElem (by simp;omega),List.take_set,List.set_eq_of_length_le (by simp;omega)];simp
  have h2:(As.set o B).drop (o+1+Bs.length)=As.drop (o+1+Bs.length):=by
   rw [List.drop_set];simp;omega
  rw [h1,h2];simp only [List.append_assoc,List.singleton_append,List.length_cons]
  congr 3;omega
theorem qat {t t0:TypeId} {x y:Operand} {b o n:Nat} {D:VP} {As Bs:List VP} {L':List Item} (hx:Ev A L x (Is (.pointer (some ⟨b,o,none⟩)))) (hy:Ev A L y D) (hD:qde D Bs) (hr:Repl L (blk b t0 As) (blk b t0 (ovr As o Bs)) L')
  (hn:(P.info? t).map (·.size)=some n) (hB:Nat.beq Bs.length n=true) (hl:Nat.ble (o+n) As.length=true):OpS P c ⟨d,.store t x y,ty,pos,af,g⟩ A L (fun _:Unit=>Is undef) (fun _=>L'):=by
 intro φ a w K Q hm he hk;have h1:a.eval x = .pointer (some ⟨b,o,none⟩):=he x (by simp [Op.operands]) _ hx;obtain ⟨us,h2,h3,h4⟩:=hD φ _ (he y (by simp [Op.operands]) _ hy);obtain ⟨vs,h5,h6,h7⟩:=qj2 hm hr.mem;have e1:=Nat.eq_of_beq_eq_true hB;have e2:=Nat.le_of_ble_eq_true hl;have e3:=h3.len;have e4:=h6.len;have hst:=run_storeCells_at (P:=P) b o t0 us 0 vs.toArray w h5 (by simp;omega) h4;have hrun:(execOp a.eval ⟨d,.store t x y,ty,pos,af,g⟩).run P w = .ok .skip (w.setRow b (vs.take o++us++vs.drop (o+us.length)).toArray):=by
  simp only [execOp,h1,Instr.storeAt,Instr.sureAddr,Sem.run_bind,Sem.run_pure,Result.andThen_ok,storeVar,qbd hn,h2];rw [if_neg (by simp;omega)];simp only [Nat.add_zero] at hst;rw [hst];rfl
 unfold Oper.wp;rw [hrun];refine hk () φ undef _ Fle.rfl' rfl (hm.upd hr (qir _ _ _ _ (by simp [qbr,blk])) ?_ (fun b' hb'=>.inr hb'));refine ⟨⟨vs.take o++us++vs.drop (o+us.length),?_,?_,?_⟩,fun b' hb'=>?_⟩
 ·simp only [blk,Option.bind_some];exact setRow_heap w b _ _ _ _ h5
 ·rw [qpp Bs As o om,e3];exact ((h6.take o).append h3).append (h6.drop _)
 ·intro u hu;simp only [List.mem_append] at hu;rcases hu with (hu|hu)|hu
  ·exact h7 u (List.mem_of_mem_take hu)
  ·exact h4 u hu
  ·exact h7 u (List.mem_of_mem_drop hu)
 ·have:=(hm.mem.items _ hr.mem).2 b' hb';exact ⟨by simp [World.setRow];exact this.1,this.2⟩
def ArgsE (A:Nat->Option VP) (L:List Item):List Operand->List VP->Prop
 | [],[]=>True
 | x::xs,B::Bs=>Ev A L x B∧ArgsE A L xs Bs
 | _,_=>False
theorem ArgsE.alls {φ:Fz} {a:Act}:∀ {xs:List Operand} {Bs:List VP},ArgsE A L xs Bs->(∀ x,x∈xs->∀ B,Ev A L x B->B.ok φ (a.eval x))->Alls φ Bs (xs.map a.eval)
 | [],[],_,_=>trivial
 | x::xs,B::Bs,⟨h1,h2⟩,h=>⟨h x (List.mem_cons_self ..) B h1,h2.alls fun y hy=>h y (List.mem_cons_of_mem _ hy)⟩
 | [],_::_,h,_=>h.elim
 | _::_,[],h,_=>h.elim
theorem qeu {f:FuncId} {xs:List Operand} {ts:Array TypeId} {a:Act} {w:World} (hc:∀ (args:Array Value) (w:World),(callFunc f args).run P w = .ok (.enter f args) w) :
  (execOp a.eval ⟨d,.call { callee:=.value (.func f),args:=xs.toArray,argTypes:=ts },ty,pos,af,g⟩).run P w = .ok (.enter f (xs.map a.eval).toArray) w:=by
 have h0:a.eval (.func f) = .func (.func f) #[] #[]:=rfl;simp only [execOp,resolve,h0,Deferred.ofValue,Sem.run_bind,Sem.run_pure,Result.andThen_ok,invoke,hc];simp
theorem op_callS {f:FuncId} {xs:List Operand} {ts:Array TypeId} {As:List VP} {Lf M:List Item} {ι:Type} {R:ι->VP} {L':ι->List Item} (hc:∀ (args:Array Value) (w:World),(callFunc f args).run P w = .ok (.enter f args) w)
  (hF:Fn P f As Lf R L') (hL:L=Lf++M) (ha:ArgsE A L xs As):OpS P c ⟨d,.call { callee:=.value (.func f),args:=xs.toArray,argTypes:=ts },ty,pos,af,g⟩ A L R (fun i=>L' i++M):=by
 subst hL;intro φ a w K Q hm he hk;have hv:=ha.alls (φ:=φ) (a:=a) fun x hx=>he x (by simp [Op.operands,Call.operands,hx]);unfold Oper.wp;rw [qeu hc];refine (hF φ w _ hv hm.mem.left).mono ?_;rintro e w' ⟨i,v,φ',rfl,h1,h2⟩;exact hk i φ' v w' (h2.fle hm.mem.base) h1 (hm.call h2)
theorem qac {f:FuncId} {xs:List Operand} {ts:Array TypeId} {As:List VP} {R:VP} (hc:∀ (args:Array Value) (w:World),(callFunc f args).run P w = .ok (.enter f args) w)
  (hF:FnP P f As R) (ha:ArgsE A L xs As):OpP P c ⟨d,.call { callee:=.value (.func f),args:=xs.toArray,argTypes:=ts },ty,pos,af,g⟩ A L R:=by
 intro φ a w K Q hm he hk;have hv:=ha.alls (φ:=φ) (a:=a) fun x hx=>he x (by simp [Op.operands,Call.operands,hx]);unfold Oper.wp;rw [qeu hc];refine (hF φ w _ hv ⟨hm.mem.base,by simp,List.Pairwise.nil⟩).mono ?_;rintro e w' ⟨i,v,φ',rfl,h1,h2⟩;exact hk φ' v w' (by simpa [qbr] using h2) h1
theorem qsp {f:FuncId} {xs:List Operand} {ts:Array TypeId} {As:List VP} {ι:Type} {R:ι->VP} {L':ι->List Item} (hc:∀ (args:Array Value) (w:World),(callFunc f args).run P w = .ok (.enter f args) w)
  (hF:Fn P f As [] R L') (ha:ArgsE A L xs As):OpS P c ⟨d,.call { callee:=.value (.func f),args:=xs.toArray,argTypes:=ts },ty,pos,af,g⟩ A L R (fun i=>L' i++L):=op_callS hc hF rfl ha
section
variable {α:Type} {T:Ty α}
def Owns (o:Option Obj) (e:TypeId) (size:Nat) (v:Value) (n:Nat) (flat:List Value):Prop:=
 (v = .slice none 0 0∧n=0)∨∃ g cap cur,v = .slice (some ⟨g,0,none⟩) n cap∧o=some (.cells cur e (0,0))∧n<=cap∧cap<=maxLen∧cur.size=cap*size∧cur.toList.take (n*size)=flat
def buf (v:Value) (e:TypeId) (T:Ty α) (xs:List α):Item:=⟨v.ownBlock,fun φ o=>∃ flat:List Value,flat.length=xs.length*T.size∧Alls φ (xs.flatMap T.cells) flat∧ones flat∧Owns o e T.size v xs.length flat,fun h ⟨flat,h0,h1,h2,h3⟩=>⟨flat,h0,h1.mono h,h2,h3⟩⟩
theorem qha {φ:Fz} {w:World} {v:Value} {e:TypeId} {xs:List α} (h:(buf v e T xs).here φ w):∃ flat:List Value,Alls φ (xs.flatMap T.cells) flat∧ones flat∧w.ownsRow 0 e T.size v xs.length flat:=by
 obtain ⟨⟨flat,h0,h1,h2,h3⟩,_⟩:=h;refine ⟨flat,h1,h2,h0,?_⟩;rcases h3 with h3|⟨g,cap,cur,rfl,e1,e2,e3,e4,e5⟩
 ·exact .inl h3
 ·refine .inr ⟨g,cap,cur,rfl,nZ _,?_,e2,e3,e4,e5⟩
  simpa [buf,Value.ownBlock] using e1
theorem owns_buf {φ:Fz} {w:World} {v:Value} {e:TypeId} {xs:List α} {flat:List Value} (h1:Alls φ (xs.flatMap T.cells) flat) (h2:ones flat) (h:w.ownsRow 0 e T.size v xs.length flat):(buf v e T xs).ok φ ((buf v e T xs).at_.bind fun b=>w.heap[b]?):=by
 refine ⟨flat,h.1,h1,h2,?_⟩;rcases h.2 with h3|⟨g,cap,cur,rfl,_,e1,e2,e3,e4,e5⟩
 ·exact .inl h3
 ·exact .inr ⟨g,cap,cur,rfl,by simpa [buf,Value.ownBlock] using e1,e2,e3,e4,e5⟩
theorem zc9 {φ:Fz} {w:World} {a:Option Addr} {n cp:Nat} {xs:List α} (hm:∀ b i v,φ b i=some v->w.cell? ⟨b,i,none⟩=some v) (h:SlAt T φ a n cp xs):∃ flat:List Value,flat.length=xs.length*T.size∧Alls φ (xs.flatMap T.cells) flat∧ones flat ∧
  (n≠0->∃ b o,a=some ⟨b,o,none⟩∧∀ j u,flat[j]?=some u->φ b (o+j)=some u):=by
 obtain ⟨h1,h2,h3,h4⟩:=h;rcases h4 with h4|⟨b,o,rfl,h4⟩
 ·have:xs=[]:=List.eq_nil_of_length_eq_zero om;subst this;exact ⟨[],by simp,trivial,qg6,fun h=>absurd h4 h⟩
 ·have key:∀ (ys:List α) (o':Nat),(∀ k x,ys[k]?=some x->RefAt φ b (o'+k*T.size) (T.cells x))->∃ flat:List Value,flat.length=ys.length*T.size∧Alls φ (ys.flatMap T.cells) flat∧ones flat∧∀ j u,flat[j]?=some u->φ b (o'+j)=some u:=by
   intro ys;induction ys with
   | nil=>intro o' _;exact ⟨[],by simp,trivial,qg6,fun j u h=>by simp at h⟩
   | cons y ys ih =>
    intro o' hy;obtain ⟨vs,e1,e2,e3,e4⟩:=qis (hy 0 y rfl);obtain ⟨fl,f0,f1,f2,f3⟩:=ih (o'+T.size) fun k x hx=>by
     have:=hy (k+1) x (by simpa using hx);rw [show o'+T.size+k*T.size=o'+(k+1)*T.size by rw [Nat.add_mul];omega];exact this
    have hvl:vs.length=T.size:=by rw [e2,T.len]
    refine ⟨vs++fl,?_,by rw [List.flatMap_cons];exact e1.append f1,fun u hu=>?_,fun j u hj=>?_⟩
    ·rw [List.length_append,hvl,f0,List.length_cons,Nat.add_mul];omega
    ·rcases List.mem_append.1 hu with hu|hu
     ·exact e3 u hu
     ·exact f2 u hu
    ·rcases Nat.lt_or_ge j vs.length with hlt|hge
     ·rw [List.getElem?_append_left hlt] at hj;have:=e4 j u hj;rw [Nat.zero_mul,Nat.add_zero] at this;exact this
     ·rw [List.getElem?_append_right hge,hvl] at hj;have:=f3 _ u hj;rw [show o'+T.size+(j-T.size)=o'+j by omega] at this;exact this
  obtain ⟨flat,e0,e1,e2,e3⟩:=key xs o h4;exact ⟨flat,e0,e1,e2,fun _=>⟨b,o,rfl,e3⟩⟩
theorem zax {φ:Fz} {w:World} {t rt e:TypeId} {z:Value} {bytes:Nat} {v xv:Value} {xs ys:List α} {flat:List Value} (ht:P.underlying t=some (.slice e)) (hinfo:(P.info? e).map (fun i=>(i.zero,i.size,i.bytes))=some (some z,T.size,bytes)) (hzs:z.cells.size=T.size) (hsz:0<T.size)
  (hm:∀ b i v,φ b i=some v->w.cell? ⟨b,i,none⟩=some v) (ho:w.ownsRow 0 e T.size v xs.length flat) (hf:Alls φ (xs.flatMap T.cells) flat) (hf1:ones flat) (hx:(qad T ys).ok φ xv) (hlen:xs.length+ys.length<=1073741824) (hby:(xs.length+ys.length)*bytes<=140737488355328) :
  ∃ (i:Option Addr×Nat) (w':World) (flat':List Value),(Builtin.append_ #[t,t] rt #[v,xv]).run P w = .ok (.slice i.1 (xs++ys).length i.2) w'∧Alls φ ((xs++ys).flatMap T.cells) flat'∧ones flat'∧w'.ownsRow 0 e T.size (.slice i.1 (xs++ys).length i.2) (xs++ys).length flat' ∧
   w.grownBy w' v.ownBlock∧((Value.slice i.1 (xs++ys).length i.2).ownBlock=v.ownBlock∨(Value.slice i.1 (xs++ys).length i.2).ownBlock=some w.heap.size):=by
 obtain ⟨i,hi,hzz⟩:=Option.map_eq_some_iff.1 hinfo;simp only [Prod.mk.injEq] at hzz;obtain ⟨hz,hs,hb⟩:=hzz;obtain ⟨ad,m,cp,rfl,h2⟩:=hx;have hml:xs.length+ys.length<=maxLen:=by unfold maxLen;omega
 have hmy:m=ys.length:=h2.1;obtain ⟨news,n0,n1,n2,n3⟩:=zc9 hm h2;have form:∀ (v':Value) (w':World),w'.ownsRow 0 e T.size v' (xs.length+ys.length) (flat++news)->∃ i:Option Addr×Nat,v' = .slice i.1 (xs++ys).length i.2:=fun v' w' ho'=>by
  rcases ho'.2 with ⟨rfl,h0⟩|⟨g,cap,cur,rfl,_⟩
  ·exact ⟨(none,0),by simp [h0]⟩
  ·exact ⟨(some ⟨g,0,none⟩,cap),by simp⟩
 have hal:Alls φ ((xs++ys).flatMap T.cells) (flat++news):=by rw [List.flatMap_append];exact hf.append n1
 have hone:ones (flat++news):=fun u hu=>by
  rcases List.mem_append.1 hu with hu|hu
  ·exact hf1 u hu
  ·exact n2 u hu
 have fin:∀ (v':Value) (w':World),(Builtin.append_ #[t,t] rt #[v,.slice ad m cp]).run P w = .ok v' w'->w'.ownsRow 0 e T.size v' (xs.length+ys.length) (flat++news)->w.grownBy w' v.ownBlock->(v'.ownBlock=v.ownBlock∨v'.ownBlock=some w.heap.size) ->
   ∃ (i:Option Addr×Nat) (w':World) (flat':List Value),(Builtin.append_ #[t,t] rt #[v,.slice ad m cp]).run P w = .ok (.slice i.1 (xs++ys).length i.2) w'∧Alls φ ((xs++ys).flatMap T.cells) flat'∧ones flat'∧w'.ownsRow 0 e T.size (.slice i.1 (xs++ys).length i.2) (xs++ys).length flat' ∧
   w.grownBy w' v.ownBlock∧((Value.slice i.1 (xs++ys).length i.2).ownBlock=v.ownBlock∨(Value.slice i.1 (xs++ys).length i.2).ownBlock=some w.heap.size):=fun v' w' r1 r2 r3 r4=>by
  obtain ⟨j,rfl⟩:=form v' w' r2;exact ⟨j,w',flat++news,r1,hal,hone,by rw [List.length_append] at r1 r2 ⊢;exact r2,r3,r4⟩
 by_cases h0:m=0
 ·have hys:ys=[]:=List.eq_nil_of_length_eq_zero om;subst hys;have hn:news=[]:=List.eq_nil_of_length_eq_zero (by rw [n0];simp);subst hn h0;cases ad with
  | none =>
   refine fin v w ?_ (by simpa using ho) (World.grownBy.refl w _) (.inl rfl);rcases ho.2 with ⟨rfl,h3⟩|⟨g,cap,cur,rfl,_,_,hnc,_⟩
   ·simp [Builtin.append_,run_underlying ht,sizeOf,typeInfo,hi,Builtin.lenOf,Builtin.firstCells]
   ·simp [Builtin.append_,run_underlying ht,sizeOf,typeInfo,hi,Builtin.lenOf,Builtin.firstCells,hnc,storeCells]
  | some a =>
   obtain ⟨v',w',r1,r2,r3,_,r4⟩:=run_append_own_at (P:=P) w 0 t rt e i z T.size bytes ht hi hz hs hb hzs hsz v xs.length flat ho a 0 cp [] (by simp) (by simp) (by simp) (by simpa using hml) (by simpa using hby) (nZ _);exact fin v' w' r1 (by simpa using r2) r3 r4
 ·obtain ⟨b,o,rfl,n4⟩:=n3 h0;subst hmy;obtain ⟨v',w',r1,r2,r3,_,r4⟩:=run_append_own_at (P:=P) w 0 t rt e i z T.size bytes ht hi hz hs hb hzs hsz v xs.length flat ho ⟨b,o,none⟩ ys.length cp news n0
   (fun j u hu=>by rw [qcl];exact hm _ _ _ (n4 j u hu)) n2 hml hby (nZ _)
  exact fin v' w' r1 r2 r3 r4
end
section
variable {α:Type} {T:Ty α} {xs ys:List α}
theorem zfc {w w':World} {row:Option Nat} {it:Item} (h:w.grownBy w' row) (hr:it.at_=row):Kpt (qbr [it]) w w':=⟨h.os,h.tape,h.output,h.size,fun k hk hn=>h.block k hk fun e=>hn (mem_names.2 ⟨it,List.mem_singleton.2 rfl,by rw [hr,<- e]⟩)⟩
theorem qvc {φ:Fz} {w w':World} {v v':Value} {e:TypeId} {zs:List α} {flat:List Value} (hm:HP c φ (buf v e T xs::L) w) (h1:Alls φ (zs.flatMap T.cells) flat) (h2:ones flat) (h3:w'.ownsRow 0 e T.size v' zs.length flat) (hg:w.grownBy w' v.ownBlock)
  (hb:v'.ownBlock=v.ownBlock∨v'.ownBlock=some w.heap.size):HP ⟨w,φ,qbr [buf v e T xs],[]⟩ φ [buf v' e T zs] w':=by
 have hk:Kpt (qbr [buf v e T xs]) w w':=zfc hg rfl;have hit:=hm.mem.items _ (List.mem_cons_self ..);have hnm:∀ b,b∈qbr [buf v e T xs]->v.ownBlock=some b:=fun b hb=>by
  obtain ⟨x,hx,hxb⟩:=mem_names.1 hb;rw [List.mem_singleton] at hx;subst hx;exact hxb
 have hnew:∀ b,v'.ownBlock=some b->(w.heap.size<=b∨b∈qbr [buf v e T xs])∧∀ i,φ b i=none:=fun b hb'=>by
  rcases hb with hb|hb
  ·rw [hb'] at hb;exact ⟨.inr (mem_names.2 ⟨_,List.mem_singleton.2 rfl,hb.symm⟩),(hit.2 b hb.symm).2⟩
  ·rw [hb'] at hb;injection hb with hb;subst hb
   refine ⟨.inl (Nat.le_refl _),fun i=>?_⟩;cases hφ:φ w.heap.size i with
   | none=>rfl
   | some u=>have:=qfp (hm.mem.base _ _ _ hφ);omega
 refine ⟨⟨fun b i u e=>?_,fun x hx=>?_,List.pairwise_singleton _ _⟩,hk,fun b hb'=>?_,fun _ _ _=>rfl⟩
 ·have h4:=hm.mem.base b i u e;rw [qm7 (hk.block b (qfp h4) fun hn=>by rw [(hit.2 b (hnm b hn)).2 i] at e;cases e)];exact h4
 ·rw [List.mem_singleton] at hx;subst hx;refine ⟨owns_buf h1 h2 h3,fun b hb'=>⟨?_,(hnew b hb').2⟩⟩;rcases h3.2 with ⟨rfl,_⟩|⟨gg,cap,cur,rfl,_,e1,_⟩
  ·cases hb'
  ·have:gg=b:=by simpa [buf,Value.ownBlock] using hb'
   subst this;exact (Array.getElem?_eq_some_iff.1 e1).1
 ·obtain ⟨x,hx,hxb⟩:=mem_names.1 hb';rw [List.mem_singleton] at hx;subst hx;exact (hnew b hxb).1
structure AppT (P:Program) (t e:TypeId) (size:Nat):Prop where
 ht:P.underlying t=some (.slice e)
 hi:∃ (z:Value) (bytes:Nat),(P.info? e).map (fun i=>(i.zero,i.size,i.bytes))=some (some z,size,bytes)∧z.cells.size=size∧bytes<=100000
 hs:0<size
theorem qfz {t e:TypeId} {size bytes:Nat} {z:Value} (ht:P.underlying t=some (.slice e)) (hi:(P.info? e).map (fun i=>(i.zero,i.size,i.bytes))=some (some z,size,bytes)) (h:(Nat.beq z.cells.size size&&Nat.ble bytes 100000&&Nat.blt 0 size)=true):AppT P t e size:=by
 simp only [Bool.and_eq_true] at h;exact ⟨ht,⟨z,bytes,hi,Nat.eq_of_beq_eq_true h.1.1,Nat.le_of_ble_eq_true h.1.2⟩,Nat.le_of_ble_eq_true h.2⟩
theorem qow {φ:Fz} {w:World} {x y:Operand} {a:Act} {t e:TypeId} {v:Value} {flat:List Value} (hT:AppT P t e T.size) (hm:∀ b i v,φ b i=some v->w.cell? ⟨b,i,none⟩=some v) (hx:a.eval x=v) (ho:w.ownsRow 0 e T.size v xs.length flat) (hf:Alls φ (xs.flatMap T.cells) flat) (hf1:ones flat) (hy:(qad T ys).ok φ (a.eval y)) (hlen:xs.length+ys.length<=1048576) :
  ∃ (i:Option Addr×Nat) (w':World) (flat':List Value),(execOp a.eval ⟨d,.call { callee:=.builtin .append,args:=#[x,y],argTypes:=#[t,t] },ty,pos,af,g⟩).run P w = .ok (.value (.slice i.1 (xs++ys).length i.2)) w'∧Alls φ ((xs++ys).flatMap T.cells) flat'∧ones flat'∧w'.ownsRow 0 e T.size (.slice i.1 (xs++ys).length i.2) (xs++ys).length flat' ∧
   w.grownBy w' v.ownBlock∧((Value.slice i.1 (xs++ys).length i.2).ownBlock=v.ownBlock∨(Value.slice i.1 (xs++ys).length i.2).ownBlock=some w.heap.size):=by
 obtain ⟨z,bytes,h1,h2,h3⟩:=hT.hi;obtain ⟨i,w',flat',r,r2⟩:=zax (rt:=ty) hT.ht h1 h2 hT.hs hm ho hf hf1 hy om (by
  have:=Nat.mul_le_mul hlen h3;omega)
 refine ⟨i,w',flat',?_,r2⟩;have h4:(#[x,y].map a.eval)=#[v,a.eval y]:=by simp [hx]
 simp only [execOp,resolve,h4,Sem.run_bind,Sem.run_pure,Result.andThen_ok,invoke,builtin,r]
def slV (n:Nat) (i:Option Addr×Nat):Value:=.slice i.1 n i.2
theorem zed {x y:Operand} {t e:TypeId} (hx:Ev A L x (Is (.slice none 0 0))) (hy:Ev A L y (qad T ys)) (hT:AppT P t e T.size) (hlen:ys.length<=1048576) :
  OpN P c ⟨d,.call { callee:=.builtin .append,args:=#[x,y],argTypes:=#[t,t] },ty,pos,af,g⟩ A L (slV ys.length) (fun i=>buf (slV ys.length i) e T ys):=by
 intro φ a w K Q hm he hk;have h1:a.eval x = .slice none 0 0:=he x (by simp [Op.operands,Call.operands]) _ hx;have h2:(qad T ys).ok φ (a.eval y):=he y (by simp [Op.operands,Call.operands]) _ hy;have ho:w.ownsRow 0 e T.size (.slice none 0 0) ([]:List α).length []:=⟨by simp,.inl ⟨rfl,rfl⟩⟩
 obtain ⟨i,w',flat',r1,r2,r3,r4,r5,r6⟩:=qow (d:=d) (ty:=ty) (pos:=pos) (af:=af) (g:=g) (xs:=[]) hT hm.mem.base h1 ho trivial qg6 h2 (by simpa using hlen);unfold Oper.wp;rw [r1];have hm0:HP c φ (buf (.slice none 0 0) e T ([]:List α)::L) w:=⟨⟨hm.mem.base,fun it hi=>by
  rcases List.mem_cons.1 hi with rfl|hi
  ·exact ⟨⟨[],by simp,trivial,qg6,.inl ⟨rfl,rfl⟩⟩,fun b (hb:none=some b)=>(nomatch hb)⟩
  ·exact hm.mem.items it hi,List.pairwise_cons.2 ⟨fun y _ b (hb:none=some b)=>(nomatch hb),hm.mem.sep⟩⟩,hm.kept,hm.mine,hm.old⟩
 rw [List.nil_append] at r2 r4 r6 ⊢;have h5:=qvc hm0 r2 r3 r4 r5 r6;have hn:qbr [buf (.slice none 0 0) e T ([]:List α)]=[]:=rfl;rw [hn] at h5;exact hk i φ w' h5
theorem qca {x y:Operand} {t e:TypeId} {v:Value} {L':Option Addr×Nat->List Item} (hx:Ev A L x (Is v)) (hr:∀ i,Repl L (buf v e T xs) (buf (slV (xs++ys).length i) e T (xs++ys)) (L' i)) (hy:Ev A L y (qad T ys)) (hT:AppT P t e T.size) (hlen:xs.length+ys.length<=1048576) :
  OpS P c ⟨d,.call { callee:=.builtin .append,args:=#[x,y],argTypes:=#[t,t] },ty,pos,af,g⟩ A L (fun i=>Is (slV (xs++ys).length i)) L':=by
 intro φ a w K Q hm he hk;have h1:a.eval x=v:=he x (by simp [Op.operands,Call.operands]) _ hx;have h2:(qad T ys).ok φ (a.eval y):=he y (by simp [Op.operands,Call.operands]) _ hy;have hit:=hm.mem.items _ (hr (none,0)).mem;obtain ⟨flat,f1,f2,f3⟩:=qha hit;obtain ⟨i,w',flat',r1,r2,r3,r4,r5,r6⟩:=qow (d:=d) (ty:=ty) (pos:=pos) (af:=af) (g:=g) hT hm.mem.base h1 f3 f1 f2 h2 hlen;unfold Oper.wp;rw [r1];have hm1:HP ⟨w,φ,qbr [buf v e T xs],[]⟩ φ [buf v e T xs] w:=HP.start ⟨hm.mem.base,fun it hi=>by rw [List.mem_singleton] at hi;subst hi;exact hit,List.pairwise_singleton _ _⟩;have h5:=qvc (L:=[]) hm1 r2 r3 r4 r5 r6;refine hk i φ _ w' Fle.rfl' rfl (hm.upd (hr i) h5.kept (h5.mem.items _ (List.mem_singleton.2 rfl)) fun b hb=>?_);rcases r6 with r6|r6
 ·exact .inr (by rw [<- hb];exact r6.symm)
 ·have hb':(Value.slice i.1 (xs++ys).length i.2).ownBlock=some b:=hb;rw [r6] at hb';injection hb' with hb';exact .inl om
theorem qny {φ:Fz} {flat:List Value}:∀ {xs:List α} {flat:List Value},Alls φ (xs.flatMap T.cells) flat->∀ {k:Nat} {x:α} {j:Nat} {B:VP},xs[k]?=some x->(T.cells x)[j]?=some B->∃ u,flat[k*T.size+j]?=some u∧B.ok φ u
 | [],_,_,k,x,j,B,h,_=>by simp at h
 | y::ys,flat,hf,k,x,j,B,h,hB=>by
  rw [List.flatMap_cons] at hf;have hl:(T.cells y).length=T.size:=T.len y;cases k with
  | zero =>
   simp only [List.getElem?_cons_zero,Option.some.injEq] at h;subst h;obtain ⟨u,h1,h2⟩:=hf.get (j:=j) (A:=B) (by rw [List.getElem?_append_left (List.getElem?_eq_some_iff.1 hB).1];exact hB);exact ⟨u,by simpa using h1,h2⟩
  | succ k =>
   have hd:=hf.drop (T.cells y).length;rw [List.drop_left,hl] at hd;obtain ⟨u,h1,h2⟩:=qny (flat:=flat) hd (k:=k) (x:=x) (by simpa using h) hB;refine ⟨u,?_,h2⟩;rw [List.getElem?_drop] at h1;rw [show (k+1)*T.size+j=T.size+(k*T.size+j) by rw [Nat.add_mul];omega];exact h1
theorem HP.freeze {φ:Fz} {w:World} {v:Value} {e:TypeId} {L':List Item} {p0:Prop} (hX:c.X=[]∧p0) (hm:HP c φ L w) (hr:Repl L (buf v e T xs) (fact v (qad T xs)) L'):∃ φ',Fle φ φ'∧HP c φ' L' w:=by
 have hit:=hm.mem.items _ hr.mem;obtain ⟨flat,f1,f2,f3⟩:=qha hit;rcases f3.2 with ⟨rfl,h0⟩|⟨gg,cap,cur,rfl,_,e1,e2,e3,e4,e5⟩
 ·have hxs:xs=[]:=List.eq_nil_of_length_eq_zero h0;subst hxs;refine ⟨φ,Fle.rfl',hm.upd hr (Kpt.refl _ _) ⟨?_,fun b (hb:none=some b)=>(nomatch hb)⟩ fun b (hb:none=some b)=>(nomatch hb)⟩;exact ⟨none,0,0,rfl,rfl,Nat.le_refl _,nZ _,.inl rfl⟩
 ·have hown:∀ i,φ gg i=none:=fun i=>(hit.2 gg rfl).2 i
  let φ':Fz:=fun b i=>if b=gg then flat[i]? else φ b i
  have hsame:∀ i,φ' gg i=flat[i]?:=fun i=>if_pos rfl;have hoth:∀ b i,b≠gg->φ' b i=φ b i:=fun b i h=>if_neg h;have hle:Fle φ φ':=fun b i u hu=>by
   rw [hoth b i (fun e=>by subst e;rw [hown i] at hu;cases hu)];exact hu
  have hg0:c.w.heap.size<=gg:=(hm.mine gg (mem_names.2 ⟨_,hr.mem,rfl⟩)).resolve_right (by rw [hX.1];simp);have hfl:flat.length=xs.length*T.size:=f3.1;refine ⟨φ',hle,⟨⟨fun b i u hu=>?_,fun x hx=>?_,hr.sep hm.mem.sep fun x hx _ _=>⟨fun b _ (hb:none=some b)=>(nomatch hb),fun b (hb:none=some b)=>(nomatch hb)⟩⟩,hm.kept,fun b hb=>?_,fun b i hb=>?_⟩⟩
  ·by_cases hbg:b=gg
   ·subst hbg;rw [hsame] at hu;rw [cell_of_row w b i cur e _ e1];rw [<- e5] at hu;have hi:i<xs.length*T.size:=by
     have:=(List.getElem?_eq_some_iff.1 hu).1;rw [List.length_take] at this;omega
    rw [List.getElem?_take_of_lt hi,Array.getElem?_toList] at hu;exact hu
   ·rw [hoth b i hbg] at hu;exact hm.mem.base b i u hu
  ·rcases hr.mem' hx with rfl|⟨hx',hap⟩
   ·refine ⟨⟨_,_,_,rfl,rfl,e2,e3,.inr ⟨gg,0,rfl,fun k x hk j B hB=>?_⟩⟩,fun b (hb:none=some b)=>(nomatch hb)⟩;obtain ⟨u,h1,h2⟩:=qny (flat:=flat) f1 hk hB;refine ⟨u,?_,B.mono hle h2,f2 u (List.mem_of_getElem? h1)⟩;rw [hsame,Nat.zero_add];exact h1
   ·obtain ⟨h1,h2⟩:=hm.mem.items x hx';refine ⟨x.mono hle h1,fun b hb=>⟨(h2 b hb).1,fun i=>?_⟩⟩;rw [hoth b i (fun e=>(hap hm.mem.sep).1 b hb (by rw [e];rfl))]
    exact (h2 b hb).2 i
  ·obtain ⟨x,hx,hxb⟩:=mem_names.1 hb;rcases hr.mem' hx with rfl|⟨hx',_⟩
   ·cases hxb
   ·exact hm.mine b (mem_names.2 ⟨x,hx',hxb⟩)
  ·rw [hoth b i om];exact hm.old b i hb
variable {Q:Exit->Act->World->Prop} {N:Nat} {ops:Array Oper} {rest:List Oper} {E:Env}
theorem qa7 {x:Code} {v:Value} {e:TypeId} {L':List Item} {p0:Prop} (hX:c.X=[]∧p0) (hr:Repl L (buf v e T xs) (fact v (qad T xs)) L') (h:JC P c N x E L' Q):JC P c N x E L Q:=fun φ a w st =>
 let ⟨φ',h1,h2⟩:=st.mem.freeze hX hr
 h φ' a w ⟨st.defers,st.size,fun t B hB=>B.mono h1 (st.env t B hB),h2⟩
theorem qi3 {ex:Exit} {v:Value} {e:TypeId} {L':List Item} {p0:Prop} (hX:c.X=[]∧p0) (hr:Repl L (buf v e T xs) (fact v (qad T xs)) L') (h:JQ c N E L' Q ex):JQ c N E L Q ex:=fun φ a w st =>
 let ⟨φ',h1,h2⟩:=st.mem.freeze hX hr
 h φ' a w ⟨st.defers,st.size,fun t B hB=>B.mono h1 (st.env t B hB),h2⟩
end
def qem (n size:Nat) (As:List VP):VP:=⟨fun φ v=>∃ b,v = .slice (some ⟨b,0,none⟩) n n∧RefAt φ b 0 As∧As.length=n*size∧n<=maxLen,fun h ⟨b,e,k,l⟩=>⟨b,e,k.mono h,l⟩⟩
theorem qme {Bs:List VP}:∀ {As Bs:List VP} {j:Nat} {B:VP},SubLs L As Bs->Bs[j]?=some B->∃ D,As[j]?=some D∧SubL L D B
 | [],[],_,_,_,h=>by simp at h
 | D::As,B::Bs,0,C,⟨h1,_⟩,h=>by simp at h;subst h;exact ⟨D,rfl,h1⟩
 | D::As,B::Bs,j+1,C,⟨_,h2⟩,h=>by
  obtain ⟨X,h3,h4⟩:=qme (Bs:=Bs) h2 (by simpa using h);exact ⟨X,by simpa using h3,h4⟩
 | [],_::_,_,_,h,_=>h.elim
 | _::_,[],_,_,h,_=>h.elim
theorem qk5 {α:Type} {T:Ty α}:∀ {xs:List α} {k:Nat} {x:α} {j:Nat} {B:VP},xs[k]?=some x->(T.cells x)[j]?=some B->(xs.flatMap T.cells)[k*T.size+j]?=some B
 | [],k,x,j,B,h,_=>by simp at h
 | y::ys,k,x,j,B,h,hB=>by
  have hl:(T.cells y).length=T.size:=T.len y;rw [List.flatMap_cons];cases k with
  | zero =>
   simp only [List.getElem?_cons_zero,Option.some.injEq] at h;subst h;rw [Nat.zero_mul,Nat.zero_add,List.getElem?_append_left (List.getElem?_eq_some_iff.1 hB).1];exact hB
  | succ k =>
   rw [List.getElem?_append_right (by rw [hl,Nat.add_mul];omega),hl,show (k+1)*T.size+j-T.size=k*T.size+j by rw [Nat.add_mul];omega];exact qk5 (by simpa using h) hB
theorem SubL.row {α:Type} {T:Ty α} {xs:List α} {n size:Nat} {As:List VP} (hn:n=xs.length) (hs:size=T.size) (h:SubLs L As (xs.flatMap T.cells)):SubL L (qem n size As) (qad T xs):=fun φ v f ⟨b,e,k,_,l⟩=>by
 subst hs;refine ⟨_,_,_,e,hn,Nat.le_refl _,l,.inr ⟨b,0,rfl,fun i x hx j B hB=>?_⟩⟩;obtain ⟨D,h1,h2⟩:=qme (Bs:=[]) h (qk5 hx hB);obtain ⟨u,h3,h4,h5⟩:=k _ D h1;exact ⟨u,by rw [Nat.add_assoc];exact h3,h2 φ u f h4,h5⟩
theorem ze8 {φ:Fz} {w:World} {vs:List Value} {As:List VP} {e:TypeId} (hm:HP c φ L w) (h:Alls φ As vs) (h1:ones vs):∃ φ',Fle φ φ'∧HP ⟨w,φ,[],[]⟩ φ' [] (w.alloc (.cells vs.toArray e))∧RefAt φ' w.heap.size 0 As:=by
 let φ':Fz:=fun b i=>if b=w.heap.size then vs[i]? else φ b i
 have hno:∀ i,φ w.heap.size i=none:=fun i=>by
  cases hφ:φ w.heap.size i with
  | none=>rfl
  | some u=>have:=qfp (hm.mem.base _ _ _ hφ);omega
 have hsame:∀ i,φ' w.heap.size i=vs[i]?:=fun i=>if_pos rfl;have hoth:∀ b i,b≠w.heap.size->φ' b i=φ b i:=fun b i h=>if_neg h;have hle:Fle φ φ':=fun b i u hu=>by
  rw [hoth b i (fun e=>by subst e;rw [hno i] at hu;cases hu)];exact hu
 refine ⟨φ',hle,⟨⟨fun b i u hu=>?_,by simp,List.Pairwise.nil⟩,qpw _ _ _,by simp [qbr],fun b i hb=>?_⟩,fun j B hB=>?_⟩
 ·by_cases hbg:b=w.heap.size
  ·subst hbg;rw [hsame] at hu;rw [cell_of_row _ _ i vs.toArray e _ (qs2 w _)]
   simpa using hu
  ·rw [hoth b i hbg] at hu;have h2:=hm.mem.base b i u hu;rw [qm7 (Below.heap_alloc w _ b (qfp h2))];exact h2
 ·exact hoth b i (by have:b<w.heap.size:=hb;omega)
 ·obtain ⟨u,h2,h3⟩:=h.get hB;exact ⟨u,by rw [hsame,Nat.zero_add];exact h2,B.mono hle h3,h1 u (List.mem_of_getElem? h2)⟩
def qon (zs:List Value) (n:Nat):List Value:=(List.range n).map fun i=>zs.toArray[i % zs.toArray.size]!
theorem qb7 {t e:TypeId} {n size:Nat} {z:Value} {ps:Array (Nat×Operand)} {qs:List (Nat×List VP)} {Rs:List VP} (hu:P.underlying t=some (.slice e)) (hs:(P.info? e).map (·.size)=some size) (hz:(P.info? e).map (·.zero)=some (some z))
  (hq:PartsE A L ps.toList qs) (hf:qlz (fun i=>some (i*size,size)) ((qon (qen z) (n*size)).map Is) qs=some Rs)
  (hn:(Nat.ble (n*size) 16777216&&Nat.blt 0 (n*size)&&Nat.ble n 1000000&&(qon (qen z) (n*size)).all Value.oneCell'&&Nat.beq Rs.length (n*size))=true) :
  OpP P c ⟨d,.buildSlice t n ps,ty,pos,af,g⟩ A L (qem n size Rs):=
 opq fun φ a w hm he=>by
  simp only [Bool.and_eq_true] at hn;obtain ⟨⟨⟨⟨n1,n2⟩,n3⟩,n4⟩,n5⟩:=hn;have m1:=Nat.le_of_ble_eq_true n1;have m2:0<n*size:=Nat.le_of_ble_eq_true n2;have m3:=Nat.le_of_ble_eq_true n3;have hp:=hq.at_ (φ:=φ) (a:=a) fun i x hx=>he x (by simp only [Op.operands];simp;exact ⟨i,by simpa using hx⟩);obtain ⟨rs,h1,h2,h3⟩:=qnz (qil (φ:=φ) (qon (qen z) (n*size))) (qgh n4) hp hf;obtain ⟨φ',g1,g2,g3⟩:=ze8 (e:=e) hm h2 h3;refine ⟨.slice (some ⟨w.heap.size,0,none⟩) n n,φ',_,?_,g2,⟨w.heap.size,rfl,g3,Nat.eq_of_beq_eq_true n5,by unfold maxLen;omega⟩⟩;simp only [execOp];refine qcd ?_;have e1:(ps.map fun x=>(x.1,a.eval x.2)).toList=ps.toList.map fun p=>(p.1,a.eval p.2):=by simp
  have e2:((Array.range (n*size)).map fun x=>z.cells[x % z.cells.size]!)=(qon (qen z) (n*size)).toArray:=by
   unfold qon qen;rw [Array.toArray_toList]
   apply Array.ext'
   simp
  simp only [Instr.buildSlice,Sem.run_bind,run_underlying hu,Result.andThen_ok,qbd hs];rw [if_neg om];have e3:(List.map (fun x:Nat×Operand=>(x.1,a.eval x.2)) ps.toList)=ps.toList.map fun p=>(p.1,a.eval p.2):=rfl;have e4:¬ n*size=0:=om;simp only [if_neg e4,Sem.run_bind,qi8 hz,Result.andThen_ok,Sem.run_pure,e1,e2,h1,newRow,run_newObj_alloc]
end
section
variable {P:Program} {c:Ctx} {N:Nat} {E:Env} {L:List Item} {Q:Exit->Act->World->Prop}
theorem Fn.enterN {f:FuncId} {fn:Func} {x:Code} {As:List VP} {ι:Type} {R:ι->VP} {L':ι->List Item} (hf:P.funcs[f]?=some fn) (hN:fn.ntmps=N) (hb:fn.body=some x) (hn:Nat.ble As.length N=true)
  (h:∀ c:Ctx,(c.X=qbr L∧c.ds=[])->JC P c N x (argE 0 As) L (bodyPost P fn (qre c R L'))):Fn P f As L R L':=by
 subst hN;exact Fn.enter hf hb hn h
theorem FnP.enter {f:FuncId} {fn:Func} {x:Code} {As:List VP} {R:VP} (hf:P.funcs[f]?=some fn) (hN:fn.ntmps=N) (hb:fn.body=some x) (hn:Nat.ble As.length N=true)
  (h:∀ c:Ctx,(c.X=[]∧c.ds=[])->JC P c N x (argE 0 As) [] (bodyPost P fn (qre c (fun _:Unit=>R) (fun _=>[])))):FnP P f As R:=Fn.enterN hf hN hb hn h
theorem JC_dr {id:Nat} {l:List Oper} (hm:P.follows .mixedOrders=true) (hB:(goodB l.toArray (needs l [])&&ordB l.toArray (needs l [])&&qg0 (fun _ o=>qtd N o.dst) l 0)=true) (h:JD P l.toArray Q c N (needs l []) 0 l E L):JC P c N (Code.region id l.toArray true) E L Q:=JC_draw _ hm hB h
theorem JQ_hit {id:Nat} (h:JQ c N E L Q .normal):JQ c N E L (Exit.inBlock id Q) (.exit id):=qv9 (by simp) h
theorem SubL.eq {A B:VP} (h:A=B):SubL L A B:=h ▸ SubL.rfl'
def qqg (P:Program) (E:Env) (L:List Item):List ResultVar->List VP->Prop
 | [],[]=>True
 | .tmp t::rs,B::Bs=>(∃ D,look E t=some D∧SubL L D B)∧qqg P E L rs Bs
 | .cell t ty::rs,B::Bs=>(∃ b t0 As D,look E t=some (Is (.pointer (some ⟨b,0,none⟩)))∧blk b t0 As∈L∧P.underlying ty=some D ∧
   ((qqs D=false∧∃ X,As[0]?=some X∧SubL L X B)∨(qqs D=true∧∃ n,(P.info? ty).map (·.size)=some n∧Nat.ble n As.length=true∧SubL L (IsAgg (As.take n)) B)))∧qqg P E L rs Bs
 | _,_=>False
theorem zaw (p:Addr) (w:World):(asAddr (.pointer (some p))).run P w = .ok p w:=rfl
theorem qi9 {A:Nat->Option VP} {φ:Fz} {a:Act} {w:World} (st:St c N (look E) L φ a w):∀ {rs:List ResultVar} {Bs:List VP},qqg P E L rs Bs->∃ vs:List Value,
  (rs.mapM fun|.tmp t=>pure (a.tmps.getD t undef)|.cell b t=>do loadVar t (<- asAddr (a.tmps.getD b undef)):Sem (List Value)).run P w = .ok vs w∧Alls φ Bs vs
 | [],[],_=>⟨[],rfl,trivial⟩
 | .tmp t::rs,B::Bs,⟨⟨D,h1,h2⟩,h3⟩=>by
  obtain ⟨vs,h4,h5⟩:=qi9 (A:=A) st h3;refine ⟨a.tmps.getD t undef::vs,?_,h2 _ _ st.mem.mem.facts (st.env t D h1),h5⟩;rw [List.mapM_cons];simp only [Sem.run_bind,Sem.run_pure,Result.andThen_ok,h4]
 | .cell t ty::rs,B::Bs,⟨⟨b,t0,As,D,h1,h2,h3,h4⟩,h5⟩=>by
  obtain ⟨vs,h6,h7⟩:=qi9 (A:=A) st h5;have hv:a.tmps.getD t undef = .pointer (some ⟨b,0,none⟩):=st.env t _ h1;obtain ⟨us,e1,e2,e3⟩:=qj2 st.mem h2;have key:∃ u,(loadVar ty ⟨b,0,none⟩).run P w = .ok u w∧B.ok φ u:=by
   rcases h4 with ⟨hD,X,hX,hs⟩|⟨hD,n,hn,hl,hs⟩
   ·obtain ⟨u,f1,f2⟩:=e2.get hX;exact ⟨u,qja h3 hD ((qic e1 0).trans f1),hs _ _ st.mem.mem.facts f2⟩
   ·have hl':=Nat.le_of_ble_eq_true hl;have hlen:=e2.len;refine ⟨_,qgb (vs:=us.take n) h3 hD hn (by rw [List.length_take];omega) fun j v hj=>?_,hs _ _ st.mem.mem.facts ⟨us.take n,rfl,e2.take n,e3.sub fun u hu=>List.mem_of_mem_take hu⟩⟩;rw [List.getElem?_take] at hj;split at hj
    ·rw [Nat.zero_add,qic e1];exact hj
    ·cases hj
  obtain ⟨u,k1,k2⟩:=key;refine ⟨u::vs,?_,k2,h7⟩;rw [List.mapM_cons];simp only [Sem.run_bind,hv,zaw,Sem.run_pure,Result.andThen_ok,k1,h6]
 | .tmp _::_,[],h=>h.elim
 | .cell _ _::_,[],h=>h.elim
 | [],_::_,h=>h.elim
def qqx:List VP->VP
 | [B]=>B
 | Bs=>qbs Bs
theorem qbq {fn:Func} {ι:Type} {R:ι->VP} {L':ι->List Item} {rs:List ResultVar} {Bs:List VP} (hr:fn.results=rs.toArray) (hE:qqg P E L rs Bs) (i:ι) (hB:SubL L (qqx Bs) (R i)) (hL:(L' i).Sublist L) (hD0:c.ds=[]:=by first|assumption|exact And.right (by assumption)):JQ c N E L (bodyPost P fn (qre c R L')) .ret:=by
 intro φ a w st;obtain ⟨vs,h1,h2⟩:=qi9 (A:=look E) st hE;have hlen:=h2.len;have hrun:(results fn a.tmps).run P w = .ok (if h:vs.toArray.size=1 then vs.toArray[0] else .tuple vs.toArray) w:=by
  unfold results;rw [hr,List.mapM_toArray];simp only [Sem.run_bind,Sem.run_map,Sem.run_pure]
  erw [h1]
  rfl
 refine bodyPost_ret hrun (st.defers.trans hD0) ⟨i,_,φ,rfl,hB _ _ st.mem.mem.facts ?_,st.mem.less hL⟩
 match Bs,vs,h2 with
 | [],[],_=>exact ⟨[],rfl,trivial⟩
 | [B],[v],h=>exact h.1
 | B::B'::Bs,v::v'::vs,h=>exact ⟨_,rfl,h⟩
theorem JQ_end {fn:Func} {ι:Type} {R:ι->VP} {L':ι->List Item} (h:JQ c N E L (bodyPost P fn (qre c R L')) .ret):JQ c N E L (bodyPost P fn (qre c R L')) .normal:=h
variable {A:Nat->Option VP} {d:Option Tmp} {ty:TypeId} {pos:String} {af:Array Edge} {g:Option (Nat×Bool)}
theorem qku {x:Operand} {D:VP} (h:Ev A L x D):OpP P c ⟨d,.move x,ty,pos,af,g⟩ A L D:=
 opp fun φ a w hm he=>⟨_,rfl,he x (by simp [Op.operands]) D h⟩
theorem qup {x:Operand} {D:VP} (h:Ev A L x D):OpP P c ⟨d,.assign x,ty,pos,af,g⟩ A L D:=
 opp fun φ a w hm he=>⟨_,rfl,he x (by simp [Op.operands]) D h⟩
theorem zd6 {x y z:Operand} {p:Bool} {Y Z:VP} (hx:Ev A L x (Ib p)) (hy:evA A y=some Y) (hz:evA A z=some Z):OpP P c ⟨d,.pick x y z,ty,pos,af,g⟩ A L (qdi p Y Z):=
 opp fun φ a w hm he=>by
  have h1:a.eval x = .bool p:=he x (by simp [Op.operands]) _ hx;have h2:Y.ok φ (a.eval y):=he y (by simp [Op.operands]) _ (.rfl' hy);have h3:Z.ok φ (a.eval z):=he z (by simp [Op.operands]) _ (.rfl' hz);cases p with
  | true=>exact ⟨a.eval y,by simp [execOp,h1,asBool],h2⟩
  | false=>exact ⟨a.eval z,by simp [execOp,h1,asBool],h3⟩
theorem qqq {n:Int} (h:-9223372036854775808<=n∧n<=9223372036854775807):IntKind.i64.wrap n=n:=IntWalk.i64_in n h
theorem wU64 {n:Int} (h:0<=n∧n<18446744073709551616):IntKind.u64.wrap n=n:=by
 rw [qc2];omega
theorem wU32 {n:Int} (h:0<=n∧n<4294967296):IntKind.u32.wrap n=n:=by
 rw [qdx];omega
theorem qc3 {n:Int} (h:0<=n∧n<18446744073709551616):Value.int .u64 n = .int .u64 (UV (BitVec.ofInt 64 n)):=by
 have:UV (BitVec.ofInt 64 n)=n:=by
  unfold UV;rw [BitVec.toNat_ofInt];simp;omega
 rw [this]
theorem qc7 {n:Int} (h:0<=n∧n<4294967296):Value.int .u32 n = .int .u32 (UV (BitVec.ofInt 32 n)):=by
 have:UV (BitVec.ofInt 32 n)=n:=by
  unfold UV;rw [BitVec.toNat_ofInt];simp;omega
 rw [this]
theorem qn3 {φ:Fz}:∀ {vs us:List Value},Alls φ (vs.map Is) us->us=vs
 | [],[],_=>rfl
 | v::vs,u::us,⟨h1,h2⟩=>by rw [show u=v from h1,qn3 h2]
theorem qb0 {o:BinOp} {t u:TypeId} {x y:Operand} {vs ws:List Value} {r:Value} (hx:Ev A L x (IsAgg (vs.map Is))) (hy:Ev A L y (IsAgg (ws.map Is))) (hg:∀ w,(eqGuard o t x y (.agg vs.toArray) (.agg ws.toArray)).run P w = .ok () w)
  (hr:∀ w,(binOp o t (.agg vs.toArray) (.agg ws.toArray)).run P w = .ok r w):OpP P c ⟨d,.binOp o t x y u,ty,pos,af,g⟩ A L (Is r):=
 opp fun φ a w hm he=>by
  obtain ⟨us,h1,h2,_⟩:(IsAgg (vs.map Is)).ok φ (a.eval x):=he x (by simp [Op.operands]) _ hx;obtain ⟨us',h3,h4,_⟩:(IsAgg (ws.map Is)).ok φ (a.eval y):=he y (by simp [Op.operands]) _ hy;rw [qn3 h2] at h1;rw [qn3 h4] at h3;exact ⟨r,by simp only [execOp,h1,h3,Sem.run_bind,hg,Result.andThen_ok,hr,Sem.run_pure],rfl⟩
theorem op_callV {f:FuncId} {x:Operand} {xs:List Operand} {ts:Array TypeId} {As:List VP} {R:VP} {cap:List Value} (hx:Ev A L x (Is (.func (.func f) #[] cap.toArray))) (hc:∀ (args:Array Value) (w:World),(callFunc f args).run P w = .ok (.enter f args) w)
  (hF:FnP P f (As++cap.map Is) R) (ha:ArgsE A L xs As):OpP P c ⟨d,.call { callee:=.value x,args:=xs.toArray,argTypes:=ts },ty,pos,af,g⟩ A L R:=by
 intro φ a w K Q hm he hk;have h1:a.eval x = .func (.func f) #[] cap.toArray:=he x (by simp [Op.operands,Call.operands]) _ hx;have hv:=ha.alls (φ:=φ) (a:=a) fun x hx=>he x (by simp [Op.operands,Call.operands,hx]);have hrun:(execOp a.eval ⟨d,.call { callee:=.value x,args:=xs.toArray,argTypes:=ts },ty,pos,af,g⟩).run P w = .ok (.enter f (xs.map a.eval++cap).toArray) w:=by
  simp only [execOp,resolve,h1,Deferred.ofValue,Sem.run_bind,Sem.run_pure,Result.andThen_ok,invoke,hc];simp
 unfold Oper.wp;rw [hrun];refine (hF φ w _ (hv.append (qil cap)) ⟨hm.mem.base,by simp,List.Pairwise.nil⟩).mono ?_;rintro e w' ⟨i,v,φ',rfl,h1,h2⟩;exact hk φ' v w' (by simpa [qbr] using h2) h1
theorem qj3 {f:FuncId} {x:Operand} {xs:List Operand} {ts:Array TypeId} {As:List VP} {R:VP} (hx:Ev A L x (Is (.func (.func f) #[] #[]))) (hc:∀ (args:Array Value) (w:World),(callFunc f args).run P w = .ok (.enter f args) w)
  (hF:FnP P f As R) (ha:ArgsE A L xs As):OpP P c ⟨d,.call { callee:=.value x,args:=xs.toArray,argTypes:=ts },ty,pos,af,g⟩ A L R:=op_callV (cap:=[]) hx hc (by simpa using hF) ha
theorem HP.buf0 {α:Type} {φ:Fz} {w:World} (e:TypeId) (T:Ty α) (h:HP c φ L w):HP c φ (buf (.slice none 0 0) e T []::L) w:=
 ⟨⟨h.mem.base,fun it hi=>by
  rcases List.mem_cons.1 hi with rfl|hi
  ·exact ⟨⟨[],by simp,trivial,qg6,.inl ⟨rfl,rfl⟩⟩,fun b (hb:none=some b)=>(nomatch hb)⟩
  ·exact h.mem.items it hi,List.pairwise_cons.2 ⟨fun y _ b (hb:none=some b)=>(nomatch hb),h.mem.sep⟩⟩,h.kept,h.mine,h.old⟩
theorem qdo {α:Type} {x:Code} (e:TypeId) (T:Ty α) (h:JC P c N x E (buf (.slice none 0 0) e T []::L) Q):JC P c N x E L Q:=fun φ a w st =>
 h φ a w ⟨st.defers,st.size,st.env,st.mem.buf0 e T⟩
section
variable {ops:Array Oper} {rest:List Oper} {t:Tmp} {op:Op}
theorem qao {F:VP} (hd:Nat.blt t N=true) (hs:OpP P c ⟨some t,op,ty,pos,af,none⟩ (look E) L F) (h:JL P ops Q c N rest ((t,F)::E) L):JL P ops Q c N (⟨some t,op,ty,pos,af,none⟩::rest) E L:=JL_op1 rfl hd hs h
theorem zgs {j:Nat} {want p b:Bool} {g:Tmp} {F:VP} (hj:(ops[j]?).bind (·.dst)=some g) (hl:look E g=some (qdi p (Ib b) (Is undef))) (hd:Nat.blt t N=true) (hs:p=true->(b==want)=true->OpP P c ⟨some t,op,ty,pos,af,some (j,want)⟩ (look E) L F)
  (h:JL P ops Q c N rest ((t,qdi (p&&(b==want)) F (Is undef))::E) L):JL P ops Q c N (⟨some t,op,ty,pos,af,some (j,want)⟩::rest) E L:=JL_if rfl hj hl hd hs h
theorem qcg {j:Nat} {want b:Bool} {g:Tmp} {F:VP} (hj:(ops[j]?).bind (·.dst)=some g) (hl:look E g=some (Ib b)) (hd:Nat.blt t N=true) (hs:(b==want)=true->OpP P c ⟨some t,op,ty,pos,af,some (j,want)⟩ (look E) L F)
  (h:JL P ops Q c N rest ((t,qdi (b==want) F (Is undef))::E) L):JL P ops Q c N (⟨some t,op,ty,pos,af,some (j,want)⟩::rest) E L:=JL_if0 rfl hj hl hd hs h
theorem JL_n {ι:Type} {val:ι->Value} {I:ι->Item} (hd:Nat.blt t N=true) (hs:OpN P c ⟨some t,op,ty,pos,af,none⟩ (look E) L val I) (h:∀ i,JL P ops Q c N rest ((t,Is (val i))::E) (I i::L)):JL P ops Q c N (⟨some t,op,ty,pos,af,none⟩::rest) E L:=JL_op rfl hd hs.toS h
theorem qc6 {ι:Type} {F:ι->VP} {L':ι->List Item} (hd:Nat.blt t N=true) (hs:OpS P c ⟨some t,op,ty,pos,af,none⟩ (look E) L F L') (h:∀ i,JL P ops Q c N rest ((t,F i)::E) (L' i)):JL P ops Q c N (⟨some t,op,ty,pos,af,none⟩::rest) E L:=JL_op rfl hd hs h
theorem qjw {L':List Item} {F:VP} (hs:OpS P c ⟨none,op,ty,pos,af,none⟩ (look E) L (fun _:Unit=>F) (fun _=>L')) (h:JL P ops Q c N rest E L'):JL P ops Q c N (⟨none,op,ty,pos,af,none⟩::rest) E L:=JL_op rfl rfl hs fun _=>h
variable {nd:List Nat} {k:Nat}
theorem JD_1 {F:VP} (ha:qqa nd ops.size (k+1) k=true) (hko:ops[k]?=some ⟨some t,op,ty,pos,af,none⟩) (hd:Nat.blt t N=true) (hs:OpP P c ⟨some t,op,ty,pos,af,none⟩ (look E) L F) (h:JD P ops Q c N nd (k+1) rest ((t,F)::E) L):JD P ops Q c N nd k (⟨some t,op,ty,pos,af,none⟩::rest) E L:=JD_op1 ha hko rfl hd hs h
theorem JD_s {ι:Type} {F:ι->VP} {L':ι->List Item} (ha:qqa nd ops.size (k+1) k=true) (hko:ops[k]?=some ⟨some t,op,ty,pos,af,none⟩) (hd:Nat.blt t N=true) (hs:OpS P c ⟨some t,op,ty,pos,af,none⟩ (look E) L F L') (h:∀ i,JD P ops Q c N nd (k+1) rest ((t,F i)::E) (L' i)):JD P ops Q c N nd k (⟨some t,op,ty,pos,af,none⟩::rest) E L:=JD_op ha hko rfl hd hs h
theorem zbx {L':List Item} {F:VP} (ha:qqa nd ops.size (k+1) k=true) (hko:ops[k]?=some ⟨none,op,ty,pos,af,none⟩) (hs:OpS P c ⟨none,op,ty,pos,af,none⟩ (look E) L (fun _:Unit=>F) (fun _=>L')) (h:JD P ops Q c N nd (k+1) rest E L'):JD P ops Q c N nd k (⟨none,op,ty,pos,af,none⟩::rest) E L:=JD_op ha hko rfl rfl hs fun _=>h
variable {n:Nat} {EO:EnvO}
theorem qbc {F:VP} (hs:OpP P c ⟨some t,op,ty,pos,af,none⟩ (vals EO) L F) (h:JW P ops Q c N nd (k+1) n rest ((t,.v F)::EO) L):JW P ops Q c N nd k (n+1) (⟨some t,op,ty,pos,af,none⟩::rest) EO L:=JW_op rfl hs h
theorem zbw {ι:Type} {val:ι->Value} {I:ι->Item} (hs:OpN P c ⟨some t,op,ty,pos,af,none⟩ (vals EO) L val I) (h:JW P ops Q c N nd (k+1) n rest ((t,.own val I)::EO) L):JW P ops Q c N nd k (n+1) (⟨some t,op,ty,pos,af,none⟩::rest) EO L:=JW_new rfl hs h
theorem zgr {j:Nat} {want p b:Bool} {g:Tmp} {F:VP} (hj:(ops[j]?).bind (·.dst)=some g) (hl:vals EO g=some (qdi p (Ib b) (Is undef))) (hs:p=true->(b==want)=true->OpP P c ⟨some t,op,ty,pos,af,some (j,want)⟩ (vals EO) L F)
  (h:JW P ops Q c N nd (k+1) n rest ((t,.v (qdi (p&&(b==want)) F (Is undef)))::EO) L):JW P ops Q c N nd k (n+1) (⟨some t,op,ty,pos,af,some (j,want)⟩::rest) EO L:=JW_if rfl hj hl hs h
theorem qch {j:Nat} {want b:Bool} {g:Tmp} {F:VP} (hj:(ops[j]?).bind (·.dst)=some g) (hl:vals EO g=some (Ib b)) (hs:(b==want)=true->OpP P c ⟨some t,op,ty,pos,af,some (j,want)⟩ (vals EO) L F)
  (h:JW P ops Q c N nd (k+1) n rest ((t,.v (qdi (b==want) F (Is undef)))::EO) L):JW P ops Q c N nd k (n+1) (⟨some t,op,ty,pos,af,some (j,want)⟩::rest) EO L:=JW_if0 rfl hj hl hs h
end
end
theorem rA {P:Program} {c:Ctx} {N:Nat} {E:Env} {L:List Item} {fn:Func} {rs:List ResultVar} {Bs:List VP} (hr:fn.results=rs.toArray) (hE:qqg P E L rs Bs) (hD0:c.ds=[]:=by first|assumption|exact And.right (by assumption)):JQ c N E L (bodyPost P fn (qre c (fun _:Unit=>qqx Bs) fun _=>[])) .ret:=qbq hr hE () SubL.rfl' (List.nil_sublist _) hD0
theorem rB {P:Program} {c:Ctx} {N:Nat} {E:Env} {L:List Item} {fn:Func} {R:Unit→VP} {t:Tmp} {A:VP} (hr:fn.results=#[.tmp t]) (hl:look E t=some A) (hs:A=R ()) (hD0:c.ds=[]:=by first|assumption|exact And.right (by assumption)):JQ c N E L (bodyPost P fn (qre c R fun _=>[])) .ret:=qyc hr hl () (SubL.eq hs) (List.nil_sublist _) hD0
section
variable {P:Program} {c:Ctx} {A:Nat->Option VP} {L:List Item} {d:Option Tmp} {ty:TypeId} {pos:String} {af:Array Edge} {g:Option (Nat×Bool)}
variable {α:Type} {T:Ty α} {xs:List α} {i:Option Addr×Nat} {n:Nat} {e:TypeId}
def bpt (i:Option Addr×Nat) (o:Nat):Value:=match i.1 with
 | some a=>.pointer (some ⟨a.block,o,none⟩)
 | none=>undef
theorem qlt {φ:Fz} {w:World} {k:Nat} (hm:HP c φ L w) (hL:buf (slV n i) e T xs∈L) (hk:k<xs.length):∃ gg cap cur,i=(some ⟨gg,0,none⟩,cap)∧n=xs.length∧w.heap[gg]?=some (.cells cur e (0,0))∧xs.length<=cap∧cap<=maxLen∧cur.size=cap*T.size ∧
  ∃ flat,cur.toList.take (xs.length*T.size)=flat∧Alls φ (xs.flatMap T.cells) flat∧ones flat∧flat.length=xs.length*T.size:=by
 obtain ⟨flat,f1,f2,f3⟩:=qha (hm.mem.items _ hL);rcases f3.2 with ⟨_,h0⟩|⟨gg,cap,cur,e1,_,e2,e3,e4,e5,e6⟩
 ·omega
 ·obtain ⟨a,cp⟩:=i;unfold slV at e1;injection e1 with e7 e8 e9
  dsimp only at e7 e8 e9;subst e7 e9;exact ⟨gg,cp,cur,rfl,e8,e2,e3,e4,e5,flat,e6,f1,f2,f3.1⟩
theorem qay {x y:Operand} {t:TypeId} {j:Int} {k:Nat} {q:IntKind} (hx:Ev A L x (Is (slV n i))) (hL:buf (slV n i) e T xs∈L) (hy:Ev A L y (Is (.int q j))) (hu:P.underlying t=some (.slice e)) (hs:(P.info? e).map (·.size)=some T.size) (hj:j=k) (hk:k<xs.length) :
  OpP P c ⟨d,.indexAddr t x y,ty,pos,af,g⟩ A L (Is (bpt i (k*T.size))):=
 opp fun φ a w hm he=>by
  have h1:a.eval x=slV n i:=he x (by simp [Op.operands]) _ hx;have h6:a.eval y = .int q j:=he y (by simp [Op.operands]) _ hy;obtain ⟨gg,cap,cur,rfl,rfl,_⟩:=qlt hm hL hk;refine ⟨_,?_,rfl⟩;have h7:(0:Int)<=j∧j<(xs.length:Int):=om;have h8:j.toNat=k:=om;simp only [execOp,h1,h6,slV];refine qcd ?_;simp only [Instr.indexAt,asIntOf,Sem.run_bind,Sem.run_pure,Result.andThen_ok,run_underlying hu,h7,and_self,if_true,qbd hs,h8,qcl,bpt,Nat.zero_add]
theorem qcr {s:TypeId} {x:Operand} {f0 o m k:Nat} {fs:Array Field} {f:Field} (hx:Ev A L x (Is (bpt i o))) (hL:buf (slV n i) e T xs∈L) (h0:0<xs.length) (hu:P.underlying s=some (.struct fs)) (hf:fs[f0]?=some f) (hn:(P.info? f.type).map (·.size)=some (m+1)) (hk:f.offset=k) :
  OpP P c ⟨d,.fieldAddr s x f0,ty,pos,af,g⟩ A L (Is (bpt i (o+k))):=by
 subst hk;exact opp fun φ a w hm he=>by
  have h1:a.eval x=bpt i o:=he x (by simp [Op.operands]) _ hx;obtain ⟨gg,cap,cur,rfl,_⟩:=qlt hm hL h0;exact ⟨_,by simp only [execOp,h1,bpt,Sem.run_bind,qpj hu hf hn,Result.andThen_ok,Sem.run_pure,qcl],rfl⟩
theorem buf_cell {φ:Fz} {w:World} {gg k j:Nat} {cur:Array Value} {flat:List Value} {x:α} {B:VP} (h1:w.heap[gg]?=some (.cells cur e (0,0))) (h2:cur.toList.take (xs.length*T.size)=flat) (h3:Alls φ (xs.flatMap T.cells) flat) (hk:xs[k]?=some x) (hB:(T.cells x)[j]?=some B) :
  ∃ u,w.cell? ⟨gg,k*T.size+j,none⟩=some u∧B.ok φ u∧flat[k*T.size+j]?=some u:=by
 obtain ⟨u,h4,h5⟩:=qny (flat:=flat) h3 hk hB;refine ⟨u,?_,h5,h4⟩;rw [cell_of_row w gg _ cur e _ h1];rw [<- h2] at h4;have hl:k*T.size+j<xs.length*T.size:=by
  have:=(List.getElem?_eq_some_iff.1 h4).1;rw [List.length_take] at this;omega
 rw [List.getElem?_take_of_lt hl,Array.getElem?_toList] at h4;exact h4
theorem qep {t:TypeId} {x:Operand} {k j:Nat} {z:α} {B:VP} {D:TypeDesc} (hx:Ev A L x (Is (bpt i (k*T.size+j)))) (hL:buf (slV n i) e T xs∈L) (hz:xs[k]?=some z) (hu:P.underlying t=some D) (hD:qqs D=false) (hB:(T.cells z)[j]?=some B):OpP P c ⟨d,.load t x,ty,pos,af,g⟩ A L B:=
 opp fun φ a w hm he=>by
  have h1:a.eval x=bpt i (k*T.size+j):=he x (by simp [Op.operands]) _ hx;obtain ⟨gg,cap,cur,rfl,_,e2,_,_,_,flat,e6,e7,_⟩:=qlt hm hL (List.getElem?_eq_some_iff.1 hz).1;obtain ⟨u,f1,f2,_⟩:=buf_cell e2 e6 e7 hz hB;exact ⟨u,by simp only [execOp,h1,bpt];exact qcd (qja hu hD f1),f2⟩
theorem qiz (ys:List α):(ys.flatMap T.cells).length=ys.length*T.size:=by
 induction ys with
 | nil=>simp
 | cons y ys ih=>rw [List.flatMap_cons,List.length_append,ih,T.len,List.length_cons,Nat.add_mul];omega
theorem qb6 {t:TypeId} {x:Operand} {k:Nat} {z:α} {D:TypeDesc} (hx:Ev A L x (Is (bpt i (k*T.size)))) (hL:buf (slV n i) e T xs∈L) (hz:xs[k]?=some z) (hu:P.underlying t=some D) (hD:qqs D=true) (hn:(P.info? t).map (·.size)=some T.size):OpP P c ⟨d,.load t x,ty,pos,af,g⟩ A L (IsAgg (T.cells z)):=
 opp fun φ a w hm he=>by
  have h1:a.eval x=bpt i (k*T.size):=he x (by simp [Op.operands]) _ hx;obtain ⟨gg,cap,cur,rfl,_,e2,_,_,_,flat,e6,e7,e8,e9⟩:=qlt hm hL (List.getElem?_eq_some_iff.1 hz).1;have hkl:=(List.getElem?_eq_some_iff.1 hz).1;have hlen:(T.cells z).length=T.size:=T.len z;have key:Alls φ (T.cells z) ((flat.drop (k*T.size)).take T.size):=by
   have h2:(xs.flatMap T.cells).drop (k*T.size)=T.cells z++((xs.drop (k+1)).flatMap T.cells):=by
    have h3:xs.flatMap T.cells=(xs.take k).flatMap T.cells++(xs.drop k).flatMap T.cells:=by
     rw [<- List.flatMap_append,List.take_append_drop]
    have h4:((xs.take k).flatMap T.cells).length=k*T.size:=by
     rw [qiz,List.length_take]
     congr 1;omega
    rw [h3,<- h4,List.drop_left,List.drop_eq_getElem_cons hkl,List.flatMap_cons];have:xs[k]=z:=by rw [gE hkl] at hz;exact Option.some.inj hz
    rw [this]
   have h5:=(e7.drop (k*T.size)).take T.size;rw [h2,<- hlen,List.take_left] at h5;rw [hlen] at h5;exact h5
  have hl2:((flat.drop (k*T.size)).take T.size).length=T.size:=by rw [<- key.len,hlen]
  have h6:=qgb (w:=w) (b:=gg) (o:=k*T.size) (vs:=(flat.drop (k*T.size)).take T.size) hu hD hn hl2 fun j v hj=>by
   rw [List.getElem?_take] at hj;split at hj
   ·rename_i hjt;rw [List.getElem?_drop] at hj;rw [cell_of_row w gg _ cur e _ e2];rw [<- e6] at hj;have hl:k*T.size+j<xs.length*T.size:=by
     have:=(List.getElem?_eq_some_iff.1 hj).1;rw [List.length_take] at this;omega
    rw [List.getElem?_take_of_lt hl,Array.getElem?_toList] at hj;exact hj
   ·cases hj
  exact ⟨_,by simp only [execOp,h1,bpt];exact qcd h6,⟨_,rfl,key,e8.sub fun u hu=>List.mem_of_mem_drop (List.mem_of_mem_take hu)⟩⟩
theorem za3 {As Cs Bs:List VP} {o:Nat} (h:o+Bs.length<=Cs.length) (D:List VP):ovr (As++Cs++D) (As.length+o) Bs=As++ovr Cs o Bs++D:=by
 induction Bs generalizing Cs o with
 | nil=>rfl
 | cons B Bs ih =>
  simp only [List.length_cons] at h;rw [ovr,ovr];have:(As++Cs++D).set (As.length+o) B=As++Cs.set o B++D:=by
   rw [List.append_assoc,List.set_append_right _ _ om,Nat.add_sub_cancel_left,List.set_append_left _ _ om,List.append_assoc]
  rw [this,Nat.add_assoc,ih (by simp;omega)]
theorem qrx {k:Nat} {z:α} (hz:xs[k]?=some z):xs.flatMap T.cells=(xs.take k).flatMap T.cells++T.cells z++(xs.drop (k+1)).flatMap T.cells:=by
 have hkl:=(List.getElem?_eq_some_iff.1 hz).1;have h3:xs=xs.take k++z::xs.drop (k+1):=by
  have:xs[k]=z:=by rw [gE hkl] at hz;exact Option.some.inj hz
  rw [<- this,List.getElem_cons_drop,List.take_append_drop]
 conv=>lhs;rw [h3]
 rw [List.flatMap_append,List.flatMap_cons,List.append_assoc]
theorem flat_ovr {k o:Nat} {z z':α} {Bs:List VP} (hz:xs[k]?=some z) (hB:o+Bs.length<=T.size) (hc:T.cells z'=ovr (T.cells z) o Bs):(xs.set k z').flatMap T.cells=ovr (xs.flatMap T.cells) (k*T.size+o) Bs:=by
 have hkl:=(List.getElem?_eq_some_iff.1 hz).1;have h1:(xs.set k z')[k]?=some z':=by simp [hkl]
 rw [qrx h1,qrx hz,hc];have h2:((xs.take k).flatMap T.cells).length=k*T.size:=by rw [qiz,List.length_take];congr 1;omega
 rw [<- h2,za3 (by rw [T.len];exact hB)]
 congr 2
 ·rw [List.take_set,List.set_eq_of_length_le (by simp;omega)]
 ·rw [List.drop_set];simp
theorem qby {t:TypeId} {x y:Operand} {k o m:Nat} {z z':α} {D:VP} {Bs:List VP} {L':List Item} (hx:Ev A L x (Is (bpt i (k*T.size+o)))) (hy:Ev A L y D) (hD:qde D Bs) (hr:Repl L (buf (slV n i) e T xs) (buf (slV n i) e T (xs.set k z')) L') (hz:xs[k]?=some z)
  (hn:(P.info? t).map (·.size)=some m) (hB:(Nat.beq Bs.length m&&Nat.ble (o+m) T.size)=true) (hc:T.cells z'=ovr (T.cells z) o Bs):OpS P c ⟨d,.store t x y,ty,pos,af,g⟩ A L (fun _:Unit=>Is undef) (fun _=>L'):=by
 intro φ a w K Q hm he hk;have h1:a.eval x=bpt i (k*T.size+o):=he x (by simp [Op.operands]) _ hx;obtain ⟨us,h2,h3,h4⟩:=hD φ _ (he y (by simp [Op.operands]) _ hy);simp only [Bool.and_eq_true] at hB;have b1:=Nat.eq_of_beq_eq_true hB.1;have b2:=Nat.le_of_ble_eq_true hB.2;have hkl:=(List.getElem?_eq_some_iff.1 hz).1;obtain ⟨gg,cap,cur,rfl,rfl,e2,e3,e4,e5,flat,e6,e7,e8,e9⟩:=qlt hm hr.mem hkl;have l1:=h3.len;have hmul:(k+1)*T.size<=xs.length*T.size:=Nat.mul_le_mul_right _ hkl;have hmul2:xs.length*T.size<=cap*T.size:=Nat.mul_le_mul_right _ e3;rw [Nat.add_mul,Nat.one_mul] at hmul;have hst:=run_storeCells_at (P:=P) gg (k*T.size+o) e us 0 cur w e2 om h4;simp only [Nat.add_zero] at hst;have hrun:(execOp a.eval ⟨d,.store t x y,ty,pos,af,g⟩).run P w = .ok .skip (w.setRow gg (cur.toList.take (k*T.size+o)++us++cur.toList.drop (k*T.size+o+us.length)).toArray):=by
  simp only [execOp,h1,bpt,Instr.storeAt,Instr.sureAddr,Sem.run_bind,Sem.run_pure,Result.andThen_ok,storeVar,qbd hn,h2];rw [if_neg (by simp;omega)];rw [hst];rfl
 unfold Oper.wp;rw [hrun];have hup:=hm.upd hr (qir (qbr [buf (slV xs.length (some ⟨gg,0,none⟩,cap)) e T xs]) w gg (cur.toList.take (k*T.size+o)++us++cur.toList.drop (k*T.size+o+us.length)).toArray (by simp [qbr,buf,slV,Value.ownBlock])) ?_ (fun b' hb'=>.inr hb')
 ·exact hk () φ undef _ Fle.rfl' rfl hup
 refine ⟨⟨flat.take (k*T.size+o)++us++flat.drop (k*T.size+o+us.length),?_,?_,?_,?_⟩,fun b' hb'=>?_⟩
 ·simp only [List.length_append,List.length_take,List.length_drop,List.length_set];omega
 ·rw [flat_ovr hz om hc,qpp _ _ _ (by rw [qiz];omega),l1];exact ((e7.take _).append h3).append (e7.drop _)
 ·intro u hu;simp only [List.mem_append] at hu;rcases hu with (hu|hu)|hu
  ·exact e8 u (List.mem_of_mem_take hu)
  ·exact h4 u hu
  ·exact e8 u (List.mem_of_mem_drop hu)
 ·rw [List.length_set];refine .inr ⟨gg,cap,(cur.toList.take (k*T.size+o)++us++cur.toList.drop (k*T.size+o+us.length)).toArray,rfl,?_,e3,e4,?_,?_⟩
  ·simp only [buf,slV,Value.ownBlock,Option.bind_some];exact setRow_heap w gg _ _ _ _ e2
  ·simp only [List.size_toArray,List.length_append,List.length_take,List.length_drop,Array.length_toList];omega
  ·rw [<- e6];simp only [List.take_append,List.take_take,List.drop_take,List.length_take,List.length_append,Array.length_toList];have q1:min (xs.length*T.size) (k*T.size+o)=k*T.size+o:=om;have q2:min (k*T.size+o) (xs.length*T.size)=k*T.size+o:=om;have q3:min (k*T.size+o) cur.size=k*T.size+o:=om;rw [q1,q2,q3,List.take_of_length_le (l:=us) om]
 ·have:=(hm.mem.items _ hr.mem).2 b' hb';exact ⟨by simp [World.setRow];exact this.1,this.2⟩
theorem qgn {t:TypeId} {x y:Operand} {k m:Nat} {z z':α} {D:VP} {Bs:List VP} {L':List Item} (hx:Ev A L x (Is (bpt i (k*T.size)))) (hy:Ev A L y D) (hD:qde D Bs) (hr:Repl L (buf (slV n i) e T xs) (buf (slV n i) e T (xs.set k z')) L') (hz:xs[k]?=some z)
  (hn:(P.info? t).map (·.size)=some m) (hB:(Nat.beq Bs.length m&&Nat.ble m T.size)=true) (hc:T.cells z'=ovr (T.cells z) 0 Bs):OpS P c ⟨d,.store t x y,ty,pos,af,g⟩ A L (fun _:Unit=>Is undef) (fun _=>L'):=
 qby (o:=0) hx hy hD hr hz hn (by simpa using hB) hc
end
section
variable {P:Program} {c:Ctx} {A:Nat->Option VP} {L:List Item} {d:Option Tmp} {ty:TypeId} {pos:String} {af:Array Edge} {g:Option (Nat×Bool)}
variable {α:Type} {T:Ty α}
theorem qqz (xs:List α) {t e:TypeId} {n size:Nat} {z:Value} {ps:Array (Nat×Operand)} {qs:List (Nat×List VP)} {Rs:List VP} (hu:P.underlying t=some (.slice e)) (hs:(P.info? e).map (·.size)=some size) (hz:(P.info? e).map (·.zero)=some (some z))
  (hq:PartsE A L ps.toList qs) (hf:qlz (fun i=>some (i*size,size)) ((qon (qen z) (n*size)).map Is) qs=some Rs)
  (hn:(Nat.ble (n*size) 16777216&&Nat.blt 0 (n*size)&&Nat.ble n 1000000&&(qon (qen z) (n*size)).all Value.oneCell'&&Nat.beq xs.length n&&Nat.beq size T.size)=true) (hx:SubLs L Rs (xs.flatMap T.cells)) :
  OpN P c ⟨d,.buildSlice t n ps,ty,pos,af,g⟩ A L (fun b:Nat=>slV xs.length (some ⟨b,0,none⟩,n)) (fun b=>buf (slV xs.length (some ⟨b,0,none⟩,n)) e T xs):=by
 intro φ a w K Q hm he hk;simp only [Bool.and_eq_true] at hn;obtain ⟨⟨⟨⟨⟨n1,n2⟩,n3⟩,n4⟩,n5⟩,n6⟩:=hn;have m1:=Nat.le_of_ble_eq_true n1;have m2:0<n*size:=Nat.le_of_ble_eq_true n2;have m3:=Nat.le_of_ble_eq_true n3;have m5:=Nat.eq_of_beq_eq_true n5;have m6:=Nat.eq_of_beq_eq_true n6;have hp:=hq.at_ (φ:=φ) (a:=a) fun i x hx=>he x (by simp only [Op.operands];simp;exact ⟨i,by simpa using hx⟩);obtain ⟨rs,h1,h2,h3⟩:=qnz (qil (φ:=φ) (qon (qen z) (n*size))) (qgh n4) hp hf;have h5:=hx.alls hm.mem.facts h2;have hl:rs.length=n*size:=by rw [<- h5.len,qiz,m5,m6]
 have hrun:(execOp a.eval ⟨d,.buildSlice t n ps,ty,pos,af,g⟩).run P w = .ok (.value (.slice (some ⟨w.heap.size,0,none⟩) n n)) (w.alloc (.cells rs.toArray e)):=by
  simp only [execOp];refine qcd ?_;have e1:(ps.map fun x=>(x.1,a.eval x.2)).toList=ps.toList.map fun p=>(p.1,a.eval p.2):=by simp
  have e2:((Array.range (n*size)).map fun x=>z.cells[x % z.cells.size]!)=(qon (qen z) (n*size)).toArray:=by
   unfold qon qen;rw [Array.toArray_toList]
   apply Array.ext'
   simp
  simp only [Instr.buildSlice,Sem.run_bind,run_underlying hu,Result.andThen_ok,qbd hs];rw [if_neg om];have e4:¬ n*size=0:=om;simp only [if_neg e4,Sem.run_bind,qi8 hz,Result.andThen_ok,Sem.run_pure,e1,e2,h1,newRow,run_newObj_alloc]
 unfold Oper.wp;rw [hrun];have hv:Value.slice (some ⟨w.heap.size,0,none⟩) n n=slV xs.length (some ⟨w.heap.size,0,none⟩,n):=by rw [m5];rfl
 rw [hv];refine hk w.heap.size φ _ (qvb (b:=0) hm rfl ⟨rs,by rw [hl,m5,m6],h5,h3,.inr ⟨w.heap.size,n,rs.toArray,rfl,rfl,om,by unfold maxLen;omega,by simp [hl,m6],?_⟩⟩);rw [m5,<- m6,<- hl];simp
end
section
variable {P:Program} {c:Ctx} {N:Nat} {E:Env} {L:List Item} {Q Q':Exit->Act->World->Prop}
theorem qyd {x y:Code} {ι:Type} (I:ι->Prop) (Ef:ι->Env) (Lf:ι->List Item) (h2:∀ i,I i->JC P c N y (Ef i) (Lf i) Q) (h1:JC P c N x E L (Exit.then (Meet c N I Ef Lf) Q')):JC P c N x E L (Exit.then (y.wp P Q) Q'):=by
 refine fun φ a w st=>Code.wp_mono ?_ (h1 φ a w st);intro e a w h;cases e with
 | normal=>obtain ⟨i,φ,hi,st⟩:=h;exact h2 i hi φ a w st
 | exit id=>exact h
 | goto l=>exact h
 | ret=>exact h
 | panic ch=>exact h
 | outgrown=>exact h
end
theorem Apart.symm {x y:Item} (h:Apart x y):Apart y x:=fun b hb hx=>h b hx hb
inductive Drop1:List Item->Item->List Item->Prop
 | here (it:Item) (L:List Item):Drop1 (it::L) it L
 | next (x:Item) {it:Item} {L L':List Item} (h:Drop1 L it L'):Drop1 (x::L) it (x::L')
inductive SubP:List Item->List Item->Prop
 | nil (L:List Item):SubP [] L
 | cons {it:Item} {L L1 M:List Item} (h:Drop1 L it L1) (h2:SubP M L1):SubP (it::M) L
theorem Drop1.mem {L L':List Item} {it:Item} (h:Drop1 L it L'):it∈L∧∀ x,x∈L'->x∈L:=by
 induction h with
 | here it L=>exact ⟨List.mem_cons_self ..,fun x hx=>List.mem_cons_of_mem _ hx⟩
 | next y h ih=>exact ⟨List.mem_cons_of_mem _ ih.1,fun x hx=>by
   rcases List.mem_cons.1 hx with rfl|hx
   ·exact List.mem_cons_self ..
   ·exact List.mem_cons_of_mem _ (ih.2 x hx)⟩
theorem Drop1.sep {L L':List Item} {it:Item} (h:Drop1 L it L') (hs:L.Pairwise Apart):L'.Pairwise Apart∧∀ x,x∈L'->Apart it x:=by
 induction h with
 | here it L=>exact ⟨(List.pairwise_cons.1 hs).2,(List.pairwise_cons.1 hs).1⟩
 | next y h ih =>
  obtain ⟨h1,h2⟩:=List.pairwise_cons.1 hs;obtain ⟨h3,h4⟩:=ih h2;refine ⟨List.pairwise_cons.2 ⟨fun x hx=>h1 x (h.mem.2 x hx),h3⟩,fun x hx=>?_⟩;rcases List.mem_cons.1 hx with rfl|hx
  ·exact (h1 _ h.mem.1).symm
  ·exact h4 x hx
theorem SubP.mem {L M:List Item} (h:SubP M L):∀ x,x∈M->x∈L:=by
 induction h with
 | nil L=>simp
 | cons h h2 ih => intro x hx; rcases List.mem_cons.1 hx with rfl | hx
                   ·exact h.mem.1
                   ·exact h.mem.2 x (ih x hx)
theorem SubP.sep {L M:List Item} (h:SubP M L):L.Pairwise Apart->M.Pairwise Apart:=by
 induction h with
 | nil L=>intro _;exact List.Pairwise.nil
 | cons h h2 ih=>intro hs;exact List.pairwise_cons.2 ⟨fun x hx=>(h.sep hs).2 x (h2.mem x hx),ih (h.sep hs).1⟩
theorem HP.lessP {c:Ctx} {φ:Fz} {L L':List Item} {w:World} (h:HP c φ L w) (hs:SubP L' L):HP c φ L' w:=
 ⟨⟨h.mem.base,fun it hi=>h.mem.items it (hs.mem it hi),hs.sep h.mem.sep⟩,h.kept,fun b hb=>by
  obtain ⟨x,hx,hxb⟩:=mem_names.1 hb;exact h.mine b (mem_names.2 ⟨x,hs.mem x hx,hxb⟩),h.old⟩
section
variable {P:Program} {c:Ctx} {N:Nat} {E:Env} {L:List Item} {Q Q':Exit->Act->World->Prop}
theorem JD_sub {ops:Array Oper} {rest:List Oper} {nd:List Nat} {k:Nat} {L':List Item} (hs:SubP L' L) (h:JD P ops Q c N nd k rest E L'):JD P ops Q c N nd k rest E L:=fun e1 e2 e3 e4 φ a w lst hp st=>h e1 e2 e3 e4 φ a w lst hp ⟨st.defers,st.size,st.env,st.mem.lessP hs⟩
theorem SubP.refl':∀ L:List Item,SubP L L
 | []=>.nil _
 | it::L=>.cons (.here it L) (SubP.refl' L)
theorem qc1 {ops:Array Oper} {rest:List Oper} {nd:List Nat} {k:Nat} {it:Item} {L':List Item} (hs:Drop1 L it L') (h:JD P ops Q c N nd k rest E (it::L')):JD P ops Q c N nd k rest E L:=JD_sub (.cons hs (SubP.refl' _)) h
theorem qal {ι:Type} {I:ι->Prop} {Ef:ι->Env} {Lf:ι->List Item} {K:Exit->Act->World->Prop} (i:ι) (hi:I i) (hE:ESub L E (Ef i)) (hL:SubP (Lf i) L):JQ c N E L (Exit.then (Meet c N I Ef Lf) K) .normal:=fun φ a w st =>
 ⟨i,φ,hi,⟨(st.less hE (List.Sublist.refl _)).defers,(st.less hE (List.Sublist.refl _)).size,(st.less hE (List.Sublist.refl _)).env,st.mem.lessP hL⟩⟩
theorem qaa {ι:Type} {I:ι->Prop} {Ef:ι->Env} {Lf:ι->List Item} {μ:ι->Nat} {n:Nat} {K:Exit->Act->World->Prop} (i:ι) (hi:I i) (hμ:μ i<n) (hE:ESub L E (Ef i)) (hL:SubP (Lf i) L):JQ c N E L (Exit.then (Round c N I Ef Lf μ n) K) .normal:=fun φ a w st =>
 ⟨i,φ,hi,hμ,⟨(st.less hE (List.Sublist.refl _)).defers,(st.less hE (List.Sublist.refl _)).size,(st.less hE (List.Sublist.refl _)).env,st.mem.lessP hL⟩⟩
theorem St.lessP {E':Env} {L':List Item} {φ:Fz} {a:Act} {w:World} (h:St c N (look E) L φ a w) (hE:ESub L E E') (hL:SubP L' L):St c N (look E') L' φ a w:=
 ⟨h.defers,h.size,(h.less hE (List.Sublist.refl _)).env,h.mem.lessP hL⟩
theorem qbm {x:Code} {ι:Type} (I:ι->Prop) (Ef:ι->Env) (Lf:ι->List Item) (μ:ι->Nat) (i0:ι) (h0:I i0) (hE:ESub L E (Ef i0)) (hL:SubP (Lf i0) L)
  (round:∀ i,I i->JC P c N x (Ef i) (Lf i) (Exit.then (Round c N I Ef Lf μ (μ i)) Q)):JC P c N (Code.loop x) E L Q:=by
 intro φ a w st;refine wp_loop_ghost (fun n a w=>∃ i φ,I i∧μ i=n∧St c N (look (Ef i)) (Lf i) φ a w) (μ i0) ⟨i0,φ,h0,rfl,st.lessP hE hL⟩ ?_;rintro n a w ⟨i,φ,hi,rfl,st⟩;refine Code.wp_mono ?_ (round i hi φ a w st);intro e a w h;cases e with
 | normal=>obtain ⟨i',φ,hi',hlt,st⟩:=h;exact ⟨μ i',hlt,i',φ,hi',rfl,st⟩
 | exit id=>exact h
 | goto l=>exact h
 | ret=>exact h
 | panic ch=>exact h
 | outgrown=>exact h
theorem qbp {fn:Func} {ι:Type} {R:ι->VP} {L':ι->List Item} {rs:List ResultVar} {Bs:List VP} (hr:fn.results=rs.toArray) (hE:qqg P E L rs Bs) (i:ι) (hB:SubL L (qqx Bs) (R i)) (hL:SubP (L' i) L) (hD0:c.ds=[]:=by first|assumption|exact And.right (by assumption)):JQ c N E L (bodyPost P fn (qre c R L')) .ret:=by
 intro φ a w st;obtain ⟨vs,h1,h2⟩:=qi9 (A:=look E) st hE;have hlen:=h2.len;have hrun:(results fn a.tmps).run P w = .ok (if h:vs.toArray.size=1 then vs.toArray[0] else .tuple vs.toArray) w:=by
  unfold results;rw [hr,List.mapM_toArray];simp only [Sem.run_bind,Sem.run_map,Sem.run_pure]
  erw [h1]
  rfl
 refine bodyPost_ret hrun (st.defers.trans hD0) ⟨i,_,φ,rfl,hB _ _ st.mem.mem.facts ?_,st.mem.lessP hL⟩
 match Bs,vs,h2 with
 | [],[],_=>exact ⟨[],rfl,trivial⟩
 | [B],[v],h=>exact h.1
 | B::B'::Bs,v::v'::vs,h=>exact ⟨_,rfl,h⟩
end
section
variable {P:Program} {c:Ctx} {A:Nat->Option VP} {L:List Item} {d:Option Tmp} {ty:TypeId} {pos:String} {af:Array Edge} {g:Option (Nat×Bool)} {x y:Operand} {t u:TypeId}
theorem qfo {op:BinOp} {k j:IntKind} {n m:Int} {v:Value} (hx:Ev A L x (Is (.int k n))) (hy:Ev A L y (Is (.int j m))) (h:binOp op t (.int k n) (.int j m)=pure v):OpP P c ⟨d,.binOp op t x y u,ty,pos,af,g⟩ A L (Is v):=
 qhs hx hy fun w=>by rw [h,Sem.run_pure]
theorem qeg {a:BitVec 64} {j:IntKind} {m:Int} {k:Nat} (hx:Ev A L x (Iw a)) (hy:Ev A L y (Is (.int j m))) (h0:0<=m) (hk:m.toNat=k):OpP P c ⟨d,.binOp .shl t x y u,ty,pos,af,g⟩ A L (Iw (a<<<k)):=
 qmp hx hy h0 (by rw [hk,qc2];exact qyu a k)
theorem qhq {a:BitVec 64} {j:IntKind} {m:Int} {k:Nat} (hx:Ev A L x (Iw a)) (hy:Ev A L y (Is (.int j m))) (h0:0<=m) (hk:m.toNat=k):OpP P c ⟨d,.binOp .shr t x y u,ty,pos,af,g⟩ A L (Iw (a>>>k)):=
 qps hx hy h0 (by rw [hk];exact qt7 a k)
theorem qev {a:BitVec 32} {j:IntKind} {m:Int} {k:Nat} (hx:Ev A L x (Is (.int .u32 (UV a)))) (hy:Ev A L y (Is (.int j m))) (h0:0<=m) (hk:m.toNat=k):OpP P c ⟨d,.binOp .shl t x y u,ty,pos,af,g⟩ A L (Is (.int .u32 (UV (a<<<k)))):=
 qmp hx hy h0 (by rw [hk,qdx];exact qyu a k)
theorem qgo {a:BitVec 32} {j:IntKind} {m:Int} {k:Nat} (hx:Ev A L x (Is (.int .u32 (UV a)))) (hy:Ev A L y (Is (.int j m))) (h0:0<=m) (hk:m.toNat=k):OpP P c ⟨d,.binOp .shr t x y u,ty,pos,af,g⟩ A L (Is (.int .u32 (UV (a>>>k)))):=
 qps hx hy h0 (by rw [hk];exact qt7 a k)
end
theorem zd3 {P:Program} {c:Ctx} {A:Nat->Option VP} {L:List Item} {ty:TypeId} {pos:String} {af:Array Edge} {g:Option (Nat×Bool)} {t t0:TypeId} {y:Operand} {s n:Nat} {D:VP} {As Bs:List VP} (hy:Ev A L y D) (hD:qde D Bs)
  (hn:(P.info? t).map (·.size)=some n) (hB:Nat.beq Bs.length n=true) (hl:Nat.ble (0+n) As.length=true) :
  OpW P c ⟨none,.store t (.tmp s) y,ty,pos,af,g⟩ A L s (fun b:Nat=>.pointer (some ⟨b,0,none⟩)) (fun b=>blk b t0 As) (fun b=>blk b t0 (ovr As 0 Bs)):=by
 intro φ a w K Q b hm h0 he hk;have h1:a.eval (.tmp s) = .pointer (some ⟨b,0,none⟩):=h0;obtain ⟨us,h2,h3,h4⟩:=hD φ _ (he y (by simp [Op.operands]) _ hy);obtain ⟨vs,h5,h6,h7⟩:=qj2 hm (List.mem_cons_self ..);have e1:=Nat.eq_of_beq_eq_true hB;have e2:=Nat.le_of_ble_eq_true hl;have e3:=h3.len;have e4:=h6.len;have hst:=run_storeCells_at (P:=P) b 0 t0 us 0 vs.toArray w h5 (by simp;omega) h4;have hrun:(execOp a.eval ⟨none,.store t (.tmp s) y,ty,pos,af,g⟩).run P w = .ok .skip (w.setRow b (vs.take 0++us++vs.drop (0+us.length)).toArray):=by
  simp only [execOp,h1,Instr.storeAt,Instr.sureAddr,Sem.run_bind,Sem.run_pure,Result.andThen_ok,storeVar,qbd hn,h2];rw [if_neg (by simp;omega)];simp only [Nat.add_zero] at hst;rw [hst];rfl
 unfold Oper.wp;rw [hrun];have hm1:HP ⟨w,φ,qbr [blk b t0 As],[]⟩ φ [blk b t0 As] w:=HP.start ⟨hm.mem.base,fun it hi=>by rw [List.mem_singleton] at hi;subst hi;exact hm.mem.items _ (List.mem_cons_self ..),List.pairwise_singleton _ _⟩;refine hk φ undef _ (hm1.upd (Repl.head _ _ _) (qir _ _ _ _ (by simp [qbr,blk])) ?_ (fun b' hb'=>.inr hb'));refine ⟨⟨vs.take 0++us++vs.drop (0+us.length),?_,?_,?_⟩,fun b' hb'=>?_⟩
 ·simp only [blk,Option.bind_some];exact setRow_heap w b _ _ _ _ h5
 ·rw [qpp Bs As 0 om,e3];exact ((h6.take 0).append h3).append (h6.drop _)
 ·intro u hu;simp only [List.mem_append] at hu;rcases hu with (hu|hu)|hu
  ·exact h7 u (List.mem_of_mem_take hu)
  ·exact h4 u hu
  ·exact h7 u (List.mem_of_mem_drop hu)
 ·have:=(hm.mem.items _ (List.mem_cons_self ..)).2 b' hb';exact ⟨by simp [World.setRow];exact this.1,this.2⟩
def VEx {ι:Type} (R:ι->VP):VP:=⟨fun φ v=>∃ i,(R i).ok φ v,fun h ⟨i,k⟩=>⟨i,(R i).mono h k⟩⟩
theorem Fn.ex {P:Program} {f:FuncId} {As:List VP} {ι:Type} {R:ι->VP} (h:Fn P f As [] R (fun _=>[])):FnP P f As (VEx R):=by
 intro φ w vs h1 h2;refine (h φ w vs h1 h2).mono ?_;rintro e w' ⟨i,v,φ',rfl,h3,h4⟩;exact ⟨(),v,φ',rfl,⟨i,h3⟩,h4⟩
section
variable {P:Program} {c:Ctx} {N:Nat} {E:Env} {L:List Item} {Q:Exit->Act->World->Prop} {ops:Array Oper} {rest:List Oper}
theorem St.tell {φ:Fz} {a:Act} {w:World} (st:St c N (look E) L φ a w) {t:Nat} {B:VP} (h:B.ok φ (a.tmps.getD t undef)):St c N (look ((t,B)::E)) L φ a w:=
 ⟨st.defers,st.size,fun s D hD=>by
  simp only [look] at hD;cases hk:Nat.beq t s with
  | true=>rw [hk] at hD;simp only [cond_true,Option.some.injEq] at hD;subst hD;rw [<- Nat.eq_of_beq_eq_true hk];exact h
  | false=>rw [hk] at hD;exact st.env s D hD,st.mem⟩
theorem JC_ex {x:Code} {ι:Type} {R:ι->VP} (t:Nat) (hl:look E t=some (VEx R)) (h:∀ i,JC P c N x ((t,R i)::E) L Q):JC P c N x E L Q:=fun φ a w st =>
 let ⟨i,hi⟩:=st.env t _ hl
 h i φ a w (st.tell hi)
theorem qh0 {ι:Type} {R:ι->VP} (t:Nat) (hl:look E t=some (VEx R)) (h:∀ i,JL P ops Q c N rest ((t,R i)::E) L):JL P ops Q c N rest E L:=fun φ a w st =>
 let ⟨i,hi⟩:=st.env t _ hl
 h i φ a w (st.tell hi)
theorem qbl {x:Code} {A:VP} (t:Nat) (B:VP) (hl:look E t=some A) (hs:SubL L A B) (h:JC P c N x ((t,B)::E) L Q):JC P c N x E L Q:=fun φ a w st =>
 h φ a w (st.tell (hs _ _ st.mem.mem.facts (st.env t _ hl)))
theorem qln {A:VP} (t:Nat) (B:VP) (hl:look E t=some A) (hs:SubL L A B) (h:JL P ops Q c N rest ((t,B)::E) L):JL P ops Q c N rest E L:=fun φ a w st =>
 h φ a w (st.tell (hs _ _ st.mem.mem.facts (st.env t _ hl)))
end
section
variable {P:Program} {c:Ctx} {A:Nat->Option VP} {L:List Item} {d:Option Tmp} {ty:TypeId} {pos:String} {af:Array Edge} {g:Option (Nat×Bool)}
variable {α:Type} {T:Ty α} {xs ys:List α} {x y:Operand} {t u e:TypeId}
theorem qwu (hu:P.underlying t=some (.slice e)) (a:Option Addr) (n cp:Nat) (w:World):(binOp .eql t (.slice a n cp) (.slice none 0 0)).run P w = .ok (.bool a.isNone) w:=by
 have h:(Op.equalIn (9999+1) t (.slice a n cp) (.slice none 0 0)).run P w = .ok a.isNone w:=by
  unfold Op.equalIn;simp only [Sem.run_bind,run_underlying hu,Result.andThen_ok];cases a <;> rfl
 have h':(Op.equal t (.slice a n cp) (.slice none 0 0)).run P w = .ok a.isNone w:=h;simp only [binOp,Sem.run_bind,h',Result.andThen_ok,Sem.run_pure]
theorem qxn (o:BinOp) (x y:Operand) (a:Option Addr) (n cp:Nat) (v:Value) (w:World):(eqGuard o t x y (.slice a n cp) v).run P w = .ok () w:=by
 cases o <;> rfl
theorem qza (hx:Ev A L x (qad T xs)) (hu:P.underlying t=some (.slice e)):OpP P c ⟨d,.binOp .eql t x (.const (.slice none 0 0)) u,ty,pos,af,g⟩ A L (VEx fun b:{b:Bool // b=true->xs=[]}=>Ib b.1):=
 opp fun φ a w hm he=>by
  have h1:(qad T xs).ok φ (a.eval x):=he x (by simp [Op.operands]) _ hx;obtain ⟨ad,n,cp,h2,h3,h4,h5,h6⟩:=h1;have h7:a.eval (.const (.slice none 0 0)) = .slice none 0 0:=rfl;refine ⟨.bool ad.isNone,?_,⟨⟨ad.isNone,fun hb=>?_⟩,rfl⟩⟩
  ·simp only [execOp,h2,h7,Sem.run_bind,qxn,Result.andThen_ok,qwu hu,Sem.run_pure]
  ·cases ad with
   | none =>
    rcases h6 with h6|⟨b,o,h6,_⟩
    ·exact List.eq_nil_of_length_eq_zero om
    ·cases h6
   | some _=>cases hb
theorem op_max {k:IntKind} {n m:Int} (hx:Ev A L x (Is (.int k n))) (hy:Ev A L y (Is (.int k m))) {ts:Array TypeId}:OpP P c ⟨d,.call { callee:=.builtin .max,args:=#[x,y],argTypes:=ts },ty,pos,af,g⟩ A L (Is (.int k (if m>n then m else n))):=
 opp fun φ a w hm he=>by
  have h1:a.eval x = .int k n:=he x (by simp [Op.operands,Call.operands]) _ hx;have h2:a.eval y = .int k m:=he y (by simp [Op.operands,Call.operands]) _ hy;refine ⟨_,?_,rfl⟩;have h4:(#[x,y].map a.eval)=#[.int k n,.int k m]:=by simp [h1,h2]
  simp only [execOp,resolve,h4,Sem.run_bind,Sem.run_pure,Result.andThen_ok,invoke,builtin];rfl
theorem qll {size:Nat} {et:TypeId} (T:Ty α) (hu:P.underlying t=some (.slice et)) (hs:(P.info? et).map (·.size)=some size) :
  OpN P c ⟨d,.buildSlice t 0 #[],ty,pos,af,g⟩ A L (fun b:Nat=>slV 0 (some ⟨b,0,none⟩,0)) (fun b=>buf (slV 0 (some ⟨b,0,none⟩,0)) et T ([]:List α)):=by
 intro φ a w K Q hm he hk;have hrun:(execOp a.eval ⟨d,.buildSlice t 0 #[],ty,pos,af,g⟩).run P w = .ok (.value (.slice (some ⟨w.heap.size,0,none⟩) 0 0)) (w.alloc (.cells #[] et)):=by
  simp only [execOp];refine qcd ?_;simp only [Instr.buildSlice,Sem.run_bind,run_underlying hu,Result.andThen_ok,qbd hs];rw [if_neg om];simp [Instr.fill,newRow]
  congr 2
  apply Array.ext'
  simp
 unfold Oper.wp;rw [hrun];exact hk w.heap.size φ _ (qvb (b:=0) hm rfl ⟨[],by simp,trivial,qg6,.inr ⟨w.heap.size,0,#[],rfl,rfl,Nat.le_refl _,nZ _,by simp,by simp⟩⟩)
theorem ze7 {φ:Fz} {w:World} {vs rs:List Value} {As:List VP} {e:TypeId} (hm:HP c φ L w) (h:Alls φ As vs) (h1:ones vs):∃ φ',Fle φ φ'∧HP ⟨w,φ,[],[]⟩ φ' [] (w.alloc (.cells (vs++rs).toArray e))∧RefAt φ' w.heap.size 0 As:=by
 let φ':Fz:=fun b i=>if b=w.heap.size then vs[i]? else φ b i
 have hno:∀ i,φ w.heap.size i=none:=fun i=>by
  cases hφ:φ w.heap.size i with
  | none=>rfl
  | some u=>have:=qfp (hm.mem.base _ _ _ hφ);omega
 have hsame:∀ i,φ' w.heap.size i=vs[i]?:=fun i=>if_pos rfl;have hoth:∀ b i,b≠w.heap.size->φ' b i=φ b i:=fun b i h=>if_neg h;have hle:Fle φ φ':=fun b i u hu=>by
  rw [hoth b i (fun e=>by subst e;rw [hno i] at hu;cases hu)];exact hu
 refine ⟨φ',hle,⟨⟨fun b i u hu=>?_,by simp,List.Pairwise.nil⟩,qpw _ _ _,by simp [qbr],fun b i hb=>?_⟩,fun j B hB=>?_⟩
 ·by_cases hbg:b=w.heap.size
  ·subst hbg;rw [hsame] at hu;rw [cell_of_row _ _ i (vs++rs).toArray e _ (qs2 w _)];have hl:=(List.getElem?_eq_some_iff.1 hu).1;rw [List.getElem?_toArray,List.getElem?_append_left hl];exact hu
  ·rw [hoth b i hbg] at hu;have h2:=hm.mem.base b i u hu;rw [qm7 (Below.heap_alloc w _ b (qfp h2))];exact h2
 ·exact hoth b i (by have:b<w.heap.size:=hb;omega)
 ·obtain ⟨u,h2,h3⟩:=h.get hB;exact ⟨u,by rw [hsame,Nat.zero_add];exact h2,B.mono hle h3,h1 u (List.mem_of_getElem? h2)⟩
theorem quv {n size:Nat} {As:List VP} (xs:List α) (hx:Ev A L x (qem n size As)) (hs:SubLs L As (xs.flatMap T.cells)) (hn:n=xs.length) (hsz:size=T.size) (hy:Ev A L y (qad T ys)) (hT:AppT P t e T.size) (hlen:xs.length+ys.length<=1048576) :
  OpP P c ⟨d,.call { callee:=.builtin .append,args:=#[x,y],argTypes:=#[t,t] },ty,pos,af,g⟩ A L (qad T (xs++ys)):=
 opq fun φ a w hm he=>by
  obtain ⟨b,h1,h2,h3,h4⟩:(qem n size As).ok φ (a.eval x):=he x (by simp [Op.operands,Call.operands]) _ hx;obtain ⟨ad,m,cp,h5,h6⟩:(qad T ys).ok φ (a.eval y):=he y (by simp [Op.operands,Call.operands]) _ hy;obtain ⟨olds,f1,f2,f3,f4⟩:=qis h2;have f5:Alls φ (xs.flatMap T.cells) olds:=hs.alls hm.mem.facts f1;obtain ⟨news,n0,n1,n2,n3⟩:=zc9 hm.mem.base h6;obtain ⟨z,bytes,t1,t2,t3⟩:=hT.hi;obtain ⟨i,hi,hzz⟩:=Option.map_eq_some_iff.1 t1;simp only [Prod.mk.injEq] at hzz;obtain ⟨hz,hsi,hb⟩:=hzz;subst hn hsz;have hmy:m=ys.length:=h6.1;have h7:(#[x,y].map a.eval)=#[.slice (some ⟨b,0,none⟩) xs.length xs.length,.slice ad m cp]:=by simp [h1,h5]
  have hol:olds.length=xs.length*T.size:=by rw [f2,h3]
  by_cases h0:m=0
  ·have hys:ys=[]:=List.eq_nil_of_length_eq_zero om;subst hys;subst h0;refine ⟨.slice (some ⟨b,0,none⟩) xs.length xs.length,φ,w,?_,HP.start (L:=[]) ⟨hm.mem.base,by simp,List.Pairwise.nil⟩,?_⟩
   ·simp only [execOp,resolve,h7,Sem.run_bind,Sem.run_pure,Result.andThen_ok,invoke,builtin];cases ad <;> simp [Builtin.append_,run_underlying hT.ht,sizeOf,typeInfo,hi,Builtin.lenOf,Builtin.firstCells,storeCells,loadCells,loadCellsFrom]
   ·rw [List.append_nil];refine ⟨_,_,_,rfl,rfl,Nat.le_refl _,h4,.inr ⟨b,0,rfl,fun k v hk j B hB=>?_⟩⟩;obtain ⟨u,k1,k2⟩:=qny (flat:=olds) f5 hk hB;exact ⟨u,by rw [Nat.zero_add];have:=f4 _ _ k1;rw [Nat.zero_add] at this;exact this,k2,f3 u (List.mem_of_getElem? k1)⟩
  ·obtain ⟨b2,o2,rfl,n4⟩:=n3 h0;subst hmy;have hby:=Nat.mul_le_mul hlen t3;have hr:=run_append_grow (P:=P) w t ty e i z hT.ht hi hz ⟨b,0,none⟩ xs.length xs.length olds (by rw [hol,hsi])
    (fun j u hu=>by rw [qcl];exact hm.mem.base _ _ _ (f4 j u hu)) ⟨b2,o2,none⟩ ys.length cp news (by rw [n0,hsi]) (fun j u hu=>by rw [qcl];exact hm.mem.base _ _ _ (n4 j u hu)) om om
    (growslice_fits om (by rw [hb];omega))
   have hd:HP c φ L w.drew:=hm.drew;obtain ⟨φ',g1,g2,g3⟩:=ze7 (e:=e) (vs:=olds++news) (rs:=(Builtin.zeroCells z.cells (grownCap w (xs.length+ys.length) xs.length e-(xs.length+ys.length))).toList) (As:=(xs++ys).flatMap T.cells) hd (by rw [List.flatMap_append];exact f5.append n1) (fun u hu=>by
    rcases List.mem_append.1 hu with hu|hu
    ·exact f3 u hu
    ·exact n2 u hu)
   have hw:olds.toArray++news.toArray++Builtin.zeroCells z.cells (grownCap w (xs.length+ys.length) xs.length e-(xs.length+ys.length))=((olds++news)++(Builtin.zeroCells z.cells (grownCap w (xs.length+ys.length) xs.length e-(xs.length+ys.length))).toList).toArray:=by simp
   rw [hw] at hr;refine ⟨_,φ',_,?_,⟨g2.mem,⟨g2.kept.os,g2.kept.tape,g2.kept.output,g2.kept.size,g2.kept.block⟩,g2.mine,g2.old⟩,⟨some ⟨w.heap.size,0,none⟩,xs.length+ys.length,grownCap w (xs.length+ys.length) xs.length e,rfl,by simp,grownCap_ge w _ _ _,grownCap_le_maxLen w _ _ _ (by unfold maxLen;omega),.inr ⟨_,0,rfl,fun k v hk j B hB=>?_⟩⟩⟩
   ·simp only [execOp,resolve,h7,Sem.run_bind,Sem.run_pure,Result.andThen_ok,invoke,builtin,hr]
   ·have:=g3 _ B (qk5 hk hB);rw [<- Nat.add_assoc] at this;exact this
end
section
variable {P:Program} {c:Ctx} {A:Nat->Option VP} {L:List Item} {d:Option Tmp} {ty:TypeId} {pos:String} {af:Array Edge} {g:Option (Nat×Bool)}
variable {α:Type} {x y:Operand} {t e:TypeId}
end
section
variable {P:Program} {c:Ctx} {A:Nat->Option VP} {L:List Item} {d:Option Tmp} {ty:TypeId} {pos:String} {af:Array Edge} {g:Option (Nat×Bool)}
variable {x y:Operand} {t e:TypeId}
theorem qah {b o len sz k:Nat} {j:Int} {q:IntKind} (hx:Ev A L x (Is (.pointer (some ⟨b,o,none⟩)))) (hy:Ev A L y (Is (.int q j))) (hu:P.underlying t=some (.array len e)) (hs:(P.info? e).map (·.size)=some sz) (hj:j=k) (hk:k<len) :
  OpP P c ⟨d,.indexAddr t x y,ty,pos,af,g⟩ A L (Is (.pointer (some ⟨b,o+k*sz,none⟩))):=
 opp fun φ a w hm he=>by
  have h1:a.eval x = .pointer (some ⟨b,o,none⟩):=he x (by simp [Op.operands]) _ hx;have h6:a.eval y = .int q j:=he y (by simp [Op.operands]) _ hy;refine ⟨_,?_,rfl⟩;have h7:(0:Int)<=j∧j<(len:Int):=om;have h8:j.toNat=k:=om;simp only [execOp,h1,h6];refine qcd ?_;simp only [Instr.indexAt,asIntOf,Sem.run_bind,Sem.run_pure,Result.andThen_ok,run_underlying hu,Instr.sureAddr,h7,and_self,if_true,qbd hs,h8,qcl]
theorem HP.freezeB {φ:Fz} {w:World} {b:Nat} {t:TypeId} {As:List VP} {L':List Item} {p0:Prop} (hX:c.X=[]∧p0) (hm:HP c φ L w) (hr:Repl L (blk b t As) (fact (.pointer (some ⟨b,0,none⟩)) (IsRef As)) L'):∃ φ',Fle φ φ'∧HP c φ' L' w:=by
 obtain ⟨vs,e1,f1,f2⟩:=qj2 hm hr.mem;have hit:=hm.mem.items _ hr.mem;have hown:∀ i,φ b i=none:=fun i=>(hit.2 b rfl).2 i
 let φ':Fz:=fun b' i=>if b'=b then vs[i]? else φ b' i
 have hsame:∀ i,φ' b i=vs[i]?:=fun i=>if_pos rfl;have hoth:∀ b' i,b'≠b->φ' b' i=φ b' i:=fun b' i h=>if_neg h;have hle:Fle φ φ':=fun b' i u hu=>by
  rw [hoth b' i (fun e=>by subst e;rw [hown i] at hu;cases hu)];exact hu
 have hg0:c.w.heap.size<=b:=(hm.mine b (mem_names.2 ⟨_,hr.mem,rfl⟩)).resolve_right (by rw [hX.1];simp);refine ⟨φ',hle,⟨⟨fun b' i u hu=>?_,fun x hx=>?_,hr.sep hm.mem.sep fun x hx _ _=>⟨fun b _ (hb:none=some b)=>(nomatch hb),fun b (hb:none=some b)=>(nomatch hb)⟩⟩,hm.kept,fun b' hb=>?_,fun b' i hb=>?_⟩⟩
 ·by_cases hbg:b'=b
  ·subst hbg;rw [hsame] at hu;rw [qic e1];exact hu
  ·rw [hoth b' i hbg] at hu;exact hm.mem.base b' i u hu
 ·rcases hr.mem' hx with rfl|⟨hx',hap⟩
  ·refine ⟨⟨b,0,rfl,fun j B hB=>?_⟩,fun b (hb:none=some b)=>(nomatch hb)⟩;obtain ⟨u,h1,h2⟩:=f1.get hB;exact ⟨u,by rw [hsame,Nat.zero_add];exact h1,B.mono hle h2,f2 u (List.mem_of_getElem? h1)⟩
  ·obtain ⟨h1,h2⟩:=hm.mem.items x hx';refine ⟨x.mono hle h1,fun b' hb=>⟨(h2 b' hb).1,fun i=>?_⟩⟩;rw [hoth b' i (fun e=>(hap hm.mem.sep).1 b' hb (by rw [e];rfl))]
   exact (h2 b' hb).2 i
 ·obtain ⟨x,hx,hxb⟩:=mem_names.1 hb;rcases hr.mem' hx with rfl|⟨hx',_⟩
  ·cases hxb
  ·exact hm.mine b' (mem_names.2 ⟨x,hx',hxb⟩)
 ·rw [hoth b' i om];exact hm.old b' i hb
variable {Q:Exit->Act->World->Prop} {N:Nat} {ops:Array Oper} {rest:List Oper} {E:Env} {b:Nat} {As:List VP} {L':List Item}
theorem qec {x:Code} {p0:Prop} (hX:c.X=[]∧p0) (hr:Repl L (blk b t As) (fact (.pointer (some ⟨b,0,none⟩)) (IsRef As)) L') (h:JC P c N x E L' Q):JC P c N x E L Q:=fun φ a w st =>
 let ⟨φ',h1,h2⟩:=HP.freezeB hX st.mem hr
 h φ' a w ⟨st.defers,st.size,fun t B hB=>B.mono h1 (st.env t B hB),h2⟩
end
def IsFn (f:FuncId) (Cs:List VP):VP:=⟨fun φ v=>∃ cs:List Value,v = .func (.func f) #[] cs.toArray∧Alls φ Cs cs,fun h ⟨cs,e,k⟩=>⟨cs,e,k.mono h⟩⟩
section
variable {P:Program} {c:Ctx} {A:Nat->Option VP} {L:List Item} {d:Option Tmp} {ty:TypeId} {pos:String} {af:Array Edge} {g:Option (Nat×Bool)}
theorem zec {f:FuncId} {x:Operand} {xs:List Operand} {ts:Array TypeId} {As Cs:List VP} {R:VP} (hx:Ev A L x (IsFn f Cs)) (hc:∀ (args:Array Value) (w:World),(callFunc f args).run P w = .ok (.enter f args) w)
  (hF:FnP P f (As++Cs) R) (ha:ArgsE A L xs As):OpP P c ⟨d,.call { callee:=.value x,args:=xs.toArray,argTypes:=ts },ty,pos,af,g⟩ A L R:=by
 intro φ a w K Q hm he hk;obtain ⟨cap,h1,h2⟩:(IsFn f Cs).ok φ (a.eval x):=he x (by simp [Op.operands,Call.operands]) _ hx;have hv:=ha.alls (φ:=φ) (a:=a) fun x hx=>he x (by simp [Op.operands,Call.operands,hx]);have hrun:(execOp a.eval ⟨d,.call { callee:=.value x,args:=xs.toArray,argTypes:=ts },ty,pos,af,g⟩).run P w = .ok (.enter f (xs.map a.eval++cap).toArray) w:=by
  simp only [execOp,resolve,h1,Deferred.ofValue,Sem.run_bind,Sem.run_pure,Result.andThen_ok,invoke,hc];simp
 unfold Oper.wp;rw [hrun];refine (hF φ w _ (hv.append h2) ⟨hm.mem.base,by simp,List.Pairwise.nil⟩).mono ?_;rintro e w' ⟨i,v,φ',rfl,h1,h2⟩;exact hk φ' v w' (by simpa [qbr] using h2) h1
theorem qw7 {f:FuncId} {xs:List Operand} {Cs:List VP} (ha:ArgsE A L xs Cs):OpP P c ⟨d,.makeFunc (.func f) #[] xs.toArray,ty,pos,af,g⟩ A L (IsFn f Cs):=
 opp fun φ a w hm he=>by
  have hv:=ha.alls (φ:=φ) (a:=a) fun x hx=>he x (by simp [Op.operands,hx]);exact ⟨_,by simp only [execOp];exact qcd (by simp [Instr.makeFunc];rfl),⟨xs.map a.eval,by simp,hv⟩⟩
end
section
variable {P:Program} {c:Ctx} {A:Nat->Option VP} {L:List Item} {d:Option Tmp} {ty:TypeId} {pos:String} {af:Array Edge} {g:Option (Nat×Bool)}
variable {α:Type} {T:Ty α}
theorem qgd (xs:List α) {x y:Operand} {t e:TypeId} {n j:Nat} {i:Int} {k:IntKind} {z:α} {As:List VP} (hx:Ev A L x (IsRef As)) (hy:Ev A L y (Is (.int k i))) (hu:P.underlying t=some (.array n e)) (hs:(P.info? e).map (·.size)=some T.size) (hn:xs.length=n) (h:SubLs L (As.take (n*T.size)) (xs.flatMap T.cells)) (hi:i=j) (hz:xs[j]?=some z) :
  OpP P c ⟨d,.indexAddr t x y,ty,pos,af,g⟩ A L (IsRef (T.cells z)):=by
 intro φ a w K Q hh he hk;obtain ⟨b,o,h1,h2⟩:(IsRef As).ok φ (a.eval x):=he x (by simp [Op.operands]) _ hx;have h6:a.eval y = .int k i:=he y (by simp [Op.operands]) _ hy;have hlt:j<xs.length:=(List.getElem?_eq_some_iff.1 hz).1;have hrun:(execOp a.eval ⟨d,.indexAddr t x y,ty,pos,af,g⟩).run P w = .ok (.value (.pointer (some ⟨b,o+j*T.size,none⟩))) w:=by
  have h7:(0:Int)<=i∧i<(n:Int):=om;have h8:i.toNat=j:=om;simp only [execOp,h1,h6];refine qcd ?_;simp only [Instr.indexAt,asIntOf,Sem.run_bind,Sem.run_pure,Result.andThen_ok,run_underlying hu,h7,and_self,if_true,qbd hs,h8,qcl,Instr.sureAddr]
 unfold Oper.wp;rw [hrun];refine hk φ _ w hh.idle ⟨b,_,rfl,fun q B hB=>?_⟩;obtain ⟨D,h3,h4⟩:=qme (Bs:=[]) h (qk5 hz hB);have h5:As[j*T.size+q]?=some D:=by
  rw [List.getElem?_take] at h3;split at h3
  ·exact h3
  ·cases h3
 obtain ⟨u,h6,h7,h8⟩:=h2 _ D h5;exact ⟨u,by rw [Nat.add_assoc];exact h6,h4 φ u hh.mem.facts h7,h8⟩
end
inductive LendL:List Item->List Item->Prop
 | nil:LendL [] []
 | keep (it:Item) {L L':List Item} (h:LendL L L'):LendL (it::L) (it::L')
 | buf {α:Type} {v:Value} {e:TypeId} {T:Ty α} {xs:List α} {L L':List Item} (h:LendL L L'):LendL (buf v e T xs::L) (fact v (qad T xs)::L')
 | blk {b:Nat} {t:TypeId} {As:List VP} {L L':List Item} (h:LendL L L'):LendL (blk b t As::L) (fact (.pointer (some ⟨b,0,none⟩)) (IsRef As)::L')
theorem Repl.mid (it it':Item) (L:List Item):∀ M:List Item,Repl (M++it::L) it it' (M++it'::L)
 | []=>.head it it' L
 | x::M=>.tail x (Repl.mid it it' L M)
theorem Mem.ctx {φ:Fz} {L:List Item} {w:World} (hm:Mem φ L w):HP ⟨{ w with heap:=#[] },φ,[],[]⟩ φ L w:=
 ⟨hm,⟨rfl,rfl,rfl,nZ _,fun k hk=>absurd hk (by simp)⟩,fun b _=>.inl (nZ _),fun _ _ _=>rfl⟩
theorem LendL.mem {L L':List Item} (h:LendL L L'):∀ (M:List Item) (φ:Fz) (w:World),Mem φ (M++L) w->∃ φ',Fle φ φ'∧Mem φ' (M++L') w:=by
 induction h with
 | nil=>exact fun M φ w hm=>⟨φ,Fle.rfl',hm⟩
 | keep it h ih =>
  intro M φ w hm;obtain ⟨φ',h1,h2⟩:=ih (M++[it]) φ w (by simpa using hm);exact ⟨φ',h1,by simpa using h2⟩
 | @buf α v e T xs L L' h ih =>
  intro M φ w hm;obtain ⟨φ1,h1,h2⟩:=HP.freeze (c:=⟨{ w with heap:=#[] },φ,[],[]⟩) ⟨rfl,trivial⟩ hm.ctx (Repl.mid (Go.Proofs.YteafmggidjjdgaaGreatDoor.buf v e T xs) (fact v (qad T xs)) L M);obtain ⟨φ',h3,h4⟩:=ih (M++[fact v (qad T xs)]) φ1 w (by simpa using h2.mem);exact ⟨φ',h1.tr h3,by simpa using h4⟩
 | @blk b t As L L' h ih =>
  intro M φ w hm;obtain ⟨φ1,h1,h2⟩:=HP.freezeB (c:=⟨{ w with heap:=#[] },φ,[],[]⟩) ⟨rfl,trivial⟩ hm.ctx (Repl.mid (Go.Proofs.YteafmggidjjdgaaGreatDoor.blk b t As) (fact (.pointer (some ⟨b,0,none⟩)) (IsRef As)) L M);obtain ⟨φ',h3,h4⟩:=ih (M++[fact (.pointer (some ⟨b,0,none⟩)) (IsRef As)]) φ1 w (by simpa using h2.mem);exact ⟨φ',h1.tr h3,by simpa using h4⟩
def qnd (R:VP):Prop:=∀ φ φ' v,R.ok φ v->R.ok φ' v
theorem qcp {u:Value}:qnd (Is u):=fun _ _ _ h=>h
def PureVs:List VP->Prop
 | []=>True
 | A::As=>qnd A∧PureVs As
theorem PureVs.alls {φ φ':Fz}:∀ {As:List VP} {vs:List Value},PureVs As->Alls φ As vs->Alls φ' As vs
 | [],[],_,_=>trivial
 | A::As,v::vs,⟨h1,h2⟩,⟨h3,h4⟩=>⟨h1 _ _ _ h3,h2.alls h4⟩
theorem pure_tup {As:List VP} (h:PureVs As):qnd (qbs As):=fun _ _ _ ⟨vs,e,k⟩=>⟨vs,e,h.alls k⟩
theorem pure_agg {As:List VP} (h:PureVs As):qnd (IsAgg As):=fun _ _ _ ⟨vs,e,k,o⟩=>⟨vs,e,h.alls k,o⟩
theorem pure_ex {ι:Type} {R:ι->VP} (h:∀ i,qnd (R i)):qnd (VEx R):=fun _ _ _ ⟨i,k⟩=>⟨i,h i _ _ _ k⟩
section
variable {P:Program} {c:Ctx} {A:Nat->Option VP} {L:List Item} {d:Option Tmp} {ty:TypeId} {pos:String} {af:Array Edge} {g:Option (Nat×Bool)}
theorem qdz {f:FuncId} {xs:List Operand} {ts:Array TypeId} {As:List VP} {R:VP} {L':List Item} (hL:LendL L L') (hc:∀ (args:Array Value) (w:World),(callFunc f args).run P w = .ok (.enter f args) w)
  (hF:FnP P f As R) (ha:ArgsE A L' xs As) (hR:qnd R):OpP P c ⟨d,.call { callee:=.value (.func f),args:=xs.toArray,argTypes:=ts },ty,pos,af,g⟩ A L R:=by
 intro φ a w K Q hm he hk;obtain ⟨φ1,hle,hm1⟩:=hL.mem [] φ w hm.mem;rw [List.nil_append] at hm1;have hv:=ha.alls (φ:=φ1) (a:=a) fun x hx B hB=>by
  obtain ⟨D,h1,h2⟩:=hB;exact h2 φ1 _ hm1.facts (D.mono hle (he x (by simp [Op.operands,Call.operands,hx]) D (.rfl' h1)))
 unfold Oper.wp;rw [qeu hc];refine (hF φ1 w _ hv ⟨hm1.base,by simp,List.Pairwise.nil⟩).mono ?_;rintro e w' ⟨i,v,φ',rfl,h1,h2⟩;have hk2:Kpt [] w w':=by have:=h2.kept;simpa [qbr] using this
 refine hk (fun b i=>if b<w.heap.size then φ b i else φ' b i) v w' ⟨⟨fun b i u hu=>?_,by simp,List.Pairwise.nil⟩,hk2,by simp [qbr],fun b i hb=>if_pos hb⟩ (hR _ _ _ h1);split at hu
 ·rename_i hb;exact h2.mem.base b i u (by rw [h2.old b i hb];exact hle _ _ _ hu)
 ·exact h2.mem.base b i u hu
end
section
variable {P:Program} {c:Ctx} {A:Nat->Option VP} {L:List Item} {d:Option Tmp} {ty:TypeId} {pos:String} {af:Array Edge} {g:Option (Nat×Bool)}
variable {α:Type} {T:Ty α}
theorem qli {w:World} {b o m size:Nat} {vs:List Value} {n cp:Nat} (hl:vs.length=m*size) (h:∀ j v,vs[j]?=some v->w.cell? ⟨b,o+j,none⟩=some v):(Builtin.firstCells size m (.slice (some ⟨b,o,none⟩) n cp)).run P w = .ok vs.toArray w:=by
 simp only [Builtin.firstCells,loadCells];rw [<- hl,qga vs 0 #[] (fun j v hj=>by rw [Nat.zero_add];exact h j v hj)]
 simp
theorem qhx {xs:List α}:∀ m:Nat,(xs.take m).flatMap T.cells=(xs.flatMap T.cells).take (m*T.size):=by
 induction xs with
 | nil=>intro m;simp
 | cons x xs ih =>
  intro m;cases m with
  | zero=>simp
  | succ m =>
   rw [List.take_succ_cons,List.flatMap_cons,List.flatMap_cons,ih,List.take_append,T.len x,List.take_of_length_le (l:=T.cells x) (by rw [T.len];rw [Nat.add_mul];omega)]
   congr 2;rw [Nat.add_mul];omega
end
section
variable {P:Program} {c:Ctx} {A:Nat->Option VP} {L:List Item} {d:Option Tmp} {ty:TypeId} {pos:String} {af:Array Edge} {g:Option (Nat×Bool)}
theorem qcc {t:TypeId} {z:Value} {Rs:List VP} (hz:(P.info? t).map (·.zero)=some (some z)) (hR:(qen z).map Is=Rs) (h1:((qen z).all Value.oneCell')=true):OpN P c ⟨d,.alloc t,ty,pos,af,g⟩ A L (fun b:Nat=>.pointer (some ⟨b,0,none⟩)) (fun b=>blk b t Rs):=by
 subst hR;exact op_alloc hz h1
theorem qdf {t t0:TypeId} {x y:Operand} {b o n:Nat} {D:VP} {As Bs Rs:List VP} {L':List Item} (hx:Ev A L x (Is (.pointer (some ⟨b,o,none⟩)))) (hy:Ev A L y D) (hD:qde D Bs) (hr:Repl L (blk b t0 As) (blk b t0 Rs) L')
  (hR:ovr As o Bs=Rs) (hn:(P.info? t).map (·.size)=some n) (hB:Nat.beq Bs.length n=true) (hl:Nat.ble (o+n) As.length=true):OpS P c ⟨d,.store t x y,ty,pos,af,g⟩ A L (fun _:Unit=>Is undef) (fun _=>L'):=by
 subst hR;exact qat hx hy hD hr hn hB hl
theorem qa3 {t t0:TypeId} {x:Operand} {b o n:Nat} {As Rs:List VP} {D:TypeDesc} (hx:Ev A L x (Is (.pointer (some ⟨b,o,none⟩)))) (hL:blk b t0 As∈L) (hu:P.underlying t=some D) (hD:qqs D=true) (hn:(P.info? t).map (·.size)=some n) (hl:Nat.ble (o+n) As.length=true) (hR:(As.drop o).take n=Rs) :
  OpP P c ⟨d,.load t x,ty,pos,af,g⟩ A L (IsAgg Rs):=by
 subst hR;exact qw9 hx hL hu hD hn hl
theorem qa6 {t:TypeId} {x:Operand} {As Rs:List VP} {n:Nat} {D:TypeDesc} (hx:Ev A L x (IsRef As)) (hu:P.underlying t=some D) (hD:qqs D=true) (hn:(P.info? t).map (·.size)=some n) (hl:Nat.ble n As.length=true) (hR:As.take n=Rs):OpP P c ⟨d,.load t x,ty,pos,af,g⟩ A L (IsAgg Rs):=by
 subst hR;exact qw8 hx hu hD hn hl
theorem qa0 {s:TypeId} {x:Operand} {i n k:Nat} {As Rs:List VP} {fs:Array Field} {f:Field} (hx:Ev A L x (IsRef As)) (hu:P.underlying s=some (.struct fs)) (hf:fs[i]?=some f) (hn:(P.info? f.type).map (·.size)=some (n+1)) (hk:f.offset=k) (hR:As.drop k=Rs) :
  OpP P c ⟨d,.fieldAddr s x i,ty,pos,af,g⟩ A L (IsRef Rs):=by
 subst hR;exact qxa hx hu hf hn hk
theorem qix {t:TypeId} {ps:Array (Nat×Operand)} {fs:List Field} {zs:List Value} {pl:List (Nat×Nat)} {qs:List (Nat×List VP)} {Rs0 Rs:List VP} (hu:P.underlying t=some (.struct fs.toArray)) (hz:(P.info? t).map (·.zero)=some (some (.agg zs.toArray))) (h1:(zs.all Value.oneCell')=true)
  (hpl:qjz P fs=some pl) (hq:PartsE A L ps.toList qs) (hf:qlz (fun i=>pl[i]?) (zs.map Is) qs=some Rs0) (hR:Rs0=Rs):OpP P c ⟨d,.build t ps,ty,pos,af,g⟩ A L (IsAgg Rs):=by
 subst hR;exact op_build hu hz h1 hpl hq hf
theorem qhg {t t0:TypeId} {y:Operand} {s n:Nat} {D:VP} {As Bs Rs:List VP} (hy:Ev A L y D) (hD:qde D Bs) (hn:(P.info? t).map (·.size)=some n) (hB:Nat.beq Bs.length n=true) (hl:Nat.ble (0+n) As.length=true) (hR:ovr As 0 Bs=Rs) :
  OpW P c ⟨none,.store t (.tmp s) y,ty,pos,af,g⟩ A L s (fun b:Nat=>.pointer (some ⟨b,0,none⟩)) (fun b=>blk b t0 As) (fun b=>blk b t0 Rs):=by
 subst hR;exact zd3 hy hD hn hB hl
theorem quj {t t0:TypeId} {x y:Operand} {b o n:Nat} {D:VP} {As Bs Rs:List VP} {L':List Item} (hx:Ev A L x (Is (.pointer (some ⟨b,o,none⟩)))) (hy:Ev A L y D) (hD:qde D Bs) (hr:Repl L (blk b t0 As) (blk b t0 Rs) L')
  (hR:ovr As o Bs=Rs) (hn:(P.info? t).map (·.size)=some n) (hB:Nat.beq Bs.length n=true) (hl:o+n<=As.length):OpS P c ⟨d,.store t x y,ty,pos,af,g⟩ A L (fun _:Unit=>Is undef) (fun _=>L'):=by
 subst hR;exact qat hx hy hD hr hn hB (Nat.ble_eq_true_of_le hl)
theorem qfn {t t0:TypeId} {x:Operand} {b o:Nat} {As:List VP} {B:VP} {D:TypeDesc} (hx:Ev A L x (Is (.pointer (some ⟨b,o,none⟩)))) (hL:blk b t0 As∈L) (hu:P.underlying t=some D) (hD:qqs D=false) (h0:As[o]?=some B):OpP P c ⟨d,.load t x,ty,pos,af,g⟩ A L B:=qc8 hx hL hu hD h0
theorem Repl.same {L L':List Item} {it it':Item} (h:Repl L it it' L'):it=it'->L'=L:=by
 induction h with
 | head a b L=>rintro rfl;rfl
 | tail x h ih=>intro e;rw [ih e]
theorem qjl {Q:Exit->Act->World->Prop} {N:Nat} {E:Env} {b:Nat} {t:TypeId} {As As':List VP} {L':List Item} {x:Code} (hr:Repl L (blk b t As) (blk b t As') L') (h:As=As') (k:JC P c N x E L' Q):JC P c N x E L Q:=by
 subst h;rw [hr.same rfl] at k;exact k
end
section
variable {P:Program} {c:Ctx} {A:Nat->Option VP} {L:List Item} {d:Option Tmp} {ty:TypeId} {pos:String} {af:Array Edge} {g:Option (Nat×Bool)}
variable {α:Type} {T:Ty α} {xs ys:List α}
theorem qnq {s:Tmp} {y:Operand} {t e:TypeId} (hy:Ev A L y (qad T ys)) (hT:AppT P t e T.size) (hlen:xs.length+ys.length<=1048576) :
  OpT P c ⟨d,.call { callee:=.builtin .append,args:=#[.tmp s,y],argTypes:=#[t,t] },ty,pos,af,g⟩ A L s (slV xs.length) (fun i=>buf (slV xs.length i) e T xs) (slV (xs++ys).length) (fun i=>buf (slV (xs++ys).length i) e T (xs++ys)):=by
 intro φ a w K Q i0 hm h1 he hk;have h2:(qad T ys).ok φ (a.eval y):=he y (by simp [Op.operands,Call.operands]) _ hy;have hit:=hm.mem.items _ (List.mem_cons_self ..);obtain ⟨flat,f1,f2,f3⟩:=qha hit;obtain ⟨i,w',flat',r1,r2,r3,r4,r5,r6⟩:=qow (x:=.tmp s) (d:=d) (ty:=ty) (pos:=pos) (af:=af) (g:=g) hT hm.mem.base h1 f3 f1 f2 h2 hlen;unfold Oper.wp;rw [r1];have hm1:HP ⟨w,φ,qbr [buf (slV xs.length i0) e T xs],[]⟩ φ [buf (slV xs.length i0) e T xs] w:=HP.start ⟨hm.mem.base,fun it hi=>by rw [List.mem_singleton] at hi;subst hi;exact hit,List.pairwise_singleton _ _⟩;exact hk i φ w' (qvc (L:=[]) hm1 r2 r3 r4 r5 r6)
theorem zee {x y:Operand} {i0:Option Addr×Nat} {t e:TypeId} (hx:Ev A L x (Is (slV xs.length i0))) (hy:Ev A L y (qad T ys)) (hT:AppT P t e T.size) (hlen:xs.length+ys.length<=1048576) :
  ∀ φ a w K Q,HP c φ (buf (slV xs.length i0) e T xs::L) w->(∀ z,z∈(Op.call { callee:=.builtin .append,args:=#[x,y],argTypes:=#[t,t] }).operands->∀ B,Ev A L z B->B.ok φ (a.eval z)) ->
   (∀ i' φ' w',HP ⟨w,φ,qbr [buf (slV xs.length i0) e T xs],[]⟩ φ' [buf (slV (xs++ys).length i') e T (xs++ys)] w'->K (a.put d (slV (xs++ys).length i')) w')->(⟨d,.call { callee:=.builtin .append,args:=#[x,y],argTypes:=#[t,t] },ty,pos,af,g⟩:Oper).wp P a w K Q:=by
 intro φ a w K Q hm he hk;have h1:a.eval x=slV xs.length i0:=he x (by simp [Op.operands,Call.operands]) _ hx;have h2:(qad T ys).ok φ (a.eval y):=he y (by simp [Op.operands,Call.operands]) _ hy;have hit:=hm.mem.items _ (List.mem_cons_self ..);obtain ⟨flat,f1,f2,f3⟩:=qha hit;obtain ⟨i,w',flat',r1,r2,r3,r4,r5,r6⟩:=qow (x:=x) (d:=d) (ty:=ty) (pos:=pos) (af:=af) (g:=g) hT hm.mem.base h1 f3 f1 f2 h2 hlen;unfold Oper.wp;rw [r1];have hm1:HP ⟨w,φ,qbr [buf (slV xs.length i0) e T xs],[]⟩ φ [buf (slV xs.length i0) e T xs] w:=HP.start ⟨hm.mem.base,fun it hi=>by rw [List.mem_singleton] at hi;subst hi;exact hit,List.pairwise_singleton _ _⟩;exact hk i φ w' (qvc (L:=[]) hm1 r2 r3 r4 r5 r6)
end
def WF (r:Option Nat):Fence:={ Fence.wide with round:=r }
section
variable {P:Program} {r:Option Nat} {n:Nat}
theorem WF.deep:(WF r).depth.isSome=true->1<=n:=fun h=>by simp [WF,Fence.wide] at h
variable {c:Ctx} {N:Nat} {E:Env} {L:List Item} {Q:Exit->Act->World->Prop}
end
section
variable {P:Program} {r:Option Nat} {n:Nat} {c:Ctx} {N:Nat} {E:Env} {L:List Item} {Q:Exit->Act->World->Prop} {ops:Array Oper} {rest:List Oper}
variable {d:Option Tmp} {ty:TypeId} {pos:String} {af:Array Edge} {t:Tmp} {op:Op}
end
def fresh (B:Nat) (φ:Fz):Fz:=fun b i=>if B<=b then φ b i else none
theorem qzz (B:Nat) (φ:Fz):Fle (fresh B φ) φ:=fun b i v e=>by
 unfold fresh at e;split at e
 ·exact e
 ·cases e
theorem zbi {B:Nat} {φ φ':Fz} (h:Fle φ φ'):Fle (fresh B φ) (fresh B φ'):=fun b i v e=>by
 unfold fresh at e ⊢;split at e
 ·rename_i hb;rw [if_pos hb];exact h _ _ _ e
 ·cases e
theorem qvf {B B':Nat} {φ:Fz} (h:B'<=B):Fle (fresh B φ) (fresh B' φ):=fun b i v e=>by
 unfold fresh at e ⊢;split at e
 ·rename_i hb;rw [if_pos (nT h hb)];exact e
 ·cases e
def qa9 (B:Nat) (A:VP):VP:=⟨fun φ v=>A.ok (fresh B φ) v,fun h k=>A.mono (zbi h) k⟩
theorem SubL.fresh {L:List Item} {B:Nat} {A:VP}:SubL L (qa9 B A) A:=fun φ v _ h=>A.mono (qzz B φ) h
def qkj (R:Nat->VP):Prop:=∀ B B' φ φ' v,B'<=B->Fle (fresh B φ) (fresh B' φ')->(R B).ok φ v->(R B').ok φ' v
theorem qa4 {A:VP} (h:qnd A):qkj fun _=>A:=fun _ _ _ _ _ _ _ k=>h _ _ _ k
theorem qer {A:VP}:qkj fun B=>qa9 B A:=fun B B' φ φ' v hB h k=>A.mono h k
def FreshRs:List (Nat->VP)->Prop
 | []=>True
 | R::Rs=>qkj R∧FreshRs Rs
theorem FreshRs.alls {B B':Nat} {φ φ':Fz} (hB:B'<=B) (h:Fle (fresh B φ) (fresh B' φ')):∀ {Rs:List (Nat->VP)} {vs:List Value},FreshRs Rs->Alls φ (Rs.map fun R=>R B) vs->Alls φ' (Rs.map fun R=>R B') vs
 | [],[],_,_=>trivial
 | R::Rs,v::vs,⟨h1,h2⟩,⟨h3,h4⟩=>⟨h1 _ _ _ _ _ hB h h3,FreshRs.alls hB h h2 h4⟩
theorem qk3 (Rs:List (Nat->VP)) (h:FreshRs Rs):qkj fun B=>IsAgg (Rs.map fun R=>R B):=fun B B' φ φ' v hB hl ⟨vs,e,k,o⟩=>⟨vs,e,h.alls hB hl k,o⟩
section
variable {P:Program} {c:Ctx} {A:Nat->Option VP} {L:List Item} {d:Option Tmp} {ty:TypeId} {pos:String} {af:Array Edge} {g:Option (Nat×Bool)}
def FnF (P:Program) (f:FuncId) (As:List VP) (R:Nat->VP):Prop:=
 ∀ φ w vs,Alls φ As vs->Mem φ [] w->Calls P f vs.toArray w fun e w'=>∃ v φ',e = .returned v∧(R w.heap.size).ok φ' v∧HP ⟨w,φ,[],[]⟩ φ' [] w'
theorem FnF.toP {f:FuncId} {As:List VP} {R:Nat->VP} {R':VP} (h:FnF P f As R) (hs:∀ B φ v,(R B).ok φ v->R'.ok φ v):FnP P f As R':=fun φ w vs ha hm =>
 (h φ w vs ha hm).mono fun e w' ⟨v,φ',h1,h2,h3⟩=>⟨(),v,φ',h1,hs _ _ _ h2,by simpa [qbr] using h3⟩
theorem Fn.toF {α:Type} {T:Ty α} {xs:List α} {n:Nat} {e:TypeId} {f:FuncId} {As:List VP} {R:Nat->VP} {R0:Option Addr×Nat->VP} (h:Fn P f As [] R0 (fun i:Option Addr×Nat=>[buf (slV n i) e T xs])) (hT:∀ x,PureVs (T.cells x))
  (hR:∀ i B φ v,(qa9 B (qad T xs)).ok φ (slV n i)->(R0 i).ok φ v->(R B).ok φ v):FnF P f As R:=fun φ w vs ha hm=>by
 refine (h φ w vs ha hm).mono ?_;rintro e' w' ⟨i,v,φ',h1,h2,h3⟩;have h3':HP ⟨w,φ,[],[]⟩ φ' [buf (slV n i) e T xs] w':=by simpa [qbr] using h3
 have hit:=h3'.mem.items _ (List.mem_cons_self ..);obtain ⟨flat,f1,f2,f3⟩:=qha hit;have alls_pure:∀ (ys:List α) (us:List Value) (ψ ψ':Fz),Alls ψ (ys.flatMap T.cells) us->Alls ψ' (ys.flatMap T.cells) us:=fun ys=>by
  induction ys with
  | nil =>
   intro us ψ ψ' hh
   match us,hh with
   | [],_=>trivial
  | cons y ys ih =>
   intro us ψ ψ' hh;rw [List.flatMap_cons] at hh ⊢;have hl:(T.cells y).length=T.size:=T.len y;have hlen:=hh.len;have e1:=hh.take T.size;have e2:=hh.drop T.size;rw [<- hl,List.take_left] at e1;rw [<- hl,List.drop_left] at e2;have e3:=(hT y).alls (φ':=ψ') e1;have e4:=ih _ ψ ψ' e2;have:=e3.append e4
   rwa [List.take_append_drop] at this
 rcases f3.2 with ⟨h0,hn⟩|⟨gg,cap,cur,h0,_,e1,e2,e3,e4,e5⟩
 ·have hxs:xs=[]:=List.eq_nil_of_length_eq_zero hn;refine ⟨v,φ',h1,hR i _ φ' v ?_ h2,h3'.lessP (SubP.nil _)⟩;subst hxs;rw [h0];exact ⟨none,0,0,rfl,rfl,Nat.le_refl _,nZ _,.inl rfl⟩
 ·obtain ⟨φ2,k1,k2⟩:=h3'.freeze (p0:=True) ⟨rfl,trivial⟩ (Repl.head _ (fact (slV n i) (qad T xs)) _);have hgg:w.heap.size<=gg:=by
   have:=h3'.mine gg (mem_names.2 ⟨_,List.mem_cons_self ..,by show (slV n i).ownBlock=some gg;rw [h0];rfl⟩);exact this.resolve_right (by simp)
  have hk3:=k2.mem.items _ (List.mem_cons_self ..);obtain ⟨a,m,cp,q1,q2,q3,q4,q5⟩:(qad T xs).ok φ2 (slV n i):=hk3.1;refine ⟨v,φ2,h1,hR i _ φ2 v ?_ ((R0 i).mono k1 h2),k2.lessP (SubP.nil _)⟩;refine ⟨a,m,cp,q1,q2,q3,q4,?_⟩;rcases q5 with q5|⟨b,o,q5,q6⟩
  ·exact .inl q5
  ·have hb:b=gg:=by
    rw [h0,q5] at q1;injection q1 with q1 _ _
    injection q1 with q1
    injection q1 with q1 _ _
    exact q1.symm
   refine .inr ⟨b,o,q5,fun k x hx j B hB=>?_⟩;obtain ⟨u,r1,r2,r3⟩:=q6 k x hx j B hB;refine ⟨u,?_,?_,r3⟩
   ·unfold fresh;rw [if_pos (by rw [hb];exact hgg)];exact r1
   ·have hp:∀ (Bs:List VP) (j:Nat) (D:VP),PureVs Bs->Bs[j]?=some D->qnd D:=fun Bs=>by
     induction Bs with
     | nil=>intro j D _ hj;simp at hj
     | cons E Es ih =>
      intro j D ⟨p1,p2⟩ hj;cases j with
      | zero=>simp at hj;subst hj;exact p1
      | succ j=>exact ih j D p2 (by simpa using hj)
    exact hp _ _ _ (hT x) hB _ _ _ r2
theorem qc4 {f:FuncId} {xs:List Operand} {ts:Array TypeId} {As:List VP} {R:Nat->VP} {L':List Item} (hL:LendL L L') (hc:∀ (args:Array Value) (w:World),(callFunc f args).run P w = .ok (.enter f args) w)
  (hF:FnF P f As R) (ha:ArgsE A L' xs As) (hR:qkj R):OpP P c ⟨d,.call { callee:=.value (.func f),args:=xs.toArray,argTypes:=ts },ty,pos,af,g⟩ A L (R c.w.heap.size):=by
 intro φ a w K Q hm he hk;obtain ⟨φ1,hle,hm1⟩:=hL.mem [] φ w hm.mem;rw [List.nil_append] at hm1;have hv:=ha.alls (φ:=φ1) (a:=a) fun x hx B hB=>by
  obtain ⟨D,h1,h2⟩:=hB;exact h2 φ1 _ hm1.facts (D.mono hle (he x (by simp [Op.operands,Call.operands,hx]) D (.rfl' h1)))
 unfold Oper.wp;rw [qeu hc];refine (hF φ1 w _ hv ⟨hm1.base,by simp,List.Pairwise.nil⟩).mono ?_;rintro e w' ⟨v,φ',rfl,h1,h2⟩;refine hk (fun b i=>if b<w.heap.size then φ b i else φ' b i) v w' ⟨⟨fun b i u hu=>?_,by simp,List.Pairwise.nil⟩,h2.kept,by simp [qbr],fun b i hb=>if_pos hb⟩ (hR _ _ _ _ _ hm.kept.size (fun b i u hu=>?_) h1)
 ·split at hu
  ·rename_i hb;exact h2.mem.base b i u (by rw [h2.old b i hb];exact hle _ _ _ hu)
  ·exact h2.mem.base b i u hu
 ·unfold fresh at hu ⊢;split at hu
  ·rename_i hb;rw [if_pos (nT hm.kept.size hb)];show (if b<w.heap.size then φ b i else φ' b i)=some u;rw [if_neg om];exact hu
  ·cases hu
theorem qan {Q:Exit->Act->World->Prop} {N:Nat} {E:Env} {b:Nat} {t:TypeId} {As As':List VP} {L':List Item} {ex:Exit} (hr:Repl L (blk b t As) (blk b t As') L') (h:SubLs L As As') (k:JQ c N E L' Q ex):JQ c N E L Q ex:=fun φ a w st=>by
 refine k φ a w ⟨st.defers,st.size,st.env,st.mem.upd hr (Kpt.refl _ _) ?_ fun b' hb'=>.inr hb'⟩;obtain ⟨⟨vs,h1,h2,h3⟩,h4⟩:=st.mem.mem.items _ hr.mem;exact ⟨⟨vs,h1,h.alls st.mem.mem.facts h2,h3⟩,h4⟩
theorem qbv {Q:Exit->Act->World->Prop} {N:Nat} {E:Env} {b:Nat} {t:TypeId} {As As':List VP} {L':List Item} {x:Code} (hr:Repl L (blk b t As) (blk b t As') L') (h:SubLs L As As') (k:JC P c N x E L' Q):JC P c N x E L Q:=fun φ a w st=>by
 refine k φ a w ⟨st.defers,st.size,st.env,st.mem.upd hr (Kpt.refl _ _) ?_ fun b' hb'=>.inr hb'⟩;obtain ⟨⟨vs,h1,h2,h3⟩,h4⟩:=st.mem.mem.items _ hr.mem;exact ⟨⟨vs,h1,h.alls st.mem.mem.facts h2,h3⟩,h4⟩
end
end Go.Proofs.YteafmggidjjdgaaGreatDoor
