/- Texts laid together: walks of functions, what they compute, and plain laws of it. Own work. -/
import Derived.Maps.AppendAt
import Derived.Test.YtmgoplaamlignaaGreatK4
import Derived.Test.YtmgoplaamlignaaGreatK1
namespace Go.Proofs.YtmgoplaamlignaaGreat
open Go.RowKit Tryz
set_option linter.unusedVariables false
set_option linter.unusedSimpArgs false
set_option maxRecDepth 100000
set_option maxHeartbeats 4000000
section
variable {P:Program} {c:Ctx} {A:Nat→Option VP} {L:List Item} {d:Option Tmp} {ty:TypeId} {pos:String} {af:Array Edge} {g:Option (Nat×Bool)}
theorem qn9 (X:List Nat) (w:World) (o:Obj):Kpt X w (w.alloc o):=⟨rfl,rfl,rfl,by simp,fun k hk _=>Below.heap_alloc w o k hk⟩
theorem qrk (w:World) (o:Obj):(w.alloc o).heap[w.heap.size]?=some o:=heap_alloc_new w o
theorem qlp {w w':World} {b i:Nat} (h:w'.heap[b]?=w.heap[b]?):w'.cell? ⟨b,i,none⟩=w.cell? ⟨b,i,none⟩:=World.cell?_of_block h
theorem qp0 {φ:Fz} {w:World} {b:Nat} {it:Item} {o:Obj} (hm:HP c φ L w) (hat:it.at_=some w.heap.size) (hok:it.ok φ (some o)):HP ⟨w,φ,[],[]⟩ φ [it] (w.alloc o):=by
 refine ⟨⟨fun b i v e=>?_,fun x hx=>?_,List.pairwise_singleton _ _⟩,qn9 _ _ _,fun b hb=>?_,fun _ _ _=>rfl⟩
 ·have h1:=hm.mem.base b i v e
  rw [qlp (Below.heap_alloc w o b (qf0 h1))];exact h1
 ·rw [List.mem_singleton] at hx;subst hx
  refine ⟨by rw [hat];simp only [Option.bind_some,qrk];exact hok,fun b hb=>?_⟩
  rw [hat] at hb;injection hb with hb;subst hb
  refine ⟨by simp,fun i=>?_⟩
  cases hφ:φ w.heap.size i with
  | none=>rfl
  | some v=>have:=qf0 (hm.mem.base _ _ _ hφ);omega
 ·obtain ⟨x,hx,hxb⟩:=mem_names.1 hb
  rw [List.mem_singleton] at hx;subst hx
  rw [hat] at hxb;injection hxb with hxb
  exact .inl (by show w.heap.size≤b;omega)
def qen (z:Value):List Value:=z.cells.toList
theorem op_alloc {t:TypeId} {z:Value} (hz:(P.info? t).map (·.zero)=some (some z)) (h1:((qen z).all Value.oneCell')=true):OpN P c ⟨d,.alloc t,ty,pos,af,g⟩ A L (fun b:Nat=>.pointer (some ⟨b,0,none⟩)) (fun b=>blk b t ((qen z).map Is)):=by
 intro φ a w K Q hm he hk
 have hrun:(execOp a.eval ⟨d,.alloc t,ty,pos,af,g⟩).run P w = .ok (.value (.pointer (some ⟨w.heap.size,0,none⟩))) (w.alloc (.cells (qen z).toArray t)):=by
  simp only [execOp]
  refine qcg ?_
  simp [Instr.alloc,qia hz,newVar,newRow,qen]
 unfold Oper.wp
 rw [hrun]
 exact hk w.heap.size φ _ (qp0 (b:=0) hm rfl ⟨qen z,rfl,qhl _,qhd h1⟩)
theorem op_box {t:TypeId} {x:Operand} {D:VP} {Bs:List VP} (hx:Ev A L x D) (hD:qdx D Bs):OpN P c ⟨d,.box t x,ty,pos,af,g⟩ A L (fun b:Nat=>.pointer (some ⟨b,0,none⟩)) (fun b=>blk b t Bs):=by
 intro φ a w K Q hm he hk
 obtain ⟨vs,h1,h2,h3⟩:=hD φ _ (he x (by simp [Op.operands]) _ hx)
 have hrun:(execOp a.eval ⟨d,.box t x,ty,pos,af,g⟩).run P w = .ok (.value (.pointer (some ⟨w.heap.size,0,none⟩))) (w.alloc (.cells vs.toArray t)):=by
  simp only [execOp]
  refine qcg ?_
  simp [Instr.box,newVar,newRow,h1]
 unfold Oper.wp
 rw [hrun]
 exact hk w.heap.size φ _ (qp0 (b:=0) hm rfl ⟨vs,rfl,h2,h3⟩)
theorem ql6 (X:List Nat) (w:World) (b:Nat) (cs:Array Value) (hb:b∈X):Kpt X w (w.setRow b cs):=⟨rfl,rfl,rfl,by simp [World.setRow],fun k _ hk=>setRow_other w b k cs (fun e=>hk (by rw [e];exact hb))⟩
theorem qn0:∀ (Bs As:List VP) (o:Nat),o+Bs.length≤As.length→ovr As o Bs=As.take o++Bs++As.drop (o+Bs.length)
 | [],As,o,_=>by simp [ovr]
 | B :: Bs,As,o,h=>by
  simp only [List.length_cons] at h
  rw [ovr,qn0 Bs (As.set o B) (o+1) (by simp;omega)]
  have h1:(As.set o B).take (o+1)=As.take o++[B]:=by
   rw [List.take_succ_eq_append_getElem (by simp;omega),List.take_set,List.set_eq_of_length_le (by simp;omega)]
   simp
  have h2:(As.set o B).drop (o+1+Bs.length)=As.drop (o+1+Bs.length):=by
   rw [List.drop_set]
   simp;omega
  rw [h1,h2]
  simp only [List.append_assoc,List.singleton_append,List.length_cons]
  congr 3;omega
theorem qa9 {t t0:TypeId} {x y:Operand} {b o n:Nat} {D:VP} {As Bs:List VP} {L':List Item} (hx:Ev A L x (Is (.pointer (some ⟨b,o,none⟩)))) (hy:Ev A L y D) (hD:qdx D Bs) (hr:Repl L (blk b t0 As) (blk b t0 (ovr As o Bs)) L')
  (hn:(P.info? t).map (·.size)=some n) (hB:Nat.beq Bs.length n=true) (hl:Nat.ble (o+n) As.length=true):OpS P c ⟨d,.store t x y,ty,pos,af,g⟩ A L (fun _:Unit=>Is undef) (fun _=>L'):=by
 intro φ a w K Q hm he hk
 have h1:a.eval x = .pointer (some ⟨b,o,none⟩):=he x (by simp [Op.operands]) _ hx
 obtain ⟨us,h2,h3,h4⟩:=hD φ _ (he y (by simp [Op.operands]) _ hy)
 obtain ⟨vs,h5,h6,h7⟩:=qkk hm hr.mem
 have e1:=Nat.eq_of_beq_eq_true hB
 have e2:=Nat.le_of_ble_eq_true hl
 have e3:=h3.len
 have e4:=h6.len
 have hst:=run_storeCells_at (P:=P) b o t0 us 0 vs.toArray w h5 (by simp;omega) h4
 have hrun:(execOp a.eval ⟨d,.store t x y,ty,pos,af,g⟩).run P w = .ok .skip (w.setRow b (vs.take o++us++vs.drop (o+us.length)).toArray):=by
  simp only [execOp,h1,Instr.storeAt,Instr.sureAddr,Sem.run_bind,Sem.run_pure,Result.andThen_ok,storeVar,qby hn,h2]
  rw [if_neg (by simp;omega)]
  simp only [Nat.add_zero] at hst
  rw [hst];rfl
 unfold Oper.wp
 rw [hrun]
 refine hk () φ undef _ Fle.rfl' rfl (hm.upd hr (ql6 _ _ _ _ (by simp [qb4,blk])) ?_ (fun b' hb'=>.inr hb'))
 refine ⟨⟨vs.take o++us++vs.drop (o+us.length),?_,?_,?_⟩,fun b' hb'=>?_⟩
 ·simp only [blk,Option.bind_some]
  exact setRow_heap w b _ _ _ _ h5
 ·rw [qn0 Bs As o (by omega),e3]
  exact ((h6.take o).append h3).append (h6.drop _)
 ·intro u hu
  simp only [List.mem_append] at hu
  rcases hu with (hu|hu)|hu
  ·exact h7 u (List.mem_of_mem_take hu)
  ·exact h4 u hu
  ·exact h7 u (List.mem_of_mem_drop hu)
 ·have:=(hm.mem.items _ hr.mem).2 b' hb'
  exact ⟨by simp [World.setRow];exact this.1,this.2⟩
def ArgsE (A:Nat→Option VP) (L:List Item):List Operand→List VP→Prop
 | [],[]=>True
 | x :: xs,B :: Bs=>Ev A L x B∧ArgsE A L xs Bs
 | _,_=>False
theorem ArgsE.alls {φ:Fz} {a:Act}:∀ {xs:List Operand} {Bs:List VP},ArgsE A L xs Bs→(∀ x,x∈xs→∀ B,Ev A L x B→B.ok φ (a.eval x))→Alls φ Bs (xs.map a.eval)
 | [],[],_,_=>trivial
 | x :: xs,B :: Bs,⟨h1,h2⟩,h=>⟨h x (List.mem_cons_self ..) B h1,h2.alls fun y hy=>h y (List.mem_cons_of_mem _ hy)⟩
 | [],_ :: _,h,_=>h.elim
 | _ :: _,[],h,_=>h.elim
theorem qg1 {f:FuncId} {xs:List Operand} {ts:Array TypeId} {a:Act} {w:World} (hc:∀ (args:Array Value) (w:World),(callFunc f args).run P w = .ok (.enter f args) w) :
  (execOp a.eval ⟨d,.call { callee:=.value (.func f),args:=xs.toArray,argTypes:=ts },ty,pos,af,g⟩).run P w = .ok (.enter f (xs.map a.eval).toArray) w:=by
 have h0:a.eval (.func f) = .func (.func f) #[] #[]:=rfl
 simp only [execOp,resolve,h0,Deferred.ofValue,Sem.run_bind,Sem.run_pure,Result.andThen_ok,invoke,hc]
 simp
theorem op_callS {f:FuncId} {xs:List Operand} {ts:Array TypeId} {As:List VP} {Lf M:List Item} {ι:Type} {R:ι→VP} {L':ι→List Item} (hc:∀ (args:Array Value) (w:World),(callFunc f args).run P w = .ok (.enter f args) w)
  (hF:Fn P f As Lf R L') (hL:L=Lf++M) (ha:ArgsE A L xs As):OpS P c ⟨d,.call { callee:=.value (.func f),args:=xs.toArray,argTypes:=ts },ty,pos,af,g⟩ A L R (fun i=>L' i++M):=by
 subst hL
 intro φ a w K Q hm he hk
 have hv:=ha.alls (φ:=φ) (a:=a) fun x hx=>he x (by simp [Op.operands,Call.operands,hx])
 unfold Oper.wp
 rw [qg1 hc]
 refine (hF φ w _ hv hm.mem.left).mono ?_
 rintro e w' ⟨i,v,φ',rfl,h1,h2⟩
 exact hk i φ' v w' (h2.fle hm.mem.base) h1 (hm.call h2)
theorem qac {f:FuncId} {xs:List Operand} {ts:Array TypeId} {As:List VP} {R:VP} (hc:∀ (args:Array Value) (w:World),(callFunc f args).run P w = .ok (.enter f args) w)
  (hF:FnP P f As R) (ha:ArgsE A L xs As):OpP P c ⟨d,.call { callee:=.value (.func f),args:=xs.toArray,argTypes:=ts },ty,pos,af,g⟩ A L R:=by
 intro φ a w K Q hm he hk
 have hv:=ha.alls (φ:=φ) (a:=a) fun x hx=>he x (by simp [Op.operands,Call.operands,hx])
 unfold Oper.wp
 rw [qg1 hc]
 refine (hF φ w _ hv ⟨hm.mem.base,by simp,List.Pairwise.nil⟩).mono ?_
 rintro e w' ⟨i,v,φ',rfl,h1,h2⟩
 exact hk φ' v w' (by simpa [qb4] using h2) h1
theorem qq3 {f:FuncId} {xs:List Operand} {ts:Array TypeId} {As:List VP} {ι:Type} {R:ι→VP} {L':ι→List Item} (hc:∀ (args:Array Value) (w:World),(callFunc f args).run P w = .ok (.enter f args) w)
  (hF:Fn P f As [] R L') (ha:ArgsE A L xs As):OpS P c ⟨d,.call { callee:=.value (.func f),args:=xs.toArray,argTypes:=ts },ty,pos,af,g⟩ A L R (fun i=>L' i++L):=op_callS hc hF rfl ha
section
variable {α:Type} {T:Ty α}
def Owns (o:Option Obj) (e:TypeId) (size:Nat) (v:Value) (n:Nat) (flat:List Value):Prop:=
 (v = .slice none 0 0∧n=0)∨∃ g cap cur,v = .slice (some ⟨g,0,none⟩) n cap∧o=some (.cells cur e (0,0))∧n≤cap∧cap≤maxLen∧cur.size=cap*size∧cur.toList.take (n*size)=flat
def buf (v:Value) (e:TypeId) (T:Ty α) (xs:List α):Item:=⟨v.ownBlock,fun φ o=>∃ flat:List Value,flat.length=xs.length*T.size∧Alls φ (xs.flatMap T.cells) flat∧ones flat∧Owns o e T.size v xs.length flat,fun h ⟨flat,h0,h1,h2,h3⟩=>⟨flat,h0,h1.mono h,h2,h3⟩⟩
theorem qj7 {φ:Fz} {w:World} {v:Value} {e:TypeId} {xs:List α} (h:(buf v e T xs).here φ w):∃ flat:List Value,Alls φ (xs.flatMap T.cells) flat∧ones flat∧w.ownsRow 0 e T.size v xs.length flat:=by
 obtain ⟨⟨flat,h0,h1,h2,h3⟩,_⟩:=h
 refine ⟨flat,h1,h2,h0,?_⟩
 rcases h3 with h3|⟨g,cap,cur,rfl,e1,e2,e3,e4,e5⟩
 ·exact .inl h3
 ·refine .inr ⟨g,cap,cur,rfl,Nat.zero_le _,?_,e2,e3,e4,e5⟩
  simpa [buf,Value.ownBlock] using e1
theorem owns_buf {φ:Fz} {w:World} {v:Value} {e:TypeId} {xs:List α} {flat:List Value} (h1:Alls φ (xs.flatMap T.cells) flat) (h2:ones flat) (h:w.ownsRow 0 e T.size v xs.length flat):(buf v e T xs).ok φ ((buf v e T xs).at_.bind fun b=>w.heap[b]?):=by
 refine ⟨flat,h.1,h1,h2,?_⟩
 rcases h.2 with h3|⟨g,cap,cur,rfl,_,e1,e2,e3,e4,e5⟩
 ·exact .inl h3
 ·exact .inr ⟨g,cap,cur,rfl,by simpa [buf,Value.ownBlock] using e1,e2,e3,e4,e5⟩
theorem qz9 {φ:Fz} {w:World} {a:Option Addr} {n cp:Nat} {xs:List α} (hm:∀ b i v,φ b i=some v→w.cell? ⟨b,i,none⟩=some v) (h:SlAt T φ a n cp xs):∃ flat:List Value,flat.length=xs.length*T.size∧Alls φ (xs.flatMap T.cells) flat∧ones flat ∧
  (n≠0→∃ b o,a=some ⟨b,o,none⟩∧∀ j u,flat[j]?=some u→φ b (o+j)=some u):=by
 obtain ⟨h1,h2,h3,h4⟩:=h
 rcases h4 with h4|⟨b,o,rfl,h4⟩
 ·have:xs=[]:=List.eq_nil_of_length_eq_zero (by omega)
  subst this
  exact ⟨[],by simp,trivial,qf3,fun h=>absurd h4 h⟩
 ·have key:∀ (ys:List α) (o':Nat),(∀ k x,ys[k]?=some x→RefAt φ b (o'+k*T.size) (T.cells x))→∃ flat:List Value,flat.length=ys.length*T.size∧Alls φ (ys.flatMap T.cells) flat∧ones flat∧∀ j u,flat[j]?=some u→φ b (o'+j)=some u:=by
   intro ys
   induction ys with
   | nil=>intro o' _;exact ⟨[],by simp,trivial,qf3,fun j u h=>by simp at h⟩
   | cons y ys ih =>
    intro o' hy
    obtain ⟨vs,e1,e2,e3,e4⟩:=qhv (hy 0 y rfl)
    obtain ⟨fl,f0,f1,f2,f3⟩:=ih (o'+T.size) fun k x hx=>by
     have:=hy (k+1) x (by simpa using hx)
     rw [show o'+T.size+k*T.size=o'+(k+1)*T.size by rw [Nat.add_mul];omega];exact this
    have hvl:vs.length=T.size:=by rw [e2,T.len]
    refine ⟨vs++fl,?_,by rw [List.flatMap_cons];exact e1.append f1,fun u hu=>?_,fun j u hj=>?_⟩
    ·rw [List.length_append,hvl,f0,List.length_cons,Nat.add_mul];omega
    ·rcases List.mem_append.1 hu with hu|hu
     ·exact e3 u hu
     ·exact f2 u hu
    ·rcases Nat.lt_or_ge j vs.length with hlt|hge
     ·rw [List.getElem?_append_left hlt] at hj
      have:=e4 j u hj
      rw [Nat.zero_mul,Nat.add_zero] at this;exact this
     ·rw [List.getElem?_append_right hge,hvl] at hj
      have:=f3 _ u hj
      rw [show o'+T.size+(j-T.size)=o'+j by omega] at this;exact this
  obtain ⟨flat,e0,e1,e2,e3⟩:=key xs o h4
  exact ⟨flat,e0,e1,e2,fun _=>⟨b,o,rfl,e3⟩⟩
theorem qyc {φ:Fz} {w:World} {t rt e:TypeId} {z:Value} {bytes:Nat} {v xv:Value} {xs ys:List α} {flat:List Value} (ht:P.underlying t=some (.slice e)) (hinfo:(P.info? e).map (fun i=>(i.zero,i.size,i.bytes))=some (some z,T.size,bytes)) (hzs:z.cells.size=T.size) (hsz:0<T.size)
  (hm:∀ b i v,φ b i=some v→w.cell? ⟨b,i,none⟩=some v) (ho:w.ownsRow 0 e T.size v xs.length flat) (hf:Alls φ (xs.flatMap T.cells) flat) (hf1:ones flat) (hx:(qal T ys).ok φ xv) (hlen:xs.length+ys.length≤1073741824) (hby:(xs.length+ys.length)*bytes≤140737488355328) :
  ∃ (i:Option Addr×Nat) (w':World) (flat':List Value),(Builtin.append_ #[t,t] rt #[v,xv]).run P w = .ok (.slice i.1 (xs++ys).length i.2) w'∧Alls φ ((xs++ys).flatMap T.cells) flat'∧ones flat'∧w'.ownsRow 0 e T.size (.slice i.1 (xs++ys).length i.2) (xs++ys).length flat' ∧
   w.grownBy w' v.ownBlock∧((Value.slice i.1 (xs++ys).length i.2).ownBlock=v.ownBlock∨(Value.slice i.1 (xs++ys).length i.2).ownBlock=some w.heap.size):=by
 obtain ⟨i,hi,hzz⟩:=Option.map_eq_some_iff.1 hinfo
 simp only [Prod.mk.injEq] at hzz
 obtain ⟨hz,hs,hb⟩:=hzz
 obtain ⟨ad,m,cp,rfl,h2⟩:=hx
 have hml:xs.length+ys.length≤maxLen:=by unfold maxLen;omega
 have hmy:m=ys.length:=h2.1
 obtain ⟨news,n0,n1,n2,n3⟩:=qz9 hm h2
 have form:∀ (v':Value) (w':World),w'.ownsRow 0 e T.size v' (xs.length+ys.length) (flat++news)→∃ i:Option Addr×Nat,v' = .slice i.1 (xs++ys).length i.2:=fun v' w' ho'=>by
  rcases ho'.2 with ⟨rfl,h0⟩|⟨g,cap,cur,rfl,_⟩
  ·exact ⟨(none,0),by simp [h0]⟩
  ·exact ⟨(some ⟨g,0,none⟩,cap),by simp⟩
 have hal:Alls φ ((xs++ys).flatMap T.cells) (flat++news):=by rw [List.flatMap_append];exact hf.append n1
 have hone:ones (flat++news):=fun u hu=>by
  rcases List.mem_append.1 hu with hu|hu
  ·exact hf1 u hu
  ·exact n2 u hu
 have fin:∀ (v':Value) (w':World),(Builtin.append_ #[t,t] rt #[v,.slice ad m cp]).run P w = .ok v' w'→w'.ownsRow 0 e T.size v' (xs.length+ys.length) (flat++news)→w.grownBy w' v.ownBlock→(v'.ownBlock=v.ownBlock∨v'.ownBlock=some w.heap.size) →
   ∃ (i:Option Addr×Nat) (w':World) (flat':List Value),(Builtin.append_ #[t,t] rt #[v,.slice ad m cp]).run P w = .ok (.slice i.1 (xs++ys).length i.2) w'∧Alls φ ((xs++ys).flatMap T.cells) flat'∧ones flat'∧w'.ownsRow 0 e T.size (.slice i.1 (xs++ys).length i.2) (xs++ys).length flat' ∧
   w.grownBy w' v.ownBlock∧((Value.slice i.1 (xs++ys).length i.2).ownBlock=v.ownBlock∨(Value.slice i.1 (xs++ys).length i.2).ownBlock=some w.heap.size):=fun v' w' r1 r2 r3 r4=>by
  obtain ⟨j,rfl⟩:=form v' w' r2
  exact ⟨j,w',flat++news,r1,hal,hone,by rw [List.length_append] at r1 r2 ⊢;exact r2,r3,r4⟩
 by_cases h0:m=0
 ·have hys:ys=[]:=List.eq_nil_of_length_eq_zero (by omega)
  subst hys
  have hn:news=[]:=List.eq_nil_of_length_eq_zero (by rw [n0];simp)
  subst hn h0
  cases ad with
  | none =>
   refine fin v w ?_ (by simpa using ho) (World.grownBy.refl w _) (.inl rfl)
   rcases ho.2 with ⟨rfl,h3⟩|⟨g,cap,cur,rfl,_,_,hnc,_⟩
   ·simp [Builtin.append_,run_underlying ht,sizeOf,typeInfo,hi,Builtin.lenOf,Builtin.firstCells]
   ·simp [Builtin.append_,run_underlying ht,sizeOf,typeInfo,hi,Builtin.lenOf,Builtin.firstCells,hnc,storeCells]
  | some a =>
   obtain ⟨v',w',r1,r2,r3,_,r4⟩:=run_append_own_at (P:=P) w 0 t rt e i z T.size bytes ht hi hz hs hb hzs hsz v xs.length flat ho a 0 cp [] (by simp) (by simp) (by simp) (by simpa using hml) (by simpa using hby) (Nat.zero_le _)
   exact fin v' w' r1 (by simpa using r2) r3 r4
 ·obtain ⟨b,o,rfl,n4⟩:=n3 h0
  subst hmy
  obtain ⟨v',w',r1,r2,r3,_,r4⟩:=run_append_own_at (P:=P) w 0 t rt e i z T.size bytes ht hi hz hs hb hzs hsz v xs.length flat ho ⟨b,o,none⟩ ys.length cp news n0
   (fun j u hu=>by rw [qdm];exact hm _ _ _ (n4 j u hu)) n2 hml hby (Nat.zero_le _)
  exact fin v' w' r1 r2 r3 r4
end
section
variable {α:Type} {T:Ty α} {xs ys:List α}
theorem zbz {w w':World} {row:Option Nat} {it:Item} (h:w.grownBy w' row) (hr:it.at_=row):Kpt (qb4 [it]) w w':=⟨h.os,h.tape,h.output,h.size,fun k hk hn=>h.block k hk fun e=>hn (mem_names.2 ⟨it,List.mem_singleton.2 rfl,by rw [hr,← e]⟩)⟩
theorem zbw {φ:Fz} {w w':World} {v v':Value} {e:TypeId} {zs:List α} {flat:List Value} (hm:HP c φ (buf v e T xs :: L) w) (h1:Alls φ (zs.flatMap T.cells) flat) (h2:ones flat) (h3:w'.ownsRow 0 e T.size v' zs.length flat) (hg:w.grownBy w' v.ownBlock)
  (hb:v'.ownBlock=v.ownBlock∨v'.ownBlock=some w.heap.size):HP ⟨w,φ,qb4 [buf v e T xs],[]⟩ φ [buf v' e T zs] w':=by
 have hk:Kpt (qb4 [buf v e T xs]) w w':=zbz hg rfl
 have hit:=hm.mem.items _ (List.mem_cons_self ..)
 have hnm:∀ b,b∈qb4 [buf v e T xs]→v.ownBlock=some b:=fun b hb=>by
  obtain ⟨x,hx,hxb⟩:=mem_names.1 hb
  rw [List.mem_singleton] at hx;subst hx;exact hxb
 have hnew:∀ b,v'.ownBlock=some b→(w.heap.size≤b∨b∈qb4 [buf v e T xs])∧∀ i,φ b i=none:=fun b hb'=>by
  rcases hb with hb|hb
  ·rw [hb'] at hb
   exact ⟨.inr (mem_names.2 ⟨_,List.mem_singleton.2 rfl,hb.symm⟩),(hit.2 b hb.symm).2⟩
  ·rw [hb'] at hb;injection hb with hb;subst hb
   refine ⟨.inl (Nat.le_refl _),fun i=>?_⟩
   cases hφ:φ w.heap.size i with
   | none=>rfl
   | some u=>have:=qf0 (hm.mem.base _ _ _ hφ);omega
 refine ⟨⟨fun b i u e=>?_,fun x hx=>?_,List.pairwise_singleton _ _⟩,hk,fun b hb'=>?_,fun _ _ _=>rfl⟩
 ·have h4:=hm.mem.base b i u e
  rw [qlp (hk.block b (qf0 h4) fun hn=>by rw [(hit.2 b (hnm b hn)).2 i] at e;cases e)];exact h4
 ·rw [List.mem_singleton] at hx;subst hx
  refine ⟨owns_buf h1 h2 h3,fun b hb'=>⟨?_,(hnew b hb').2⟩⟩
  rcases h3.2 with ⟨rfl,_⟩|⟨gg,cap,cur,rfl,_,e1,_⟩
  ·cases hb'
  ·have:gg=b:=by simpa [buf,Value.ownBlock] using hb'
   subst this
   exact (Array.getElem?_eq_some_iff.1 e1).1
 ·obtain ⟨x,hx,hxb⟩:=mem_names.1 hb'
  rw [List.mem_singleton] at hx;subst hx
  exact (hnew b hxb).1
structure AppT (P:Program) (t e:TypeId) (size:Nat):Prop where
 ht:P.underlying t=some (.slice e)
 hi:∃ (z:Value) (bytes:Nat),(P.info? e).map (fun i=>(i.zero,i.size,i.bytes))=some (some z,size,bytes)∧z.cells.size=size∧bytes≤100000
 hs:0<size
theorem qep {t e:TypeId} {size bytes:Nat} {z:Value} (ht:P.underlying t=some (.slice e)) (hi:(P.info? e).map (fun i=>(i.zero,i.size,i.bytes))=some (some z,size,bytes)) (h:(Nat.beq z.cells.size size&&Nat.ble bytes 100000&&Nat.blt 0 size)=true):AppT P t e size:=by
 simp only [Bool.and_eq_true] at h
 exact ⟨ht,⟨z,bytes,hi,Nat.eq_of_beq_eq_true h.1.1,Nat.le_of_ble_eq_true h.1.2⟩,Nat.le_of_ble_eq_true h.2⟩
theorem qqr {φ:Fz} {w:World} {x y:Operand} {a:Act} {t e:TypeId} {v:Value} {flat:List Value} (hT:AppT P t e T.size) (hm:∀ b i v,φ b i=some v→w.cell? ⟨b,i,none⟩=some v) (hx:a.eval x=v) (ho:w.ownsRow 0 e T.size v xs.length flat) (hf:Alls φ (xs.flatMap T.cells) flat) (hf1:ones flat) (hy:(qal T ys).ok φ (a.eval y)) (hlen:xs.length+ys.length≤1048576) :
  ∃ (i:Option Addr×Nat) (w':World) (flat':List Value),(execOp a.eval ⟨d,.call { callee:=.builtin .append,args:=#[x,y],argTypes:=#[t,t] },ty,pos,af,g⟩).run P w = .ok (.value (.slice i.1 (xs++ys).length i.2)) w'∧Alls φ ((xs++ys).flatMap T.cells) flat'∧ones flat'∧w'.ownsRow 0 e T.size (.slice i.1 (xs++ys).length i.2) (xs++ys).length flat' ∧
   w.grownBy w' v.ownBlock∧((Value.slice i.1 (xs++ys).length i.2).ownBlock=v.ownBlock∨(Value.slice i.1 (xs++ys).length i.2).ownBlock=some w.heap.size):=by
 obtain ⟨z,bytes,h1,h2,h3⟩:=hT.hi
 obtain ⟨i,w',flat',r,r2⟩:=qyc (rt:=ty) hT.ht h1 h2 hT.hs hm ho hf hf1 hy (by omega) (by
  have:=Nat.mul_le_mul hlen h3;omega)
 refine ⟨i,w',flat',?_,r2⟩
 have h4:(#[x,y].map a.eval)=#[v,a.eval y]:=by simp [hx]
 simp only [execOp,resolve,h4,Sem.run_bind,Sem.run_pure,Result.andThen_ok,invoke,builtin,r]
def slV (n:Nat) (i:Option Addr×Nat):Value:=.slice i.1 n i.2
theorem za6 {x y:Operand} {t e:TypeId} (hx:Ev A L x (Is (.slice none 0 0))) (hy:Ev A L y (qal T ys)) (hT:AppT P t e T.size) (hlen:ys.length≤1048576) :
  OpN P c ⟨d,.call { callee:=.builtin .append,args:=#[x,y],argTypes:=#[t,t] },ty,pos,af,g⟩ A L (slV ys.length) (fun i=>buf (slV ys.length i) e T ys):=by
 intro φ a w K Q hm he hk
 have h1:a.eval x = .slice none 0 0:=he x (by simp [Op.operands,Call.operands]) _ hx
 have h2:(qal T ys).ok φ (a.eval y):=he y (by simp [Op.operands,Call.operands]) _ hy
 have ho:w.ownsRow 0 e T.size (.slice none 0 0) ([]:List α).length []:=⟨by simp,.inl ⟨rfl,rfl⟩⟩
 obtain ⟨i,w',flat',r1,r2,r3,r4,r5,r6⟩:=qqr (d:=d) (ty:=ty) (pos:=pos) (af:=af) (g:=g) (xs:=[]) hT hm.mem.base h1 ho trivial qf3 h2 (by simpa using hlen)
 unfold Oper.wp
 rw [r1]
 have hm0:HP c φ (buf (.slice none 0 0) e T ([]:List α) :: L) w:=⟨⟨hm.mem.base,fun it hi=>by
  rcases List.mem_cons.1 hi with rfl|hi
  ·exact ⟨⟨[],by simp,trivial,qf3,.inl ⟨rfl,rfl⟩⟩,fun b (hb:none=some b)=>(nomatch hb)⟩
  ·exact hm.mem.items it hi,List.pairwise_cons.2 ⟨fun y _ b (hb:none=some b)=>(nomatch hb),hm.mem.sep⟩⟩,hm.kept,hm.mine,hm.old⟩
 rw [List.nil_append] at r2 r4 r6 ⊢
 have h5:=zbw hm0 r2 r3 r4 r5 r6
 have hn:qb4 [buf (.slice none 0 0) e T ([]:List α)]=[]:=rfl
 rw [hn] at h5
 exact hk i φ w' h5
theorem qb9 {x y:Operand} {t e:TypeId} {v:Value} {L':Option Addr×Nat→List Item} (hx:Ev A L x (Is v)) (hr:∀ i,Repl L (buf v e T xs) (buf (slV (xs++ys).length i) e T (xs++ys)) (L' i)) (hy:Ev A L y (qal T ys)) (hT:AppT P t e T.size) (hlen:xs.length+ys.length≤1048576) :
  OpS P c ⟨d,.call { callee:=.builtin .append,args:=#[x,y],argTypes:=#[t,t] },ty,pos,af,g⟩ A L (fun i=>Is (slV (xs++ys).length i)) L':=by
 intro φ a w K Q hm he hk
 have h1:a.eval x=v:=he x (by simp [Op.operands,Call.operands]) _ hx
 have h2:(qal T ys).ok φ (a.eval y):=he y (by simp [Op.operands,Call.operands]) _ hy
 have hit:=hm.mem.items _ (hr (none,0)).mem
 obtain ⟨flat,f1,f2,f3⟩:=qj7 hit
 obtain ⟨i,w',flat',r1,r2,r3,r4,r5,r6⟩:=qqr (d:=d) (ty:=ty) (pos:=pos) (af:=af) (g:=g) hT hm.mem.base h1 f3 f1 f2 h2 hlen
 unfold Oper.wp
 rw [r1]
 have hm1:HP ⟨w,φ,qb4 [buf v e T xs],[]⟩ φ [buf v e T xs] w:=HP.start ⟨hm.mem.base,fun it hi=>by rw [List.mem_singleton] at hi;subst hi;exact hit,List.pairwise_singleton _ _⟩
 have h5:=zbw (L:=[]) hm1 r2 r3 r4 r5 r6
 refine hk i φ _ w' Fle.rfl' rfl (hm.upd (hr i) h5.kept (h5.mem.items _ (List.mem_singleton.2 rfl)) fun b hb=>?_)
 rcases r6 with r6|r6
 ·exact .inr (by rw [← hb];exact r6.symm)
 ·have hb':(Value.slice i.1 (xs++ys).length i.2).ownBlock=some b:=hb
  rw [r6] at hb';injection hb' with hb';exact .inl (by omega)
theorem qoe {φ:Fz} {flat:List Value}:∀ {xs:List α} {flat:List Value},Alls φ (xs.flatMap T.cells) flat→∀ {k:Nat} {x:α} {j:Nat} {B:VP},xs[k]?=some x→(T.cells x)[j]?=some B→∃ u,flat[k*T.size+j]?=some u∧B.ok φ u
 | [],_,_,k,x,j,B,h,_=>by simp at h
 | y :: ys,flat,hf,k,x,j,B,h,hB=>by
  rw [List.flatMap_cons] at hf
  have hl:(T.cells y).length=T.size:=T.len y
  cases k with
  | zero =>
   simp only [List.getElem?_cons_zero,Option.some.injEq] at h
   subst h
   obtain ⟨u,h1,h2⟩:=hf.get (j:=j) (A:=B) (by rw [List.getElem?_append_left (List.getElem?_eq_some_iff.1 hB).1];exact hB)
   exact ⟨u,by simpa using h1,h2⟩
  | succ k =>
   have hd:=hf.drop (T.cells y).length
   rw [List.drop_left,hl] at hd
   obtain ⟨u,h1,h2⟩:=qoe (flat:=flat) hd (k:=k) (x:=x) (by simpa using h) hB
   refine ⟨u,?_,h2⟩
   rw [List.getElem?_drop] at h1
   rw [show (k+1)*T.size+j=T.size+(k*T.size+j) by rw [Nat.add_mul];omega];exact h1
theorem HP.freeze {φ:Fz} {w:World} {v:Value} {e:TypeId} {L':List Item} {p0:Prop} (hX:c.X=[]∧p0) (hm:HP c φ L w) (hr:Repl L (buf v e T xs) (fact v (qal T xs)) L'):∃ φ',Fle φ φ'∧HP c φ' L' w:=by
 have hit:=hm.mem.items _ hr.mem
 obtain ⟨flat,f1,f2,f3⟩:=qj7 hit
 rcases f3.2 with ⟨rfl,h0⟩|⟨gg,cap,cur,rfl,_,e1,e2,e3,e4,e5⟩
 ·have hxs:xs=[]:=List.eq_nil_of_length_eq_zero h0
  subst hxs
  refine ⟨φ,Fle.rfl',hm.upd hr (Kpt.refl _ _) ⟨?_,fun b (hb:none=some b)=>(nomatch hb)⟩ fun b (hb:none=some b)=>(nomatch hb)⟩
  exact ⟨none,0,0,rfl,rfl,Nat.le_refl _,Nat.zero_le _,.inl rfl⟩
 ·have hown:∀ i,φ gg i=none:=fun i=>(hit.2 gg rfl).2 i
  let φ':Fz:=fun b i=>if b=gg then flat[i]? else φ b i
  have hsame:∀ i,φ' gg i=flat[i]?:=fun i=>if_pos rfl
  have hoth:∀ b i,b≠gg→φ' b i=φ b i:=fun b i h=>if_neg h
  have hle:Fle φ φ':=fun b i u hu=>by
   rw [hoth b i (fun e=>by subst e;rw [hown i] at hu;cases hu)];exact hu
  have hg0:c.w.heap.size≤gg:=(hm.mine gg (mem_names.2 ⟨_,hr.mem,rfl⟩)).resolve_right (by rw [hX.1];simp)
  have hfl:flat.length=xs.length*T.size:=f3.1
  refine ⟨φ',hle,⟨⟨fun b i u hu=>?_,fun x hx=>?_,hr.sep hm.mem.sep fun x hx _ _=>⟨fun b _ (hb:none=some b)=>(nomatch hb),fun b (hb:none=some b)=>(nomatch hb)⟩⟩,hm.kept,fun b hb=>?_,fun b i hb=>?_⟩⟩
  ·by_cases hbg:b=gg
   ·subst hbg
    rw [hsame] at hu
    rw [cell_of_row w b i cur e _ e1]
    rw [← e5] at hu
    have hi:i<xs.length*T.size:=by
     have:=(List.getElem?_eq_some_iff.1 hu).1
     rw [List.length_take] at this;omega
    rw [List.getElem?_take_of_lt hi,Array.getElem?_toList] at hu
    exact hu
   ·rw [hoth b i hbg] at hu
    exact hm.mem.base b i u hu
  ·rcases hr.mem' hx with rfl|⟨hx',hap⟩
   ·refine ⟨⟨_,_,_,rfl,rfl,e2,e3,.inr ⟨gg,0,rfl,fun k x hk j B hB=>?_⟩⟩,fun b (hb:none=some b)=>(nomatch hb)⟩
    obtain ⟨u,h1,h2⟩:=qoe (flat:=flat) f1 hk hB
    refine ⟨u,?_,B.mono hle h2,f2 u (List.mem_of_getElem? h1)⟩
    rw [hsame,Nat.zero_add];exact h1
   ·obtain ⟨h1,h2⟩:=hm.mem.items x hx'
    refine ⟨x.mono hle h1,fun b hb=>⟨(h2 b hb).1,fun i=>?_⟩⟩
    rw [hoth b i (fun e=>(hap hm.mem.sep).1 b hb (by rw [e];rfl))]
    exact (h2 b hb).2 i
  ·obtain ⟨x,hx,hxb⟩:=mem_names.1 hb
   rcases hr.mem' hx with rfl|⟨hx',_⟩
   ·cases hxb
   ·exact hm.mine b (mem_names.2 ⟨x,hx',hxb⟩)
  ·rw [hoth b i (by omega)]
   exact hm.old b i hb
variable {Q:Exit→Act→World→Prop} {N:Nat} {ops:Array Oper} {rest:List Oper} {E:Env}
theorem qa8 {x:Code} {v:Value} {e:TypeId} {L':List Item} {p0:Prop} (hX:c.X=[]∧p0) (hr:Repl L (buf v e T xs) (fact v (qal T xs)) L') (h:JC P c N x E L' Q):JC P c N x E L Q:=fun φ a w st =>
 let ⟨φ',h1,h2⟩:=st.mem.freeze hX hr
 h φ' a w ⟨st.defers,st.size,fun t B hB=>B.mono h1 (st.env t B hB),h2⟩
theorem qee {ex:Exit} {v:Value} {e:TypeId} {L':List Item} {p0:Prop} (hX:c.X=[]∧p0) (hr:Repl L (buf v e T xs) (fact v (qal T xs)) L') (h:JQ c N E L' Q ex):JQ c N E L Q ex:=fun φ a w st =>
 let ⟨φ',h1,h2⟩:=st.mem.freeze hX hr
 h φ' a w ⟨st.defers,st.size,fun t B hB=>B.mono h1 (st.env t B hB),h2⟩
end
def qew (n size:Nat) (As:List VP):VP:=⟨fun φ v=>∃ b,v = .slice (some ⟨b,0,none⟩) n n∧RefAt φ b 0 As∧As.length=n*size∧n≤maxLen,fun h ⟨b,e,k,l⟩=>⟨b,e,k.mono h,l⟩⟩
theorem qk7 {Bs:List VP}:∀ {As Bs:List VP} {j:Nat} {B:VP},SubLs L As Bs→Bs[j]?=some B→∃ D,As[j]?=some D∧SubL L D B
 | [],[],_,_,_,h=>by simp at h
 | D :: As,B :: Bs,0,C,⟨h1,_⟩,h=>by simp at h;subst h;exact ⟨D,rfl,h1⟩
 | D :: As,B :: Bs,j+1,C,⟨_,h2⟩,h=>by
  obtain ⟨X,h3,h4⟩:=qk7 (Bs:=Bs) h2 (by simpa using h)
  exact ⟨X,by simpa using h3,h4⟩
 | [],_ :: _,_,_,h,_=>h.elim
 | _ :: _,[],_,_,h,_=>h.elim
theorem qj4 {α:Type} {T:Ty α}:∀ {xs:List α} {k:Nat} {x:α} {j:Nat} {B:VP},xs[k]?=some x→(T.cells x)[j]?=some B→(xs.flatMap T.cells)[k*T.size+j]?=some B
 | [],k,x,j,B,h,_=>by simp at h
 | y :: ys,k,x,j,B,h,hB=>by
  have hl:(T.cells y).length=T.size:=T.len y
  rw [List.flatMap_cons]
  cases k with
  | zero =>
   simp only [List.getElem?_cons_zero,Option.some.injEq] at h
   subst h
   rw [Nat.zero_mul,Nat.zero_add,List.getElem?_append_left (List.getElem?_eq_some_iff.1 hB).1];exact hB
  | succ k =>
   rw [List.getElem?_append_right (by rw [hl,Nat.add_mul];omega),hl,show (k+1)*T.size+j-T.size=k*T.size+j by rw [Nat.add_mul];omega]
   exact qj4 (by simpa using h) hB
theorem SubL.row {α:Type} {T:Ty α} {xs:List α} {n size:Nat} {As:List VP} (hn:n=xs.length) (hs:size=T.size) (h:SubLs L As (xs.flatMap T.cells)):SubL L (qew n size As) (qal T xs):=fun φ v f ⟨b,e,k,_,l⟩=>by
 subst hs
 refine ⟨_,_,_,e,hn,Nat.le_refl _,l,.inr ⟨b,0,rfl,fun i x hx j B hB=>?_⟩⟩
 obtain ⟨D,h1,h2⟩:=qk7 (Bs:=[]) h (qj4 hx hB)
 obtain ⟨u,h3,h4,h5⟩:=k _ D h1
 exact ⟨u,by rw [Nat.add_assoc];exact h3,h2 φ u f h4,h5⟩
theorem zbv {φ:Fz} {w:World} {vs:List Value} {As:List VP} {e:TypeId} (hm:HP c φ L w) (h:Alls φ As vs) (h1:ones vs):∃ φ',Fle φ φ'∧HP ⟨w,φ,[],[]⟩ φ' [] (w.alloc (.cells vs.toArray e))∧RefAt φ' w.heap.size 0 As:=by
 let φ':Fz:=fun b i=>if b=w.heap.size then vs[i]? else φ b i
 have hno:∀ i,φ w.heap.size i=none:=fun i=>by
  cases hφ:φ w.heap.size i with
  | none=>rfl
  | some u=>have:=qf0 (hm.mem.base _ _ _ hφ);omega
 have hsame:∀ i,φ' w.heap.size i=vs[i]?:=fun i=>if_pos rfl
 have hoth:∀ b i,b≠w.heap.size→φ' b i=φ b i:=fun b i h=>if_neg h
 have hle:Fle φ φ':=fun b i u hu=>by
  rw [hoth b i (fun e=>by subst e;rw [hno i] at hu;cases hu)];exact hu
 refine ⟨φ',hle,⟨⟨fun b i u hu=>?_,by simp,List.Pairwise.nil⟩,qn9 _ _ _,by simp [qb4],fun b i hb=>?_⟩,fun j B hB=>?_⟩
 ·by_cases hbg:b=w.heap.size
  ·subst hbg
   rw [hsame] at hu
   rw [cell_of_row _ _ i vs.toArray e _ (qrk w _)]
   simpa using hu
  ·rw [hoth b i hbg] at hu
   have h2:=hm.mem.base b i u hu
   rw [qlp (Below.heap_alloc w _ b (qf0 h2))];exact h2
 ·exact hoth b i (by have:b<w.heap.size:=hb;omega)
 ·obtain ⟨u,h2,h3⟩:=h.get hB
  exact ⟨u,by rw [hsame,Nat.zero_add];exact h2,B.mono hle h3,h1 u (List.mem_of_getElem? h2)⟩
def qmz (zs:List Value) (n:Nat):List Value:=(List.range n).map fun i=>zs.toArray[i % zs.toArray.size]!
theorem qcb {t e:TypeId} {n size:Nat} {z:Value} {ps:Array (Nat×Operand)} {qs:List (Nat×List VP)} {Rs:List VP} (hu:P.underlying t=some (.slice e)) (hs:(P.info? e).map (·.size)=some size) (hz:(P.info? e).map (·.zero)=some (some z))
  (hq:PartsE A L ps.toList qs) (hf:qkp (fun i=>some (i*size,size)) ((qmz (qen z) (n*size)).map Is) qs=some Rs)
  (hn:(Nat.ble (n*size) 16777216&&Nat.blt 0 (n*size)&&Nat.ble n 1000000&&(qmz (qen z) (n*size)).all Value.oneCell'&&Nat.beq Rs.length (n*size))=true) :
  OpP P c ⟨d,.buildSlice t n ps,ty,pos,af,g⟩ A L (qew n size Rs):=
 opq fun φ a w hm he=>by
  simp only [Bool.and_eq_true] at hn
  obtain ⟨⟨⟨⟨n1,n2⟩,n3⟩,n4⟩,n5⟩:=hn
  have m1:=Nat.le_of_ble_eq_true n1
  have m2:0<n*size:=Nat.le_of_ble_eq_true n2
  have m3:=Nat.le_of_ble_eq_true n3
  have hp:=hq.at_ (φ:=φ) (a:=a) fun i x hx=>he x (by simp only [Op.operands];simp;exact ⟨i,by simpa using hx⟩)
  obtain ⟨rs,h1,h2,h3⟩:=qme (qhl (φ:=φ) (qmz (qen z) (n*size))) (qhd n4) hp hf
  obtain ⟨φ',g1,g2,g3⟩:=zbv (e:=e) hm h2 h3
  refine ⟨.slice (some ⟨w.heap.size,0,none⟩) n n,φ',_,?_,g2,⟨w.heap.size,rfl,g3,Nat.eq_of_beq_eq_true n5,by unfold maxLen;omega⟩⟩
  simp only [execOp]
  refine qcg ?_
  have e1:(ps.map fun x=>(x.1,a.eval x.2)).toList=ps.toList.map fun p=>(p.1,a.eval p.2):=by simp
  have e2:((Array.range (n*size)).map fun x=>z.cells[x % z.cells.size]!)=(qmz (qen z) (n*size)).toArray:=by
   unfold qmz qen
   rw [Array.toArray_toList]
   apply Array.ext'
   simp
  simp only [Instr.buildSlice,Sem.run_bind,run_underlying hu,Result.andThen_ok,qby hs]
  rw [if_neg (by omega)]
  have e3:(List.map (fun x:Nat×Operand=>(x.1,a.eval x.2)) ps.toList)=ps.toList.map fun p=>(p.1,a.eval p.2):=rfl
  have e4:¬ n*size=0:=by omega
  simp only [if_neg e4,Sem.run_bind,qia hz,Result.andThen_ok,Sem.run_pure,e1,e2,h1,newRow,run_newObj_alloc]
end
end Go.Proofs.YtmgoplaamlignaaGreat
