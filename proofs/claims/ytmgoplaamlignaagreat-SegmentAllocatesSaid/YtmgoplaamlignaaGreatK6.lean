/- Texts laid together: walks of functions, what they compute, and plain laws of it. Own work. -/
import Derived.IntWalk
import Derived.Test.YtmgoplaamlignaaGreatK5
import Derived.Test.YtmgoplaamlignaaGreatK1
namespace Go.Proofs.YtmgoplaamlignaaGreat
open Go.RowKit Tryz
set_option linter.unusedVariables false
set_option linter.unusedSimpArgs false
set_option maxRecDepth 100000
set_option maxHeartbeats 4000000
section
variable {P:Program} {c:Ctx} {N:Nat} {E:Env} {L:List Item} {Q:Exit→Act→World→Prop}
theorem Fn.enterN {f:FuncId} {fn:Func} {x:Code} {As:List VP} {ι:Type} {R:ι→VP} {L':ι→List Item} (hf:P.funcs[f]?=some fn) (hN:fn.ntmps=N) (hb:fn.body=some x) (hn:Nat.ble As.length N=true)
  (h:∀ c:Ctx,(c.X=qb4 L∧c.ds=[])→JC P c N x (argE 0 As) L (bodyPost P fn (qus c R L'))):Fn P f As L R L':=by
 subst hN
 exact Fn.enter hf hb hn h
theorem FnP.enter {f:FuncId} {fn:Func} {x:Code} {As:List VP} {R:VP} (hf:P.funcs[f]?=some fn) (hN:fn.ntmps=N) (hb:fn.body=some x) (hn:Nat.ble As.length N=true)
  (h:∀ c:Ctx,(c.X=[]∧c.ds=[])→JC P c N x (argE 0 As) [] (bodyPost P fn (qus c (fun _:Unit=>R) (fun _=>[])))):FnP P f As R:=Fn.enterN hf hN hb hn h
theorem qa0 {id:Nat} {l:List Oper} (hm:P.follows .mixedOrders=true) (hB:(goodB l.toArray (needs l [])&&ordB l.toArray (needs l [])&&qgm (fun _ o=>qrs N o.dst) l 0)=true) (h:JD P l.toArray Q c N (needs l []) 0 l E L):JC P c N (Code.region id l.toArray true) E L Q:=JC_draw _ hm hB h
theorem JQ_hit {id:Nat} (h:JQ c N E L Q .normal):JQ c N E L (Exit.inBlock id Q) (.exit id):=quj (by simp) h
theorem SubL.eq {A B:VP} (h:A=B):SubL L A B:=h ▸ SubL.rfl'
def qqe (P:Program) (E:Env) (L:List Item):List ResultVar→List VP→Prop
 | [],[]=>True
 | .tmp t :: rs,B :: Bs=>(∃ D,look E t=some D∧SubL L D B)∧qqe P E L rs Bs
 | .cell t ty :: rs,B :: Bs=>(∃ b t0 As D,look E t=some (Is (.pointer (some ⟨b,0,none⟩)))∧blk b t0 As∈L∧P.underlying ty=some D ∧
   ((qr4 D=false∧∃ X,As[0]?=some X∧SubL L X B)∨(qr4 D=true∧∃ n,(P.info? ty).map (·.size)=some n∧Nat.ble n As.length=true∧SubL L (IsAgg (As.take n)) B)))∧qqe P E L rs Bs
 | _,_=>False
theorem qyb (p:Addr) (w:World):(asAddr (.pointer (some p))).run P w = .ok p w:=rfl
theorem qib {A:Nat→Option VP} {φ:Fz} {a:Act} {w:World} (st:St c N (look E) L φ a w):∀ {rs:List ResultVar} {Bs:List VP},qqe P E L rs Bs→∃ vs:List Value,
  (rs.mapM fun|.tmp t=>pure (a.tmps.getD t undef)|.cell b t=>do loadVar t (← asAddr (a.tmps.getD b undef)):Sem (List Value)).run P w = .ok vs w∧Alls φ Bs vs
 | [],[],_=>⟨[],rfl,trivial⟩
 | .tmp t :: rs,B :: Bs,⟨⟨D,h1,h2⟩,h3⟩=>by
  obtain ⟨vs,h4,h5⟩:=qib (A:=A) st h3
  refine ⟨a.tmps.getD t undef :: vs,?_,h2 _ _ st.mem.mem.facts (st.env t D h1),h5⟩
  rw [List.mapM_cons]
  simp only [Sem.run_bind,Sem.run_pure,Result.andThen_ok,h4]
 | .cell t ty :: rs,B :: Bs,⟨⟨b,t0,As,D,h1,h2,h3,h4⟩,h5⟩=>by
  obtain ⟨vs,h6,h7⟩:=qib (A:=A) st h5
  have hv:a.tmps.getD t undef = .pointer (some ⟨b,0,none⟩):=st.env t _ h1
  obtain ⟨us,e1,e2,e3⟩:=qkk st.mem h2
  have key:∃ u,(loadVar ty ⟨b,0,none⟩).run P w = .ok u w∧B.ok φ u:=by
   rcases h4 with ⟨hD,X,hX,hs⟩|⟨hD,n,hn,hl,hs⟩
   ·obtain ⟨u,f1,f2⟩:=e2.get hX
    exact ⟨u,qic h3 hD ((qj6 e1 0).trans f1),hs _ _ st.mem.mem.facts f2⟩
   ·have hl':=Nat.le_of_ble_eq_true hl
    have hlen:=e2.len
    refine ⟨_,qid (vs:=us.take n) h3 hD hn (by rw [List.length_take];omega) fun j v hj=>?_,hs _ _ st.mem.mem.facts ⟨us.take n,rfl,e2.take n,e3.sub fun u hu=>List.mem_of_mem_take hu⟩⟩
    rw [List.getElem?_take] at hj
    split at hj
    ·rw [Nat.zero_add,qj6 e1];exact hj
    ·cases hj
  obtain ⟨u,k1,k2⟩:=key
  refine ⟨u :: vs,?_,k2,h7⟩
  rw [List.mapM_cons]
  simp only [Sem.run_bind,hv,qyb,Sem.run_pure,Result.andThen_ok,k1,h6]
 | .tmp _ :: _,[],h=>h.elim
 | .cell _ _ :: _,[],h=>h.elim
 | [],_ :: _,h=>h.elim
def qu3:List VP→VP
 | [B]=>B
 | Bs=>qbv Bs
theorem qaq {fn:Func} {ι:Type} {R:ι→VP} {L':ι→List Item} {rs:List ResultVar} {Bs:List VP} (hr:fn.results=rs.toArray) (hE:qqe P E L rs Bs) (i:ι) (hB:SubL L (qu3 Bs) (R i)) (hL:(L' i).Sublist L) (hD0:c.ds=[]:=by first|assumption|exact And.right (by assumption)):JQ c N E L (bodyPost P fn (qus c R L')) .ret:=by
 intro φ a w st
 obtain ⟨vs,h1,h2⟩:=qib (A:=look E) st hE
 have hlen:=h2.len
 have hrun:(results fn a.tmps).run P w = .ok (if h:vs.toArray.size=1 then vs.toArray[0] else .tuple vs.toArray) w:=by
  unfold results
  rw [hr,List.mapM_toArray]
  simp only [Sem.run_bind,Sem.run_map,Sem.run_pure]
  erw [h1]
  rfl
 refine bodyPost_ret hrun (st.defers.trans hD0) ⟨i,_,φ,rfl,hB _ _ st.mem.mem.facts ?_,st.mem.less hL⟩
 match Bs,vs,h2 with
 | [],[],_=>exact ⟨[],rfl,trivial⟩
 | [B],[v],h=>exact h.1
 | B :: B' :: Bs,v :: v' :: vs,h=>exact ⟨_,rfl,h⟩
theorem JQ_end {fn:Func} {ι:Type} {R:ι→VP} {L':ι→List Item} (h:JQ c N E L (bodyPost P fn (qus c R L')) .ret):JQ c N E L (bodyPost P fn (qus c R L')) .normal:=h
variable {A:Nat→Option VP} {d:Option Tmp} {ty:TypeId} {pos:String} {af:Array Edge} {g:Option (Nat×Bool)}
theorem qws {x:Operand} {D:VP} (h:Ev A L x D):OpP P c ⟨d,.move x,ty,pos,af,g⟩ A L D:=
 opp fun φ a w hm he=>⟨_,rfl,he x (by simp [Op.operands]) D h⟩
theorem qs8 {x:Operand} {D:VP} (h:Ev A L x D):OpP P c ⟨d,.assign x,ty,pos,af,g⟩ A L D:=
 opp fun φ a w hm he=>⟨_,rfl,he x (by simp [Op.operands]) D h⟩
theorem za3 {x y z:Operand} {p:Bool} {Y Z:VP} (hx:Ev A L x (Is (.bool p))) (hy:evA A y=some Y) (hz:evA A z=some Z):OpP P c ⟨d,.pick x y z,ty,pos,af,g⟩ A L (qdn p Y Z):=
 opp fun φ a w hm he=>by
  have h1:a.eval x = .bool p:=he x (by simp [Op.operands]) _ hx
  have h2:Y.ok φ (a.eval y):=he y (by simp [Op.operands]) _ (.rfl' hy)
  have h3:Z.ok φ (a.eval z):=he z (by simp [Op.operands]) _ (.rfl' hz)
  cases p with
  | true=>exact ⟨a.eval y,by simp [execOp,h1,asBool],h2⟩
  | false=>exact ⟨a.eval z,by simp [execOp,h1,asBool],h3⟩
theorem qo3 {n:Int} (h:-9223372036854775808≤n∧n≤9223372036854775807):IntKind.i64.wrap n=n:=IntWalk.i64_in n h
theorem wU64 {n:Int} (h:0≤n∧n<18446744073709551616):IntKind.u64.wrap n=n:=by
 rw [qc7];omega
theorem wU32 {n:Int} (h:0≤n∧n<4294967296):IntKind.u32.wrap n=n:=by
 rw [qd3];omega
theorem qcz {n:Int} (h:0≤n∧n<18446744073709551616):Value.int .u64 n = .int .u64 (UV (BitVec.ofInt 64 n)):=by
 have:UV (BitVec.ofInt 64 n)=n:=by
  unfold UV;rw [BitVec.toNat_ofInt];simp;omega
 rw [this]
theorem qda {n:Int} (h:0≤n∧n<4294967296):Value.int .u32 n = .int .u32 (UV (BitVec.ofInt 32 n)):=by
 have:UV (BitVec.ofInt 32 n)=n:=by
  unfold UV;rw [BitVec.toNat_ofInt];simp;omega
 rw [this]
theorem qmh {φ:Fz}:∀ {vs us:List Value},Alls φ (vs.map Is) us→us=vs
 | [],[],_=>rfl
 | v :: vs,u :: us,⟨h1,h2⟩=>by rw [show u=v from h1,qmh h2]
theorem qes {o:BinOp} {t u:TypeId} {x y:Operand} {vs ws:List Value} {r:Value} (hx:Ev A L x (IsAgg (vs.map Is))) (hy:Ev A L y (IsAgg (ws.map Is))) (hg:∀ w,(eqGuard o t x y (.agg vs.toArray) (.agg ws.toArray)).run P w = .ok () w)
  (hr:∀ w,(binOp o t (.agg vs.toArray) (.agg ws.toArray)).run P w = .ok r w):OpP P c ⟨d,.binOp o t x y u,ty,pos,af,g⟩ A L (Is r):=
 opp fun φ a w hm he=>by
  obtain ⟨us,h1,h2,_⟩:(IsAgg (vs.map Is)).ok φ (a.eval x):=he x (by simp [Op.operands]) _ hx
  obtain ⟨us',h3,h4,_⟩:(IsAgg (ws.map Is)).ok φ (a.eval y):=he y (by simp [Op.operands]) _ hy
  rw [qmh h2] at h1
  rw [qmh h4] at h3
  exact ⟨r,by simp only [execOp,h1,h3,Sem.run_bind,hg,Result.andThen_ok,hr,Sem.run_pure],rfl⟩
theorem op_callV {f:FuncId} {x:Operand} {xs:List Operand} {ts:Array TypeId} {As:List VP} {R:VP} {cap:List Value} (hx:Ev A L x (Is (.func (.func f) #[] cap.toArray))) (hc:∀ (args:Array Value) (w:World),(callFunc f args).run P w = .ok (.enter f args) w)
  (hF:FnP P f (As++cap.map Is) R) (ha:ArgsE A L xs As):OpP P c ⟨d,.call { callee:=.value x,args:=xs.toArray,argTypes:=ts },ty,pos,af,g⟩ A L R:=by
 intro φ a w K Q hm he hk
 have h1:a.eval x = .func (.func f) #[] cap.toArray:=he x (by simp [Op.operands,Call.operands]) _ hx
 have hv:=ha.alls (φ:=φ) (a:=a) fun x hx=>he x (by simp [Op.operands,Call.operands,hx])
 have hrun:(execOp a.eval ⟨d,.call { callee:=.value x,args:=xs.toArray,argTypes:=ts },ty,pos,af,g⟩).run P w = .ok (.enter f (xs.map a.eval++cap).toArray) w:=by
  simp only [execOp,resolve,h1,Deferred.ofValue,Sem.run_bind,Sem.run_pure,Result.andThen_ok,invoke,hc]
  simp
 unfold Oper.wp
 rw [hrun]
 refine (hF φ w _ (hv.append (qhl cap)) ⟨hm.mem.base,by simp,List.Pairwise.nil⟩).mono ?_
 rintro e w' ⟨i,v,φ',rfl,h1,h2⟩
 exact hk φ' v w' (by simpa [qb4] using h2) h1
theorem qi4 {f:FuncId} {x:Operand} {xs:List Operand} {ts:Array TypeId} {As:List VP} {R:VP} (hx:Ev A L x (Is (.func (.func f) #[] #[]))) (hc:∀ (args:Array Value) (w:World),(callFunc f args).run P w = .ok (.enter f args) w)
  (hF:FnP P f As R) (ha:ArgsE A L xs As):OpP P c ⟨d,.call { callee:=.value x,args:=xs.toArray,argTypes:=ts },ty,pos,af,g⟩ A L R:=op_callV (cap:=[]) hx hc (by simpa using hF) ha
theorem HP.buf0 {α:Type} {φ:Fz} {w:World} (e:TypeId) (T:Ty α) (h:HP c φ L w):HP c φ (buf (.slice none 0 0) e T [] :: L) w:=
 ⟨⟨h.mem.base,fun it hi=>by
  rcases List.mem_cons.1 hi with rfl|hi
  ·exact ⟨⟨[],by simp,trivial,qf3,.inl ⟨rfl,rfl⟩⟩,fun b (hb:none=some b)=>(nomatch hb)⟩
  ·exact h.mem.items it hi,List.pairwise_cons.2 ⟨fun y _ b (hb:none=some b)=>(nomatch hb),h.mem.sep⟩⟩,h.kept,h.mine,h.old⟩
theorem qcn {α:Type} {x:Code} (e:TypeId) (T:Ty α) (h:JC P c N x E (buf (.slice none 0 0) e T [] :: L) Q):JC P c N x E L Q:=fun φ a w st =>
 h φ a w ⟨st.defers,st.size,st.env,st.mem.buf0 e T⟩
section
variable {ops:Array Oper} {rest:List Oper} {t:Tmp} {op:Op}
theorem qap {F:VP} (hd:Nat.blt t N=true) (hs:OpP P c ⟨some t,op,ty,pos,af,none⟩ (look E) L F) (h:JL P ops Q c N rest ((t,F) :: E) L):JL P ops Q c N (⟨some t,op,ty,pos,af,none⟩ :: rest) E L:=JL_op1 rfl hd hs h
theorem JL_i {j:Nat} {want p b:Bool} {g:Tmp} {F:VP} (hj:(ops[j]?).bind (·.dst)=some g) (hl:look E g=some (qdn p (Is (.bool b)) (Is undef))) (hd:Nat.blt t N=true) (hs:p=true→(b==want)=true→OpP P c ⟨some t,op,ty,pos,af,some (j,want)⟩ (look E) L F)
  (h:JL P ops Q c N rest ((t,qdn (p&&(b==want)) F (Is undef)) :: E) L):JL P ops Q c N (⟨some t,op,ty,pos,af,some (j,want)⟩ :: rest) E L:=JL_if rfl hj hl hd hs h
theorem qcq {j:Nat} {want b:Bool} {g:Tmp} {F:VP} (hj:(ops[j]?).bind (·.dst)=some g) (hl:look E g=some (Is (.bool b))) (hd:Nat.blt t N=true) (hs:(b==want)=true→OpP P c ⟨some t,op,ty,pos,af,some (j,want)⟩ (look E) L F)
  (h:JL P ops Q c N rest ((t,qdn (b==want) F (Is undef)) :: E) L):JL P ops Q c N (⟨some t,op,ty,pos,af,some (j,want)⟩ :: rest) E L:=JL_if0 rfl hj hl hd hs h
theorem qzh {ι:Type} {val:ι→Value} {I:ι→Item} (hd:Nat.blt t N=true) (hs:OpN P c ⟨some t,op,ty,pos,af,none⟩ (look E) L val I) (h:∀ i,JL P ops Q c N rest ((t,Is (val i)) :: E) (I i :: L)):JL P ops Q c N (⟨some t,op,ty,pos,af,none⟩ :: rest) E L:=JL_op rfl hd hs.toS h
theorem qe6 {ι:Type} {F:ι→VP} {L':ι→List Item} (hd:Nat.blt t N=true) (hs:OpS P c ⟨some t,op,ty,pos,af,none⟩ (look E) L F L') (h:∀ i,JL P ops Q c N rest ((t,F i) :: E) (L' i)):JL P ops Q c N (⟨some t,op,ty,pos,af,none⟩ :: rest) E L:=JL_op rfl hd hs h
theorem qk0 {L':List Item} {F:VP} (hs:OpS P c ⟨none,op,ty,pos,af,none⟩ (look E) L (fun _:Unit=>F) (fun _=>L')) (h:JL P ops Q c N rest E L'):JL P ops Q c N (⟨none,op,ty,pos,af,none⟩ :: rest) E L:=JL_op rfl rfl hs fun _=>h
variable {nd:List Nat} {k:Nat}
theorem JD_1 {F:VP} (ha:qoo nd ops.size (k+1) k=true) (hko:ops[k]?=some ⟨some t,op,ty,pos,af,none⟩) (hd:Nat.blt t N=true) (hs:OpP P c ⟨some t,op,ty,pos,af,none⟩ (look E) L F) (h:JD P ops Q c N nd (k+1) rest ((t,F) :: E) L):JD P ops Q c N nd k (⟨some t,op,ty,pos,af,none⟩ :: rest) E L:=JD_op1 ha hko rfl hd hs h
theorem JD_s {ι:Type} {F:ι→VP} {L':ι→List Item} (ha:qoo nd ops.size (k+1) k=true) (hko:ops[k]?=some ⟨some t,op,ty,pos,af,none⟩) (hd:Nat.blt t N=true) (hs:OpS P c ⟨some t,op,ty,pos,af,none⟩ (look E) L F L') (h:∀ i,JD P ops Q c N nd (k+1) rest ((t,F i) :: E) (L' i)):JD P ops Q c N nd k (⟨some t,op,ty,pos,af,none⟩ :: rest) E L:=JD_op ha hko rfl hd hs h
theorem qef {L':List Item} {F:VP} (ha:qoo nd ops.size (k+1) k=true) (hko:ops[k]?=some ⟨none,op,ty,pos,af,none⟩) (hs:OpS P c ⟨none,op,ty,pos,af,none⟩ (look E) L (fun _:Unit=>F) (fun _=>L')) (h:JD P ops Q c N nd (k+1) rest E L'):JD P ops Q c N nd k (⟨none,op,ty,pos,af,none⟩ :: rest) E L:=JD_op ha hko rfl rfl hs fun _=>h
variable {n:Nat} {EO:EnvO}
theorem qbc {F:VP} (hs:OpP P c ⟨some t,op,ty,pos,af,none⟩ (vals EO) L F) (h:JW P ops Q c N nd (k+1) n rest ((t,.v F) :: EO) L):JW P ops Q c N nd k (n+1) (⟨some t,op,ty,pos,af,none⟩ :: rest) EO L:=JW_op rfl hs h
theorem qka {ι:Type} {val:ι→Value} {I:ι→Item} (hs:OpN P c ⟨some t,op,ty,pos,af,none⟩ (vals EO) L val I) (h:JW P ops Q c N nd (k+1) n rest ((t,.own val I) :: EO) L):JW P ops Q c N nd k (n+1) (⟨some t,op,ty,pos,af,none⟩ :: rest) EO L:=JW_new rfl hs h
theorem JW_i {j:Nat} {want p b:Bool} {g:Tmp} {F:VP} (hj:(ops[j]?).bind (·.dst)=some g) (hl:vals EO g=some (qdn p (Is (.bool b)) (Is undef))) (hs:p=true→(b==want)=true→OpP P c ⟨some t,op,ty,pos,af,some (j,want)⟩ (vals EO) L F)
  (h:JW P ops Q c N nd (k+1) n rest ((t,.v (qdn (p&&(b==want)) F (Is undef))) :: EO) L):JW P ops Q c N nd k (n+1) (⟨some t,op,ty,pos,af,some (j,want)⟩ :: rest) EO L:=JW_if rfl hj hl hs h
theorem qem {j:Nat} {want b:Bool} {g:Tmp} {F:VP} (hj:(ops[j]?).bind (·.dst)=some g) (hl:vals EO g=some (Is (.bool b))) (hs:(b==want)=true→OpP P c ⟨some t,op,ty,pos,af,some (j,want)⟩ (vals EO) L F)
  (h:JW P ops Q c N nd (k+1) n rest ((t,.v (qdn (b==want) F (Is undef))) :: EO) L):JW P ops Q c N nd k (n+1) (⟨some t,op,ty,pos,af,some (j,want)⟩ :: rest) EO L:=JW_if0 rfl hj hl hs h
end
end
section
variable {P:Program} {c:Ctx} {A:Nat→Option VP} {L:List Item} {d:Option Tmp} {ty:TypeId} {pos:String} {af:Array Edge} {g:Option (Nat×Bool)}
variable {α:Type} {T:Ty α} {xs:List α} {i:Option Addr×Nat} {n:Nat} {e:TypeId}
def bpt (i:Option Addr×Nat) (o:Nat):Value:=match i.1 with
 | some a=>.pointer (some ⟨a.block,o,none⟩)
 | none=>undef
theorem qkj {φ:Fz} {w:World} {k:Nat} (hm:HP c φ L w) (hL:buf (slV n i) e T xs∈L) (hk:k<xs.length):∃ gg cap cur,i=(some ⟨gg,0,none⟩,cap)∧n=xs.length∧w.heap[gg]?=some (.cells cur e (0,0))∧xs.length≤cap∧cap≤maxLen∧cur.size=cap*T.size ∧
  ∃ flat,cur.toList.take (xs.length*T.size)=flat∧Alls φ (xs.flatMap T.cells) flat∧ones flat∧flat.length=xs.length*T.size:=by
 obtain ⟨flat,f1,f2,f3⟩:=qj7 (hm.mem.items _ hL)
 rcases f3.2 with ⟨_,h0⟩|⟨gg,cap,cur,e1,_,e2,e3,e4,e5,e6⟩
 ·omega
 ·obtain ⟨a,cp⟩:=i
  unfold slV at e1
  injection e1 with e7 e8 e9
  dsimp only at e7 e8 e9
  subst e7 e9
  exact ⟨gg,cp,cur,rfl,e8,e2,e3,e4,e5,flat,e6,f1,f2,f3.1⟩
theorem qao {x y:Operand} {t:TypeId} {j:Int} {k:Nat} {q:IntKind} (hx:Ev A L x (Is (slV n i))) (hL:buf (slV n i) e T xs∈L) (hy:Ev A L y (Is (.int q j))) (hu:P.underlying t=some (.slice e)) (hs:(P.info? e).map (·.size)=some T.size) (hj:j=k) (hk:k<xs.length) :
  OpP P c ⟨d,.indexAddr t x y,ty,pos,af,g⟩ A L (Is (bpt i (k*T.size))):=
 opp fun φ a w hm he=>by
  have h1:a.eval x=slV n i:=he x (by simp [Op.operands]) _ hx
  have h6:a.eval y = .int q j:=he y (by simp [Op.operands]) _ hy
  obtain ⟨gg,cap,cur,rfl,rfl,_⟩:=qkj hm hL hk
  refine ⟨_,?_,rfl⟩
  have h7:(0:Int)≤j∧j<(xs.length:Int):=by omega
  have h8:j.toNat=k:=by omega
  simp only [execOp,h1,h6,slV]
  refine qcg ?_
  simp only [Instr.indexAt,asIntOf,Sem.run_bind,Sem.run_pure,Result.andThen_ok,run_underlying hu,h7,and_self,if_true,qby hs,h8,qdm,bpt,Nat.zero_add]
theorem qbg {s:TypeId} {x:Operand} {f0 o m k:Nat} {fs:Array Field} {f:Field} (hx:Ev A L x (Is (bpt i o))) (hL:buf (slV n i) e T xs∈L) (h0:0<xs.length) (hu:P.underlying s=some (.struct fs)) (hf:fs[f0]?=some f) (hn:(P.info? f.type).map (·.size)=some (m+1)) (hk:f.offset=k) :
  OpP P c ⟨d,.fieldAddr s x f0,ty,pos,af,g⟩ A L (Is (bpt i (o+k))):=by
 subst hk
 exact opp fun φ a w hm he=>by
  have h1:a.eval x=bpt i o:=he x (by simp [Op.operands]) _ hx
  obtain ⟨gg,cap,cur,rfl,_⟩:=qkj hm hL h0
  exact ⟨_,by simp only [execOp,h1,bpt,Sem.run_bind,qnu hu hf hn,Result.andThen_ok,Sem.run_pure,qdm],rfl⟩
theorem buf_cell {φ:Fz} {w:World} {gg k j:Nat} {cur:Array Value} {flat:List Value} {x:α} {B:VP} (h1:w.heap[gg]?=some (.cells cur e (0,0))) (h2:cur.toList.take (xs.length*T.size)=flat) (h3:Alls φ (xs.flatMap T.cells) flat) (hk:xs[k]?=some x) (hB:(T.cells x)[j]?=some B) :
  ∃ u,w.cell? ⟨gg,k*T.size+j,none⟩=some u∧B.ok φ u∧flat[k*T.size+j]?=some u:=by
 obtain ⟨u,h4,h5⟩:=qoe (flat:=flat) h3 hk hB
 refine ⟨u,?_,h5,h4⟩
 rw [cell_of_row w gg _ cur e _ h1]
 rw [← h2] at h4
 have hl:k*T.size+j<xs.length*T.size:=by
  have:=(List.getElem?_eq_some_iff.1 h4).1
  rw [List.length_take] at this;omega
 rw [List.getElem?_take_of_lt hl,Array.getElem?_toList] at h4
 exact h4
theorem qer {t:TypeId} {x:Operand} {k j:Nat} {z:α} {B:VP} {D:TypeDesc} (hx:Ev A L x (Is (bpt i (k*T.size+j)))) (hL:buf (slV n i) e T xs∈L) (hz:xs[k]?=some z) (hu:P.underlying t=some D) (hD:qr4 D=false) (hB:(T.cells z)[j]?=some B):OpP P c ⟨d,.load t x,ty,pos,af,g⟩ A L B:=
 opp fun φ a w hm he=>by
  have h1:a.eval x=bpt i (k*T.size+j):=he x (by simp [Op.operands]) _ hx
  obtain ⟨gg,cap,cur,rfl,_,e2,_,_,_,flat,e6,e7,_⟩:=qkj hm hL (List.getElem?_eq_some_iff.1 hz).1
  obtain ⟨u,f1,f2,_⟩:=buf_cell e2 e6 e7 hz hB
  exact ⟨u,by simp only [execOp,h1,bpt];exact qcg (qic hu hD f1),f2⟩
theorem qh2 (ys:List α):(ys.flatMap T.cells).length=ys.length*T.size:=by
 induction ys with
 | nil=>simp
 | cons y ys ih=>rw [List.flatMap_cons,List.length_append,ih,T.len,List.length_cons,Nat.add_mul];omega
theorem qbd {t:TypeId} {x:Operand} {k:Nat} {z:α} {D:TypeDesc} (hx:Ev A L x (Is (bpt i (k*T.size)))) (hL:buf (slV n i) e T xs∈L) (hz:xs[k]?=some z) (hu:P.underlying t=some D) (hD:qr4 D=true) (hn:(P.info? t).map (·.size)=some T.size):OpP P c ⟨d,.load t x,ty,pos,af,g⟩ A L (IsAgg (T.cells z)):=
 opp fun φ a w hm he=>by
  have h1:a.eval x=bpt i (k*T.size):=he x (by simp [Op.operands]) _ hx
  obtain ⟨gg,cap,cur,rfl,_,e2,_,_,_,flat,e6,e7,e8,e9⟩:=qkj hm hL (List.getElem?_eq_some_iff.1 hz).1
  have hkl:=(List.getElem?_eq_some_iff.1 hz).1
  have hlen:(T.cells z).length=T.size:=T.len z
  have key:Alls φ (T.cells z) ((flat.drop (k*T.size)).take T.size):=by
   have h2:(xs.flatMap T.cells).drop (k*T.size)=T.cells z++((xs.drop (k+1)).flatMap T.cells):=by
    have h3:xs.flatMap T.cells=(xs.take k).flatMap T.cells++(xs.drop k).flatMap T.cells:=by
     rw [← List.flatMap_append,List.take_append_drop]
    have h4:((xs.take k).flatMap T.cells).length=k*T.size:=by
     rw [qh2,List.length_take]
     congr 1;omega
    rw [h3,← h4,List.drop_left,List.drop_eq_getElem_cons hkl,List.flatMap_cons]
    have:xs[k]=z:=by rw [List.getElem?_eq_getElem hkl] at hz;exact Option.some.inj hz
    rw [this]
   have h5:=(e7.drop (k*T.size)).take T.size
   rw [h2,← hlen,List.take_left] at h5
   rw [hlen] at h5;exact h5
  have hl2:((flat.drop (k*T.size)).take T.size).length=T.size:=by rw [← key.len,hlen]
  have h6:=qid (w:=w) (b:=gg) (o:=k*T.size) (vs:=(flat.drop (k*T.size)).take T.size) hu hD hn hl2 fun j v hj=>by
   rw [List.getElem?_take] at hj
   split at hj
   ·rename_i hjt
    rw [List.getElem?_drop] at hj
    rw [cell_of_row w gg _ cur e _ e2]
    rw [← e6] at hj
    have hl:k*T.size+j<xs.length*T.size:=by
     have:=(List.getElem?_eq_some_iff.1 hj).1
     rw [List.length_take] at this;omega
    rw [List.getElem?_take_of_lt hl,Array.getElem?_toList] at hj
    exact hj
   ·cases hj
  exact ⟨_,by simp only [execOp,h1,bpt];exact qcg h6,⟨_,rfl,key,e8.sub fun u hu=>List.mem_of_mem_drop (List.mem_of_mem_take hu)⟩⟩
theorem qyh {As Cs Bs:List VP} {o:Nat} (h:o+Bs.length≤Cs.length) (D:List VP):ovr (As++Cs++D) (As.length+o) Bs=As++ovr Cs o Bs++D:=by
 induction Bs generalizing Cs o with
 | nil=>rfl
 | cons B Bs ih =>
  simp only [List.length_cons] at h
  rw [ovr,ovr]
  have:(As++Cs++D).set (As.length+o) B=As++Cs.set o B++D:=by
   rw [List.append_assoc,List.set_append_right _ _ (by omega),Nat.add_sub_cancel_left,List.set_append_left _ _ (by omega),List.append_assoc]
  rw [this,Nat.add_assoc,ih (by simp;omega)]
theorem qp3 {k:Nat} {z:α} (hz:xs[k]?=some z):xs.flatMap T.cells=(xs.take k).flatMap T.cells++T.cells z++(xs.drop (k+1)).flatMap T.cells:=by
 have hkl:=(List.getElem?_eq_some_iff.1 hz).1
 have h3:xs=xs.take k++z :: xs.drop (k+1):=by
  have:xs[k]=z:=by rw [List.getElem?_eq_getElem hkl] at hz;exact Option.some.inj hz
  rw [← this,List.getElem_cons_drop,List.take_append_drop]
 conv=>lhs;rw [h3]
 rw [List.flatMap_append,List.flatMap_cons,List.append_assoc]
theorem flat_ovr {k o:Nat} {z z':α} {Bs:List VP} (hz:xs[k]?=some z) (hB:o+Bs.length≤T.size) (hc:T.cells z'=ovr (T.cells z) o Bs):(xs.set k z').flatMap T.cells=ovr (xs.flatMap T.cells) (k*T.size+o) Bs:=by
 have hkl:=(List.getElem?_eq_some_iff.1 hz).1
 have h1:(xs.set k z')[k]?=some z':=by simp [hkl]
 rw [qp3 h1,qp3 hz,hc]
 have h2:((xs.take k).flatMap T.cells).length=k*T.size:=by rw [qh2,List.length_take];congr 1;omega
 rw [← h2,qyh (by rw [T.len];exact hB)]
 congr 2
 ·rw [List.take_set,List.set_eq_of_length_le (by simp;omega)]
 ·rw [List.drop_set];simp
theorem qb1 {t:TypeId} {x y:Operand} {k o m:Nat} {z z':α} {D:VP} {Bs:List VP} {L':List Item} (hx:Ev A L x (Is (bpt i (k*T.size+o)))) (hy:Ev A L y D) (hD:qdx D Bs) (hr:Repl L (buf (slV n i) e T xs) (buf (slV n i) e T (xs.set k z')) L') (hz:xs[k]?=some z)
  (hn:(P.info? t).map (·.size)=some m) (hB:(Nat.beq Bs.length m&&Nat.ble (o+m) T.size)=true) (hc:T.cells z'=ovr (T.cells z) o Bs):OpS P c ⟨d,.store t x y,ty,pos,af,g⟩ A L (fun _:Unit=>Is undef) (fun _=>L'):=by
 intro φ a w K Q hm he hk
 have h1:a.eval x=bpt i (k*T.size+o):=he x (by simp [Op.operands]) _ hx
 obtain ⟨us,h2,h3,h4⟩:=hD φ _ (he y (by simp [Op.operands]) _ hy)
 simp only [Bool.and_eq_true] at hB
 have b1:=Nat.eq_of_beq_eq_true hB.1
 have b2:=Nat.le_of_ble_eq_true hB.2
 have hkl:=(List.getElem?_eq_some_iff.1 hz).1
 obtain ⟨gg,cap,cur,rfl,rfl,e2,e3,e4,e5,flat,e6,e7,e8,e9⟩:=qkj hm hr.mem hkl
 have l1:=h3.len
 have hmul:(k+1)*T.size≤xs.length*T.size:=Nat.mul_le_mul_right _ hkl
 have hmul2:xs.length*T.size≤cap*T.size:=Nat.mul_le_mul_right _ e3
 rw [Nat.add_mul,Nat.one_mul] at hmul
 have hst:=run_storeCells_at (P:=P) gg (k*T.size+o) e us 0 cur w e2 (by omega) h4
 simp only [Nat.add_zero] at hst
 have hrun:(execOp a.eval ⟨d,.store t x y,ty,pos,af,g⟩).run P w = .ok .skip (w.setRow gg (cur.toList.take (k*T.size+o)++us++cur.toList.drop (k*T.size+o+us.length)).toArray):=by
  simp only [execOp,h1,bpt,Instr.storeAt,Instr.sureAddr,Sem.run_bind,Sem.run_pure,Result.andThen_ok,storeVar,qby hn,h2]
  rw [if_neg (by simp;omega)]
  rw [hst];rfl
 unfold Oper.wp
 rw [hrun]
 have hup:=hm.upd hr (ql6 (qb4 [buf (slV xs.length (some ⟨gg,0,none⟩,cap)) e T xs]) w gg (cur.toList.take (k*T.size+o)++us++cur.toList.drop (k*T.size+o+us.length)).toArray (by simp [qb4,buf,slV,Value.ownBlock])) ?_ (fun b' hb'=>.inr hb')
 ·exact hk () φ undef _ Fle.rfl' rfl hup
 refine ⟨⟨flat.take (k*T.size+o)++us++flat.drop (k*T.size+o+us.length),?_,?_,?_,?_⟩,fun b' hb'=>?_⟩
 ·simp only [List.length_append,List.length_take,List.length_drop,List.length_set];omega
 ·rw [flat_ovr hz (by omega) hc,qn0 _ _ _ (by rw [qh2];omega),l1]
  exact ((e7.take _).append h3).append (e7.drop _)
 ·intro u hu
  simp only [List.mem_append] at hu
  rcases hu with (hu|hu)|hu
  ·exact e8 u (List.mem_of_mem_take hu)
  ·exact h4 u hu
  ·exact e8 u (List.mem_of_mem_drop hu)
 ·rw [List.length_set]
  refine .inr ⟨gg,cap,(cur.toList.take (k*T.size+o)++us++cur.toList.drop (k*T.size+o+us.length)).toArray,rfl,?_,e3,e4,?_,?_⟩
  ·simp only [buf,slV,Value.ownBlock,Option.bind_some]
   exact setRow_heap w gg _ _ _ _ e2
  ·simp only [List.size_toArray,List.length_append,List.length_take,List.length_drop,Array.length_toList];omega
  ·rw [← e6]
   simp only [List.take_append,List.take_take,List.drop_take,List.length_take,List.length_append,Array.length_toList]
   have q1:min (xs.length*T.size) (k*T.size+o)=k*T.size+o:=by omega
   have q2:min (k*T.size+o) (xs.length*T.size)=k*T.size+o:=by omega
   have q3:min (k*T.size+o) cur.size=k*T.size+o:=by omega
   rw [q1,q2,q3,List.take_of_length_le (l:=us) (by omega)]
 ·have:=(hm.mem.items _ hr.mem).2 b' hb'
  exact ⟨by simp [World.setRow];exact this.1,this.2⟩
theorem qc8 {t:TypeId} {x y:Operand} {k m:Nat} {z z':α} {D:VP} {Bs:List VP} {L':List Item} (hx:Ev A L x (Is (bpt i (k*T.size)))) (hy:Ev A L y D) (hD:qdx D Bs) (hr:Repl L (buf (slV n i) e T xs) (buf (slV n i) e T (xs.set k z')) L') (hz:xs[k]?=some z)
  (hn:(P.info? t).map (·.size)=some m) (hB:(Nat.beq Bs.length m&&Nat.ble m T.size)=true) (hc:T.cells z'=ovr (T.cells z) 0 Bs):OpS P c ⟨d,.store t x y,ty,pos,af,g⟩ A L (fun _:Unit=>Is undef) (fun _=>L'):=
 qb1 (o:=0) hx hy hD hr hz hn (by simpa using hB) hc
end
section
variable {P:Program} {c:Ctx} {A:Nat→Option VP} {L:List Item} {d:Option Tmp} {ty:TypeId} {pos:String} {af:Array Edge} {g:Option (Nat×Bool)}
variable {α:Type} {T:Ty α}
theorem qhj (xs:List α) {t e:TypeId} {n size:Nat} {z:Value} {ps:Array (Nat×Operand)} {qs:List (Nat×List VP)} {Rs:List VP} (hu:P.underlying t=some (.slice e)) (hs:(P.info? e).map (·.size)=some size) (hz:(P.info? e).map (·.zero)=some (some z))
  (hq:PartsE A L ps.toList qs) (hf:qkp (fun i=>some (i*size,size)) ((qmz (qen z) (n*size)).map Is) qs=some Rs)
  (hn:(Nat.ble (n*size) 16777216&&Nat.blt 0 (n*size)&&Nat.ble n 1000000&&(qmz (qen z) (n*size)).all Value.oneCell'&&Nat.beq xs.length n&&Nat.beq size T.size)=true) (hx:SubLs L Rs (xs.flatMap T.cells)) :
  OpN P c ⟨d,.buildSlice t n ps,ty,pos,af,g⟩ A L (fun b:Nat=>slV xs.length (some ⟨b,0,none⟩,n)) (fun b=>buf (slV xs.length (some ⟨b,0,none⟩,n)) e T xs):=by
 intro φ a w K Q hm he hk
 simp only [Bool.and_eq_true] at hn
 obtain ⟨⟨⟨⟨⟨n1,n2⟩,n3⟩,n4⟩,n5⟩,n6⟩:=hn
 have m1:=Nat.le_of_ble_eq_true n1
 have m2:0<n*size:=Nat.le_of_ble_eq_true n2
 have m3:=Nat.le_of_ble_eq_true n3
 have m5:=Nat.eq_of_beq_eq_true n5
 have m6:=Nat.eq_of_beq_eq_true n6
 have hp:=hq.at_ (φ:=φ) (a:=a) fun i x hx=>he x (by simp only [Op.operands];simp;exact ⟨i,by simpa using hx⟩)
 obtain ⟨rs,h1,h2,h3⟩:=qme (qhl (φ:=φ) (qmz (qen z) (n*size))) (qhd n4) hp hf
 have h5:=hx.alls hm.mem.facts h2
 have hl:rs.length=n*size:=by rw [← h5.len,qh2,m5,m6]
 have hrun:(execOp a.eval ⟨d,.buildSlice t n ps,ty,pos,af,g⟩).run P w = .ok (.value (.slice (some ⟨w.heap.size,0,none⟩) n n)) (w.alloc (.cells rs.toArray e)):=by
  simp only [execOp]
  refine qcg ?_
  have e1:(ps.map fun x=>(x.1,a.eval x.2)).toList=ps.toList.map fun p=>(p.1,a.eval p.2):=by simp
  have e2:((Array.range (n*size)).map fun x=>z.cells[x % z.cells.size]!)=(qmz (qen z) (n*size)).toArray:=by
   unfold qmz qen
   rw [Array.toArray_toList]
   apply Array.ext'
   simp
  simp only [Instr.buildSlice,Sem.run_bind,run_underlying hu,Result.andThen_ok,qby hs]
  rw [if_neg (by omega)]
  have e4:¬ n*size=0:=by omega
  simp only [if_neg e4,Sem.run_bind,qia hz,Result.andThen_ok,Sem.run_pure,e1,e2,h1,newRow,run_newObj_alloc]
 unfold Oper.wp
 rw [hrun]
 have hv:Value.slice (some ⟨w.heap.size,0,none⟩) n n=slV xs.length (some ⟨w.heap.size,0,none⟩,n):=by rw [m5];rfl
 rw [hv]
 refine hk w.heap.size φ _ (qp0 (b:=0) hm rfl ⟨rs,by rw [hl,m5,m6],h5,h3,.inr ⟨w.heap.size,n,rs.toArray,rfl,rfl,by omega,by unfold maxLen;omega,by simp [hl,m6],?_⟩⟩)
 rw [m5,← m6,← hl]
 simp
end
section
variable {P:Program} {c:Ctx} {N:Nat} {E:Env} {L:List Item} {Q Q':Exit→Act→World→Prop}
theorem qin {x y:Code} {ι:Type} (I:ι→Prop) (Ef:ι→Env) (Lf:ι→List Item) (h2:∀ i,I i→JC P c N y (Ef i) (Lf i) Q) (h1:JC P c N x E L (Exit.then (Meet c N I Ef Lf) Q')):JC P c N x E L (Exit.then (y.wp P Q) Q'):=by
 refine fun φ a w st=>Code.wp_mono ?_ (h1 φ a w st)
 intro e a w h
 cases e with
 | normal=>obtain ⟨i,φ,hi,st⟩:=h;exact h2 i hi φ a w st
 | exit id=>exact h
 | goto l=>exact h
 | ret=>exact h
 | panic ch=>exact h
 | outgrown=>exact h
end
theorem Apart.symm {x y:Item} (h:Apart x y):Apart y x:=fun b hb hx=>h b hx hb
inductive Drop1:List Item→Item→List Item→Prop
 | here (it:Item) (L:List Item):Drop1 (it :: L) it L
 | next (x:Item) {it:Item} {L L':List Item} (h:Drop1 L it L'):Drop1 (x :: L) it (x :: L')
inductive SubP:List Item→List Item→Prop
 | nil (L:List Item):SubP [] L
 | cons {it:Item} {L L1 M:List Item} (h:Drop1 L it L1) (h2:SubP M L1):SubP (it :: M) L
theorem Drop1.mem {L L':List Item} {it:Item} (h:Drop1 L it L'):it∈L∧∀ x,x∈L'→x∈L:=by
 induction h with
 | here it L=>exact ⟨List.mem_cons_self ..,fun x hx=>List.mem_cons_of_mem _ hx⟩
 | next y h ih=>exact ⟨List.mem_cons_of_mem _ ih.1,fun x hx=>by
   rcases List.mem_cons.1 hx with rfl|hx
   ·exact List.mem_cons_self ..
   ·exact List.mem_cons_of_mem _ (ih.2 x hx)⟩
theorem Drop1.sep {L L':List Item} {it:Item} (h:Drop1 L it L') (hs:L.Pairwise Apart):L'.Pairwise Apart∧∀ x,x∈L'→Apart it x:=by
 induction h with
 | here it L=>exact ⟨(List.pairwise_cons.1 hs).2,(List.pairwise_cons.1 hs).1⟩
 | next y h ih =>
  obtain ⟨h1,h2⟩:=List.pairwise_cons.1 hs
  obtain ⟨h3,h4⟩:=ih h2
  refine ⟨List.pairwise_cons.2 ⟨fun x hx=>h1 x (h.mem.2 x hx),h3⟩,fun x hx=>?_⟩
  rcases List.mem_cons.1 hx with rfl|hx
  ·exact (h1 _ h.mem.1).symm
  ·exact h4 x hx
theorem SubP.mem {L M:List Item} (h:SubP M L):∀ x,x∈M→x∈L:=by
 induction h with
 | nil L=>simp
 | cons h h2 ih => intro x hx; rcases List.mem_cons.1 hx with rfl | hx
                   ·exact h.mem.1
                   ·exact h.mem.2 x (ih x hx)
theorem SubP.sep {L M:List Item} (h:SubP M L):L.Pairwise Apart→M.Pairwise Apart:=by
 induction h with
 | nil L=>intro _;exact List.Pairwise.nil
 | cons h h2 ih=>intro hs;exact List.pairwise_cons.2 ⟨fun x hx=>(h.sep hs).2 x (h2.mem x hx),ih (h.sep hs).1⟩
theorem HP.lessP {c:Ctx} {φ:Fz} {L L':List Item} {w:World} (h:HP c φ L w) (hs:SubP L' L):HP c φ L' w:=
 ⟨⟨h.mem.base,fun it hi=>h.mem.items it (hs.mem it hi),hs.sep h.mem.sep⟩,h.kept,fun b hb=>by
  obtain ⟨x,hx,hxb⟩:=mem_names.1 hb
  exact h.mine b (mem_names.2 ⟨x,hs.mem x hx,hxb⟩),h.old⟩
section
variable {P:Program} {c:Ctx} {N:Nat} {E:Env} {L:List Item} {Q Q':Exit→Act→World→Prop}
theorem JD_sub {ops:Array Oper} {rest:List Oper} {nd:List Nat} {k:Nat} {L':List Item} (hs:SubP L' L) (h:JD P ops Q c N nd k rest E L'):JD P ops Q c N nd k rest E L:=fun e1 e2 e3 e4 φ a w lst hp st=>h e1 e2 e3 e4 φ a w lst hp ⟨st.defers,st.size,st.env,st.mem.lessP hs⟩
theorem SubP.refl':∀ L:List Item,SubP L L
 | []=>.nil _
 | it :: L=>.cons (.here it L) (SubP.refl' L)
theorem qdf {ops:Array Oper} {rest:List Oper} {nd:List Nat} {k:Nat} {it:Item} {L':List Item} (hs:Drop1 L it L') (h:JD P ops Q c N nd k rest E (it :: L')):JD P ops Q c N nd k rest E L:=JD_sub (.cons hs (SubP.refl' _)) h
theorem qak {ι:Type} {I:ι→Prop} {Ef:ι→Env} {Lf:ι→List Item} {K:Exit→Act→World→Prop} (i:ι) (hi:I i) (hE:ESub L E (Ef i)) (hL:SubP (Lf i) L):JQ c N E L (Exit.then (Meet c N I Ef Lf) K) .normal:=fun φ a w st =>
 ⟨i,φ,hi,⟨(st.less hE (List.Sublist.refl _)).defers,(st.less hE (List.Sublist.refl _)).size,(st.less hE (List.Sublist.refl _)).env,st.mem.lessP hL⟩⟩
theorem qaa {ι:Type} {I:ι→Prop} {Ef:ι→Env} {Lf:ι→List Item} {μ:ι→Nat} {n:Nat} {K:Exit→Act→World→Prop} (i:ι) (hi:I i) (hμ:μ i<n) (hE:ESub L E (Ef i)) (hL:SubP (Lf i) L):JQ c N E L (Exit.then (Round c N I Ef Lf μ n) K) .normal:=fun φ a w st =>
 ⟨i,φ,hi,hμ,⟨(st.less hE (List.Sublist.refl _)).defers,(st.less hE (List.Sublist.refl _)).size,(st.less hE (List.Sublist.refl _)).env,st.mem.lessP hL⟩⟩
theorem St.lessP {E':Env} {L':List Item} {φ:Fz} {a:Act} {w:World} (h:St c N (look E) L φ a w) (hE:ESub L E E') (hL:SubP L' L):St c N (look E') L' φ a w:=
 ⟨h.defers,h.size,(h.less hE (List.Sublist.refl _)).env,h.mem.lessP hL⟩
theorem qbr {x:Code} {ι:Type} (I:ι→Prop) (Ef:ι→Env) (Lf:ι→List Item) (μ:ι→Nat) (i0:ι) (h0:I i0) (hE:ESub L E (Ef i0)) (hL:SubP (Lf i0) L)
  (round:∀ i,I i→JC P c N x (Ef i) (Lf i) (Exit.then (Round c N I Ef Lf μ (μ i)) Q)):JC P c N (Code.loop x) E L Q:=by
 intro φ a w st
 refine wp_loop_ghost (fun n a w=>∃ i φ,I i∧μ i=n∧St c N (look (Ef i)) (Lf i) φ a w) (μ i0) ⟨i0,φ,h0,rfl,st.lessP hE hL⟩ ?_
 rintro n a w ⟨i,φ,hi,rfl,st⟩
 refine Code.wp_mono ?_ (round i hi φ a w st)
 intro e a w h
 cases e with
 | normal=>obtain ⟨i',φ,hi',hlt,st⟩:=h;exact ⟨μ i',hlt,i',φ,hi',rfl,st⟩
 | exit id=>exact h
 | goto l=>exact h
 | ret=>exact h
 | panic ch=>exact h
 | outgrown=>exact h
theorem qed {fn:Func} {ι:Type} {R:ι→VP} {L':ι→List Item} {rs:List ResultVar} {Bs:List VP} (hr:fn.results=rs.toArray) (hE:qqe P E L rs Bs) (i:ι) (hB:SubL L (qu3 Bs) (R i)) (hL:SubP (L' i) L) (hD0:c.ds=[]:=by first|assumption|exact And.right (by assumption)):JQ c N E L (bodyPost P fn (qus c R L')) .ret:=by
 intro φ a w st
 obtain ⟨vs,h1,h2⟩:=qib (A:=look E) st hE
 have hlen:=h2.len
 have hrun:(results fn a.tmps).run P w = .ok (if h:vs.toArray.size=1 then vs.toArray[0] else .tuple vs.toArray) w:=by
  unfold results
  rw [hr,List.mapM_toArray]
  simp only [Sem.run_bind,Sem.run_map,Sem.run_pure]
  erw [h1]
  rfl
 refine bodyPost_ret hrun (st.defers.trans hD0) ⟨i,_,φ,rfl,hB _ _ st.mem.mem.facts ?_,st.mem.lessP hL⟩
 match Bs,vs,h2 with
 | [],[],_=>exact ⟨[],rfl,trivial⟩
 | [B],[v],h=>exact h.1
 | B :: B' :: Bs,v :: v' :: vs,h=>exact ⟨_,rfl,h⟩
end
end Go.Proofs.YtmgoplaamlignaaGreat
