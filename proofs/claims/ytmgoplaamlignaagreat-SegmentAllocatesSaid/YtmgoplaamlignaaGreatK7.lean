/- Texts laid together: walks of functions, what they compute, and plain laws of it. Own work. -/
import Derived.Deep.OwnRows
import Derived.OwnWalk
import Derived.RangeFuncIn
import Derived.RangeFuncLeaves
import Derived.RangeFuncRecord
import Derived.RangeFuncCalls
import Derived.OrdersIn
import Derived.TacticsIn
import Derived.Test.YtmgoplaamlignaaGreatK6
import Derived.Test.YtmgoplaamlignaaGreatK1
namespace Go.Proofs.YtmgoplaamlignaaGreat
open Go.RowKit Tryz
set_option linter.unusedVariables false
set_option linter.unusedSimpArgs false
set_option maxRecDepth 100000
set_option maxHeartbeats 4000000
section
variable {P:Program} {c:Ctx} {A:Nat→Option VP} {L:List Item} {d:Option Tmp} {ty:TypeId} {pos:String} {af:Array Edge} {g:Option (Nat×Bool)} {x y:Operand} {t u:TypeId}
theorem qfe {op:BinOp} {k j:IntKind} {n m:Int} {v:Value} (hx:Ev A L x (Is (.int k n))) (hy:Ev A L y (Is (.int j m))) (h:binOp op t (.int k n) (.int j m)=pure v):OpP P c ⟨d,.binOp op t x y u,ty,pos,af,g⟩ A L (Is v):=
 qg5 hx hy fun w=>by rw [h,Sem.run_pure]
theorem qd5 {a:BitVec 64} {j:IntKind} {m:Int} {k:Nat} (hx:Ev A L x (Is (.int .u64 (UV a)))) (hy:Ev A L y (Is (.int j m))) (h0:0≤m) (hk:m.toNat=k):OpP P c ⟨d,.binOp .shl t x y u,ty,pos,af,g⟩ A L (Is (.int .u64 (UV (a<<<k)))):=
 qpq hx hy h0 (by rw [hk,qc7];exact qwb a k)
theorem qhi {a:BitVec 64} {j:IntKind} {m:Int} {k:Nat} (hx:Ev A L x (Is (.int .u64 (UV a)))) (hy:Ev A L y (Is (.int j m))) (h0:0≤m) (hk:m.toNat=k):OpP P c ⟨d,.binOp .shr t x y u,ty,pos,af,g⟩ A L (Is (.int .u64 (UV (a>>>k)))):=
 qs6 hx hy h0 (by rw [hk];exact qsw a k)
theorem qg3 {a:BitVec 32} {j:IntKind} {m:Int} {k:Nat} (hx:Ev A L x (Is (.int .u32 (UV a)))) (hy:Ev A L y (Is (.int j m))) (h0:0≤m) (hk:m.toNat=k):OpP P c ⟨d,.binOp .shl t x y u,ty,pos,af,g⟩ A L (Is (.int .u32 (UV (a<<<k)))):=
 qpq hx hy h0 (by rw [hk,qd3];exact qwb a k)
theorem qex {a:BitVec 32} {j:IntKind} {m:Int} {k:Nat} (hx:Ev A L x (Is (.int .u32 (UV a)))) (hy:Ev A L y (Is (.int j m))) (h0:0≤m) (hk:m.toNat=k):OpP P c ⟨d,.binOp .shr t x y u,ty,pos,af,g⟩ A L (Is (.int .u32 (UV (a>>>k)))):=
 qs6 hx hy h0 (by rw [hk];exact qsw a k)
end
theorem za2 {P:Program} {c:Ctx} {A:Nat→Option VP} {L:List Item} {ty:TypeId} {pos:String} {af:Array Edge} {g:Option (Nat×Bool)} {t t0:TypeId} {y:Operand} {s n:Nat} {D:VP} {As Bs:List VP} (hy:Ev A L y D) (hD:qdx D Bs)
  (hn:(P.info? t).map (·.size)=some n) (hB:Nat.beq Bs.length n=true) (hl:Nat.ble (0+n) As.length=true) :
  OpW P c ⟨none,.store t (.tmp s) y,ty,pos,af,g⟩ A L s (fun b:Nat=>.pointer (some ⟨b,0,none⟩)) (fun b=>blk b t0 As) (fun b=>blk b t0 (ovr As 0 Bs)):=by
 intro φ a w K Q b hm h0 he hk
 have h1:a.eval (.tmp s) = .pointer (some ⟨b,0,none⟩):=h0
 obtain ⟨us,h2,h3,h4⟩:=hD φ _ (he y (by simp [Op.operands]) _ hy)
 obtain ⟨vs,h5,h6,h7⟩:=qkk hm (List.mem_cons_self ..)
 have e1:=Nat.eq_of_beq_eq_true hB
 have e2:=Nat.le_of_ble_eq_true hl
 have e3:=h3.len
 have e4:=h6.len
 have hst:=run_storeCells_at (P:=P) b 0 t0 us 0 vs.toArray w h5 (by simp;omega) h4
 have hrun:(execOp a.eval ⟨none,.store t (.tmp s) y,ty,pos,af,g⟩).run P w = .ok .skip (w.setRow b (vs.take 0++us++vs.drop (0+us.length)).toArray):=by
  simp only [execOp,h1,Instr.storeAt,Instr.sureAddr,Sem.run_bind,Sem.run_pure,Result.andThen_ok,storeVar,qby hn,h2]
  rw [if_neg (by simp;omega)]
  simp only [Nat.add_zero] at hst
  rw [hst];rfl
 unfold Oper.wp
 rw [hrun]
 have hm1:HP ⟨w,φ,qb4 [blk b t0 As],[]⟩ φ [blk b t0 As] w:=HP.start ⟨hm.mem.base,fun it hi=>by rw [List.mem_singleton] at hi;subst hi;exact hm.mem.items _ (List.mem_cons_self ..),List.pairwise_singleton _ _⟩
 refine hk φ undef _ (hm1.upd (Repl.head _ _ _) (ql6 _ _ _ _ (by simp [qb4,blk])) ?_ (fun b' hb'=>.inr hb'))
 refine ⟨⟨vs.take 0++us++vs.drop (0+us.length),?_,?_,?_⟩,fun b' hb'=>?_⟩
 ·simp only [blk,Option.bind_some]
  exact setRow_heap w b _ _ _ _ h5
 ·rw [qn0 Bs As 0 (by omega),e3]
  exact ((h6.take 0).append h3).append (h6.drop _)
 ·intro u hu
  simp only [List.mem_append] at hu
  rcases hu with (hu|hu)|hu
  ·exact h7 u (List.mem_of_mem_take hu)
  ·exact h4 u hu
  ·exact h7 u (List.mem_of_mem_drop hu)
 ·have:=(hm.mem.items _ (List.mem_cons_self ..)).2 b' hb'
  exact ⟨by simp [World.setRow];exact this.1,this.2⟩
def VEx {ι:Type} (R:ι→VP):VP:=⟨fun φ v=>∃ i,(R i).ok φ v,fun h ⟨i,k⟩=>⟨i,(R i).mono h k⟩⟩
theorem Fn.ex {P:Program} {f:FuncId} {As:List VP} {ι:Type} {R:ι→VP} (h:Fn P f As [] R (fun _=>[])):FnP P f As (VEx R):=by
 intro φ w vs h1 h2
 refine (h φ w vs h1 h2).mono ?_
 rintro e w' ⟨i,v,φ',rfl,h3,h4⟩
 exact ⟨(),v,φ',rfl,⟨i,h3⟩,h4⟩
section
variable {P:Program} {c:Ctx} {N:Nat} {E:Env} {L:List Item} {Q:Exit→Act→World→Prop} {ops:Array Oper} {rest:List Oper}
theorem St.tell {φ:Fz} {a:Act} {w:World} (st:St c N (look E) L φ a w) {t:Nat} {B:VP} (h:B.ok φ (a.tmps.getD t undef)):St c N (look ((t,B) :: E)) L φ a w:=
 ⟨st.defers,st.size,fun s D hD=>by
  simp only [look] at hD
  cases hk:Nat.beq t s with
  | true=>rw [hk] at hD;simp only [cond_true,Option.some.injEq] at hD;subst hD;rw [← Nat.eq_of_beq_eq_true hk];exact h
  | false=>rw [hk] at hD;exact st.env s D hD,st.mem⟩
theorem JC_ex {x:Code} {ι:Type} {R:ι→VP} (t:Nat) (hl:look E t=some (VEx R)) (h:∀ i,JC P c N x ((t,R i) :: E) L Q):JC P c N x E L Q:=fun φ a w st =>
 let ⟨i,hi⟩:=st.env t _ hl
 h i φ a w (st.tell hi)
theorem qf1 {ι:Type} {R:ι→VP} (t:Nat) (hl:look E t=some (VEx R)) (h:∀ i,JL P ops Q c N rest ((t,R i) :: E) L):JL P ops Q c N rest E L:=fun φ a w st =>
 let ⟨i,hi⟩:=st.env t _ hl
 h i φ a w (st.tell hi)
theorem qb0 {x:Code} {A:VP} (t:Nat) (B:VP) (hl:look E t=some A) (hs:SubL L A B) (h:JC P c N x ((t,B) :: E) L Q):JC P c N x E L Q:=fun φ a w st =>
 h φ a w (st.tell (hs _ _ st.mem.mem.facts (st.env t _ hl)))
theorem qge {A:VP} (t:Nat) (B:VP) (hl:look E t=some A) (hs:SubL L A B) (h:JL P ops Q c N rest ((t,B) :: E) L):JL P ops Q c N rest E L:=fun φ a w st =>
 h φ a w (st.tell (hs _ _ st.mem.mem.facts (st.env t _ hl)))
end
section
variable {P:Program} {c:Ctx} {A:Nat→Option VP} {L:List Item} {d:Option Tmp} {ty:TypeId} {pos:String} {af:Array Edge} {g:Option (Nat×Bool)}
variable {α:Type} {T:Ty α} {xs ys:List α} {x y:Operand} {t u e:TypeId}
theorem qu2 (hu:P.underlying t=some (.slice e)) (a:Option Addr) (n cp:Nat) (w:World):(binOp .eql t (.slice a n cp) (.slice none 0 0)).run P w = .ok (.bool a.isNone) w:=by
 have h:(Op.equalIn (9999+1) t (.slice a n cp) (.slice none 0 0)).run P w = .ok a.isNone w:=by
  unfold Op.equalIn
  simp only [Sem.run_bind,run_underlying hu,Result.andThen_ok]
  cases a <;> rfl
 have h':(Op.equal t (.slice a n cp) (.slice none 0 0)).run P w = .ok a.isNone w:=h
 simp only [binOp,Sem.run_bind,h',Result.andThen_ok,Sem.run_pure]
theorem qvr (o:BinOp) (x y:Operand) (a:Option Addr) (n cp:Nat) (v:Value) (w:World):(eqGuard o t x y (.slice a n cp) v).run P w = .ok () w:=by
 cases o <;> rfl
theorem qwt (hx:Ev A L x (qal T xs)) (hu:P.underlying t=some (.slice e)):OpP P c ⟨d,.binOp .eql t x (.const (.slice none 0 0)) u,ty,pos,af,g⟩ A L (VEx fun b:{b:Bool // b=true→xs=[]}=>Is (.bool b.1)):=
 opp fun φ a w hm he=>by
  have h1:(qal T xs).ok φ (a.eval x):=he x (by simp [Op.operands]) _ hx
  obtain ⟨ad,n,cp,h2,h3,h4,h5,h6⟩:=h1
  have h7:a.eval (.const (.slice none 0 0)) = .slice none 0 0:=rfl
  refine ⟨.bool ad.isNone,?_,⟨⟨ad.isNone,fun hb=>?_⟩,rfl⟩⟩
  ·simp only [execOp,h2,h7,Sem.run_bind,qvr,Result.andThen_ok,qu2 hu,Sem.run_pure]
  ·cases ad with
   | none =>
    rcases h6 with h6|⟨b,o,h6,_⟩
    ·exact List.eq_nil_of_length_eq_zero (by omega)
    ·cases h6
   | some _=>cases hb
theorem op_max {k:IntKind} {n m:Int} (hx:Ev A L x (Is (.int k n))) (hy:Ev A L y (Is (.int k m))) {ts:Array TypeId}:OpP P c ⟨d,.call { callee:=.builtin .max,args:=#[x,y],argTypes:=ts },ty,pos,af,g⟩ A L (Is (.int k (if m>n then m else n))):=
 opp fun φ a w hm he=>by
  have h1:a.eval x = .int k n:=he x (by simp [Op.operands,Call.operands]) _ hx
  have h2:a.eval y = .int k m:=he y (by simp [Op.operands,Call.operands]) _ hy
  refine ⟨_,?_,rfl⟩
  have h4:(#[x,y].map a.eval)=#[.int k n,.int k m]:=by simp [h1,h2]
  simp only [execOp,resolve,h4,Sem.run_bind,Sem.run_pure,Result.andThen_ok,invoke,builtin]
  rfl
theorem qkc {size:Nat} {et:TypeId} (T:Ty α) (hu:P.underlying t=some (.slice et)) (hs:(P.info? et).map (·.size)=some size) :
  OpN P c ⟨d,.buildSlice t 0 #[],ty,pos,af,g⟩ A L (fun b:Nat=>slV 0 (some ⟨b,0,none⟩,0)) (fun b=>buf (slV 0 (some ⟨b,0,none⟩,0)) et T ([]:List α)):=by
 intro φ a w K Q hm he hk
 have hrun:(execOp a.eval ⟨d,.buildSlice t 0 #[],ty,pos,af,g⟩).run P w = .ok (.value (.slice (some ⟨w.heap.size,0,none⟩) 0 0)) (w.alloc (.cells #[] et)):=by
  simp only [execOp]
  refine qcg ?_
  simp only [Instr.buildSlice,Sem.run_bind,run_underlying hu,Result.andThen_ok,qby hs]
  rw [if_neg (by omega)]
  simp [Instr.fill,newRow]
  congr 2
  apply Array.ext'
  simp
 unfold Oper.wp
 rw [hrun]
 exact hk w.heap.size φ _ (qp0 (b:=0) hm rfl ⟨[],by simp,trivial,qf3,.inr ⟨w.heap.size,0,#[],rfl,rfl,Nat.le_refl _,Nat.zero_le _,by simp,by simp⟩⟩)
theorem zbu {φ:Fz} {w:World} {vs rs:List Value} {As:List VP} {e:TypeId} (hm:HP c φ L w) (h:Alls φ As vs) (h1:ones vs):∃ φ',Fle φ φ'∧HP ⟨w,φ,[],[]⟩ φ' [] (w.alloc (.cells (vs++rs).toArray e))∧RefAt φ' w.heap.size 0 As:=by
 let φ':Fz:=fun b i=>if b=w.heap.size then vs[i]? else φ b i
 have hno:∀ i,φ w.heap.size i=none:=fun i=>by
  cases hφ:φ w.heap.size i with
  | none=>rfl
  | some u=>have:=qf0 (hm.mem.base _ _ _ hφ);omega
 have hsame:∀ i,φ' w.heap.size i=vs[i]?:=fun i=>if_pos rfl
 have hoth:∀ b i,b≠w.heap.size→φ' b i=φ b i:=fun b i h=>if_neg h
 have hle:Fle φ φ':=fun b i u hu=>by
  rw [hoth b i (fun e=>by subst e;rw [hno i] at hu;cases hu)];exact hu
 refine ⟨φ',hle,⟨⟨fun b i u hu=>?_,by simp,List.Pairwise.nil⟩,qn9 _ _ _,by simp [qb4],fun b i hb=>?_⟩,fun j B hB=>?_⟩
 ·by_cases hbg:b=w.heap.size
  ·subst hbg
   rw [hsame] at hu
   rw [cell_of_row _ _ i (vs++rs).toArray e _ (qrk w _)]
   have hl:=(List.getElem?_eq_some_iff.1 hu).1
   rw [List.getElem?_toArray,List.getElem?_append_left hl];exact hu
  ·rw [hoth b i hbg] at hu
   have h2:=hm.mem.base b i u hu
   rw [qlp (Below.heap_alloc w _ b (qf0 h2))];exact h2
 ·exact hoth b i (by have:b<w.heap.size:=hb;omega)
 ·obtain ⟨u,h2,h3⟩:=h.get hB
  exact ⟨u,by rw [hsame,Nat.zero_add];exact h2,B.mono hle h3,h1 u (List.mem_of_getElem? h2)⟩
theorem qn3 {n size:Nat} {As:List VP} (xs:List α) (hx:Ev A L x (qew n size As)) (hs:SubLs L As (xs.flatMap T.cells)) (hn:n=xs.length) (hsz:size=T.size) (hy:Ev A L y (qal T ys)) (hT:AppT P t e T.size) (hlen:xs.length+ys.length≤1048576) :
  OpP P c ⟨d,.call { callee:=.builtin .append,args:=#[x,y],argTypes:=#[t,t] },ty,pos,af,g⟩ A L (qal T (xs++ys)):=
 opq fun φ a w hm he=>by
  obtain ⟨b,h1,h2,h3,h4⟩:(qew n size As).ok φ (a.eval x):=he x (by simp [Op.operands,Call.operands]) _ hx
  obtain ⟨ad,m,cp,h5,h6⟩:(qal T ys).ok φ (a.eval y):=he y (by simp [Op.operands,Call.operands]) _ hy
  obtain ⟨olds,f1,f2,f3,f4⟩:=qhv h2
  have f5:Alls φ (xs.flatMap T.cells) olds:=hs.alls hm.mem.facts f1
  obtain ⟨news,n0,n1,n2,n3⟩:=qz9 hm.mem.base h6
  obtain ⟨z,bytes,t1,t2,t3⟩:=hT.hi
  obtain ⟨i,hi,hzz⟩:=Option.map_eq_some_iff.1 t1
  simp only [Prod.mk.injEq] at hzz
  obtain ⟨hz,hsi,hb⟩:=hzz
  subst hn hsz
  have hmy:m=ys.length:=h6.1
  have h7:(#[x,y].map a.eval)=#[.slice (some ⟨b,0,none⟩) xs.length xs.length,.slice ad m cp]:=by simp [h1,h5]
  have hol:olds.length=xs.length*T.size:=by rw [f2,h3]
  by_cases h0:m=0
  ·have hys:ys=[]:=List.eq_nil_of_length_eq_zero (by omega)
   subst hys
   subst h0
   refine ⟨.slice (some ⟨b,0,none⟩) xs.length xs.length,φ,w,?_,HP.start (L:=[]) ⟨hm.mem.base,by simp,List.Pairwise.nil⟩,?_⟩
   ·simp only [execOp,resolve,h7,Sem.run_bind,Sem.run_pure,Result.andThen_ok,invoke,builtin]
    cases ad <;> simp [Builtin.append_,run_underlying hT.ht,sizeOf,typeInfo,hi,Builtin.lenOf,Builtin.firstCells,storeCells,loadCells,loadCellsFrom]
   ·rw [List.append_nil]
    refine ⟨_,_,_,rfl,rfl,Nat.le_refl _,h4,.inr ⟨b,0,rfl,fun k v hk j B hB=>?_⟩⟩
    obtain ⟨u,k1,k2⟩:=qoe (flat:=olds) f5 hk hB
    exact ⟨u,by rw [Nat.zero_add];have:=f4 _ _ k1;rw [Nat.zero_add] at this;exact this,k2,f3 u (List.mem_of_getElem? k1)⟩
  ·obtain ⟨b2,o2,rfl,n4⟩:=n3 h0
   subst hmy
   have hby:=Nat.mul_le_mul hlen t3
   have hr:=run_append_grow (P:=P) w t ty e i z hT.ht hi hz ⟨b,0,none⟩ xs.length xs.length olds (by rw [hol,hsi])
    (fun j u hu=>by rw [qdm];exact hm.mem.base _ _ _ (f4 j u hu)) ⟨b2,o2,none⟩ ys.length cp news (by rw [n0,hsi]) (fun j u hu=>by rw [qdm];exact hm.mem.base _ _ _ (n4 j u hu)) (by omega) (by omega)
    (growslice_fits (by omega) (by rw [hb];omega))
   have hd:HP c φ L w.drew:=hm.drew
   obtain ⟨φ',g1,g2,g3⟩:=zbu (e:=e) (vs:=olds++news) (rs:=(Builtin.zeroCells z.cells (grownCap w (xs.length+ys.length) xs.length e-(xs.length+ys.length))).toList) (As:=(xs++ys).flatMap T.cells) hd (by rw [List.flatMap_append];exact f5.append n1) (fun u hu=>by
    rcases List.mem_append.1 hu with hu|hu
    ·exact f3 u hu
    ·exact n2 u hu)
   have hw:olds.toArray++news.toArray++Builtin.zeroCells z.cells (grownCap w (xs.length+ys.length) xs.length e-(xs.length+ys.length))=((olds++news)++(Builtin.zeroCells z.cells (grownCap w (xs.length+ys.length) xs.length e-(xs.length+ys.length))).toList).toArray:=by simp
   rw [hw] at hr
   refine ⟨_,φ',_,?_,⟨g2.mem,⟨g2.kept.os,g2.kept.tape,g2.kept.output,g2.kept.size,g2.kept.block⟩,g2.mine,g2.old⟩,⟨some ⟨w.heap.size,0,none⟩,xs.length+ys.length,grownCap w (xs.length+ys.length) xs.length e,rfl,by simp,grownCap_ge w _ _ _,grownCap_le_maxLen w _ _ _ (by unfold maxLen;omega),.inr ⟨_,0,rfl,fun k v hk j B hB=>?_⟩⟩⟩
   ·simp only [execOp,resolve,h7,Sem.run_bind,Sem.run_pure,Result.andThen_ok,invoke,builtin,hr]
   ·have:=g3 _ B (qj4 hk hB)
    rw [← Nat.add_assoc] at this
    exact this
end
section
variable {P:Program} {c:Ctx} {A:Nat→Option VP} {L:List Item} {d:Option Tmp} {ty:TypeId} {pos:String} {af:Array Edge} {g:Option (Nat×Bool)}
variable {α:Type} {x y:Operand} {t e:TypeId}
end
section
variable {P:Program} {c:Ctx} {A:Nat→Option VP} {L:List Item} {d:Option Tmp} {ty:TypeId} {pos:String} {af:Array Edge} {g:Option (Nat×Bool)}
variable {x y:Operand} {t e:TypeId}
theorem qan {b o len sz k:Nat} {j:Int} {q:IntKind} (hx:Ev A L x (Is (.pointer (some ⟨b,o,none⟩)))) (hy:Ev A L y (Is (.int q j))) (hu:P.underlying t=some (.array len e)) (hs:(P.info? e).map (·.size)=some sz) (hj:j=k) (hk:k<len) :
  OpP P c ⟨d,.indexAddr t x y,ty,pos,af,g⟩ A L (Is (.pointer (some ⟨b,o+k*sz,none⟩))):=
 opp fun φ a w hm he=>by
  have h1:a.eval x = .pointer (some ⟨b,o,none⟩):=he x (by simp [Op.operands]) _ hx
  have h6:a.eval y = .int q j:=he y (by simp [Op.operands]) _ hy
  refine ⟨_,?_,rfl⟩
  have h7:(0:Int)≤j∧j<(len:Int):=by omega
  have h8:j.toNat=k:=by omega
  simp only [execOp,h1,h6]
  refine qcg ?_
  simp only [Instr.indexAt,asIntOf,Sem.run_bind,Sem.run_pure,Result.andThen_ok,run_underlying hu,Instr.sureAddr,h7,and_self,if_true,qby hs,h8,qdm]
theorem HP.freezeB {φ:Fz} {w:World} {b:Nat} {t:TypeId} {As:List VP} {L':List Item} {p0:Prop} (hX:c.X=[]∧p0) (hm:HP c φ L w) (hr:Repl L (blk b t As) (fact (.pointer (some ⟨b,0,none⟩)) (qdo As)) L'):∃ φ',Fle φ φ'∧HP c φ' L' w:=by
 obtain ⟨vs,e1,f1,f2⟩:=qkk hm hr.mem
 have hit:=hm.mem.items _ hr.mem
 have hown:∀ i,φ b i=none:=fun i=>(hit.2 b rfl).2 i
 let φ':Fz:=fun b' i=>if b'=b then vs[i]? else φ b' i
 have hsame:∀ i,φ' b i=vs[i]?:=fun i=>if_pos rfl
 have hoth:∀ b' i,b'≠b→φ' b' i=φ b' i:=fun b' i h=>if_neg h
 have hle:Fle φ φ':=fun b' i u hu=>by
  rw [hoth b' i (fun e=>by subst e;rw [hown i] at hu;cases hu)];exact hu
 have hg0:c.w.heap.size≤b:=(hm.mine b (mem_names.2 ⟨_,hr.mem,rfl⟩)).resolve_right (by rw [hX.1];simp)
 refine ⟨φ',hle,⟨⟨fun b' i u hu=>?_,fun x hx=>?_,hr.sep hm.mem.sep fun x hx _ _=>⟨fun b _ (hb:none=some b)=>(nomatch hb),fun b (hb:none=some b)=>(nomatch hb)⟩⟩,hm.kept,fun b' hb=>?_,fun b' i hb=>?_⟩⟩
 ·by_cases hbg:b'=b
  ·subst hbg
   rw [hsame] at hu
   rw [qj6 e1];exact hu
  ·rw [hoth b' i hbg] at hu
   exact hm.mem.base b' i u hu
 ·rcases hr.mem' hx with rfl|⟨hx',hap⟩
  ·refine ⟨⟨b,0,rfl,fun j B hB=>?_⟩,fun b (hb:none=some b)=>(nomatch hb)⟩
   obtain ⟨u,h1,h2⟩:=f1.get hB
   exact ⟨u,by rw [hsame,Nat.zero_add];exact h1,B.mono hle h2,f2 u (List.mem_of_getElem? h1)⟩
  ·obtain ⟨h1,h2⟩:=hm.mem.items x hx'
   refine ⟨x.mono hle h1,fun b' hb=>⟨(h2 b' hb).1,fun i=>?_⟩⟩
   rw [hoth b' i (fun e=>(hap hm.mem.sep).1 b' hb (by rw [e];rfl))]
   exact (h2 b' hb).2 i
 ·obtain ⟨x,hx,hxb⟩:=mem_names.1 hb
  rcases hr.mem' hx with rfl|⟨hx',_⟩
  ·cases hxb
  ·exact hm.mine b' (mem_names.2 ⟨x,hx',hxb⟩)
 ·rw [hoth b' i (by omega)]
  exact hm.old b' i hb
variable {Q:Exit→Act→World→Prop} {N:Nat} {ops:Array Oper} {rest:List Oper} {E:Env} {b:Nat} {As:List VP} {L':List Item}
theorem qd2 {x:Code} {p0:Prop} (hX:c.X=[]∧p0) (hr:Repl L (blk b t As) (fact (.pointer (some ⟨b,0,none⟩)) (qdo As)) L') (h:JC P c N x E L' Q):JC P c N x E L Q:=fun φ a w st =>
 let ⟨φ',h1,h2⟩:=HP.freezeB hX st.mem hr
 h φ' a w ⟨st.defers,st.size,fun t B hB=>B.mono h1 (st.env t B hB),h2⟩
end
def IsFn (f:FuncId) (Cs:List VP):VP:=⟨fun φ v=>∃ cs:List Value,v = .func (.func f) #[] cs.toArray∧Alls φ Cs cs,fun h ⟨cs,e,k⟩=>⟨cs,e,k.mono h⟩⟩
section
variable {P:Program} {c:Ctx} {A:Nat→Option VP} {L:List Item} {d:Option Tmp} {ty:TypeId} {pos:String} {af:Array Edge} {g:Option (Nat×Bool)}
theorem op_callFn {f:FuncId} {x:Operand} {xs:List Operand} {ts:Array TypeId} {As Cs:List VP} {R:VP} (hx:Ev A L x (IsFn f Cs)) (hc:∀ (args:Array Value) (w:World),(callFunc f args).run P w = .ok (.enter f args) w)
  (hF:FnP P f (As++Cs) R) (ha:ArgsE A L xs As):OpP P c ⟨d,.call { callee:=.value x,args:=xs.toArray,argTypes:=ts },ty,pos,af,g⟩ A L R:=by
 intro φ a w K Q hm he hk
 obtain ⟨cap,h1,h2⟩:(IsFn f Cs).ok φ (a.eval x):=he x (by simp [Op.operands,Call.operands]) _ hx
 have hv:=ha.alls (φ:=φ) (a:=a) fun x hx=>he x (by simp [Op.operands,Call.operands,hx])
 have hrun:(execOp a.eval ⟨d,.call { callee:=.value x,args:=xs.toArray,argTypes:=ts },ty,pos,af,g⟩).run P w = .ok (.enter f (xs.map a.eval++cap).toArray) w:=by
  simp only [execOp,resolve,h1,Deferred.ofValue,Sem.run_bind,Sem.run_pure,Result.andThen_ok,invoke,hc]
  simp
 unfold Oper.wp
 rw [hrun]
 refine (hF φ w _ (hv.append h2) ⟨hm.mem.base,by simp,List.Pairwise.nil⟩).mono ?_
 rintro e w' ⟨i,v,φ',rfl,h1,h2⟩
 exact hk φ' v w' (by simpa [qb4] using h2) h1
theorem op_makeFunc {f:FuncId} {xs:List Operand} {Cs:List VP} (ha:ArgsE A L xs Cs):OpP P c ⟨d,.makeFunc (.func f) #[] xs.toArray,ty,pos,af,g⟩ A L (IsFn f Cs):=
 opp fun φ a w hm he=>by
  have hv:=ha.alls (φ:=φ) (a:=a) fun x hx=>he x (by simp [Op.operands,hx])
  exact ⟨_,by simp only [execOp];exact qcg (by simp [Instr.makeFunc];rfl),⟨xs.map a.eval,by simp,hv⟩⟩
end
section
variable {P:Program} {c:Ctx} {A:Nat→Option VP} {L:List Item} {d:Option Tmp} {ty:TypeId} {pos:String} {af:Array Edge} {g:Option (Nat×Bool)}
variable {α:Type} {T:Ty α}
theorem qej (xs:List α) {x y:Operand} {t e:TypeId} {n j:Nat} {i:Int} {k:IntKind} {z:α} {As:List VP} (hx:Ev A L x (qdo As)) (hy:Ev A L y (Is (.int k i))) (hu:P.underlying t=some (.array n e)) (hs:(P.info? e).map (·.size)=some T.size) (hn:xs.length=n) (h:SubLs L (As.take (n*T.size)) (xs.flatMap T.cells)) (hi:i=j) (hz:xs[j]?=some z) :
  OpP P c ⟨d,.indexAddr t x y,ty,pos,af,g⟩ A L (qdo (T.cells z)):=by
 intro φ a w K Q hh he hk
 obtain ⟨b,o,h1,h2⟩:(qdo As).ok φ (a.eval x):=he x (by simp [Op.operands]) _ hx
 have h6:a.eval y = .int k i:=he y (by simp [Op.operands]) _ hy
 have hlt:j<xs.length:=(List.getElem?_eq_some_iff.1 hz).1
 have hrun:(execOp a.eval ⟨d,.indexAddr t x y,ty,pos,af,g⟩).run P w = .ok (.value (.pointer (some ⟨b,o+j*T.size,none⟩))) w:=by
  have h7:(0:Int)≤i∧i<(n:Int):=by omega
  have h8:i.toNat=j:=by omega
  simp only [execOp,h1,h6]
  refine qcg ?_
  simp only [Instr.indexAt,asIntOf,Sem.run_bind,Sem.run_pure,Result.andThen_ok,run_underlying hu,h7,and_self,if_true,qby hs,h8,qdm,Instr.sureAddr]
 unfold Oper.wp
 rw [hrun]
 refine hk φ _ w hh.idle ⟨b,_,rfl,fun q B hB=>?_⟩
 obtain ⟨D,h3,h4⟩:=qk7 (Bs:=[]) h (qj4 hz hB)
 have h5:As[j*T.size+q]?=some D:=by
  rw [List.getElem?_take] at h3
  split at h3
  ·exact h3
  ·cases h3
 obtain ⟨u,h6,h7,h8⟩:=h2 _ D h5
 exact ⟨u,by rw [Nat.add_assoc];exact h6,h4 φ u hh.mem.facts h7,h8⟩
end
inductive LendL:List Item→List Item→Prop
 | nil:LendL [] []
 | keep (it:Item) {L L':List Item} (h:LendL L L'):LendL (it :: L) (it :: L')
 | buf {α:Type} {v:Value} {e:TypeId} {T:Ty α} {xs:List α} {L L':List Item} (h:LendL L L'):LendL (buf v e T xs :: L) (fact v (qal T xs) :: L')
 | blk {b:Nat} {t:TypeId} {As:List VP} {L L':List Item} (h:LendL L L'):LendL (blk b t As :: L) (fact (.pointer (some ⟨b,0,none⟩)) (qdo As) :: L')
theorem Repl.mid (it it':Item) (L:List Item):∀ M:List Item,Repl (M++it :: L) it it' (M++it' :: L)
 | []=>.head it it' L
 | x :: M=>.tail x (Repl.mid it it' L M)
theorem Mem.ctx {φ:Fz} {L:List Item} {w:World} (hm:Mem φ L w):HP ⟨{ w with heap:=#[] },φ,[],[]⟩ φ L w:=
 ⟨hm,⟨rfl,rfl,rfl,Nat.zero_le _,fun k hk=>absurd hk (by simp)⟩,fun b _=>.inl (Nat.zero_le _),fun _ _ _=>rfl⟩
theorem LendL.mem {L L':List Item} (h:LendL L L'):∀ (M:List Item) (φ:Fz) (w:World),Mem φ (M++L) w→∃ φ',Fle φ φ'∧Mem φ' (M++L') w:=by
 induction h with
 | nil=>exact fun M φ w hm=>⟨φ,Fle.rfl',hm⟩
 | keep it h ih =>
  intro M φ w hm
  obtain ⟨φ',h1,h2⟩:=ih (M++[it]) φ w (by simpa using hm)
  exact ⟨φ',h1,by simpa using h2⟩
 | @buf α v e T xs L L' h ih =>
  intro M φ w hm
  obtain ⟨φ1,h1,h2⟩:=HP.freeze (c:=⟨{ w with heap:=#[] },φ,[],[]⟩) ⟨rfl,trivial⟩ hm.ctx (Repl.mid (Go.Proofs.YtmgoplaamlignaaGreat.buf v e T xs) (fact v (qal T xs)) L M)
  obtain ⟨φ',h3,h4⟩:=ih (M++[fact v (qal T xs)]) φ1 w (by simpa using h2.mem)
  exact ⟨φ',h1.tr h3,by simpa using h4⟩
 | @blk b t As L L' h ih =>
  intro M φ w hm
  obtain ⟨φ1,h1,h2⟩:=HP.freezeB (c:=⟨{ w with heap:=#[] },φ,[],[]⟩) ⟨rfl,trivial⟩ hm.ctx (Repl.mid (Go.Proofs.YtmgoplaamlignaaGreat.blk b t As) (fact (.pointer (some ⟨b,0,none⟩)) (qdo As)) L M)
  obtain ⟨φ',h3,h4⟩:=ih (M++[fact (.pointer (some ⟨b,0,none⟩)) (qdo As)]) φ1 w (by simpa using h2.mem)
  exact ⟨φ',h1.tr h3,by simpa using h4⟩
def qlw (R:VP):Prop:=∀ φ φ' v,R.ok φ v→R.ok φ' v
theorem qc3 {u:Value}:qlw (Is u):=fun _ _ _ h=>h
def PureVs:List VP→Prop
 | []=>True
 | A :: As=>qlw A∧PureVs As
theorem PureVs.alls {φ φ':Fz}:∀ {As:List VP} {vs:List Value},PureVs As→Alls φ As vs→Alls φ' As vs
 | [],[],_,_=>trivial
 | A :: As,v :: vs,⟨h1,h2⟩,⟨h3,h4⟩=>⟨h1 _ _ _ h3,h2.alls h4⟩
theorem pure_tup {As:List VP} (h:PureVs As):qlw (qbv As):=fun _ _ _ ⟨vs,e,k⟩=>⟨vs,e,h.alls k⟩
theorem pure_agg {As:List VP} (h:PureVs As):qlw (IsAgg As):=fun _ _ _ ⟨vs,e,k,o⟩=>⟨vs,e,h.alls k,o⟩
theorem pure_ex {ι:Type} {R:ι→VP} (h:∀ i,qlw (R i)):qlw (VEx R):=fun _ _ _ ⟨i,k⟩=>⟨i,h i _ _ _ k⟩
section
variable {P:Program} {c:Ctx} {A:Nat→Option VP} {L:List Item} {d:Option Tmp} {ty:TypeId} {pos:String} {af:Array Edge} {g:Option (Nat×Bool)}
theorem qgo {f:FuncId} {xs:List Operand} {ts:Array TypeId} {As:List VP} {R:VP} {L':List Item} (hL:LendL L L') (hc:∀ (args:Array Value) (w:World),(callFunc f args).run P w = .ok (.enter f args) w)
  (hF:FnP P f As R) (ha:ArgsE A L' xs As) (hR:qlw R):OpP P c ⟨d,.call { callee:=.value (.func f),args:=xs.toArray,argTypes:=ts },ty,pos,af,g⟩ A L R:=by
 intro φ a w K Q hm he hk
 obtain ⟨φ1,hle,hm1⟩:=hL.mem [] φ w hm.mem
 rw [List.nil_append] at hm1
 have hv:=ha.alls (φ:=φ1) (a:=a) fun x hx B hB=>by
  obtain ⟨D,h1,h2⟩:=hB
  exact h2 φ1 _ hm1.facts (D.mono hle (he x (by simp [Op.operands,Call.operands,hx]) D (.rfl' h1)))
 unfold Oper.wp
 rw [qg1 hc]
 refine (hF φ1 w _ hv ⟨hm1.base,by simp,List.Pairwise.nil⟩).mono ?_
 rintro e w' ⟨i,v,φ',rfl,h1,h2⟩
 have hk2:Kpt [] w w':=by have:=h2.kept;simpa [qb4] using this
 refine hk (fun b i=>if b<w.heap.size then φ b i else φ' b i) v w' ⟨⟨fun b i u hu=>?_,by simp,List.Pairwise.nil⟩,hk2,by simp [qb4],fun b i hb=>if_pos hb⟩ (hR _ _ _ h1)
 split at hu
 ·rename_i hb
  exact h2.mem.base b i u (by rw [h2.old b i hb];exact hle _ _ _ hu)
 ·exact h2.mem.base b i u hu
end
section
variable {P:Program} {c:Ctx} {A:Nat→Option VP} {L:List Item} {d:Option Tmp} {ty:TypeId} {pos:String} {af:Array Edge} {g:Option (Nat×Bool)}
variable {α:Type} {T:Ty α}
theorem zca {xs:List α}:∀ m:Nat,(xs.take m).flatMap T.cells=(xs.flatMap T.cells).take (m*T.size):=by
 induction xs with
 | nil=>intro m;simp
 | cons x xs ih =>
  intro m
  cases m with
  | zero=>simp
  | succ m =>
   rw [List.take_succ_cons,List.flatMap_cons,List.flatMap_cons,ih,List.take_append,T.len x,List.take_of_length_le (l:=T.cells x) (by rw [T.len];rw [Nat.add_mul];omega)]
   congr 2;rw [Nat.add_mul];omega
end
section
variable {P:Program} {c:Ctx} {A:Nat→Option VP} {L:List Item} {d:Option Tmp} {ty:TypeId} {pos:String} {af:Array Edge} {g:Option (Nat×Bool)}
theorem qbi {t:TypeId} {z:Value} {Rs:List VP} (hz:(P.info? t).map (·.zero)=some (some z)) (hR:(qen z).map Is=Rs) (h1:((qen z).all Value.oneCell')=true):OpN P c ⟨d,.alloc t,ty,pos,af,g⟩ A L (fun b:Nat=>.pointer (some ⟨b,0,none⟩)) (fun b=>blk b t Rs):=by
 subst hR;exact op_alloc hz h1
theorem qav {t t0:TypeId} {x y:Operand} {b o n:Nat} {D:VP} {As Bs Rs:List VP} {L':List Item} (hx:Ev A L x (Is (.pointer (some ⟨b,o,none⟩)))) (hy:Ev A L y D) (hD:qdx D Bs) (hr:Repl L (blk b t0 As) (blk b t0 Rs) L')
  (hR:ovr As o Bs=Rs) (hn:(P.info? t).map (·.size)=some n) (hB:Nat.beq Bs.length n=true) (hl:Nat.ble (o+n) As.length=true):OpS P c ⟨d,.store t x y,ty,pos,af,g⟩ A L (fun _:Unit=>Is undef) (fun _=>L'):=by
 subst hR;exact qa9 hx hy hD hr hn hB hl
theorem qbs {t t0:TypeId} {x:Operand} {b o n:Nat} {As Rs:List VP} {D:TypeDesc} (hx:Ev A L x (Is (.pointer (some ⟨b,o,none⟩)))) (hL:blk b t0 As∈L) (hu:P.underlying t=some D) (hD:qr4 D=true) (hn:(P.info? t).map (·.size)=some n) (hl:Nat.ble (o+n) As.length=true) (hR:(As.drop o).take n=Rs) :
  OpP P c ⟨d,.load t x,ty,pos,af,g⟩ A L (IsAgg Rs):=by
 subst hR;exact qve hx hL hu hD hn hl
theorem qcm {t:TypeId} {x:Operand} {As Rs:List VP} {n:Nat} {D:TypeDesc} (hx:Ev A L x (qdo As)) (hu:P.underlying t=some D) (hD:qr4 D=true) (hn:(P.info? t).map (·.size)=some n) (hl:Nat.ble n As.length=true) (hR:As.take n=Rs):OpP P c ⟨d,.load t x,ty,pos,af,g⟩ A L (IsAgg Rs):=by
 subst hR;exact qvd hx hu hD hn hl
theorem qa1 {s:TypeId} {x:Operand} {i n k:Nat} {As Rs:List VP} {fs:Array Field} {f:Field} (hx:Ev A L x (qdo As)) (hu:P.underlying s=some (.struct fs)) (hf:fs[i]?=some f) (hn:(P.info? f.type).map (·.size)=some (n+1)) (hk:f.offset=k) (hR:As.drop k=Rs) :
  OpP P c ⟨d,.fieldAddr s x i,ty,pos,af,g⟩ A L (qdo Rs):=by
 subst hR;exact qvf hx hu hf hn hk
theorem qlg {t:TypeId} {ps:Array (Nat×Operand)} {fs:List Field} {zs:List Value} {pl:List (Nat×Nat)} {qs:List (Nat×List VP)} {Rs0 Rs:List VP} (hu:P.underlying t=some (.struct fs.toArray)) (hz:(P.info? t).map (·.zero)=some (some (.agg zs.toArray))) (h1:(zs.all Value.oneCell')=true)
  (hpl:qi0 P fs=some pl) (hq:PartsE A L ps.toList qs) (hf:qkp (fun i=>pl[i]?) (zs.map Is) qs=some Rs0) (hR:Rs0=Rs):OpP P c ⟨d,.build t ps,ty,pos,af,g⟩ A L (IsAgg Rs):=by
 subst hR;exact op_build hu hz h1 hpl hq hf
theorem qbz {t t0:TypeId} {y:Operand} {s n:Nat} {D:VP} {As Bs Rs:List VP} (hy:Ev A L y D) (hD:qdx D Bs) (hn:(P.info? t).map (·.size)=some n) (hB:Nat.beq Bs.length n=true) (hl:Nat.ble (0+n) As.length=true) (hR:ovr As 0 Bs=Rs) :
  OpW P c ⟨none,.store t (.tmp s) y,ty,pos,af,g⟩ A L s (fun b:Nat=>.pointer (some ⟨b,0,none⟩)) (fun b=>blk b t0 As) (fun b=>blk b t0 Rs):=by
 subst hR;exact za2 hy hD hn hB hl
theorem qif {t t0:TypeId} {x:Operand} {b o:Nat} {As:List VP} {B:VP} {D:TypeDesc} (hx:Ev A L x (Is (.pointer (some ⟨b,o,none⟩)))) (hL:blk b t0 As∈L) (hu:P.underlying t=some D) (hD:qr4 D=false) (h0:As[o]?=some B):OpP P c ⟨d,.load t x,ty,pos,af,g⟩ A L B:=qd9 hx hL hu hD h0
theorem Repl.same {L L':List Item} {it it':Item} (h:Repl L it it' L'):it=it'→L'=L:=by
 induction h with
 | head a b L=>rintro rfl;rfl
 | tail x h ih=>intro e;rw [ih e]
end
section
variable {P:Program} {c:Ctx} {A:Nat→Option VP} {L:List Item} {d:Option Tmp} {ty:TypeId} {pos:String} {af:Array Edge} {g:Option (Nat×Bool)}
variable {α:Type} {T:Ty α} {xs ys:List α}
theorem qd0 {s:Tmp} {y:Operand} {t e:TypeId} (hy:Ev A L y (qal T ys)) (hT:AppT P t e T.size) (hlen:xs.length+ys.length≤1048576) :
  OpT P c ⟨d,.call { callee:=.builtin .append,args:=#[.tmp s,y],argTypes:=#[t,t] },ty,pos,af,g⟩ A L s (slV xs.length) (fun i=>buf (slV xs.length i) e T xs) (slV (xs++ys).length) (fun i=>buf (slV (xs++ys).length i) e T (xs++ys)):=by
 intro φ a w K Q i0 hm h1 he hk
 have h2:(qal T ys).ok φ (a.eval y):=he y (by simp [Op.operands,Call.operands]) _ hy
 have hit:=hm.mem.items _ (List.mem_cons_self ..)
 obtain ⟨flat,f1,f2,f3⟩:=qj7 hit
 obtain ⟨i,w',flat',r1,r2,r3,r4,r5,r6⟩:=qqr (x:=.tmp s) (d:=d) (ty:=ty) (pos:=pos) (af:=af) (g:=g) hT hm.mem.base h1 f3 f1 f2 h2 hlen
 unfold Oper.wp
 rw [r1]
 have hm1:HP ⟨w,φ,qb4 [buf (slV xs.length i0) e T xs],[]⟩ φ [buf (slV xs.length i0) e T xs] w:=HP.start ⟨hm.mem.base,fun it hi=>by rw [List.mem_singleton] at hi;subst hi;exact hit,List.pairwise_singleton _ _⟩
 exact hk i φ w' (zbw (L:=[]) hm1 r2 r3 r4 r5 r6)
end
def WF (r:Option Nat):Fence:={ Fence.wide with round:=r }
section
variable {P:Program} {r:Option Nat} {n:Nat}
theorem WF.deep:(WF r).depth.isSome=true→1≤n:=fun h=>by simp [WF,Fence.wide] at h
variable {c:Ctx} {N:Nat} {E:Env} {L:List Item} {Q:Exit→Act→World→Prop}
end
section
variable {P:Program} {r:Option Nat} {n:Nat} {c:Ctx} {N:Nat} {E:Env} {L:List Item} {Q:Exit→Act→World→Prop} {ops:Array Oper} {rest:List Oper}
variable {d:Option Tmp} {ty:TypeId} {pos:String} {af:Array Edge} {t:Tmp} {op:Op}
end
end Go.Proofs.YtmgoplaamlignaaGreat
