/- Walks of functions and plain laws, laid together. Own work. -/
import Derived.Lib.AppendZerosOnto
import Derived.Maps.RangeRun
import Derived.Maps.Keyed
import Derived.Test.YtghkkdjbaehboaaGreatK4
namespace Go.Proofs.YtghkkdjbaehboaaGreat
open Go.RowKit Tryz
set_option linter.unusedVariables false
set_option linter.unusedSimpArgs false
set_option maxRecDepth 100000
set_option maxHeartbeats 4000000
section
variable {P:Program} {c:Ctx} {A:Nat→Option VP} {L:List Item} {d:Option Tmp} {ty:TypeId} {pos:String} {af:Array Edge} {g:Option (Nat×Bool)}
variable {α:Type} {T:Ty α} {xs ys:List α} {x y:Operand} {t u e:TypeId} {i:Option Addr×Nat} {n:Nat}
theorem OpS.conv {o:Oper} {L1:List Item} {ι:Type} {F:ι→VP} {L':ι→List Item} (hc:∀ φ w,HP c φ L w→HP c φ L1 w) (h:OpS P c o A L1 F L'):OpS P c o A L F L':=by
 intro φ a w K Q hm he hk
 refine h φ a w K Q (hc φ w hm) (fun x hx B hB=>?_) hk
 obtain ⟨D,h1,h2⟩:=hB
 exact h2 _ _ (hc φ w hm).mem.facts (he x hx D (.rfl' h1))
theorem OpP.conv {o:Oper} {L1:List Item} {F:VP} (hc:∀ φ w,HP c φ L w→HP c φ L1 w) (h:OpP P c o A L1 F):OpP P c o A L F:=by
 intro φ a w K Q hm he hk
 refine h φ a w K Q (hc φ w hm) (fun x hx B hB=>?_) hk
 obtain ⟨D,h1,h2⟩:=hB
 exact h2 _ _ (hc φ w hm).mem.facts (he x hx D (.rfl' h1))
theorem qvu {φ:Fz} {w:World} (hm:HP c φ L w) (hL:buf (slV n i) e T xs∈L):n=xs.length∧n≤i.2∧i.2≤maxLen∧(i.1=none→i.2=0∧n=0):=by
 obtain ⟨flat,f1,f2,f3⟩:=qiw (hm.mem.items _ hL)
 obtain ⟨a,cp⟩:=i
 rcases f3.2 with ⟨h1,h0⟩|⟨gg,cap,cur,e1,_,e2,e3,e4,e5,e6⟩
 ·unfold slV at h1
  injection h1 with h1 h2 h3
  dsimp only at h1 h2 h3
  subst h1 h2 h3
  exact ⟨h0.symm,Nat.le_refl _,Nat.zero_le _,fun _=>⟨rfl,rfl⟩⟩
 ·unfold slV at e1
  injection e1 with e7 e8 e9
  dsimp only at e7 e8 e9
  subst e7 e8 e9
  exact ⟨rfl,e3,e4,fun h=>by cases h⟩
theorem qtj (hx:Ev A L x (Is (.slice none 0 0))) (hu:P.underlying t=some (.slice e)):OpP P c ⟨d,.call { callee:=.builtin .cap,args:=#[x],argTypes:=#[t] },ty,pos,af,g⟩ A L (Is (.int .i64 0)):=
 opp fun φ a w hm he=>by
  have h1:a.eval x = .slice none 0 0:=he x (by simp [Op.operands,Call.operands]) _ hx
  refine ⟨_,?_,rfl⟩
  have h3:(#[x].map a.eval)=#[.slice none 0 0]:=by simp [h1]
  simp only [execOp,resolve,h3,Sem.run_bind,Sem.run_pure,Result.andThen_ok,invoke,builtin,Builtin.cap_,run_underlying hu]
  simp [run_underlying hu]
  rfl
theorem qvy {lo hi:Option Operand} (hx:Ev A L x (Is (.slice none 0 0))) (hu:P.underlying t=some (.slice e)) {sz:Nat} (hs:(P.info? e).map (·.size)=some sz) (hl:opN A L 0 lo 0) (hh:opN A L 0 hi 0):OpP P c ⟨d,.slice t x lo hi none,ty,pos,af,g⟩ A L (Is (.slice none 0 0)):=
 opp fun φ a w hm he=>by
  have h1:a.eval x = .slice none 0 0:=he x (by simp [Op.operands]) _ hx
  have hlo:∀ y,lo=some y→∃ k,a.eval y = .int k ((0:Nat):Int):=fun y hy=>by
   subst hy
   obtain ⟨k,i,h3,h4⟩:=hl
   have h5:a.eval y = .int k i:=he y (by simp [Op.operands]) _ h3
   exact ⟨k,by rw [h5,h4]⟩
  have hhi:∀ y,hi=some y→∃ k,a.eval y = .int k ((0:Nat):Int):=fun y hy=>by
   subst hy
   obtain ⟨k,i,h3,h4⟩:=hh
   have h5:a.eval y = .int k i:=he y (by simp [Op.operands]) _ h3
   exact ⟨k,by rw [h5,h4]⟩
  have hb:=qmg (P:=P) (a:=a) (lo:=lo) (hi:=hi) (l:=0) (h:=0) (n:=0) (cp:=0) hlo (fun _=>rfl) hhi (fun _=>rfl) (Nat.le_refl _) (Nat.le_refl _) (Nat.le_refl _) w
  refine ⟨_,?_,rfl⟩
  simp only [execOp,h1]
  refine qcl ?_
  simp only [Instr.sliceAt,Sem.run_bind,run_underlying hu,Result.andThen_ok,Instr.slice]
  simp only [Option.map_none] at hb ⊢
  simp only [hb,Result.andThen_ok,qb5 hs,Sem.run_pure,if_true,Nat.sub_self]
theorem qz3 (T:Ty α) (z0:α) {tn:TypeId} {kn kq:IntKind} {z:Value} {bytes k:Nat} (hx:Ev A L x (Is (.slice none 0 0))) (hy:Ev A L y (Is (.int kq (k:Int)))) (hu:P.underlying t=some (.slice e)) (hn:P.underlying tn=some (.int kn))
  (hinfo:(P.info? e).map (fun i=>(i.zero,i.size,i.bytes))=some (some z,T.size,bytes)) (hz:z.cells.size=T.size) (hzs:Nat.blt 0 T.size=true) (hb:Nat.ble bytes 100000=true) (h0:0<k) (hk:k≤1048576)
  (hT:T.cells z0=(qdz z).map Is) (h1:((qdz z).all Value.oneCell')=true) :
  OpN P c ⟨d,.call { callee:=.builtin .append,args:=#[x,y],argTypes:=#[t,tn] },ty,pos,af,g⟩ A L (slV k) (fun i=>buf (slV k i) e T (List.replicate k z0)):=by
 intro φ a w K Q hm he hK
 have e1:a.eval x = .slice none 0 0:=he x (by simp [Op.operands,Call.operands]) _ hx
 have e2:a.eval y = .int kq (k:Int):=he y (by simp [Op.operands,Call.operands]) _ hy
 obtain ⟨i,hi,hzz⟩:=Option.map_eq_some_iff.1 hinfo
 simp only [Prod.mk.injEq] at hzz
 obtain ⟨hzi,hsi,hbi⟩:=hzz
 have hb':=Nat.le_of_ble_eq_true hb
 have hs':0<T.size:=Nat.le_of_ble_eq_true hzs
 have hkb:=Nat.mul_le_mul hk hb'
 have hold:(Builtin.firstCells i.size 0 (.slice none 0 0)).run P w.drew = .ok ([]:List Value).toArray w.drew:=by
  simp [Builtin.firstCells]
 have hr:=Lib.run_append_grow_zeros (P:=P) w t tn ty e i z kq kn hu hn hi hzi none 0 0 [] hold k h0 (by omega) (by omega) (by omega) (by rw [hbi];omega) (by rw [Nat.zero_add,nextslicecap_zero h0,hbi];omega)
 rw [Nat.zero_add] at hr
 have hrun:(execOp a.eval ⟨d,.call { callee:=.builtin .append,args:=#[x,y],argTypes:=#[t,tn] },ty,pos,af,g⟩).run P w = .ok (.value (.slice (some ⟨w.heap.size,0,none⟩) k (grownCap w k 0 e)))
   (w.drew.alloc (.cells (([]:List Value).toArray++Builtin.zeroCells z.cells k++Builtin.zeroCells z.cells (grownCap w k 0 e-k)) e)):=by
  have h4:(#[x,y].map a.eval)=#[.slice none 0 0,.int kq (k:Int)]:=by simp [e1,e2]
  simp only [execOp,resolve,h4,Sem.run_bind,Sem.run_pure,Result.andThen_ok,invoke,builtin,hr]
 unfold Oper.wp
 rw [hrun]
 have hge:=grownCap_ge w k 0 e
 have hzl:∀ m:Nat,(Builtin.zeroCells z.cells m).toList=(List.replicate m (qdz z)).flatten:=fun m=>by
  have hzc:z.cells.size=T.size:=hz
  apply List.ext_getElem?
  intro j
  have key:∀ m:Nat,((List.replicate m (qdz z)).flatten)[j]?=if j<m*T.size then some (z.cells[j % z.cells.size]!) else none:=fun m=>by
   have hzl:(qdz z).length=T.size:=by unfold qdz;rw [Array.length_toList,hzc]
   induction m generalizing j with
   | zero=>simp
   | succ m ih =>
    rw [List.replicate_succ,List.flatten_cons]
    rcases Nat.lt_or_ge j T.size with hj|hj
    ·rw [List.getElem?_append_left (by omega),if_pos (by rw [Nat.add_mul];omega)]
     unfold qdz
     rw [Array.getElem?_toList,hzc,Nat.mod_eq_of_lt hj,getElem!_def]
     have:z.cells[j]?=some z.cells[j]:=Array.getElem?_eq_getElem (by omega)
     rw [this]
    ·rw [List.getElem?_append_right (by omega),ih,hzl]
     have e3:(j-T.size) % z.cells.size=j % z.cells.size:=by
      rw [hzc]
      conv=>rhs;rw [show j=(j-T.size)+T.size by omega,Nat.add_mod_right]
     rw [e3,Nat.add_mul]
     by_cases hjm:j-T.size<m*T.size
     ·rw [if_pos hjm,if_pos (by omega)]
     ·rw [if_neg hjm,if_neg (by omega)]
  rw [key]
  unfold Builtin.zeroCells
  rw [Array.getElem?_toList,Array.getElem?_map,Array.getElem?_range]
  rw [hzc]
  split <;> simp
 have hflat:∀ m:Nat,((List.replicate m z0).flatMap T.cells)=((List.replicate m (qdz z)).flatten).map Is:=fun m=>by
  induction m with
  | zero=>rfl
  | succ m ih=>rw [List.replicate_succ,List.flatMap_cons,ih,hT,List.replicate_succ,List.flatten_cons,List.map_append]
 have hlen:∀ m:Nat,((List.replicate m (qdz z)).flatten).length=m*T.size:=fun m=>by
  rw [← hzl]
  simp [Builtin.zeroCells,hz]
 have hones:ones ((List.replicate k (qdz z)).flatten):=fun u hu=>by
  obtain ⟨l,hl,hul⟩:=List.mem_flatten.1 hu
  rw [(List.mem_replicate.1 hl).2] at hul
  exact List.all_eq_true.1 h1 u hul
 have hd:HP c φ L w.drew:=hm.drew
 have hnew:=qp4 (b:=0) (it:=buf (slV k (some ⟨w.heap.size,0,none⟩,grownCap w k 0 e)) e T (List.replicate k z0)) (o:=.cells (([]:List Value).toArray++Builtin.zeroCells z.cells k++Builtin.zeroCells z.cells (grownCap w k 0 e-k)) e) hd rfl
  ⟨(List.replicate k (qdz z)).flatten,by rw [hlen,List.length_replicate],by rw [hflat];exact qh0 _,hones,.inr ⟨w.heap.size,grownCap w k 0 e,_,by simp [slV],rfl,by rw [List.length_replicate];exact hge,grownCap_le_maxLen w k 0 e (by unfold maxLen;omega),by
   simp only [Array.size_append,List.size_toArray,List.length_nil,Nat.zero_add]
   have:∀ m,(Builtin.zeroCells z.cells m).size=m*T.size:=fun m=>by simp [Builtin.zeroCells,hz]
   rw [this,this,← Nat.add_mul];congr 1;omega,by
   rw [List.length_replicate]
   simp only [Array.toList_append,List.nil_append]
   rw [hzl,List.take_append_of_le_length (by rw [hlen];exact Nat.le_refl _),List.take_of_length_le (by rw [hlen];exact Nat.le_refl _)]⟩⟩
 exact hK (some ⟨w.heap.size,0,none⟩,grownCap w k 0 e) φ _ ⟨hnew.mem,⟨hnew.kept.os,hnew.kept.tape,hnew.kept.output,hnew.kept.size,hnew.kept.block⟩,hnew.mine,hnew.old⟩
theorem qnz {φ:Fz} {a:Act} {w:World} {lo hi:Option Operand} {l h:Nat} {ad:Option Addr} {m cp sz:Nat} (he:∀ v,v∈(Op.slice t x lo hi none).operands→∀ B,Ev A L v B→B.ok φ (a.eval v)) (hx:a.eval x = .slice ad m cp) (hu:P.underlying t=some (.slice e)) (hs:(P.info? e).map (·.size)=some sz) (hl:opN A L 0 lo l) (hh:opN A L m hi h) (h1:l≤h) (h2:h≤m) (h3:m≤cp) :
  (execOp a.eval ⟨d,.slice t x lo hi none,ty,pos,af,g⟩).run P w = .ok (.value (.slice (if cp=l then ad else ad.map (·.add (l*sz))) (h-l) (cp-l))) w:=by
 have hlo:∀ y,lo=some y→∃ k,a.eval y = .int k (l:Int):=fun y hy=>by
  subst hy
  obtain ⟨k,i,h3,h4⟩:=hl
  have h5:a.eval y = .int k i:=he y (by simp [Op.operands]) _ h3
  exact ⟨k,by rw [h5,h4]⟩
 have hhi:∀ y,hi=some y→∃ k,a.eval y = .int k (h:Int):=fun y hy=>by
  subst hy
  obtain ⟨k,i,h3,h4⟩:=hh
  have h5:a.eval y = .int k i:=he y (by simp [Op.operands]) _ h3
  exact ⟨k,by rw [h5,h4]⟩
 have hb:=qmg (P:=P) (a:=a) (lo:=lo) (hi:=hi) (l:=l) (h:=h) (n:=m) (cp:=cp) hlo (fun e=>by subst e;exact hl) hhi (fun e=>by subst e;exact hh) h1 h2 h3 w
 simp only [execOp,hx]
 refine qcl ?_
 simp only [Instr.sliceAt,Sem.run_bind,run_underlying hu,Result.andThen_ok,Instr.slice]
 simp only [Option.map_none] at hb ⊢
 simp only [hb,Result.andThen_ok,qb5 hs,Sem.run_pure]
theorem qps {lo hi:Option Operand} {h sz:Nat} (hx:Ev A L x (Is (slV n i))) (hL:buf (slV n i) e T xs∈L) (hu:P.underlying t=some (.slice e)) (hs:(P.info? e).map (·.size)=some sz) (hl:opN A L 0 lo 0) (hh:opN A L n hi h) (h2:h≤n):OpP P c ⟨d,.slice t x lo hi none,ty,pos,af,g⟩ A L (Is (slV h i)):=
 opp fun φ a w hm he=>by
  obtain ⟨e1,e2,e3,e4⟩:=qvu hm hL
  have h1:a.eval x=slV n i:=he x (by simp [Op.operands]) _ hx
  refine ⟨_,qnz (A:=A) (L:=L) (φ:=φ) he h1 hu hs hl hh (Nat.zero_le _) h2 e2,?_⟩
  show _=slV h i
  obtain ⟨ad,cp⟩:=i
  unfold slV
  dsimp only
  rw [Nat.sub_zero,Nat.sub_zero,Nat.zero_mul]
  cases ad with
  | none=>simp
  | some ad=>split <;> simp [Addr.add]
def ptV (n l sz:Nat) (i:Option Addr×Nat):Value:=.slice (if i.2=l then i.1 else i.1.map (·.add (l*sz))) (n-l) (i.2-l)
theorem qzz {lo hi:Option Operand} {l:Nat} (hx:Ev A L x (Is (slV n i))) (hL:buf (slV n i) e T xs∈L) (hu:P.underlying t=some (.slice e)) (hs:(P.info? e).map (·.size)=some T.size) (hl:opN A L 0 lo l) (hh:opN A L n hi n) (h2:l≤n):OpP P c ⟨d,.slice t x lo hi none,ty,pos,af,g⟩ A L (Is (ptV n l T.size i)):=
 opp fun φ a w hm he=>by
  obtain ⟨e1,e2,e3,e4⟩:=qvu hm hL
  have h1:a.eval x=slV n i:=he x (by simp [Op.operands]) _ hx
  exact ⟨_,qnz (A:=A) (L:=L) (φ:=φ) he h1 hu hs hl hh h2 (Nat.le_refl _) e2,rfl⟩
theorem slV_own (n h:Nat) (i:Option Addr×Nat):(slV n i).ownBlock=(slV h i).ownBlock:=by
 obtain ⟨a,cp⟩:=i
 cases a <;> rfl
theorem HP.cutBuf {φ:Fz} {w:World} {h:Nat} {L':List Item} (hm:HP c φ L w) (hr:Repl L (buf (slV n i) e T xs) (buf (slV h i) e T (xs.take h)) L') (hh:h≤xs.length):HP c φ L' w:=by
 have hat:(buf (slV h i) e T (xs.take h)).at_=(buf (slV n i) e T xs).at_:=slV_own h n i
 refine hm.upd hr (Kpt.refl _ _) ?_ fun b hb=>.inr (hat ▸ hb)
 obtain ⟨⟨flat,f0,f1,f2,f3⟩,f4⟩:=hm.mem.items _ hr.mem
 have hl:(xs.take h).length=h:=by rw [List.length_take];omega
 have hle:h*T.size≤xs.length*T.size:=Nat.mul_le_mul_right _ hh
 refine ⟨⟨flat.take (h*T.size),by rw [List.length_take,f0,hl];omega,by rw [zd3];exact f1.take _,f2.sub fun u hu=>List.mem_of_mem_take hu,?_⟩,fun b hb=>f4 b (hat ▸ hb)⟩
 rcases f3 with ⟨h1,h0⟩|⟨gg,cap,cur,e1,e2,e3,e4,e5,e6⟩
 ·refine .inl ⟨?_,by rw [hl];omega⟩
  unfold slV at h1 ⊢
  injection h1 with h1 h2 h3
  rw [h1,h3,show h=0 by omega]
 ·refine .inr ⟨gg,cap,cur,?_,by rw [hat];exact e2,by rw [hl];omega,e4,e5,?_⟩
  ·unfold slV at e1 ⊢
   injection e1 with e7 e8 e9
   rw [e7,e9,hl]
  ·rw [hl,← e6,List.take_take,Nat.min_eq_left hle]
theorem ze8 {Q:Exit→Act→World→Prop} {N:Nat} {E:Env} {h:Nat} {L':List Item} {ex:Exit} (hr:Repl L (buf (slV n i) e T xs) (buf (slV h i) e T (xs.take h)) L') (hh:h≤xs.length) (k:JQ c N E L' Q ex):JQ c N E L Q ex:=fun φ a w st=>k φ a w ⟨st.defers,st.size,st.env,st.mem.cutBuf hr hh⟩
theorem zcz {h:Nat} {L1:List Item} {L':Option Addr×Nat→List Item} (hx:Ev A L1 x (Is (slV h i))) (hr:Repl L (buf (slV n i) e T xs) (buf (slV h i) e T (xs.take h)) L1) (hh:h≤xs.length) (hr2:∀ j,Repl L1 (buf (slV h i) e T (xs.take h)) (buf (slV (xs.take h++ys).length j) e T (xs.take h++ys)) (L' j)) (hy:Ev A L1 y (IsSl T ys)) (hT:AppT P t e T.size) (hlen:xs.length+ys.length≤1048576) :
  OpS P c ⟨d,.call { callee:=.builtin .append,args:=#[x,y],argTypes:=#[t,t] },ty,pos,af,g⟩ A L (fun j=>Is (slV (xs.take h++ys).length j)) L':=
 OpS.conv (fun φ w hm=>hm.cutBuf hr hh) (qb6 hx hr2 hy hT (by rw [List.length_take];omega))
theorem qq7 {m size l:Nat} {As:List VP} (xs:List α) (hx:Ev A L x (qeu m size As)) (hs:SubLs L As (xs.flatMap T.cells)) (hn:m=xs.length) (hsz:size=T.size) (hy:Ev A L y (Is (ptV n l T.size i))) (hL:buf (slV n i) e T ys∈L) (hl:l≤ys.length) (hT:AppT P t e T.size) (hlen:xs.length+ys.length≤1048576) :
  OpP P c ⟨d,.call { callee:=.builtin .append,args:=#[x,y],argTypes:=#[t,t] },ty,pos,af,g⟩ A L (IsSl T (xs++ys.drop l)):=
 opq fun φ a w hm he=>by
  obtain ⟨b,h1,h2,h3,h4⟩:(qeu m size As).ok φ (a.eval x):=he x (by simp [Op.operands,Call.operands]) _ hx
  have h5:a.eval y=ptV n l T.size i:=he y (by simp [Op.operands,Call.operands]) _ hy
  obtain ⟨olds,f1,f2,f3,f4⟩:=qh7 h2
  have f5:Alls φ (xs.flatMap T.cells) olds:=hs.alls hm.mem.facts f1
  obtain ⟨v1,v2,v3,v4⟩:=qvu hm hL
  obtain ⟨z,bytes,t1,t2,t3⟩:=hT.hi
  obtain ⟨q,hq,hzz⟩:=Option.map_eq_some_iff.1 t1
  simp only [Prod.mk.injEq] at hzz
  obtain ⟨hz,hsi,hb⟩:=hzz
  subst hn hsz v1
  have hol:olds.length=xs.length*T.size:=by rw [f2,h3]
  by_cases h0:l=ys.length
  ·have hnil:ys.drop l=[]:=by rw [h0,List.drop_length]
   have h7:(#[x,y].map a.eval)=#[.slice (some ⟨b,0,none⟩) xs.length xs.length,.slice (if i.2=l then i.1 else i.1.map (·.add (l*T.size))) 0 (i.2-l)]:=by
    simp [h1,h5,ptV,h0]
   generalize (if i.2=l then i.1 else i.1.map (·.add (l*T.size)))=ad at h7
   generalize i.2-l=cp at h7
   refine ⟨.slice (some ⟨b,0,none⟩) xs.length xs.length,φ,w,?_,HP.start (L:=[]) ⟨hm.mem.base,by simp,List.Pairwise.nil⟩,?_⟩
   ·simp only [execOp,resolve,h7,Sem.run_bind,Sem.run_pure,Result.andThen_ok,invoke,builtin]
    cases ad <;> simp [Builtin.append_,run_underlying hT.ht,sizeOf,typeInfo,hq,Builtin.lenOf,Builtin.firstCells,storeCells,loadCells,loadCellsFrom]
   ·rw [hnil,List.append_nil]
    refine ⟨_,_,_,rfl,rfl,Nat.le_refl _,h4,.inr ⟨b,0,rfl,fun k v hk j B hB=>?_⟩⟩
    obtain ⟨u,k1,k2⟩:=qmp (flat:=olds) f5 hk hB
    exact ⟨u,by rw [Nat.zero_add];have:=f4 _ _ k1;rw [Nat.zero_add] at this;exact this,k2,f3 u (List.mem_of_getElem? k1)⟩
  ·have hlt:l<ys.length:=by omega
   obtain ⟨gg,cap,cur,rfl,_,w2,w3,w4,w5,flat,w6,w7,w8,w9⟩:=qkv hm hL hlt
   have hcl:¬ cap=l:=by omega
   have h7:(#[x,y].map a.eval)=#[.slice (some ⟨b,0,none⟩) xs.length xs.length,.slice (some ⟨gg,l*T.size,none⟩) (ys.drop l).length (cap-l)]:=by
    simp [h1,h5,ptV,hcl,qdr]
   have hnews:Alls φ ((ys.drop l).flatMap T.cells) (flat.drop (l*T.size)):=by
    have e1:(ys.take l).flatMap T.cells++(ys.drop l).flatMap T.cells=ys.flatMap T.cells:=by rw [← List.flatMap_append,List.take_append_drop]
    have e2:((ys.take l).flatMap T.cells).length=l*T.size:=by rw [qjk,List.length_take];congr 1;omega
    have e3:=w7.drop (l*T.size)
    rw [← e1,← e2,List.drop_left,e2] at e3
    exact e3
   have hnl:(flat.drop (l*T.size)).length=(ys.drop l).length*T.size:=by
    rw [← hnews.len,qjk]
   have hcell:∀ j u,(flat.drop (l*T.size))[j]?=some u→w.cell? ⟨gg,l*T.size+j,none⟩=some u:=fun j u hj=>by
    rw [List.getElem?_drop] at hj
    rw [cell_of_row w gg _ cur e _ w2]
    rw [← w6] at hj
    have hll:l*T.size+j<ys.length*T.size:=by
     have:=(List.getElem?_eq_some_iff.1 hj).1
     rw [List.length_take] at this;omega
    rw [List.getElem?_take_of_lt hll,Array.getElem?_toList] at hj
    exact hj
   have hdl:(ys.drop l).length=ys.length-l:=List.length_drop ..
   have hby:=Nat.mul_le_mul (show xs.length+(ys.drop l).length≤1048576 by omega) t3
   have hr:=run_append_grow (P:=P) w t ty e q z hT.ht hq hz ⟨b,0,none⟩ xs.length xs.length olds (by rw [hol,hsi])
    (fun j u hu=>by rw [qdr];exact hm.mem.base _ _ _ (f4 j u hu)) ⟨gg,l*T.size,none⟩ (ys.drop l).length (cap-l) (flat.drop (l*T.size)) (by rw [hnl,hsi]) (fun j u hu=>by rw [qdr];exact hcell j u hu) (by omega) (by omega)
    (growslice_fits (by omega) (by rw [hb];omega))
   have hd:HP c φ L w.drew:=hm.drew
   have hones:ones (flat.drop (l*T.size)):=w8.sub fun u hu=>List.mem_of_mem_drop hu
   obtain ⟨φ',g1,g2,g3⟩:=zdn (e:=e) (vs:=olds++flat.drop (l*T.size)) (rs:=(Builtin.zeroCells z.cells (grownCap w (xs.length+(ys.drop l).length) xs.length e-(xs.length+(ys.drop l).length))).toList) (As:=(xs++ys.drop l).flatMap T.cells) hd (by rw [List.flatMap_append];exact f5.append hnews) (fun u hu=>by
    rcases List.mem_append.1 hu with hu|hu
    ·exact f3 u hu
    ·exact hones u hu)
   have hw:olds.toArray++(flat.drop (l*T.size)).toArray++Builtin.zeroCells z.cells (grownCap w (xs.length+(ys.drop l).length) xs.length e-(xs.length+(ys.drop l).length))=((olds++flat.drop (l*T.size))++(Builtin.zeroCells z.cells (grownCap w (xs.length+(ys.drop l).length) xs.length e-(xs.length+(ys.drop l).length))).toList).toArray:=by simp
   rw [hw] at hr
   refine ⟨_,φ',_,?_,⟨g2.mem,⟨g2.kept.os,g2.kept.tape,g2.kept.output,g2.kept.size,g2.kept.block⟩,g2.mine,g2.old⟩,⟨some ⟨w.heap.size,0,none⟩,xs.length+(ys.drop l).length,grownCap w (xs.length+(ys.drop l).length) xs.length e,rfl,by rw [List.length_append],grownCap_ge w _ _ _,grownCap_le_maxLen w _ _ _ (by unfold maxLen;omega),.inr ⟨_,0,rfl,fun k v hk j B hB=>?_⟩⟩⟩
   ·simp only [execOp,resolve,h7,Sem.run_bind,Sem.run_pure,Result.andThen_ok,invoke,builtin,hr]
   ·have:=g3 _ B (qkf hk hB)
    rw [← Nat.add_assoc] at this
    exact this
end
section
variable {P:Program} {ops:Array Oper} {c:Ctx} {N:Nat}
structure EP where
 i:Nat
 o:Oper
 F:VP
 kd:Nat
 M':List Item
def EP.ok (P:Program) (c:Ctx) (x:EP) (A:Nat→Option VP) (M:List Item):Prop:=
 x.o.guard=none∧((x.kd=0∧OpP P c x.o A [] x.F)∨(x.kd=1∧OpP P c x.o A M x.F)∨(x.kd=2∧OpS P c x.o A M (fun _:Unit=>x.F) (fun _=>x.M'))∨(x.kd=1∧OpS P c x.o A M (fun _:Unit=>x.F) (fun _=>M)))
def qm4 (p:Nat→Bool):List EP→(Nat→Option VP)→Nat→Option VP
 | [],A=>A
 | x :: l,A=>qm4 p l (bif p x.i then qsp A x.o.dst x.F else A)
def qm5 (p:Nat→Bool):List EP→List Item→List Item
 | [],M=>M
 | x :: l,M=>qm5 p l (bif p x.i&&Nat.beq x.kd 2 then x.M' else M)
theorem qvr {A:Nat→Option VP} {d:Option Tmp} {B:VP} {t:Nat} (h:d≠some t):qsp A d B t=A t:=by unfold qsp;rw [if_neg h]
theorem qq1 {A:Nat→Option VP} {B:VP} {t:Nat}:qsp A (some t) B t=some B:=by unfold qsp;rw [if_pos rfl]
theorem qg5 {p q:Nat→Bool} {t:Nat} {l:List EP}:∀ {A B:Nat→Option VP},A t=B t→(∀ x,x∈l→x.o.dst=some t→p x.i=q x.i)→qm4 p l A t=qm4 q l B t:=by
 induction l with
 | nil=>intro A B h _;exact h
 | cons y l ih =>
  intro A B h hl
  show qm4 p l (bif p y.i then qsp A y.o.dst y.F else A) t=qm4 q l (bif q y.i then qsp B y.o.dst y.F else B) t
  refine ih ?_ fun x hx=>hl x (List.mem_cons_of_mem _ hx)
  by_cases hd:y.o.dst=some t
  ·rw [hl y (List.mem_cons_self ..) hd,hd]
   cases q y.i
   ·exact h
   ·simp only [cond_true];rw [qq1,qq1]
  ·have e1:(bif p y.i then qsp A y.o.dst y.F else A) t=A t:=by cases p y.i <;> simp [qvr hd]
   have e2:(bif q y.i then qsp B y.o.dst y.F else B) t=B t:=by cases q y.i <;> simp [qvr hd]
   rw [e1,e2];exact h
theorem qk6 (p:Nat→Bool):∀ (l l':List EP) (A:Nat→Option VP),qm4 p (l++l') A=qm4 p l' (qm4 p l A)
 | [],_,_=>rfl
 | x :: l,l',A=>by simp only [List.cons_append,qm4,qk6 p l l']
theorem qun (l:List EP) (A:Nat→Option VP):qm4 (fun _=>false) l A=A:=by
 induction l generalizing A with
 | nil=>rfl
 | cons x l ih=>exact ih A
theorem qum {p:Nat→Bool} {t:Nat} {l:List EP} {A:Nat→Option VP} (h:∀ x,x∈l→x.o.dst=some t→p x.i=false):qm4 p l A t=A t:=by
 rw [qg5 (q:=fun _=>false) (A:=A) (B:=A) rfl h,qun]
theorem qg6 {p q:Nat→Bool} {l:List EP}:∀ {M:List Item},(∀ x,x∈l→x.kd=2→p x.i=q x.i)→qm5 p l M=qm5 q l M:=by
 induction l with
 | nil=>intro M _;rfl
 | cons y l ih =>
  intro M hl
  show qm5 p l (bif p y.i&&Nat.beq y.kd 2 then y.M' else M)=qm5 q l (bif q y.i&&Nat.beq y.kd 2 then y.M' else M)
  by_cases h2:y.kd=2
  ·rw [hl y (List.mem_cons_self ..) h2];exact ih fun x hx=>hl x (List.mem_cons_of_mem _ hx)
  ·have hb:Nat.beq y.kd 2=false:=qi0 h2
   rw [hb,Bool.and_false,Bool.and_false];exact ih fun x hx=>hl x (List.mem_cons_of_mem _ hx)
theorem qk7 (p:Nat→Bool):∀ (l l':List EP) (M:List Item),qm5 p (l++l') M=qm5 p l' (qm5 p l M)
 | [],_,_=>rfl
 | x :: l,l',M=>by simp only [List.cons_append,qm5,qk7 p l l']
theorem quq (l:List EP) (M:List Item):qm5 (fun _=>false) l M=M:=by
 induction l generalizing M with
 | nil=>rfl
 | cons x l ih=>exact ih M
theorem qup {p:Nat→Bool} {l:List EP} {M:List Item} (h:∀ x,x∈l→x.kd=2→p x.i=false):qm5 p l M=M:=by
 rw [qg6 (q:=fun _=>false) h,quq]
theorem St.congr {A B:Nat→Option VP} {L L':List Item} {φ:Fz} {a:Act} {w:World} (h:St c N A L φ a w) (e:∀ t,A t=B t) (e':L=L'):St c N B L' φ a w:=by
 have:A=B:=funext e
 subst this;subst e';exact h
theorem phases {Q:Exit→Act→World→Prop} {nd:List Nat} (hg:Good ops nd) (hN:qgu (fun _ o=>qrx N o.dst) ops.toList 0=true) {k n:Nat} (hS:qlh nd ops.size k n=true) (hkn:k+n≤ops.size)
  {m:List EP} {A0:Nat→Option VP} {M0:List Item} (hm:m.length=n) (hmi:∀ i x,m[i]?=some x→x.i=k+i∧ops[k+i]?=some x.o)
  (hop:∀ m1 x m2,m=m1++x :: m2→x.ok P c (qm4 (fun _=>true) m1 A0) (qm5 (fun _=>true) m1 M0))
  (hph:∀ x y,x∈m→y∈m→x.i<y.i→(x.kd=2∧y.kd≠0∨x.kd≠0∧y.kd=2)→(qg0 nd y.i).testBit x.i=true)
  (next:∀ φ a w listed,Pre ops nd (k+n) listed→St c N (qm4 (fun _=>true) m A0) (qm5 (fun _=>true) m M0) φ a w→wpAny P .any ops Q (unl ops.size listed) listed a w) :
  ∀ (u:Nat) (φ:Fz) (a:Act) (w:World) (listed:Array Bool),unl ops.size listed=u→Cl ops nd listed→(∀ i,i<k→listed.getD i true=true)→(∀ i,k+n≤i→i<ops.size→listed.getD i true=false) →
   St c N (qm4 (fun i=>listed.getD i false) m A0) (qm5 (fun i=>listed.getD i false) m M0) φ a w→wpAny P .any ops Q u listed a w:=by
 intro u
 induction u with
 | zero =>
  intro φ a w listed hu hc hlo hhi st
  have hall:=qqq hu
  have hk:k+n=ops.size:=by
   rcases Nat.lt_or_ge (k+n) ops.size with h|h
   ·have h1:=hall _ h;have h2:=hhi (k+n) (Nat.le_refl _) h;rw [h1] at h2;cases h2
   ·omega
  have hall2:∀ x,x∈m→listed.getD x.i false=true:=fun x hx=>by
   obtain ⟨i,hi⟩:=List.mem_iff_getElem?.1 hx
   obtain ⟨e1,e2⟩:=hmi i x hi
   have hlt:k+i<ops.size:=(Array.getElem?_eq_some_iff.1 e2).1
   have h1:=hall _ hlt
   have h2:k+i<listed.size:=by rw [hc.size];exact hlt
   rw [e1]
   simp [h2] at h1 ⊢;exact h1
  rw [← hu]
  exact next φ a w listed ⟨hc,fun i hi=>⟨fun _=>by omega,fun _=>hall i hi⟩⟩ (st.congr (fun t=>qg5 rfl fun x hx _=>hall2 x hx) (qg6 fun x hx _=>hall2 x hx))
 | succ u ih =>
  intro φ a w listed hu hc hlo hhi st
  by_cases hdone:∃ i,i<k+n∧listed.getD i true=false
  ·obtain ⟨i0,hi0,hu0,hl0⟩:=qdp _ hdone
   have hr0:=qff hg hc.size (by omega) hu0 hl0
   refine ⟨fun h=>(by rw [h] at hr0;cases hr0),fun i hi=>?_⟩
   obtain ⟨hiu,oi,hoi,hiall⟩:=mem_ready.1 hi
   have hilt:i<ops.size:=(Array.getElem?_eq_some_iff.1 hoi).1
   have hik:k≤i:=by
    rcases Nat.lt_or_ge i k with h|h
    ·have:=hlo i h;rw [hiu] at this;cases this
    ·exact h
   have hin:i<k+n:=by
    rcases Nat.lt_or_ge i (k+n) with h|h
    ·exact h
    ·exfalso
     have hi0k:k≤i0:=by
      rcases Nat.lt_or_ge i0 k with h' | h'
      ·have:=hlo i0 h';rw [hu0] at this;cases this
      ·exact h'
     have h1:=List.all_eq_true.1 hS (i0-k) (List.mem_range.2 (by omega))
     have h2:=List.all_eq_true.1 h1 i (List.mem_range.2 hilt)
     have h3:Nat.blt i (k+n)=false:=qp8 (by omega)
     rw [h3,Bool.false_or,show k+(i0-k)=i0 by omega] at h2
     have h4:=qdc hg hc hi h2
     rw [qft hu0] at h4;cases h4
   have hp:(i-k)<m.length:=by omega
   obtain ⟨x,hx⟩:∃ x,m[i-k]?=some x:=⟨m[i-k],by simp [hp]⟩
   obtain ⟨ex1,ex2⟩:=hmi (i-k) x hx
   rw [show k+(i-k)=i by omega] at ex1 ex2
   have hox:x.o=oi:=Option.some.inj (ex2.symm.trans hoi)
   obtain ⟨m1,m2,hsplit,hm1⟩:∃ m1 m2,m=m1++x :: m2∧m1.length=i-k:=by
    refine ⟨m.take (i-k),m.drop (i-k+1),?_,by simp;omega⟩
    have h1:m.drop (i-k)=x :: m.drop (i-k+1):=by
     rw [List.drop_eq_getElem_cons hp]
     congr 1
     rw [List.getElem?_eq_getElem hp] at hx
     exact Option.some.inj hx
    rw [← h1,List.take_append_drop]
   have idx1:∀ y,y∈m1→y.i<i∧ops[y.i]?=some y.o:=fun y hy=>by
    obtain ⟨q,hq⟩:=List.mem_iff_getElem?.1 hy
    have hql:q<m1.length:=(List.getElem?_eq_some_iff.1 hq).1
    have hq':m[q]?=some y:=by rw [hsplit,List.getElem?_append_left hql];exact hq
    obtain ⟨e1,e2⟩:=hmi q y hq'
    exact ⟨by omega,by rw [e1];exact e2⟩
   have idx2:∀ y,y∈m2→i<y.i∧ops[y.i]?=some y.o:=fun y hy=>by
    obtain ⟨q,hq⟩:=List.mem_iff_getElem?.1 hy
    have hq':m[m1.length+1+q]?=some y:=by
     rw [hsplit,List.getElem?_append_right (by omega),show m1.length+1+q-m1.length=q+1 by omega]
     simpa using hq
    obtain ⟨e1,e2⟩:=hmi _ y hq'
    exact ⟨by omega,by rw [e1];exact e2⟩
   have hiL:i<listed.size:=by rw [hc.size];exact hilt
   have hxm:x∈m:=by rw [hsplit];exact List.mem_append_right _ (List.mem_cons_self ..)
   have in1:∀ y,y∈m1→y∈m:=fun y hy=>by rw [hsplit];exact List.mem_append_left _ hy
   have in2:∀ y,y∈m2→y∈m:=fun y hy=>by rw [hsplit];exact List.mem_append_right _ (List.mem_cons_of_mem _ hy)
   have notyet:∀ j,(qg0 nd j).testBit i=true→listed.getD j false=false:=fun j hj=>by
    cases hv:listed.getD j false with
    | false=>rfl
    | true=>have h4:=hc.cl _ hv i hj;rw [qft hiu] at h4;cases h4
   have earlier:∀ y t,y∈m1→y.o.dst=some t→t∈qcn ops oi→listed.getD y.i false=true:=fun y t hy ht htn=>by
    obtain ⟨h1,h2⟩:=idx1 y hy
    exact qdc hg hc hi ((hg.ord y.i y.o t i oi h2 ht hoi htn (by omega)).1 h1)
   have later:∀ y t,y∈m2→y.o.dst=some t→t∈qcn ops oi→listed.getD y.i false=false:=fun y t hy ht htn=>by
    obtain ⟨h1,h2⟩:=idx2 y hy
    exact notyet _ ((hg.ord y.i y.o t i oi h2 ht hoi htn (by omega)).2 h1)
   have hsame:∀ t,t∈oi.looksAt ops→qm4 (fun i=>listed.getD i false) m A0 t=qm4 (fun _=>true) m1 A0 t:=fun t ht=>by
    have htn:t∈qcn ops oi:=List.mem_append_left _ ht
    rw [hsplit,qk6]
    have h1:qm4 (fun i=>listed.getD i false) (x :: m2) (qm4 (fun i=>listed.getD i false) m1 A0) t=qm4 (fun i=>listed.getD i false) m1 A0 t:=by
     refine qum fun y hy hyt=>?_
     rcases List.mem_cons.1 hy with rfl|hy
     ·show listed.getD y.i false=false
      rw [ex1];exact qft hiu
     ·exact later y t hy hyt htn
    rw [h1]
    exact qg5 rfl fun y hy hyt=>earlier y t hy hyt htn
   have hget:∀ j,j≠i→(listed.setIfInBounds i true).getD j false=listed.getD j false:=fun j hj=>getD_set_ne false (Ne.symm hj)
   have hiT:(listed.setIfInBounds i true).getD i false=true:=by simp [hiL]
   have hxy:∀ y,y∈m→y.i=i→y=x:=fun y hy hyi=>by
    obtain ⟨q,hq⟩:=List.mem_iff_getElem?.1 hy
    obtain ⟨e1,e2⟩:=hmi q y hq
    have hqi:q=i-k:=by omega
    rw [hqi,hx] at hq
    exact (Option.some.inj hq).symm
   have hacc:∀ t,qsp (qm4 (fun i=>listed.getD i false) m A0) oi.dst x.F t=qm4 (fun j=>(listed.setIfInBounds i true).getD j false) m A0 t:=fun t=>by
    by_cases hd:oi.dst=some t
    ·rw [hd,qq1,hsplit,qk6]
     simp only [qm4]
     rw [ex1,hiT]
     simp only [cond_true]
     have hnm:t∈qcn ops oi:=by unfold qcn;rw [hd];simp
     rw [qum fun y hy hyt=>by
      obtain ⟨h1,_⟩:=idx2 y hy
      rw [hget y.i (by omega)]
      exact later y t hy hyt hnm]
     rw [hox,hd,qq1]
    ·rw [qvr hd]
     refine qg5 rfl fun y hy hyt=>(hget y.i fun hyi=>?_).symm
     rw [hxy y hy hyi,hox] at hyt
     exact hd hyt
   have hmem1:x.kd≠2→qm5 (fun j=>(listed.setIfInBounds i true).getD j false) m M0=qm5 (fun j=>listed.getD j false) m M0:=fun h2=>qg6 fun y hy hy2=>hget y.i fun hyi=>by rw [hxy y hy hyi] at hy2;exact h2 hy2
   have hmemR:x.kd≠0→qm5 (fun j=>listed.getD j false) m M0=qm5 (fun _=>true) m1 M0:=fun h0=>by
    rw [hsplit,qk7]
    rw [qup (l:=x :: m2) fun y hy hy2=>by
     rcases List.mem_cons.1 hy with rfl|hy
     ·show listed.getD y.i false=false
      rw [ex1];exact qft hiu
     ·obtain ⟨h1,_⟩:=idx2 y hy
      refine notyet _ ?_
      have:=hph x y hxm (in2 y hy) (by omega) (.inr ⟨h0,hy2⟩)
      rw [ex1] at this;exact this]
    refine qg6 fun y hy hy2=>?_
    obtain ⟨h1,_⟩:=idx1 y hy
    refine qdc hg hc hi ?_
    have:=hph y x (in1 y hy) hxm (by omega) (.inl ⟨hy2,h0⟩)
    rw [ex1] at this;exact this
   have hmemW:x.kd=2→qm5 (fun j=>(listed.setIfInBounds i true).getD j false) m M0=x.M':=fun h2=>by
    rw [hsplit,qk7]
    simp only [qm5]
    rw [ex1,hiT,h2]
    have hb:Nat.beq 2 2=true:=rfl
    simp only [hb,Bool.and_self,cond_true]
    refine qup fun y hy hy2=>?_
    obtain ⟨h1,_⟩:=idx2 y hy
    rw [hget y.i (by omega)]
    refine notyet _ ?_
    have:=hph x y hxm (in2 y hy) (by omega) (.inl ⟨h2,by rw [hy2];omega⟩)
    rw [ex1] at this;exact this
   have hunl:unl ops.size (listed.setIfInBounds i true)=u:=by
    have:=qnw hiL hiu hilt;omega
   have hdN:qrx N oi.dst=true:=by
    have:=qdn hN i oi (by simpa using hoi)
    exact this
   have hnext:∀ φ' v w' M',Fle φ φ'→x.F.ok φ' v→HP c φ' M' w'→M'=qm5 (fun j=>(listed.setIfInBounds i true).getD j false) m M0→wpAny P .any ops Q u (listed.setIfInBounds i true) (a.put oi.dst v) w':=fun φ' v w' M' hle hv hh hM=>by
    have h9:=(st.put (qe1 hdN) hle hv hh).congr hacc hM
    refine ih φ' _ w' _ hunl (hc.set hg hi) (fun j hj=>?_) (fun j hj hj'=>?_) h9
    ·rw [getD_set_ne true (by omega)];exact hlo j hj
    ·rw [getD_set_ne true (by omega)];exact hhi j hj hj'
   obtain ⟨hgd,hrule⟩:=hop m1 x m2 hsplit
   rw [hox] at hgd
   have hev:∀ (L:List Item),za2 φ L→∀ z,z∈oi.op.operands→∀ B,Ev (qm4 (fun _=>true) m1 A0) L z B→B.ok φ (a.eval z):=fun L hF z hz B hB=>by
    refine ev_of (A:=qm4 (fun _=>true) m1 A0) hF (fun t ht D hD=>?_) hB
    subst ht
    exact st.env t D (by rw [hsame t (qtt hz)];exact hD)
   unfold wpOp
   simp only [hoi]
   rw [if_pos (by simp [Region.wanted,hgd])]
   refine .inl ?_
   rcases hrule with ⟨h0,hr⟩|⟨h1,hr⟩|⟨h2,hr⟩|⟨h1,hr⟩
   ·rw [hox] at hr
    have hm0:HP c φ [] w:=st.mem.lessP (SubP.nil _)
    refine hr φ a w _ Q hm0 (hev [] hm0.mem.facts) fun φ' v w' hp hF=>?_
    exact hnext φ' v w' _ (hp.fle hm0.mem.base) hF (by simpa using st.mem.new hp) (hmem1 (by omega)).symm
   ·rw [hox] at hr
    have hmi:HP c φ (qm5 (fun _=>true) m1 M0) w:=by rw [← hmemR (by omega)];exact st.mem
    refine hr φ a w _ Q hmi (hev _ hmi.mem.facts) fun φ' v w' hp hF=>?_
    exact hnext φ' v w' _ (hp.fle hmi.mem.base) hF (by simpa using st.mem.new hp) (hmem1 (by omega)).symm
   ·rw [hox] at hr
    have hmi:HP c φ (qm5 (fun _=>true) m1 M0) w:=by rw [← hmemR (by omega)];exact st.mem
    exact hr φ a w _ Q hmi (hev _ hmi.mem.facts) fun _ φ' v w' hle hF hh=>hnext φ' v w' _ hle hF hh (hmemW h2).symm
   ·rw [hox] at hr
    have hmi:HP c φ (qm5 (fun _=>true) m1 M0) w:=by rw [← hmemR (by omega)];exact st.mem
    exact hr φ a w _ Q hmi (hev _ hmi.mem.facts) fun _ φ' v w' hle hF hh=>hnext φ' v w' _ hle hF hh ((hmemR (by omega)).symm.trans (hmem1 (by omega)).symm)
  ·have hall:∀ i,i<k+n→listed.getD i true=true:=fun i hi=>by
    cases hv:listed.getD i true with
    | true=>rfl
    | false=>exact absurd ⟨i,hi,hv⟩ hdone
   have hall2:∀ x,x∈m→listed.getD x.i false=true:=fun x hx=>by
    obtain ⟨i,hi⟩:=List.mem_iff_getElem?.1 hx
    obtain ⟨e1,e2⟩:=hmi i x hi
    have hlt:k+i<ops.size:=(Array.getElem?_eq_some_iff.1 e2).1
    have hil:i<m.length:=(List.getElem?_eq_some_iff.1 hi).1
    have h1:=hall (k+i) (by omega)
    have h2:k+i<listed.size:=by rw [hc.size];exact hlt
    rw [e1]
    simp [h2] at h1 ⊢;exact h1
   rw [← hu]
   refine next φ a w listed ⟨hc,fun i hi=>⟨fun h=>?_,fun h=>hall i h⟩⟩ (st.congr (fun t=>qg5 rfl fun x hx _=>hall2 x hx) (qg6 fun x hx _=>hall2 x hx))
   rcases Nat.lt_or_ge i (k+n) with h' | h'
   ·exact h'
   ·have:=hhi i h' hi;rw [h] at this;cases this
def phaseB (nd:List Nat) (k:Nat) (ks:List Nat):Bool:=(List.range ks.length).all fun j=>(List.range j).all fun i =>
 let a:=ks.getD i 0
 let b:=ks.getD j 0
 !(Nat.beq a 2 && !Nat.beq b 0 || !Nat.beq a 0&&Nat.beq b 2)||(qg0 nd (k+j)).testBit (k+i)
def PW (P:Program) (ops:Array Oper) (Q:Exit→Act→World→Prop) (c:Ctx) (N:Nat) (nd:List Nat):List Nat→Nat→List Oper→Env→List Item→Prop
 | [],k,rest,E,L=>JD P ops Q c N nd k rest E L
 | kd :: ks,k,o :: rest,E,L=>∃ F M',(⟨k,o,F,kd,M'⟩:EP).ok P c (look E) L∧PW P ops Q c N nd ks (k+1) rest (qzx E o.dst F) (if kd=2 then M' else L)
 | _ :: _,_,[],_,_=>False
theorem PW.out {Q:Exit→Act→World→Prop} {nd:List Nat}:∀ {ks:List Nat} {k:Nat} {rest:List Oper} {E:Env} {L:List Item},PW P ops Q c N nd ks k rest E L →
  ∃ (m:List EP) (rest':List Oper) (E':Env),m.length=ks.length∧rest.length=ks.length+rest'.length∧(∀ i,rest'[i]?=rest[ks.length+i]?)∧(∀ i x,m[i]?=some x→x.i=k+i∧rest[i]?=some x.o∧ks[i]?=some x.kd) ∧
   (∀ m1 x m2,m=m1++x :: m2→x.ok P c (qm4 (fun _=>true) m1 (look E)) (qm5 (fun _=>true) m1 L))∧look E'=qm4 (fun _=>true) m (look E)∧JD P ops Q c N nd (k+ks.length) rest' E' (qm5 (fun _=>true) m L)
 | [],k,rest,E,L,h=>⟨[],rest,E,rfl,by simp,fun i=>by simp,fun i x hx=>by simp at hx,fun m1 x m2 hm=>by simp at hm,rfl,h⟩
 | kd :: ks,k,[],E,L,h=>h.elim
 | kd :: ks,k,o :: rest,E,L,⟨F,M',h1,h2⟩=>by
  obtain ⟨m,rest',E',e1,e2,e3,e4,e5,e6,e7⟩:=PW.out h2
  have hv:qsp (look E) o.dst F=look (qzx E o.dst F):=(qez E o.dst F).symm
  have hM:(bif true&&Nat.beq kd 2 then M' else L)=(if kd=2 then M' else L):=by
   by_cases h:kd=2
   ·subst h;rfl
   ·rw [if_neg h,qi0 h];rfl
  refine ⟨⟨k,o,F,kd,M'⟩ :: m,rest',E',by simp [e1],by simp only [List.length_cons];omega,fun i=>?_,fun i x hx=>?_,fun m1 x m2 hm=>?_,?_,?_⟩
  ·rw [e3,List.length_cons,show ks.length+1+i=ks.length+i+1 by omega,List.getElem?_cons_succ]
  ·cases i with
   | zero=>simp at hx;subst hx;exact ⟨rfl,rfl,rfl⟩
   | succ i =>
    obtain ⟨h3,h4,h5⟩:=e4 i x (by simpa using hx)
    exact ⟨by omega,by simpa using h4,by simpa using h5⟩
  ·cases m1 with
   | nil =>
    simp only [List.nil_append,List.cons.injEq] at hm
    obtain ⟨rfl,rfl⟩:=hm
    exact h1
   | cons y m1 =>
    simp only [List.cons_append,List.cons.injEq] at hm
    obtain ⟨rfl,hm⟩:=hm
    have:=e5 m1 x m2 hm
    rw [← hv,← hM] at this
    exact this
  ·rw [e6,← hv];rfl
  ·rw [← hM] at e7
   rw [List.length_cons,show k+(ks.length+1)=k+1+ks.length by omega]
   exact e7
theorem qdm {Q:Exit→Act→World→Prop} {nd:List Nat} {k:Nat} {rest:List Oper} {E:Env} {L:List Item} (ks:List Nat) (hS:qlh nd ops.size k ks.length=true) (hB:phaseB nd k ks=true) (h:PW P ops Q c N nd ks k rest E L):JD P ops Q c N nd k rest E L:=by
 intro hg hN hk hrest φ a w listed hp st
 obtain ⟨m,rest',E',e1,e2,e3,e4,e5,e6,e7⟩:=PW.out h
 have hmi:∀ i x,m[i]?=some x→x.i=k+i∧ops[k+i]?=some x.o:=fun i x hx=>by
  obtain ⟨h1,h2,_⟩:=e4 i x hx
  exact ⟨h1,by rw [← hrest];exact h2⟩
 have hnone:∀ x,x∈m→listed.getD x.i false=false:=fun x hx=>by
  obtain ⟨i,hi⟩:=List.mem_iff_getElem?.1 hx
  obtain ⟨h1,h2⟩:=hmi i x hi
  have hlt:k+i<ops.size:=(Array.getElem?_eq_some_iff.1 h2).1
  rw [h1]
  cases hv:listed.getD (k+i) false with
  | false=>rfl
  | true =>
   have:listed.getD (k+i) true=true:=by
    cases hv2:listed.getD (k+i) true with
    | true=>rfl
    | false=>rw [qft hv2] at hv;cases hv
   have:=(hp.pre _ hlt).1 this
   omega
 refine phases (Q:=Q) hg hN hS (by omega) e1 hmi e5 (fun x y hx hy hlt hcf=>?_) ?_ _ φ a w listed rfl hp.cl (fun i hi=>?_) (fun i hi hi'=>?_) (st.congr (fun t=>?_) ?_)
 ·obtain ⟨i,hi⟩:=List.mem_iff_getElem?.1 hx
  obtain ⟨j,hj⟩:=List.mem_iff_getElem?.1 hy
  obtain ⟨x1,_,x3⟩:=e4 i x hi
  obtain ⟨y1,_,y3⟩:=e4 j y hj
  have hjl:j<ks.length:=by rw [← e1];exact (List.getElem?_eq_some_iff.1 hj).1
  have h1:=List.all_eq_true.1 (List.all_eq_true.1 hB j (List.mem_range.2 hjl)) i (List.mem_range.2 (by omega))
  have ga:ks.getD i 0=x.kd:=by rw [List.getD_eq_getElem?_getD,x3];rfl
  have gb:ks.getD j 0=y.kd:=by rw [List.getD_eq_getElem?_getD,y3];rfl
  dsimp only at h1
  rw [ga,gb] at h1
  rw [x1,y1]
  have hc:(Nat.beq x.kd 2 && !Nat.beq y.kd 0 || !Nat.beq x.kd 0&&Nat.beq y.kd 2)=true:=by
   rcases hcf with ⟨h2,h3⟩|⟨h2,h3⟩
   ·rw [h2,qi0 h3];rfl
   ·rw [h3,qi0 h2];simp
  rw [hc] at h1
  simpa using h1
 ·intro φ' a' w' listed' hp' st'
  refine e7 hg hN (by omega) (fun i=>?_) φ' a' w' listed' hp' (st'.congr (fun t=>by rw [e6]) rfl)
  rw [e3,hrest];congr 1;omega
 ·cases hil:decide (i<ops.size) with
  | true=>exact (hp.pre i (of_decide_eq_true hil)).2 hi
  | false =>
   have:¬ i<ops.size:=of_decide_eq_false hil
   omega
 ·cases hv:listed.getD i true with
  | false=>rfl
  | true=>have:=(hp.pre i hi').1 hv;omega
 ·rw [qg5 (q:=fun _=>false) (A:=look E) (B:=look E) rfl (fun x hx _=>hnone x hx),qun]
 ·rw [qg6 (q:=fun _=>false) (fun x hx _=>hnone x hx),quq]
section
variable {Q:Exit→Act→World→Prop} {nd ks:List Nat} {k:Nat} {rest:List Oper} {E:Env} {L:List Item} {t:Tmp} {op:Op} {ty:TypeId} {pos:String} {af:Array Edge}
theorem qc7 {F:VP} (hs:OpP P c ⟨some t,op,ty,pos,af,none⟩ (look E) [] F) (h:PW P ops Q c N nd ks (k+1) rest ((t,F) :: E) L):PW P ops Q c N nd (0 :: ks) k (⟨some t,op,ty,pos,af,none⟩ :: rest) E L:=⟨F,[],⟨rfl,.inl ⟨rfl,hs⟩⟩,h⟩
theorem qd6 {F:VP} (hs:OpP P c ⟨some t,op,ty,pos,af,none⟩ (look E) L F) (h:PW P ops Q c N nd ks (k+1) rest ((t,F) :: E) L):PW P ops Q c N nd (1 :: ks) k (⟨some t,op,ty,pos,af,none⟩ :: rest) E L:=⟨F,[],⟨rfl,.inr (.inl ⟨rfl,hs⟩)⟩,h⟩
theorem qlb {F:VP} {L':List Item} (hs:OpS P c ⟨none,op,ty,pos,af,none⟩ (look E) L (fun _:Unit=>F) (fun _=>L')) (h:PW P ops Q c N nd ks (k+1) rest E L'):PW P ops Q c N nd (2 :: ks) k (⟨none,op,ty,pos,af,none⟩ :: rest) E L:=⟨F,L',⟨rfl,.inr (.inr (.inl ⟨rfl,hs⟩))⟩,h⟩
theorem PW_3 {F:VP} (hs:OpS P c ⟨none,op,ty,pos,af,none⟩ (look E) L (fun _:Unit=>F) (fun _=>L)) (h:PW P ops Q c N nd ks (k+1) rest E L):PW P ops Q c N nd (1 :: ks) k (⟨none,op,ty,pos,af,none⟩ :: rest) E L:=⟨F,[],⟨rfl,.inr (.inr (.inr ⟨rfl,hs⟩))⟩,h⟩
theorem qfl (h:JD P ops Q c N nd k rest E L):PW P ops Q c N nd [] k rest E L:=h
end
end
theorem ieq {a b:Int} (h:a=b):Is (.int .i64 a)=Is (.int .i64 b):=by rw [h]
section
variable {P:Program} {c:Ctx} {A:Nat→Option VP} {L:List Item} {d:Option Tmp} {ty:TypeId} {pos:String} {af:Array Edge} {g:Option (Nat×Bool)}
theorem qbs {L L':List Item} {it:Item} (h:Drop1 L it L':=by repeat (first|exact Drop1.here _ _|apply Drop1.next)):Drop1 L it L':=h
theorem qhq {f:FuncId} {xs:List Operand} {ts:Array TypeId} {As:List VP} {it:Item} {L1:List Item} {ι:Type} {R:ι→VP} {L':ι→List Item} (hd:Drop1 L it L1) (hc:∀ (args:Array Value) (w:World),(callFunc f args).run P w = .ok (.enter f args) w)
  (hF:Fn P f As [it] R L') (ha:ArgsE A L xs As):OpS P c ⟨d,.call { callee:=.value (.func f),args:=xs.toArray,argTypes:=ts },ty,pos,af,g⟩ A L R (fun i=>L' i++L1):=by
 intro φ a w K Q hm he hk
 have hv:=ha.alls (φ:=φ) (a:=a) fun x hx=>he x (by simp [Op.operands,Call.operands,hx])
 have hm':HP c φ ([it]++L1) w:=hm.lessP (.cons hd (SubP.refl' _))
 unfold Oper.wp
 rw [qgd hc]
 refine (hF φ w _ hv hm'.mem.left).mono ?_
 rintro e w' ⟨i,v,φ',rfl,h1,h2⟩
 exact hk i φ' v w' (h2.fle hm.mem.base) h1 (hm'.call h2)
theorem qia {f:FuncId} {xs:List Operand} {ts:Array TypeId} {As:List VP} {it it2:Item} {L1 L2:List Item} {ι:Type} {R:ι→VP} {L':ι→List Item} (hd:Drop1 L it L1) (hd2:Drop1 L1 it2 L2) (hc:∀ (args:Array Value) (w:World),(callFunc f args).run P w = .ok (.enter f args) w)
  (hF:Fn P f As [it,it2] R L') (ha:ArgsE A L xs As):OpS P c ⟨d,.call { callee:=.value (.func f),args:=xs.toArray,argTypes:=ts },ty,pos,af,g⟩ A L R (fun i=>L' i++L2):=by
 intro φ a w K Q hm he hk
 have hv:=ha.alls (φ:=φ) (a:=a) fun x hx=>he x (by simp [Op.operands,Call.operands,hx])
 have hm':HP c φ ([it,it2]++L2) w:=hm.lessP (.cons hd (.cons hd2 (SubP.refl' _)))
 unfold Oper.wp
 rw [qgd hc]
 refine (hF φ w _ hv hm'.mem.left).mono ?_
 rintro e w' ⟨i,v,φ',rfl,h1,h2⟩
 exact hk i φ' v w' (h2.fle hm.mem.base) h1 (hm'.call h2)
end
def zeg (a b:Int):Int:=if a<b then -1 else if a>b then 1 else 0
theorem qrz (a b:Int):decide (zeg a b<0)=decide (a<b):=by
 unfold zeg
 by_cases h:a<b
 ·simp [h]
 ·by_cases h2:a>b <;> simp [h,h2]
theorem qyn (a:Int):FnP Tryz.prog 64 [Is (.int .i64 a)] (Is (.bool false)):=by
 refine FnP.enter func64 ntmps64 rfl rfl ?_
 intro c hX
 refine t14 ?_
 refine qay results64 rfl () (SubL.eq ?_) (List.nil_sublist _)
 simp
theorem qqm (a b:Int):FnP Tryz.prog 28 [Is (.int .i64 a),Is (.int .i64 b)] (Is (.int .i64 (zeg a b))):=by
 refine FnP.enter func28 ntmps28 rfl rfl ?_
 intro c hX
 refine t8 ?_
 refine qap rfl (qad call64 (qyn _) ⟨evS,trivial⟩) ?_
 refine t6 ?_
 refine qap rfl (qad call64 (qyn _) ⟨evS,trivial⟩) ?_
 refine t9 ?_
 refine cN ?_ ?_ <;> intro h3
 ·exact absurd h3 (by simp)
 refine t8 ?_
 refine cN ?_ ?_ <;> intro h7
 ·exact absurd h7 (by simp)
 refine t10 ?_
 refine cN ?_ ?_ <;> intro h9
 ·have h:a<b:=of_decide_eq_true h9
  have e:zeg a b = -1:=by unfold zeg;rw [if_pos h]
  refine t7 ?_
  refine qay results28 rfl () (SubL.eq ?_) (List.nil_sublist _)
  rw [e]
 have h:¬ a<b:=of_decide_eq_false h9
 refine t10 ?_
 refine cN ?_ ?_ <;> intro h11
 ·have h':a>b:=of_decide_eq_true h11
  have e:zeg a b=1:=by unfold zeg;rw [if_neg h,if_pos h']
  refine t7 ?_
  refine qay results28 rfl () (SubL.eq ?_) (List.nil_sublist _)
  rw [e]
 have h':¬ a>b:=of_decide_eq_false h11
 have e:zeg a b=0:=by unfold zeg;rw [if_neg h,if_neg h']
 refine t8 ?_
 refine qay results28 rfl () (SubL.eq ?_) (List.nil_sublist _)
 rw [e]
theorem asc1_ok (p q:Pg):FnP Tryz.prog 145 [qcr p,qcr q] (Is (.int .i64 (zeg p.l q.l))):=by
 refine FnP.enter func145 ntmps145 rfl rfl ?_
 intro c hX
 refine t3 ?_
 intro i2
 refine s1 ?_
 intro i3
 refine t9 ?_
 refine qap rfl (qad call28 (qqm _ _) ⟨evS,⟨evS,trivial⟩⟩) ?_
 refine t4 ?_
 refine qay results145 rfl () (SubL.eq ?_) (List.nil_sublist _)
 rfl
@[reducible] def fAsc:Value:=.func (.func 145) #[] #[]
theorem qtz (xs:List Pg) (n:Nat) (i:Option Addr×Nat) (a b:Nat) (hab:a≤b) (hbn:b≤xs.length) (hn:xs.length≤1048576) :
  Fn Tryz.prog 101 [Is (slV n i),Is (.int .i64 (a:Int)),Is (.int .i64 (b:Int)),Is fAsc] [buf (slV n i) 48 tPg xs]
   (fun _:{ys:List Pg // Srt Pg.l a b ys∧PI a b xs ys}=>qbu []) (fun ys=>[buf (slV n i) 48 tPg ys.1]):=by
 refine Fn.enterN func101 ntmps101 rfl rfl ?_
 intro c hX
 refine t8 ?_
 refine qbg (fun z:Nat×List Pg=>a+1≤z.1∧z.1≤max b (a+1)∧Srt Pg.l a z.1 z.2∧PI a b xs z.2) (fun z=>[(0,Is (slV n i)),(1,Is (.int .i64 (a:Int))),(2,Is (.int .i64 (b:Int))),(3,Is fAsc),(8,Is (.int .i64 (z.1:Nat)))]) (fun z=>[buf (slV n i) 48 tPg z.2]) (fun z=>b-z.1) (a+1,xs) ⟨Nat.le_refl _,by omega,Srt.one (by omega),PI.rfl'⟩ ⟨⟨_,rfl,SubL.rfl'⟩,⟨_,rfl,SubL.rfl'⟩,⟨_,rfl,SubL.rfl'⟩,⟨_,rfl,SubL.rfl'⟩,⟨_,rfl,SubL.eq (by congr 2)⟩,trivial⟩ qab ?_
 rintro ⟨q,zs⟩ ⟨hq0,hqb,hs,hpi⟩
 dsimp only at hq0 hqb hs hpi ⊢
 refine t8 ?_
 refine cN ?_ ?_ <;> intro h1
 ·have hqlt:q<b:=by have:=of_decide_eq_true h1;omega
  clear h1
  refine t11 ?_
  refine qbg (fun z:Nat×List Pg=>a≤z.1∧z.1≤q∧Flt Pg.l a q z.1 z.2∧PI a b xs z.2) (fun z=>[(0,Is (slV n i)),(1,Is (.int .i64 (a:Int))),(2,Is (.int .i64 (b:Int))),(3,Is fAsc),(8,Is (.int .i64 (q:Nat))),(9,Is (.int .i64 (z.1:Nat)))]) (fun z=>[buf (slV n i) 48 tPg z.2]) (fun z=>z.1) (q,zs) ⟨by dsimp only;omega,Nat.le_refl _,Flt.start hs,hpi⟩ qbt qab ?_
  rintro ⟨j,us⟩ ⟨hj0,hjq,hf,hpu⟩
  dsimp only at hj0 hjq hf hpu ⊢
  have hul:=hpu.len
  obtain ⟨x,hx⟩:∃ x,us[j]?=some x:=⟨us[j],List.getElem?_eq_getElem (by omega)⟩
  obtain ⟨y,hy⟩:∃ y,us[j-1]?=some y:=⟨us[j-1],List.getElem?_eq_getElem (by omega)⟩
  refine t2 ?_
  refine qaz rfl (by kernel_rfl) ?_
  refine qaf 17 (by kernel_rfl) ?_
  refine t7 ?_
  (refine qd2 rfl rfl (fun hg=>(by have hg0:=hg;(try simp at hg);exact qax (k:=j) evG qbw evG rfl rfl qct qb8)) ?_)
  (refine qd2 rfl rfl (fun hg=>(by have hg0:=hg;(try simp at hg);exact qde evG qbw hx rfl rfl rfl)) ?_)
  refine t3 ?_
  (refine qd2 rfl rfl (fun hg=>(by have hg0:=hg;(try simp at hg);exact qax (k:=j-1) evG qbw evG rfl rfl qct qb8)) ?_)
  (refine qd2 rfl rfl (fun hg=>(by have hg0:=hg;(try simp at hg);exact qde evG qbw hy rfl rfl rfl)) ?_)
  (refine qd2 rfl rfl (fun hg=>(by have hg0:=hg;(try simp at hg);exact qn7 evG call145 (asc1_ok _ _) ⟨evS,⟨evS,trivial⟩⟩)) ?_)
  refine t2 ?_
  refine ⟨rfl,?_⟩
  refine qar ?_
  refine s1 ?_
  refine cN ?_ ?_ <;> intro h4
  ·have h5:(a:Int)<j∧x.l<y.l:=by
    rw [qrz,Bool.and_eq_true] at h4
    exact ⟨of_decide_eq_true h4.1,of_decide_eq_true h4.2⟩
   clear h4
   have hj1:(us.set j y)[j-1]?=some y:=by rw [List.getElem?_set_ne (by omega)];exact hy
   refine t4 ?_
   refine qaz rfl (by kernel_rfl) ?_
   refine qdm [0,0,0,0,0,0,0,0,1,1,0,0,1,1,1,2,1,2] (by kernel_rfl) (by kernel_rfl) ?_
   refine qc7 (qbb rfl) ?_
   refine qc7 (qbb rfl) ?_
   refine qc7 (qbb rfl) ?_
   refine qc7 (qbb rfl) ?_
   refine qc7 (qkm (er rfl) (er rfl) qil) ?_
   refine qc7 (qbb rfl) ?_
   refine qc7 (qbb rfl) ?_
   refine qc7 (qkm (er rfl) (er rfl) qil) ?_
   refine qd6 (by exact qax (k:=j-1) (er rfl) qbw (er rfl) rfl rfl qct qb8) ?_
   refine qd6 (by exact qde (er rfl) qbw hy rfl rfl rfl) ?_
   refine qc7 (qbb rfl) ?_
   refine qc7 (qbb rfl) ?_
   refine qd6 (by exact qax (k:=j) (er rfl) qbw (er rfl) rfl rfl qct qb8) ?_
   refine qd6 (by exact qde (er rfl) qbw hx rfl rfl rfl) ?_
   refine qd6 (by exact qax (k:=j) (er rfl) qbw (er rfl) rfl rfl qct qb8) ?_
   refine qlb (by exact qge (z':=y) (er rfl) (er rfl) qa6 qae hx rfl rf rf) ?_
   refine qd6 (by exact qax (k:=j-1) (er rfl) qbw (er rfl) rfl rfl qct qb8) ?_
   refine qlb (by exact qge (z':=x) (er rfl) (er rfl) qa6 qae hj1 rfl rf rf) ?_
   refine qfl ?_
   refine qar ?_
   refine t7 ?_
   exact qaa (j-1,(us.set j y).set (j-1) x) ⟨by dsimp only;omega,by dsimp only;omega,hf.step (by omega) hjq hx hy h5.2,hpu.tr (sw_PI hx hy (by omega) (by omega))⟩ (by dsimp only;omega) ⟨⟨_,rfl,SubL.rfl'⟩,⟨_,rfl,SubL.rfl'⟩,⟨_,rfl,SubL.rfl'⟩,⟨_,rfl,SubL.rfl'⟩,⟨_,rfl,SubL.rfl'⟩,⟨_,rfl,SubL.eq (by dsimp only;congr 2;omega)⟩,trivial⟩ qab
  have hdn:Srt Pg.l a (q+1) us:=by
   refine hf.done hjq ?_
   by_cases hja:j=a
   ·exact .inl hja
   ·refine .inr ⟨by omega,fun x' y' hx' hy'=>?_⟩
    rw [hx] at hx';cases hx'
    rw [hy] at hy';cases hy'
    have h5:decide ((j:Int)>a)=true:=by simp;omega
    rw [qrz,h5,Bool.true_and] at h4
    have:=of_decide_eq_false h4
    omega
  clear h4
  refine t11 ?_
  exact qaa (q+1,us) ⟨by dsimp only;omega,by dsimp only;omega,hdn,hpu⟩ (by dsimp only;omega) qbt qab
 have hqe:b≤q:=by have:=of_decide_eq_false h1;omega
 refine t5 ?_
 exact qbv (Bs:=[]) results101 trivial ⟨zs,hs.sub (Nat.le_refl _) hqe,hpi⟩ SubL.rfl' qab
theorem zbr (xs:List Pg) (n:Nat) (i:Option Addr×Nat) (hn0:n=xs.length) (hn:xs.length≤19) :
  Fn Tryz.prog 176 [Is (slV n i),Is (.int .i64 (n:Int)),Is fAsc] [buf (slV n i) 48 tPg xs]
   (fun _:{ys:List Pg // Srt Pg.l 0 n ys∧PI 0 n xs ys}=>qbu []) (fun ys=>[buf (slV n i) 48 tPg ys.1]):=by
 refine Fn.enterN func176 ntmps176 rfl rfl ?_
 intro c hX
 refine t14 ?_
 refine qbg (fun _:Unit=>True) (fun _=>[(0,Is (slV n i)),(1,Is (.int .i64 (n:Int))),(2,Is fAsc),(6,Is (.int .i64 20)),(7,Is (.int .i64 0)),(8,Is (.int .i64 20))]) (fun _=>[buf (slV n i) 48 tPg xs]) (fun _=>0) () trivial qbt qab ?_
 rintro _ _
 refine t8 ?_
 refine cN ?_ ?_ <;> intro h2
 ·exact absurd (of_decide_eq_true h2) (by omega)
 clear h2
 refine t11 ?_
 (refine qew rfl (by first|((refine qhq qbs call101 (qtz xs n i 0 n ?_ ?_ ?_) ⟨evS,⟨evS,⟨evS,⟨evS,trivial⟩⟩⟩⟩);all_goals (first|omega))) ?_;intro i27)
 refine t3 ?_
 obtain ⟨ys,hy1,hy2⟩:=i27
 dsimp only
 refine qbg (fun _:Unit=>True) (fun _=>[(0,Is (slV n i)),(1,Is (.int .i64 (n:Int))),(2,Is fAsc),(6,Is (.int .i64 20))]) (fun _=>[buf (slV n i) 48 tPg ys]) (fun _=>0) () trivial qbt qab ?_
 rintro _ _
 refine t8 ?_
 refine cN ?_ ?_ <;> intro h7
 ·exact absurd (of_decide_eq_true h7) (by omega)
 clear h7
 refine t5 ?_
 exact qbv (Bs:=[]) results176 trivial ⟨ys,hy1,hy2⟩ SubL.rfl' qab
theorem qsh (xs:List Pg) (n:Nat) (i:Option Addr×Nat) (hn0:n=xs.length) (hn:xs.length≤19) :
  Fn Tryz.prog 144 [Is (slV n i),Is fAsc] [buf (slV n i) 48 tPg xs]
   (fun _:{ys:List Pg // Srt Pg.l 0 n ys∧PI 0 n xs ys}=>qbu []) (fun ys=>[buf (slV n i) 48 tPg ys.1]):=by
 refine Fn.enterN func144 ntmps144 rfl rfl ?_
 intro c hX
 refine t5 ?_
 (refine qew rfl (by first|((refine qhq qbs call176 (zbr xs n i ?_ ?_) ⟨evS,⟨evS,⟨evS,trivial⟩⟩⟩);all_goals (first|assumption))) ?_;intro i8)
 refine t2 ?_
 obtain ⟨ys,hy⟩:=i8
 exact qbv (Bs:=[]) results144 trivial ⟨ys,hy⟩ SubL.rfl' qab
theorem qm3 (xs:List Pg) (n:Nat) (i:Option Addr×Nat) (hn0:n=xs.length) (hn:xs.length≤19) :
  Fn Tryz.prog 99 [Is (slV n i)] [buf (slV n i) 48 tPg xs]
   (fun _:{ys:List Pg // Srt Pg.l 0 n ys∧PI 0 n xs ys}=>Is (slV n i)) (fun ys=>[buf (slV n i) 48 tPg ys.1]):=by
 refine Fn.enterN func99 ntmps99 rfl rfl ?_
 intro c hX
 refine t8 ?_
 (refine qew rfl (by first|((refine qhq qbs call144 (qsh xs n i ?_ ?_) ⟨evS,⟨evS,trivial⟩⟩);all_goals (first|assumption))) ?_;intro i4)
 refine t3 ?_
 obtain ⟨ys,hy⟩:=i4
 dsimp only
 refine t6 ?_
 exact qbv (Bs:=[Is (slV n i)]) results99 eT ⟨ys,hy⟩ SubL.rfl' qab
section
open Go.ChangeMaps (setBlock)
section
variable {α:Type}
def MapAll (φ:Fz) (V:α→VP):List (Int×α)→List MapEntry→Prop
 | [],[]=>True
 | p :: l,e :: es=>(e.key = .int .i64 p.1∧(V p.2).ok φ e.val)∧MapAll φ V l es
 | _,_=>False
theorem MapAll.mono {φ φ':Fz} (h:Fle φ φ') {V:α→VP}:∀ {l:List (Int×α)} {es:List MapEntry},MapAll φ V l es→MapAll φ' V l es
 | [],[],_=>trivial
 | p :: l,e :: es,⟨h1,h2⟩=>⟨⟨h1.1,(V p.2).mono h h1.2⟩,MapAll.mono h h2⟩
theorem MapAll.len {φ:Fz} {V:α→VP}:∀ {l:List (Int×α)} {es:List MapEntry},MapAll φ V l es→l.length=es.length
 | [],[],_=>rfl
 | p :: l,e :: es,⟨h1,h2⟩=>by simp [MapAll.len h2]
theorem MapAll.get {φ:Fz} {V:α→VP}:∀ {l:List (Int×α)} {es:List MapEntry} {j:Nat} {p:Int×α},MapAll φ V l es→l[j]?=some p→∃ e,es[j]?=some e∧e.key = .int .i64 p.1∧(V p.2).ok φ e.val
 | [],[],j,p,_,h=>by simp at h
 | q :: l,e :: es,0,p,⟨h1,_⟩,h=>by simp at h;subst h;exact ⟨e,rfl,h1⟩
 | q :: l,e :: es,j+1,p,⟨_,h2⟩,h=>by
  obtain ⟨e',h3,h4⟩:=MapAll.get h2 (by simpa using h)
  exact ⟨e',by simpa using h3,h4⟩
theorem MapAll.set {φ:Fz} {V:α→VP}:∀ {l:List (Int×α)} {es:List MapEntry} (j:Nat) {p:Int×α} {e:MapEntry},MapAll φ V l es→e.key = .int .i64 p.1→(V p.2).ok φ e.val→MapAll φ V (l.set j p) (es.set j e)
 | [],[],_,_,_,_,_,_=>trivial
 | q :: l,e :: es,0,p,f,⟨_,h2⟩,h3,h4=>⟨⟨h3,h4⟩,h2⟩
 | q :: l,e :: es,j+1,p,f,⟨h1,h2⟩,h3,h4=>⟨h1,MapAll.set j h2 h3 h4⟩
theorem MapAll.push {φ:Fz} {V:α→VP}:∀ {l:List (Int×α)} {es:List MapEntry} {p:Int×α} {e:MapEntry},MapAll φ V l es→e.key = .int .i64 p.1→(V p.2).ok φ e.val→MapAll φ V (l++[p]) (es++[e])
 | [],[],_,_,_,h3,h4=>⟨⟨h3,h4⟩,trivial⟩
 | q :: l,e :: es,p,f,⟨h1,h2⟩,h3,h4=>⟨h1,MapAll.push h2 h3 h4⟩
def qhm:List (Int×α)→Int→α→List (Int×α)
 | [],k,x=>[(k,x)]
 | (j,y) :: l,k,x=>if j=k then (k,x) :: l else (j,y) :: qhm l k x
def qfy:List (Int×α)→Int→Option α
 | [],_=>none
 | (j,y) :: l,k=>if j=k then some y else qfy l k
theorem qru {φ:Fz} {V:α→VP} (k:Int):∀ {l:List (Int×α)} {es:List MapEntry} (i:Nat),MapAll φ V l es →
  (qfy l k=none∧Instr.findNow (.int .i64) (.int .i64 k) es i=some none∧(∀ x,qhm l k x=l++[(k,x)])∧∀ e,e∈es→e.key ≠ .int .i64 k) ∨
  ∃ j x e,qfy l k=some x∧Instr.findNow (.int .i64) (.int .i64 k) es i=some (some (i+j,e.val))∧es[j]?=some e∧e.key = .int .i64 k∧(V x).ok φ e.val∧∀ y,qhm l k y=l.set j (k,y)
 | [],[],i,_=>.inl ⟨rfl,rfl,fun _=>rfl,by simp⟩
 | (m,y) :: l,e :: es,i,⟨⟨h1,h1'⟩,h2⟩=>by
  by_cases hk:m=k
  ·subst hk
   refine .inr ⟨0,y,e,by simp [qfy],?_,rfl,h1,h1',fun z=>by simp [qhm]⟩
   simp [Instr.findNow,Instr.sameNow,h1]
  ·have hs:Instr.sameNow (.int .i64) (.int .i64 k) e.key=some false:=by
    rw [h1]
    simp only [Instr.sameNow,if_true]
    rw [show (k==m)=false by simpa using fun h=>hk h.symm]
   rcases qru k (i+1) h2 with ⟨h3,h4,h5,h6⟩|⟨j,x,e',h3,h4,h5,h6,h7,h8⟩
   ·refine .inl ⟨by simp [qfy,hk,h3],by simp [Instr.findNow,hs,h4],fun x=>by simp [qhm,hk,h5],fun f hf=>?_⟩
    rcases List.mem_cons.1 hf with rfl|hf
    ·rw [h1];intro e;injection e with _ e;exact hk e
    ·exact h6 f hf
   ·exact .inr ⟨j+1,x,e',by simp [qfy,hk,h3],by simp [Instr.findNow,hs,h4];omega,by simpa using h5,h6,h7,fun z=>by simp [qhm,hk,h8]⟩
def mp (b:Nat) (V:α→VP) (l:List (Int×α)):Item:=⟨some b,fun φ o=>∃ es clock,o=some (.map es clock)∧MapKept.Stamped es clock∧MapAll φ V l es.toList,fun h ⟨es,ck,h1,h2,h3⟩=>⟨es,ck,h1,h2,h3.mono h⟩⟩
def mpr (b:Nat) (V:α→VP) (l:List (Int×α)) (bs:List Nat) (ck:Nat):Item:=⟨some b,fun φ o=>∃ es:Array MapEntry,o=some (.map es ck)∧MapKept.Stamped es ck∧es.toList.map (·.born)=bs∧MapAll φ V l es.toList,fun h ⟨es,h1,h2,h3,h4⟩=>⟨es,h1,h2,h3,h4.mono h⟩⟩
def itr (r b:Nat) (bs:List Nat) (ck:Nat) (S:List Nat):Item:=⟨some r,fun φ o=>o=some (.mapIter (some b) ck (S.map fun j=>bs.getD j 0).toArray ck),fun _ h=>h⟩
section
variable {P:Program} {c:Ctx} {A:Nat→Option VP} {L:List Item} {d:Option Tmp} {ty:TypeId} {pos:String} {af:Array Edge} {g:Option (Nat×Bool)}
variable {V:α→VP} {l:List (Int×α)} {b:Nat} {x y z:Operand} {t kt et:TypeId}
theorem qm1 {φ:Fz} {w:World} {b:Nat} {it:Item} (hm:HP c φ L w) (hL:it∈L) (hat:it.at_=some b):it.ok φ w.heap[b]?∧b<w.heap.size∧∀ i,φ b i=none:=by
 obtain ⟨h1,h2⟩:=hm.mem.items _ hL
 rw [hat] at h1
 exact ⟨by simpa using h1,h2 b hat⟩
theorem qxb {w:World} {b:Nat} {o:Obj} {it:Item} (hat:it.at_=some b):Kpt (qb9 [it]) w (setBlock w b o):=by
 refine ⟨rfl,rfl,rfl,by simp [setBlock],fun k hk hn=>?_⟩
 have hne:b≠k:=fun e=>hn (mem_names.2 ⟨it,List.mem_singleton.2 rfl,by rw [hat,e]⟩)
 simp [setBlock,Array.getElem?_setIfInBounds_ne hne]
theorem qs3 {φ:Fz} {w:World} {b:Nat} {o:Obj} {it:Item} (hat:it.at_=some b) (hlt:b<w.heap.size) (hno:∀ i,φ b i=none) (h:it.ok φ (some o)):it.here φ (setBlock w b o):=by
 refine ⟨?_,fun b' hb'=>?_⟩
 ·rw [hat]
  simp [setBlock,hlt,h]
 ·rw [hat] at hb';injection hb' with hb';subst hb'
  exact ⟨by simp [setBlock];exact hlt,hno⟩
theorem qh9 (V:α→VP):OpN P c ⟨d,.makeMap t none,ty,pos,af,g⟩ A L (fun b:Nat=>.map (some b)) (fun b=>mp b V []):=by
 intro φ a w K Q hm he hk
 have hrun:(execOp a.eval ⟨d,.makeMap t none,ty,pos,af,g⟩).run P w = .ok (.value (.map (some w.heap.size))) (w.alloc (.map #[] 0)):=by
  simp only [execOp,Option.map_none]
  refine qcl ?_
  simp [Instr.makeMap]
 unfold Oper.wp
 rw [hrun]
 exact hk w.heap.size φ _ (qp4 (b:=0) hm rfl ⟨#[],0,rfl,MapKept.stamped_empty 0,trivial⟩)
theorem qjc {k:Int} {v:α} {L':List Item} (hx:Ev A L x (Is (.map (some b)))) (hy:Ev A L y (Is (.int .i64 k))) (hz:Ev A L z (V v)) (hr:Repl L (mp b V l) (mp b V (qhm l k v)) L') (hu:P.underlying t=some (.map kt et)) (hk:P.underlying kt=some (.int .i64)) :
  OpS P c ⟨d,.mapUpdate t x y z,ty,pos,af,g⟩ A L (fun _:Unit=>Is undef) (fun _=>L'):=by
 intro φ a w K Q hm he hK
 have h1:a.eval x = .map (some b):=he x (by simp [Op.operands]) _ hx
 have h2:a.eval y = .int .i64 k:=he y (by simp [Op.operands]) _ hy
 have h3:(V v).ok φ (a.eval z):=he z (by simp [Op.operands]) _ hz
 obtain ⟨⟨es,ck,e1,e2,e3⟩,hlt,hno⟩:=qm1 hm hr.mem rfl
 have key:∃ o:Obj,(execOp a.eval ⟨d,.mapUpdate t x y z,ty,pos,af,g⟩).run P w = .ok .skip (setBlock w b o)∧(mp b V (qhm l k v)).ok φ (some o):=by
  have hck:(Instr.checkKey false 10000 kt (.int .i64 k)).run P w = .ok () w:=MapKept.run_checkKey (k:=.int .i64 k) hk (by simp [MapKept.IsKey]) false 9999
  rcases qru k 0 e3 with ⟨_,f2,f3,f4⟩|⟨j,u,e,_,f2,f3,f4,f5,f6⟩
  ·refine ⟨.map (es.push ⟨.int .i64 k,a.eval z,ck⟩) (ck+1),?_,_,_,rfl,MapKept.stamped_push e2 f4,?_⟩
   ·simp only [execOp,h1,h2,Instr.mapUpdate,Sem.run_bind,run_underlying hu,Result.andThen_ok,MapKept.run_getObj_map e1,hck,MapKept.run_findKey hk f2,MapKept.run_setObj_map _ e1,setBlock,Sem.run_pure]
   ·rw [f3,Array.toList_push]
    exact e3.push rfl h3
  ·have hj:es[j]?=some e:=by simpa using f3
   rw [Nat.zero_add] at f2
   refine ⟨.map (es.modify j fun e'=>{ e' with key:=.int .i64 k,val:=a.eval z }) ck,?_,_,_,rfl,MapKept.stamped_modify e2 _ _ (fun _ _=>rfl) (fun e' _ he'=>by rw [hj] at he';cases he';exact f4.symm),?_⟩
   ·have hst:(Instr.keyThatStays (.int .i64 k) (.int .i64 k)).run P w = .ok (.int .i64 k) w:=by
     simp [Instr.keyThatStays,Instr.sameBits]
    simp only [execOp,h1,h2,Instr.mapUpdate,Sem.run_bind,run_underlying hu,Result.andThen_ok,MapKept.run_getObj_map e1,hck,MapKept.run_findKey hk f2,hj,Option.map_some,Option.getD_some,f4,hst,MapKept.run_setObj_map _ e1,setBlock,Sem.run_pure]
   ·have hl:(es.modify j fun e'=>{ e' with key:=.int .i64 k,val:=a.eval z }).toList=es.toList.set j { e with key:=.int .i64 k,val:=a.eval z }:=by
     rw [Array.toList_modify,ChangeMaps.modify_eq_set _ _ _ _ f3]
    rw [f6,hl]
    exact e3.set j rfl h3
 obtain ⟨o,hrun,hok⟩:=key
 unfold Oper.wp
 rw [hrun]
 exact hK () φ undef _ Fle.rfl' rfl (hm.upd hr (qxb rfl) (qs3 rfl hlt hno hok) fun b' hb'=>.inr hb')
def lookV (V:α→VP) (z:Value):Option α→VP
 | some v=>V v
 | none=>Is z
theorem qpo {φ:Fz} {w:World} {es:Array MapEntry} {ck:Nat} {k:Int} {zv:Value} (cm:Bool) (e1:w.heap[b]?=some (.map es ck)) (e3:MapAll φ V l es.toList) (hu:P.underlying t=some (.map kt et)) (hk:P.underlying kt=some (.int .i64)) (hz:(P.info? et).map (·.zero)=some (some zv)) :
  ∃ v,(Instr.lookup t (.map (some b)) (.int .i64 k) cm).run P w = .ok (if cm then .tuple #[v,.bool (qfy l k).isSome] else v) w∧(lookV V zv (qfy l k)).ok φ v:=by
 have hck:(Instr.checkKey es.isEmpty 10000 kt (.int .i64 k)).run P w = .ok () w:=MapKept.run_checkKey (k:=.int .i64 k) hk (by simp [MapKept.IsKey]) _ 9999
 rcases qru k 0 e3 with ⟨f1,f2,f3,f4⟩|⟨j,u,e,f1,f2,f3,f4,f5,f6⟩
 ·refine ⟨zv,?_,by rw [f1];exact rfl⟩
  simp only [Instr.lookup,Sem.run_bind,run_underlying hu,Result.andThen_ok,MapKept.run_getObj_map e1,Sem.run_pure,hck,MapKept.run_findKey hk f2,qj5 hz,f1,Option.isSome]
 ·refine ⟨e.val,?_,by rw [f1];exact f5⟩
  simp only [Instr.lookup,Sem.run_bind,run_underlying hu,Result.andThen_ok,MapKept.run_getObj_map e1,Sem.run_pure,hck,MapKept.run_findKey hk f2,f1,Option.isSome]
theorem zcv {k:Int} {zv:Value} (hx:Ev A L x (Is (.map (some b)))) (hL:mp b V l∈L) (hy:Ev A L y (Is (.int .i64 k))) (hu:P.underlying t=some (.map kt et)) (hk:P.underlying kt=some (.int .i64)) (hz:(P.info? et).map (·.zero)=some (some zv)) :
  OpP P c ⟨d,.lookup t x y false,ty,pos,af,g⟩ A L (lookV V zv (qfy l k)):=
 opp fun φ a w hm he=>by
  have h1:a.eval x = .map (some b):=he x (by simp [Op.operands]) _ hx
  have h2:a.eval y = .int .i64 k:=he y (by simp [Op.operands]) _ hy
  obtain ⟨⟨es,ck,e1,e2,e3⟩,_⟩:=qm1 hm hL rfl
  obtain ⟨v,f1,f2⟩:=qpo (k:=k) false e1 e3 hu hk hz
  exact ⟨v,by simp only [execOp,h1,h2];exact qcl f1,f2⟩
theorem qz0 {k:Int} {zv:Value} (hx:Ev A L x (Is (.map (some b)))) (hL:mp b V l∈L) (hy:Ev A L y (Is (.int .i64 k))) (hu:P.underlying t=some (.map kt et)) (hk:P.underlying kt=some (.int .i64)) (hz:(P.info? et).map (·.zero)=some (some zv)) :
  OpP P c ⟨d,.lookup t x y true,ty,pos,af,g⟩ A L (qbu [lookV V zv (qfy l k),Is (.bool (qfy l k).isSome)]):=
 opp fun φ a w hm he=>by
  have h1:a.eval x = .map (some b):=he x (by simp [Op.operands]) _ hx
  have h2:a.eval y = .int .i64 k:=he y (by simp [Op.operands]) _ hy
  obtain ⟨⟨es,ck,e1,e2,e3⟩,_⟩:=qm1 hm hL rfl
  obtain ⟨v,f1,f2⟩:=qpo (k:=k) true e1 e3 hu hk hz
  exact ⟨_,by simp only [execOp,h1,h2];exact qcl f1,⟨[v,_],rfl,f2,rfl,trivial⟩⟩
theorem qxy {L1:List Nat→Nat→List Item} (hx:Ev A L x (Is (.map (some b)))) (hr:∀ bs ck,Repl L (mp b V l) (mpr b V l bs ck) (L1 bs ck)) (hu:P.underlying t=some (.map kt et)) :
  OpS P c ⟨d,.range t x,ty,pos,af,g⟩ A L (fun i:Nat×List Nat×Nat=>Is (.pointer (some ⟨i.1,0,none⟩))) (fun i=>itr i.1 b i.2.1 i.2.2 [] :: L1 i.2.1 i.2.2):=by
 intro φ a w K Q hm he hK
 have h1:a.eval x = .map (some b):=he x (by simp [Op.operands]) _ hx
 obtain ⟨⟨es,ck,e1,e2,e3⟩,hlt,hno⟩:=qm1 hm (hr [] 0).mem rfl
 have hrun:(execOp a.eval ⟨d,.range t x,ty,pos,af,g⟩).run P w = .ok (.value (.pointer (some ⟨w.heap.size,0,none⟩))) (w.alloc (.mapIter (some b) ck #[] ck)):=by
  simp only [execOp,h1]
  exact qcl (run_range_map w t kt et b es ck hu e1)
 have hm2:=hm.upd (hr (es.toList.map (·.born)) ck) (Kpt.refl _ w) ⟨by simp only [mpr,Option.bind_some];exact ⟨es,e1,e2,rfl,e3⟩,fun b' hb'=>by
  have hb2:some b=some b':=hb'
  injection hb2 with hb2;subst hb2;exact ⟨hlt,hno⟩⟩ (fun b' hb'=>.inr hb')
 have hm3:=hm2.new (qp4 (b:=0) (it:=itr w.heap.size b (es.toList.map (·.born)) ck []) (o:=.mapIter (some b) ck #[] ck) hm2 rfl rfl)
 unfold Oper.wp
 rw [hrun]
 exact hK (w.heap.size,es.toList.map (fun x:MapEntry=>x.born),ck) φ _ _ Fle.rfl' rfl hm3
def zfd (p:Bool):VP:=⟨fun _ v=>∃ vs:List Value,v = .tuple (.bool p :: vs).toArray,fun _ h=>h⟩
theorem qmz {p:Bool} (hx:Ev A L x (zfd p)):OpP P c ⟨d,.extract x 0,ty,pos,af,g⟩ A L (Is (.bool p)):=
 opp fun φ a w hm he=>by
  obtain ⟨vs,h1⟩:(zfd p).ok φ (a.eval x):=he x (by simp [Op.operands]) _ hx
  refine ⟨.bool p,?_,rfl⟩
  simp only [execOp,h1,Instr.extract]
  rfl
def Stp (n:Nat) (S:List Nat) (p:Bool×List Nat):Prop:=if p.1 then ∃ j,p.2=S++[j]∧j<n∧j ∉ S else p.2=S∧∀ j,j<n→j∈S
theorem zcu {r:Nat} {bs:List Nat} {ck:Nat} {S:List Nat} {L1:List Nat→List Item} (hx:Ev A L x (Is (.pointer (some ⟨r,0,none⟩)))) (hL:mpr b V l bs ck∈L) (hr:∀ S',Repl L (itr r b bs ck S) (itr r b bs ck S') (L1 S')) (hS:∀ j,j∈S→j<l.length) :
  OpS P c ⟨d,.next x false,ty,pos,af,g⟩ A L (fun i:{p:Bool×List Nat // Stp l.length S p}=>zfd i.1.1) (fun i=>L1 i.1.2):=by
 intro φ a w K Q hm he hK
 have h1:a.eval x = .pointer (some ⟨r,0,none⟩):=he x (by simp [Op.operands]) _ hx
 obtain ⟨⟨es,e1,e2,e3,e4⟩,_⟩:=qm1 hm hL rfl
 obtain ⟨i1,hlt,hno⟩:=qm1 hm (hr []).mem rfl
 have i1':w.heap[r]?=some (.mapIter (some b) ck (S.map fun j=>bs.getD j 0).toArray ck):=i1
 have hlen:=e4.len
 have hseen:∀ j (hj:j<es.toList.length),((S.map fun j=>bs.getD j 0).toArray.contains (es.toList[j]).born=true↔j∈S):=fun j hj=>by
  rw [List.contains_toArray,List.contains_iff_mem,List.mem_map]
  have hbj:bs.getD j 0=(es.toList[j]).born:=by
   rw [← e3,List.getD_eq_getElem?_getD,List.getElem?_map,List.getElem?_eq_getElem hj];rfl
  constructor
  ·rintro ⟨i,hi,hb⟩
   have hi2:i<es.toList.length:=by rw [← hlen];exact hS i hi
   have hbi:bs.getD i 0=(es.toList[i]).born:=by
    rw [← e3,List.getD_eq_getElem?_getD,List.getElem?_map,List.getElem?_eq_getElem hi2];rfl
   have hn:=((MapKept.stamped_iff es ck).1 e2).2.1
   have hij:i=j:=by
    have h3:(es.toList.map (·.born))[i]'(by simpa using hi2)=(es.toList.map (·.born))[j]'(by simpa using hj):=by
     rw [List.getElem_map,List.getElem_map,← hbi,hb]
    exact (List.getElem_inj hn).1 h3
   exact hij ▸ hi
  ·exact fun h=>⟨j,h,hbj⟩
 rcases run_next_at (P:=P) w ty r b ck ck _ es ck i1' e1 e2.1 (Nat.le_refl _) with ⟨h0,hrun⟩|⟨e,he2,w1,hal,hrun⟩
 ·unfold Oper.wp
  simp only [execOp,h1]
  rw [qcl hrun]
  refine hK ⟨(false,S),⟨rfl,fun j hj=>?_⟩⟩ φ _ w Fle.rfl' ⟨[],rfl⟩ (by show HP c φ (L1 S) w;rw [(hr S).same rfl];exact hm)
  have hj2:j<es.toList.length:=by rw [← hlen];exact hj
  refine (hseen j hj2).1 ?_
  have hemp:leftOf es (S.map fun j=>bs.getD j 0).toArray=#[]:=Array.eq_empty_of_size_eq_zero h0
  cases hc:(S.map fun j=>bs.getD j 0).toArray.contains (es.toList[j]).born with
  | true=>rfl
  | false =>
   have hin:es.toList[j]∈leftOf es (S.map fun j=>bs.getD j 0).toArray:=Array.mem_filter.2 ⟨Array.mem_toList_iff.1 (List.getElem_mem hj2),by rw [hc];rfl⟩
   rw [hemp] at hin
   simp at hin
 ·obtain ⟨m1,m2⟩:=mem_left he2
  obtain ⟨j,hj,hje⟩:=List.getElem_of_mem m1
  have hnot:j ∉ S:=fun h=>by
   have:=(hseen j hj).2 h
   rw [hje,m2] at this;cases this
  have hbj:bs.getD j 0=e.born:=by
   rw [← e3,List.getD_eq_getElem?_getD,List.getElem?_map,List.getElem?_eq_getElem hj]
   simp [hje]
  have hmw:HP c φ L w1:=by
   rcases hal with rfl|rfl
   ·exact hm
   ·exact hm.drew
  have hlt1:r<w1.heap.size:=by rcases hal with rfl|rfl <;> exact hlt
  have hup:=hmw.upd (hr (S++[j])) (qxb (b:=r) rfl) (qs3 (b:=r) (o:=.mapIter (some b) ck ((S.map fun j=>bs.getD j 0).toArray.push e.born) ck) rfl hlt1 hno (by simp [itr,hbj,List.getD_eq_getElem?_getD] at hbj ⊢;exact hbj.symm)) (fun b' hb'=>.inr hb')
  unfold Oper.wp
  simp only [execOp,h1]
  rw [qcl hrun]
  refine hK ⟨(true,S++[j]),⟨j,rfl,by rw [hlen];exact hj,hnot⟩⟩ φ _ _ Fle.rfl' ⟨_,rfl⟩ hup
theorem qx1 {r j:Nat} {bs:List Nat} {ck:Nat} {S:List Nat} {p:Int×α} (hx:Ev A L x (Is (.pointer (some ⟨r,0,none⟩)))) (hL:mpr b V l bs ck∈L) (hr:itr r b bs ck (S++[j])∈L) (hj:l[j]?=some p) :
  OpP P c ⟨d,.entry x,ty,pos,af,g⟩ A L (qbu [Is (.int .i64 p.1),V p.2]):=
 opp fun φ a w hm he=>by
  have h1:a.eval x = .pointer (some ⟨r,0,none⟩):=he x (by simp [Op.operands]) _ hx
  obtain ⟨⟨es,e1,e2,e3,e4⟩,_⟩:=qm1 hm hL rfl
  obtain ⟨i1,_⟩:=qm1 hm hr rfl
  obtain ⟨e,f1,f2,f3⟩:=e4.get hj
  have hbj:bs.getD j 0=e.born:=by
   rw [← e3,List.getD_eq_getElem?_getD,List.getElem?_map,f1];rfl
  have i1':w.heap[r]?=some (.mapIter (some b) ck ((S.map fun j=>bs.getD j 0).toArray.push e.born) ck):=by
   have:w.heap[r]?=some (.mapIter (some b) ck ((S++[j]).map fun j=>bs.getD j 0).toArray ck):=i1
   rw [this,← hbj];simp
  have hrun:=run_entry_at (P:=P) w r b ck _ es ck e i1' e1 (List.mem_of_getElem? f1) ((MapKept.stamped_iff es ck).1 e2).2.1
  refine ⟨_,by simp only [execOp,h1];exact qcl hrun,⟨[e.key,e.val],rfl,?_,f3,trivial⟩⟩
  rw [f2];exact rfl
end
end
end
def qhl:List Pg→Pg→List Pg
 | [],p=>[p]
 | q :: l,p=>if q.l<p.l then q :: qhl l p else if q.l=p.l then p :: l else p :: q :: l
def qb7 (a b:List Pg):List Pg:=(a++b).foldl qhl []
@[reducible] def Asc (l:List Pg):Prop:=l.Pairwise fun x y=>x.l<y.l
theorem qlq {p:Pg}:∀ {l:List Pg},Asc l→∀ {x:Pg},x∈qhl l p↔x=p∨(x∈l∧x.l≠p.l)
 | [],_,x=>by simp [qhl]
 | q :: l,h,x=>by
  obtain ⟨h1,h2⟩:=List.pairwise_cons.1 h
  unfold qhl
  split
  ·rename_i hq
   rw [List.mem_cons,qlq h2,List.mem_cons]
   constructor
   ·rintro (rfl|rfl|⟨h3,h4⟩)
    ·exact .inr ⟨.inl rfl,by omega⟩
    ·exact .inl rfl
    ·exact .inr ⟨.inr h3,h4⟩
   ·rintro (rfl|⟨rfl|h3,h4⟩)
    ·exact .inr (.inl rfl)
    ·exact .inl rfl
    ·exact .inr (.inr ⟨h3,h4⟩)
  ·rename_i hq
   split
   ·rename_i he
    rw [List.mem_cons,List.mem_cons]
    constructor
    ·rintro (rfl|h3)
     ·exact .inl rfl
     ·have:=h1 x h3
      exact .inr ⟨.inr h3,by omega⟩
    ·rintro (rfl|⟨rfl|h3,h4⟩)
     ·exact .inl rfl
     ·exact absurd he h4
     ·exact .inr h3
   ·rename_i he
    rw [List.mem_cons,List.mem_cons]
    constructor
    ·rintro (rfl|rfl|h3)
     ·exact .inl rfl
     ·exact .inr ⟨.inl rfl,he⟩
     ·have:=h1 x h3
      exact .inr ⟨.inr h3,by omega⟩
    ·rintro (rfl|⟨h3,h4⟩)
     ·exact .inl rfl
     ·exact .inr h3
theorem qix {p:Pg}:∀ {l:List Pg},Asc l→Asc (qhl l p)
 | [],_=>List.pairwise_singleton _ _
 | q :: l,h=>by
  obtain ⟨h1,h2⟩:=List.pairwise_cons.1 h
  unfold qhl
  split
  ·rename_i hq
   refine List.pairwise_cons.2 ⟨fun x hx=>?_,qix h2⟩
   rcases (qlq h2).1 hx with rfl|⟨h3,_⟩
   ·exact hq
   ·exact h1 x h3
  ·rename_i hq
   split
   ·rename_i he
    exact List.pairwise_cons.2 ⟨fun x hx=>by have:=h1 x hx;omega,h2⟩
   ·rename_i he
    refine List.pairwise_cons.2 ⟨fun x hx=>?_,h⟩
    rcases List.mem_cons.1 hx with rfl|hx
    ·omega
    ·have:=h1 x hx;omega
theorem qzb:∀ (l:List Pg) {w:List Pg},Asc w→Asc (l.foldl qhl w)
 | [],_,h=>h
 | p :: l,_,h=>qzb l (qix h)
theorem qop (a b:List Pg):Asc (qb7 a b):=qzb _ List.Pairwise.nil
theorem qyr (p:Pg):∀ l:List Pg,(qhl l p).length≤l.length+1
 | []=>by simp [qhl]
 | q :: l=>by
  unfold qhl
  have:=qyr p l
  split
  ·simp only [List.length_cons];omega
  ·split <;> simp
theorem qrt:∀ (l w:List Pg),(l.foldl qhl w).length≤w.length+l.length
 | [],w=>by simp
 | p :: l,w=>by
  have h1:=qyr p w
  have h2:=qrt l (qhl w p)
  simp only [List.foldl_cons,List.length_cons];omega
theorem qah (a b:List Pg):(qb7 a b).length≤a.length+b.length:=by
 have:=qrt (a++b) []
 rw [List.length_append] at this
 unfold qb7
 simpa using this
theorem qwp:∀ {xs ys:List Pg},Asc xs→Asc ys→(∀ x,x∈xs↔x∈ys)→xs=ys
 | [],[],_,_,_=>rfl
 | [],y :: ys,_,_,h=>by have:=(h y).2 (List.mem_cons_self ..);simp at this
 | x :: xs,[],_,_,h=>by have:=(h x).1 (List.mem_cons_self ..);simp at this
 | x :: xs,y :: ys,h1,h2,h=>by
  obtain ⟨a1,a2⟩:=List.pairwise_cons.1 h1
  obtain ⟨b1,b2⟩:=List.pairwise_cons.1 h2
  have hxy:x=y:=by
   rcases List.mem_cons.1 ((h x).1 (List.mem_cons_self ..)) with e|hx
   ·exact e
   ·rcases List.mem_cons.1 ((h y).2 (List.mem_cons_self ..)) with e|hy
    ·exact e.symm
    ·have:=b1 x hx;have:=a1 y hy;omega
  subst hxy
  refine congrArg _ (qwp a2 b2 fun z=>⟨fun hz=>?_,fun hz=>?_⟩)
  ·rcases List.mem_cons.1 ((h z).1 (List.mem_cons_of_mem _ hz)) with e|hz'
   ·subst e;have:=a1 z hz;omega
   ·exact hz'
  ·rcases List.mem_cons.1 ((h z).2 (List.mem_cons_of_mem _ hz)) with e|hz'
   ·subst e;have:=b1 z hz;omega
   ·exact hz'
def qfm (l:List Pg):List (Int×Pg):=l.foldl (fun m p=>qhm m p.l p) []
structure Keyd (m:List (Int×Pg)):Prop where
 own:∀ e,e∈m→e.2.l=e.1
 nod:(m.map Prod.fst).Nodup
theorem qf9 {α:Type} {k:Int} {v:α}:∀ {m:List (Int×α)},(m.map Prod.fst).Nodup→∀ {e:Int×α},e∈qhm m k v↔e=(k,v)∨(e∈m∧e.1≠k)
 | [],_,e=>by simp [qhm]
 | (j,y) :: m,h,e=>by
  have h':j ∉ m.map Prod.fst∧(m.map Prod.fst).Nodup:=List.nodup_cons.1 h
  unfold qhm
  split
  ·rename_i hj
   subst hj
   rw [List.mem_cons,List.mem_cons]
   constructor
   ·rintro (rfl|h3)
    ·exact .inl rfl
    ·exact .inr ⟨.inr h3,fun e1=>h'.1 (e1 ▸ List.mem_map.2 ⟨e,h3,rfl⟩)⟩
   ·rintro (rfl|⟨rfl|h3,h4⟩)
    ·exact .inl rfl
    ·exact absurd rfl h4
    ·exact .inr h3
  ·rename_i hj
   rw [List.mem_cons,qf9 h'.2,List.mem_cons]
   constructor
   ·rintro (rfl|rfl|⟨h3,h4⟩)
    ·exact .inr ⟨.inl rfl,hj⟩
    ·exact .inl rfl
    ·exact .inr ⟨.inr h3,h4⟩
   ·rintro (rfl|⟨rfl|h3,h4⟩)
    ·exact .inr (.inl rfl)
    ·exact .inl rfl
    ·exact .inr (.inr ⟨h3,h4⟩)
theorem qrg {α:Type} {k:Int} {v:α}:∀ {m:List (Int×α)},(m.map Prod.fst).Nodup→((qhm m k v).map Prod.fst).Nodup
 | [],_=>by simp [qhm]
 | (j,y) :: m,h=>by
  have h':j ∉ m.map Prod.fst∧(m.map Prod.fst).Nodup:=List.nodup_cons.1 h
  unfold qhm
  split
  ·rename_i hj
   subst hj
   exact h
  ·rename_i hj
   refine List.nodup_cons.2 ⟨fun hm=>?_,qrg h'.2⟩
   obtain ⟨e,he,hje⟩:=List.mem_map.1 hm
   rcases (qf9 h'.2).1 he with rfl|⟨h3,_⟩
   ·exact hj hje.symm
   ·exact h'.1 (List.mem_map.2 ⟨e,h3,hje⟩)
theorem Keyd.put {m:List (Int×Pg)} (h:Keyd m) (p:Pg):Keyd (qhm m p.l p):=
 ⟨fun e he=>by
  rcases (qf9 h.nod).1 he with rfl|⟨h3,_⟩
  ·rfl
  ·exact h.own e h3,qrg h.nod⟩
theorem Keyd.mem {m:List (Int×Pg)} (h:Keyd m) {p x:Pg}:x∈(qhm m p.l p).map Prod.snd↔x=p∨(x∈m.map Prod.snd∧x.l≠p.l):=by
 constructor
 ·intro hx
  obtain ⟨e,he,rfl⟩:=List.mem_map.1 hx
  rcases (qf9 h.nod).1 he with rfl|⟨h3,h4⟩
  ·exact .inl rfl
  ·exact .inr ⟨List.mem_map.2 ⟨e,h3,rfl⟩,by rw [h.own e h3];exact h4⟩
 ·rintro (rfl|⟨hx,hne⟩)
  ·exact List.mem_map.2 ⟨(x.l,x),(qf9 h.nod).2 (.inl rfl),rfl⟩
  ·obtain ⟨e,he,rfl⟩:=List.mem_map.1 hx
   exact List.mem_map.2 ⟨e,(qf9 h.nod).2 (.inr ⟨he,by rw [← h.own e he];exact hne⟩),rfl⟩
theorem qt6:∀ (l:List Pg) (m:List (Int×Pg)) (w:List Pg),Keyd m→Asc w→(∀ x,x∈m.map Prod.snd↔x∈w) →
  Keyd (l.foldl (fun m p=>qhm m p.l p) m)∧∀ x,x∈(l.foldl (fun m p=>qhm m p.l p) m).map Prod.snd↔x∈l.foldl qhl w
 | [],m,w,h1,_,h3=>⟨h1,h3⟩
 | p :: l,m,w,h1,h2,h3=>qt6 l (qhm m p.l p) (qhl w p) (h1.put p) (qix h2) fun x=>by rw [h1.mem,qlq h2,h3]
theorem qp0 (l:List Pg):Keyd (qfm l)∧∀ x,x∈(qfm l).map Prod.snd↔x∈l.foldl qhl []:=
 qt6 l [] [] ⟨fun e he=>(by cases he),List.nodup_nil⟩ List.Pairwise.nil fun x=>by simp
theorem qrh {α:Type} (k:Int) (v:α):∀ m:List (Int×α),(qhm m k v).length≤m.length+1
 | []=>by simp [qhm]
 | (j,y) :: m=>by
  unfold qhm
  have:=qrh k v m
  split
  ·simp
  ·simp only [List.length_cons];omega
theorem zc9 (l:List Pg):(qfm l).length≤l.length:=by
 have:∀ (l:List Pg) (m:List (Int×Pg)),(l.foldl (fun m p=>qhm m p.l p) m).length≤m.length+l.length:=fun l=>by
  induction l with
  | nil=>intro m;simp
  | cons p l ih =>
   intro m
   have h1:=ih (qhm m p.l p)
   have h2:=qrh p.l p m
   simp only [List.foldl_cons,List.length_cons];omega
 have:=this l []
 unfold qfm
 simpa using this
theorem qic:∀ (n:Nat) {S:List Nat},S.Nodup→(∀ j,j∈S→j<n)→S.length≤n
 | 0,S,_,h=>by
  match S with
  | []=>simp
  | j :: S=>have:=h j (List.mem_cons_self ..);omega
 | n+1,S,hn,h=>by
  by_cases hm:n∈S
  ·have h1:=List.length_erase_of_mem hm
   have h2:=qic n (hn.erase n) fun j hj=>by
    have h3:=h j (List.mem_of_mem_erase hj)
    have h4:j≠n:=fun e=>by subst e;exact (List.Nodup.mem_erase_iff hn).1 hj |>.1 rfl
    omega
   omega
  ·have:=qic n hn fun j hj=>by
    have h3:=h j hj
    have h4:j≠n:=fun e=>by subst e;exact hm hj
    omega
   omega
theorem qkz:∀ (n:Nat) {S:List Nat},S.Nodup→(∀ j,j∈S↔j<n)→S.Perm (List.range n)
 | 0,S,_,h=>by
  match S with
  | []=>exact List.Perm.refl _
  | j :: S=>have:=(h j).1 (List.mem_cons_self ..);omega
 | n+1,S,hn,h=>by
  have hm:n∈S:=(h n).2 (by omega)
  have h1:(S.erase n).Perm (List.range n):=qkz n (hn.erase n) fun j=>by
   rw [List.Nodup.mem_erase_iff hn,h]
   omega
  rw [List.range_succ]
  exact (List.perm_cons_erase hm).trans ((h1.cons n).trans (List.perm_append_singleton _ _).symm)
def qf1 (m:List (Int×Pg)) (S:List Nat):List Pg:=S.filterMap fun j=>(m[j]?).map Prod.snd
theorem qtb {m:List (Int×Pg)} {S:List Nat} {j:Nat} {e:Int×Pg} (h:m[j]?=some e):qf1 m (S++[j])=qf1 m S++[e.2]:=by
 unfold qf1
 rw [List.filterMap_append]
 simp [h]
theorem qs9 {m:List (Int×Pg)} {S:List Nat} (h:∀ j,j∈S→j<m.length):(qf1 m S).length=S.length:=by
 unfold qf1
 induction S with
 | nil=>rfl
 | cons j S ih =>
  have hj:=h j (List.mem_cons_self ..)
  rw [List.filterMap_cons]
  simp only [List.getElem?_eq_getElem hj,Option.map_some,List.length_cons]
  rw [ih fun i hi=>h i (List.mem_cons_of_mem _ hi)]
theorem qta (m:List (Int×Pg)):qf1 m (List.range m.length)=m.map Prod.snd:=by
 unfold qf1
 apply List.ext_getElem?
 intro i
 have key:∀ (m:List (Int×Pg)),(List.range m.length).filterMap (fun j=>(m[j]?).map Prod.snd)=m.map Prod.snd:=fun m=>by
  induction m with
  | nil=>rfl
  | cons e m ih =>
   rw [List.length_cons,List.range_succ_eq_map,List.filterMap_cons]
   simp only [List.getElem?_cons_zero,Option.map_some,List.map_cons]
   rw [List.filterMap_map]
   have:((fun j=>((e :: m)[j]?).map Prod.snd) ∘ Nat.succ)=fun j=>(m[j]?).map Prod.snd:=by
    funext j;simp
   rw [this,ih]
 rw [key]
theorem merged {a b:List Pg} {S:List Nat} {ys:List Pg} (hn:S.Nodup) (hS:∀ j,j∈S→j<(qfm (a++b)).length) (hall:∀ j,j<(qfm (a++b)).length→j∈S) (hy:ys.Perm (qf1 (qfm (a++b)) S)) (hs:Srt Pg.l 0 ys.length ys):ys=qb7 a b:=by
 obtain ⟨hk,hm⟩:=qp0 (a++b)
 have h1:S.Perm (List.range (qfm (a++b)).length):=qkz _ hn fun j=>⟨hS j,hall j⟩
 have h2:ys.Perm ((qfm (a++b)).map Prod.snd):=by
  rw [← qta]
  exact hy.trans (h1.filterMap _)
 have h3:(ys.map Pg.l).Nodup:=by
  have e:((qfm (a++b)).map Prod.snd).map Pg.l=(qfm (a++b)).map Prod.fst:=by
   rw [List.map_map]
   exact List.map_congr_left fun e he=>hk.own e he
  exact (h2.map Pg.l).nodup_iff.2 (by rw [e];exact hk.nod)
 exact qwp (zbs hs h3) (qop a b) fun x=>by rw [h2.mem_iff];exact hm x
theorem qyp:∀ {W:List Pg} {p:Pg} (k:Nat),(∀ j q,j<k→W[j]?=some q→q.l<p.l)→∀ {q:Pg},W[k]?=some q→q.l=p.l→qhl W p=W.set k p
 | [],p,k,_,q,hq,_=>by simp at hq
 | x :: W,p,0,_,q,hq,he=>by
  simp at hq;subst hq
  unfold qhl
  rw [if_neg (by omega),if_pos he];rfl
 | x :: W,p,k+1,h,q,hq,he=>by
  have h0:=h 0 x (by omega) rfl
  unfold qhl
  rw [if_pos h0,qyp k (fun j q hj hq=>h (j+1) q (by omega) (by simpa using hq)) (by simpa using hq) he];rfl
theorem qyq:∀ {W:List Pg} {p:Pg} (k:Nat),k≤W.length→(∀ j q,j<k→W[j]?=some q→q.l<p.l)→(∀ q,W[k]?=some q→p.l<q.l)→qhl W p=W.take k++([p]++W.drop k)
 | [],p,k,hk,_,_=>by
  have:k=0:=by simpa using hk
  subst this;rfl
 | x :: W,p,0,_,_,h2=>by
  have:=h2 x rfl
  unfold qhl
  rw [if_neg (by omega),if_neg (by omega)];rfl
 | x :: W,p,k+1,hk,h,h2=>by
  have h0:=h 0 x (by omega) rfl
  unfold qhl
  rw [if_pos h0,qyq k (by simpa using hk) (fun j q hj hq=>h (j+1) q (by omega) (by simpa using hq)) (fun q hq=>h2 q (by simpa using hq))];rfl
theorem zd0 {l:List Pg} {k:Nat} {p:Pg} (h:l[k]?=some p):(l.take (k+1)).foldl qhl []=qhl ((l.take k).foldl qhl []) p:=by
 rw [List.take_add_one,h,List.foldl_append];rfl
theorem qz7 {l:List Pg} {k:Nat} {p:Pg} (h:l[k]?=some p):qfm (l.take (k+1))=qhm (qfm (l.take k)) p.l p:=by
 unfold qfm
 rw [List.take_add_one,h,List.foldl_append];rfl
def Pg.nil:Pg:=⟨0,0#64,0#64,0#64,0#64,0#64,0#64,0#64,0#64⟩
theorem zfm (n:Nat) (hn:n≤1048576):Fn Tryz.prog 146 [Is (.slice none 0 0),Is (.int .i64 (n:Int))] [] (fun i:Option Addr×Nat=>Is (slV 0 i)) (fun i=>[buf (slV 0 i) 48 tPg ([]:List Pg)]):=by
 refine Fn.enterN func146 ntmps146 rfl rfl ?_
 intro c hX
 refine t12 ?_
 refine cN ?_ ?_ <;> intro h1
 ·exact absurd (of_decide_eq_true h1) (by omega)
 refine t7 ?_
 refine qap rfl (qtj (er rfl) rfl) ?_
 refine t13 ?_
 refine qgs (fun i:Option Addr×Nat=>True) (fun i=>[(0,Is (slV 0 i))]) (fun i=>[buf (slV 0 i) 48 tPg ([]:List Pg)]) ?_ ?_
 rotate_left
 focus
  refine cN ?_ ?_ <;> intro h4
  ·have h0:0<n:=by have:=of_decide_eq_true h4;omega
   clear h4
   refine t3 ?_
   refine qap rfl (qtj (er rfl) rfl) ?_
   refine qap rfl (qvy (er rfl) rfl rfl rfl ⟨_,_,(er rfl),(show _=((0:Nat):Int) by rfl)⟩) ?_
   refine s1 ?_
   refine qi1 21 (Is (.int .i64 (n:Int))) rfl (SubL.eq (ieq (by omega))) ?_
   (refine qwx rfl (qz3 tPg Pg.nil (k:=n) (er rfl) (er rfl) rfl rfl rfl rfl rfl rf qb8 qb8 rf rf) ?_;intro i22)
   refine t2 ?_
   refine qap rfl (qps (h:=0) (er rfl) qbw rfl rfl rfl ⟨_,_,(er rfl),(show _=((0:Nat):Int) by rfl)⟩ qb8) ?_
   refine t2 ?_
   refine ze8 (h:=0) qae (Nat.zero_le _) ?_
   exact qai i22 trivial qbt qab
  refine s1 ?_
  refine JQ_buf0 48 tPg ?_
  exact qai (none,0) trivial qbt qab
 rintro i _
 refine t7 ?_
 exact qbv (Bs:=[Is (slV 0 i)]) results146 eT i SubL.rfl' qab
theorem qt8 {l:List (List Pg)} {k:Nat} {z:List Pg} (h:l[k]?=some z):((l.take (k+1)).flatten).length=((l.take k).flatten).length+z.length∧((l.take (k+1)).flatten).length≤l.flatten.length:=by
 constructor
 ·rw [List.take_add_one,h];simp
 ·conv=>rhs;rw [← List.take_append_drop (k+1) l,List.flatten_append,List.length_append]
  omega
theorem qw1 (l:List (List Pg)) (hn:l.flatten.length≤1048576):Fn Tryz.prog 100 [IsSl (tSl tPg) l] [] (fun i:Option Addr×Nat=>Is (slV l.flatten.length i)) (fun i=>[buf (slV l.flatten.length i) 48 tPg l.flatten]):=by
 refine Fn.enterN func100 ntmps100 rfl rfl ?_
 intro c hX
 refine qgv (t:=0) rfl (fun hll=>?_)
 refine t19 ?_
 refine qbg (fun k:Nat=>k≤l.length) (fun k=>[(0,IsSl (tSl tPg) l),(3,Is (.int .i64 (((l.take k).flatten).length:Nat))),(9,IsSl (tSl tPg) l),(10,Is (.int .i64 l.length)),(11,Is (.int .i64 (k:Nat)))]) (fun k=>[]) (fun k=>l.length-k) 0 (Nat.zero_le _) qbt qab ?_
 rintro k hk
 refine t6 ?_
 refine cN ?_ ?_ <;> intro h3
 ·have hlt:k<l.length:=by have:=of_decide_eq_true h3;omega
  clear h3
  obtain ⟨z,hz⟩:∃ z,l[k]?=some z:=⟨l[k],List.getElem?_eq_getElem hlt⟩
  obtain ⟨e1,e2⟩:=qt8 hz
  refine t6 ?_
  refine qap rfl (by exact qam (j:=_) (er rfl) (er rfl) rfl rfl rf (by assumption)) ?_
  refine t19 ?_
  refine cN ?_ ?_ <;> intro h6
  ·exact absurd (of_decide_eq_true h6) (by omega)
  refine t7 ?_
  exact qaa (k+1) (by omega) (by omega) ⟨⟨_,rfl,SubL.rfl'⟩,⟨_,rfl,SubL.eq (ieq (by omega))⟩,⟨_,rfl,SubL.rfl'⟩,⟨_,rfl,SubL.rfl'⟩,⟨_,rfl,SubL.eq (ieq (by omega))⟩,trivial⟩ qab
 have hke:k=l.length:=by have:=of_decide_eq_false h3;omega
 subst hke
 rw [List.take_length]
 refine t8 ?_
 (refine qew rfl (by ((refine qlo call146 (zfm _ ?_) ⟨evS,⟨evS,trivial⟩⟩);all_goals (assumption))) ?_;intro i24)
 refine t12 ?_
 refine qbg (fun z:Nat×(Option Addr×Nat)=>z.1≤l.length) (fun z=>[(6,Is (slV ((l.take z.1).flatten).length z.2)),(25,IsSl (tSl tPg) l),(26,Is (.int .i64 l.length)),(27,Is (.int .i64 (z.1:Nat)))]) (fun z=>[buf (slV ((l.take z.1).flatten).length z.2) 48 tPg (l.take z.1).flatten]) (fun z=>l.length-z.1) (0,i24) (Nat.zero_le _) qbt qab ?_
 rintro ⟨k,s⟩ hk
 dsimp only at hk ⊢
 refine t6 ?_
 refine cN ?_ ?_ <;> intro h11
 ·have hlt:k<l.length:=by have:=of_decide_eq_true h11;omega
  clear h11
  obtain ⟨z,hz⟩:∃ z,l[k]?=some z:=⟨l[k],List.getElem?_eq_getElem hlt⟩
  obtain ⟨e1,e2⟩:=qt8 hz
  have e3:(l.take (k+1)).flatten=(l.take k).flatten++z:=by rw [List.take_add_one,hz];simp
  refine t6 ?_
  refine qap rfl (by exact qam (j:=_) (er rfl) (er rfl) rfl rfl rf (by assumption)) ?_
  refine t7 ?_
  (refine qew rfl (qb6 (er rfl) (fun _=>qae) evS (by exact qej rfl rfl rfl) qb8) ?_;intro i33)
  refine t8 ?_
  rw [← e3]
  exact qaa (k+1,i33) (by dsimp only;omega) (by dsimp only;omega) ⟨⟨_,rfl,SubL.rfl'⟩,⟨_,rfl,SubL.rfl'⟩,⟨_,rfl,SubL.rfl'⟩,⟨_,rfl,SubL.eq (ieq (by dsimp only;omega))⟩,trivial⟩ qab
 have hke:k=l.length:=by have:=of_decide_eq_false h11;omega
 subst hke
 rw [List.take_length]
 refine t12 ?_
 exact qbv (Bs:=[Is (slV l.flatten.length s)]) results100 eT s SubL.rfl' qab
theorem ze5 (a b:List Pg) (hn:a.length+b.length≤19):Fn Tryz.prog 61 [IsSl tPg a,IsSl tPg b] [] (fun i:Option Addr×Nat=>Is (slV (qb7 a b).length i)) (fun i=>[buf (slV (qb7 a b).length i) 48 tPg (qb7 a b)]):=by
 have hfl:([a,b]:List (List Pg)).flatten=a++b:=by simp
 have hcl:([a,b]:List (List Pg)).flatten.length≤1048576:=by rw [hfl,List.length_append];omega
 obtain ⟨hk,_⟩:=qp0 (a++b)
 have hml:=zc9 (a++b)
 rw [List.length_append] at hml
 refine Fn.enterN func61 ntmps61 rfl rfl ?_
 intro c hX
 refine t7 ?_
 (refine qwx rfl (qh9 qcr) ?_;intro i11)
 refine t8 ?_
 refine qap rfl (qcm (size:=1) (qs:=[(0,_),(1,_)]) rfl rfl rfl ⟨⟨rfl,_,(er rfl),qa6⟩,⟨⟨rfl,_,(er rfl),qa6⟩,trivial⟩⟩ rf rf) ?_
 (refine qew rfl (by ((refine qlo call100 (qw1 [a,b] ?_) ⟨evS,trivial⟩);all_goals (assumption))) ?_;intro i15)
 refine t5 ?_
 rw [hfl]
 refine qa7 hX (v:=slV (a++b).length i15) qae ?_
 refine qb0 15 (IsSl tPg (a++b)) rfl (SubL.fact qbw) ?_
 refine qgv (t:=15) rfl (fun hll=>?_)
 refine qbg (fun k:Nat=>k≤(a++b).length) (fun k=>[(5,Is (.map (some i11))),(15,IsSl tPg (a++b)),(16,Is (.int .i64 (a++b).length)),(17,Is (.int .i64 (k:Nat)))]) (fun k=>[mp i11 qcr (qfm ((a++b).take k))]) (fun k=>(a++b).length-k) 0 (Nat.zero_le _) qbt qab ?_
 rintro k hk
 refine t6 ?_
 refine cN ?_ ?_ <;> intro h3
 ·have hlt:k<(a++b).length:=by have:=of_decide_eq_true h3;omega
  clear h3
  obtain ⟨z,hz⟩:∃ z,(a++b)[k]?=some z:=⟨(a++b)[k],List.getElem?_eq_getElem hlt⟩
  refine t6 ?_
  refine qap rfl (by exact qam (j:=_) (er rfl) (er rfl) rfl rfl rf (by assumption)) ?_
  refine t2 ?_
  intro i7
  refine t8 ?_
  refine qkl (qjc (V:=qcr) (v:=z) (er rfl) (er rfl) evS qae rfl rfl) ?_
  refine t7 ?_
  rw [← qz7 hz]
  exact qaa (k+1) (by omega) (by omega) qbt qab
 have hke:k=(a++b).length:=by have:=of_decide_eq_false h3;omega
 subst hke
 clear h3
 rw [List.take_length]
 refine t14 ?_
 (refine qew rfl (qxy (er rfl) (fun _ _=>qae) rfl) ?_;intro i27)
 refine t3 ?_
 refine qcd 48 tPg ?_
 refine qbg (fun z:List Nat×(Option Addr×Nat)=>z.1.Nodup∧∀ j,j∈z.1→j<(qfm (a++b)).length) (fun z=>[(8,Is (slV (qf1 (qfm (a++b)) z.1).length z.2)),(27,Is (.pointer (some ⟨i27.1,0,none⟩)))]) (fun z=>[buf (slV (qf1 (qfm (a++b)) z.1).length z.2) 48 tPg (qf1 (qfm (a++b)) z.1),itr i27.1 i11 i27.2.1 i27.2.2 z.1,mpr i11 qcr (qfm (a++b)) i27.2.1 i27.2.2]) (fun z=>(qfm (a++b)).length-z.1.length) ([],(none,0)) ⟨List.nodup_nil,fun j hj=>by cases hj⟩ qbt qab ?_
 rintro ⟨S,s⟩ ⟨hnd,hS⟩
 dsimp only at hnd hS ⊢
 have hpl:=qs9 hS
 have hsl:=qic _ hnd hS
 refine t2 ?_
 (refine qew rfl (zcu (er rfl) qbw (fun _=>qae) (by assumption)) ?_;intro i28)
 refine qap rfl (by exact qmz (er rfl)) ?_
 refine t3 ?_
 obtain ⟨⟨more,Sf⟩,hst⟩:=i28
 dsimp only
 refine cN ?_ ?_ <;> intro h9
 ·subst h9
  obtain ⟨j,e1,hj,hjn⟩:∃ j,Sf=S++[j]∧j<(qfm (a++b)).length∧j ∉ S:=hst
  subst e1
  obtain ⟨⟨kj,xj⟩,hej⟩:∃ e,(qfm (a++b))[j]?=some e:=⟨(qfm (a++b))[j],List.getElem?_eq_getElem hj⟩
  have hnd':(S++[j]).Nodup:=List.nodup_append.2 ⟨hnd,by simp,fun x hx y hy=>by rw [List.mem_singleton] at hy;subst hy;exact fun e=>hjn (e ▸ hx)⟩
  have hSj:∀ i,i∈S++[j]→i<(qfm (a++b)).length:=fun i hi=>by
   rcases List.mem_append.1 hi with hi|hi
   ·exact hS i hi
   ·rw [List.mem_singleton] at hi;subst hi;exact hj
  have hsl':=qic _ hnd' hSj
  rw [List.length_append,List.length_singleton] at hsl'
  refine t5 ?_
  refine qap rfl (qx1 (er rfl) qbw qbw hej) ?_
  refine t2 ?_
  intro i10
  refine t6 ?_
  refine qap rfl (qcm (size:=9) (qs:=[(0,_)]) rfl rfl rfl ⟨⟨rfl,_,(er rfl),qa6⟩,trivial⟩ rf rf) ?_
  (refine qew rfl (qb6 (er rfl) (fun _=>qae) (by exact Ev.sub rfl (by exact SubL.row (xs:=[xj]) rf rf qex)) (by exact qej rfl rfl rfl) qb8) ?_;intro i35)
  refine t3 ?_
  rw [← qtb hej]
  exact qaa (S++[j],i35) ⟨hnd',hSj⟩ (by dsimp only;rw [List.length_append,List.length_singleton];omega) qbt qab
 subst h9
 obtain ⟨e1,hall⟩:Sf=S∧∀ j,j<(qfm (a++b)).length→j∈S:=hst
 subst e1
 have hpl2:(qf1 (qfm (a++b)) Sf).length≤19:=by omega
 refine t8 ?_
 (refine qew rfl (by ((refine qhq qbs call99 (qm3 (qf1 (qfm (a++b)) Sf) (qf1 (qfm (a++b)) Sf).length s rfl ?_) ⟨evS,trivial⟩);all_goals (assumption))) ?_;intro i37)
 refine t4 ?_
 obtain ⟨ys,hy1,hy2⟩:=i37
 dsimp only
 have hym:ys=qb7 a b:=merged hnd hS hall hy2.perm (by rw [hy2.len];exact hy1)
 have hyl:(qf1 (qfm (a++b)) Sf).length=(qb7 a b).length:=by rw [← hym];exact hy2.len.symm
 rw [hyl,hym]
 exact qbv (Bs:=[Is (slV (qb7 a b).length s)]) results61 eT s SubL.rfl' qab
theorem zdz (l:List Pg) (k:Nat):((l.take k).foldl qhl []).length≤k:=by
 have h1:=qrt (l.take k) []
 rw [List.length_take] at h1
 simp at h1
 omega
theorem getDq {W:List Pg} {k:Nat} (h:k<W.length):W[k]?=some (W.getD k Pg.nil):=by
 rw [List.getElem?_eq_getElem h,List.getD_eq_getElem?_getD,List.getElem?_eq_getElem h];rfl
theorem qqg (a b:List Pg) (hn:a.length+b.length≤400000):Fn Tryz.prog 72 [IsSl tPg a,IsSl tPg b] [] (fun i:Option Addr×Nat=>Is (slV (qb7 a b).length i)) (fun i=>[buf (slV (qb7 a b).length i) 48 tPg (qb7 a b)]):=by
 have hal:(a++b).length≤400000:=by rw [List.length_append];exact hn
 refine Fn.enterN func72 ntmps72 rfl rfl ?_
 intro c hX
 refine t12 ?_
 (refine qwx rfl (qkn tPg rfl rfl) ?_;intro i9)
 refine s1 ?_
 (refine qew rfl (qb6 (er rfl) (fun _=>qae) evS (by exact qej rfl rfl rfl) qb8) ?_;intro i11)
 refine s1 ?_
 (refine qew rfl (qb6 (er rfl) (fun _=>qae) evS (by exact qej rfl rfl rfl) qb8) ?_;intro i13)
 refine t5 ?_
 rw [List.nil_append]
 refine qa7 hX (v:=slV (a++b).length i13) qae ?_
 refine qb0 6 (IsSl tPg (a++b)) rfl (SubL.fact qbw) ?_
 refine qcd 48 tPg ?_
 refine t5 ?_
 refine qbg (fun z:Nat×(Option Addr×Nat)=>z.1≤(a++b).length) (fun z=>[(5,Is (slV (((a++b).take z.1).foldl qhl []).length z.2)),(6,IsSl tPg (a++b)),(7,Is (.int .i64 (z.1:Nat)))]) (fun z=>[buf (slV (((a++b).take z.1).foldl qhl []).length z.2) 48 tPg (((a++b).take z.1).foldl qhl [])]) (fun z=>(a++b).length-z.1) (0,(none,0)) (Nat.zero_le _) qbt qab ?_
 rintro ⟨k,s⟩ hk
 dsimp only at hk ⊢
 refine t9 ?_
 refine cN ?_ ?_ <;> intro h4
 ·have hlt:k<(a++b).length:=by have:=of_decide_eq_true h4;omega
  clear h4
  obtain ⟨p,hp⟩:∃ z,(a++b)[k]?=some z:=⟨(a++b)[k],List.getElem?_eq_getElem hlt⟩
  have hft:=zd0 hp
  have hwl:=zdz (a++b) k
  obtain ⟨W,hW⟩:∃ W,((a++b).take k).foldl qhl []=W:=⟨_,rfl⟩
  rw [hW] at hft hwl
  rw [hW]
  refine t11 ?_
  refine qbg (fun j:Nat=>j≤W.length∧∀ i q,i<j→W[i]?=some q→q.l<p.l) (fun j=>[(5,Is (slV W.length s)),(6,IsSl tPg (a++b)),(7,Is (.int .i64 (k:Nat))),(8,Is (.int .i64 (j:Nat)))]) (fun _=>[buf (slV W.length s) 48 tPg W]) (fun j=>W.length-j) 0 ⟨Nat.zero_le _,fun i q hi=>by omega⟩ qbt qab ?_
  rintro j ⟨hj,hlo⟩
  obtain ⟨q,hq0⟩:∃ q,W.getD j Pg.nil=q:=⟨_,rfl⟩
  have hq:j<W.length→W[j]?=some q:=fun h=>by rw [← hq0];exact getDq h
  refine t2 ?_
  refine qaz rfl (by kernel_rfl) ?_
  refine qaf 17 (by kernel_rfl) ?_
  refine t7 ?_
  (refine qd2 rfl rfl (fun hg=>(by have hg0:=hg;(try simp at hg);exact qax (k:=j) evG qbw evG rfl rfl qct qb8)) ?_)
  (refine qd2 rfl rfl (fun hg=>(by have hg0:=hg;(try simp at hg);exact qbi (k:=0) evG qbw qb8 rfl rfl rfl rfl)) ?_)
  (refine qd2 rfl rfl (fun hg=>(by have hg0:=hg;(try simp at hg);exact qet evG qbw (hq (by omega)) rfl rfl rf)) ?_)
  refine t2 ?_
  (refine qd2 rfl rfl (fun hg=>(by have hg0:=hg;(try simp at hg);exact qam (j:=_) evG evG rfl rfl rf hp)) ?_)
  refine t4 ?_
  refine ⟨rfl,?_⟩
  refine qar ?_
  refine s1 ?_
  refine cN ?_ ?_ <;> intro h7
  ·have h':j<W.length∧q.l<p.l:=by
    rw [Bool.and_eq_true] at h7
    have h8:=of_decide_eq_true h7.1
    exact ⟨by omega,of_decide_eq_true h7.2⟩
   clear h7
   refine t9 ?_
   exact qaa (j+1) ⟨by omega,fun i q' hi hq'=>by
    by_cases hij:i=j
    ·subst hij;rw [hq h'.1] at hq';cases hq';exact h'.2
    ·exact hlo i q' (by omega) hq'⟩ (by omega) qbt qab
  have h':j=W.length∨¬ q.l<p.l:=by
   by_cases hjl:j=W.length
   ·exact .inl hjl
   ·refine .inr fun hh=>?_
    have e1:decide ((j:Int)<(W.length:Int))=true:=decide_eq_true (by omega)
    rw [e1,Bool.true_and,decide_eq_true hh] at h7
    cases h7
  clear h7
  refine t7 ?_
  refine qaz rfl (by kernel_rfl) ?_
  refine qaf 17 (by kernel_rfl) ?_
  refine t7 ?_
  (refine qd2 rfl rfl (fun hg=>(by have hg0:=hg;(try simp at hg);exact qax (k:=j) evG qbw evG rfl rfl qct qb8)) ?_)
  (refine qd2 rfl rfl (fun hg=>(by have hg0:=hg;(try simp at hg);exact qbi (k:=0) evG qbw qb8 rfl rfl rfl rfl)) ?_)
  (refine qd2 rfl rfl (fun hg=>(by have hg0:=hg;(try simp at hg);exact qet evG qbw (hq (by omega)) rfl rfl rf)) ?_)
  refine t2 ?_
  (refine qd2 rfl rfl (fun hg=>(by have hg0:=hg;(try simp at hg);exact qam (j:=_) evG evG rfl rfl rf hp)) ?_)
  refine t4 ?_
  refine ⟨rfl,?_⟩
  refine qar ?_
  refine s1 ?_
  refine cN ?_ ?_ <;> intro h9
  ·have h2:j<W.length∧q.l=p.l:=by
    rw [Bool.and_eq_true] at h9
    have h8:=of_decide_eq_true h9.1
    exact ⟨by omega,by simpa using h9.2⟩
   clear h9
   have hs:=qyp j hlo (hq h2.1) h2.2
   refine t6 ?_
   refine qap rfl (by exact qam (j:=_) (er rfl) (er rfl) rfl rfl rf hp) ?_
   refine s1 ?_
   refine qap rfl (by exact qax (k:=j) (er rfl) qbw (er rfl) rfl rfl qct qb8) ?_
   refine qkl (by exact qge (z':=p) (er rfl) (er rfl) qa6 qae (hq h2.1) rfl rf rf) ?_
   refine t11 ?_
   (rw [← hs,← hft];refine qaa (k+1,s) (by dsimp only;omega) (by dsimp only;omega) ⟨⟨_,rfl,SubL.eq (by rw [hft,hs,List.length_set])⟩,⟨_,rfl,SubL.rfl'⟩,⟨_,rfl,SubL.eq (ieq (by dsimp only;omega))⟩,trivial⟩ ?_;rw [show (slV W.length s)=slV (((a++b).take (k+1)).foldl qhl []).length s by rw [hft,hs,List.length_set]];exact qab)
  have h2:∀ q',W[j]?=some q'→p.l<q'.l:=fun q' hq'=>by
   have hjl:=(List.getElem?_eq_some_iff.1 hq').1
   rw [hq hjl] at hq';cases hq'
   have e1:decide ((j:Int)<(W.length:Int))=true:=decide_eq_true (by omega)
   rw [e1,Bool.true_and] at h9
   have h10:¬ q.l=p.l:=by simpa using h9
   rcases h' with h' | h'
   ·omega
   ·omega
  clear h9
  have hs2:=qyq j hj hlo h2
  refine t2 ?_
  refine qaz rfl (by kernel_rfl) ?_
  refine qaf 12 (by kernel_rfl) ?_
  refine t2 ?_
  refine qbh (qps (h:=j) (er rfl) qbw rfl rfl rfl ⟨_,_,(er rfl),(show _=((j:Nat):Int) by rfl)⟩ qb8) ?_
  refine t2 ?_
  refine qbh (by exact qam (j:=_) (er rfl) (er rfl) rfl rfl rf hp) ?_
  refine s1 ?_
  refine qbh (qcm (size:=9) (qs:=[(0,_)]) rfl rfl rfl ⟨⟨rfl,_,(er rfl),qa6⟩,trivial⟩ rf rf) ?_
  refine t2 ?_
  refine qbh (qzz (l:=j) (er rfl) qbw rfl rfl ⟨_,_,(er rfl),(show _=((j:Nat):Int) by rfl)⟩ rfl qb8) ?_
  refine qbh (qq7 (T:=tPg) ([p]) (er rfl) subzT rfl rfl (er rfl) qbw qb8 (by exact qej rfl rfl rfl) qb8) ?_
  refine ⟨rfl,?_⟩
  (refine JD_s (by kernel_rfl) rfl rfl (zcz (h:=j) (er rfl) qae qb8 (fun _=>qae) evS (by exact qej rfl rfl rfl) qb8) ?_;intro i75)
  refine JD_1 (by kernel_rfl) rfl rfl (qei rfl) ?_
  refine qar ?_
  refine t7 ?_
  (rw [← hs2,← hft];exact qaa (k+1,i75) (by dsimp only;omega) (by dsimp only;omega) qbt qab)
 have hke:k=(a++b).length:=by have:=of_decide_eq_false h4;omega
 subst hke
 rw [List.take_length]
 refine t12 ?_
 exact qbv (Bs:=[Is (slV (qb7 a b).length s)]) results72 eT s SubL.rfl' qab
theorem qmy {α:Type} {xs ys:List α} {k:Nat} {x y:α} (hx:xs[k]?=some x) (hy:ys[k]?=some y) (h:xs.take k=ys.take k):(xs.take (k+1)=ys.take (k+1))↔x=y:=by
 rw [List.take_add_one,List.take_add_one,hx,hy,h]
 simp
def qnd (p:Pg):List Value:=[.int .u64 (UV p.d0),.int .u64 (UV p.d1),.int .u64 (UV p.d2),.int .u64 (UV p.d3),.int .u64 (UV p.d4),.int .u64 (UV p.d5),.int .u64 (UV p.d6)]
def qry (p q:Pg):Bool:=p.d0==q.d0&&(p.d1==q.d1&&(p.d2==q.d2&&(p.d3==q.d3&&(p.d4==q.d4&&(p.d5==q.d5&&p.d6==q.d6)))))
theorem data_iff {p q:Pg}:qry p q=true↔p.d0=q.d0∧p.d1=q.d1∧p.d2=q.d2∧p.d3=q.d3∧p.d4=q.d4∧p.d5=q.d5∧p.d6=q.d6:=by
 unfold qry
 simp only [Bool.and_eq_true,beq_iff_eq]
theorem eqD_run (p q:Pg) (w:World):(Op.equal 46 (.agg (qnd p).toArray) (.agg (qnd q).toArray)).run Tryz.prog w = .ok (qry p q) w:=
 eq7 9998 w p.d0 p.d1 p.d2 p.d3 p.d4 p.d5 p.d6 q.d0 q.d1 q.d2 q.d3 q.d4 q.d5 q.d6
theorem qoj (o:BinOp) (x y:Operand) (p q:Pg) (w:World):(eqGuard o 46 x y (.agg (qnd p).toArray) (.agg (qnd q).toArray)).run Tryz.prog w = .ok () w:=by
 have h:Tryz.prog.eqGuardType Tryz.prog.depth 46=false:=by kernel_rfl
 cases o <;> simp [eqGuard,program,Sem.run,h]
theorem qwf (p q:Pg) (w:World):(binOp .neq 46 (.agg (qnd p).toArray) (.agg (qnd q).toArray)).run Tryz.prog w = .ok (.bool (!qry p q)) w:=by
 simp only [binOp,Sem.run_bind,eqD_run,Result.andThen_ok,Sem.run_pure]
theorem same_pg (p q:Pg):(p.l != q.l||(UV p.h != UV q.h || !qry p q)) = !decide (p=q):=by
 obtain ⟨l,h,d0,d1,d2,d3,d4,d5,d6⟩:=p
 obtain ⟨l',h',d0',d1',d2',d3',d4',d5',d6'⟩:=q
 by_cases h1:l=l'
 case neg=>simp [h1]
 by_cases h2:h=h'
 case neg =>
  have:UV h≠UV h':=fun e=>h2 (by rw [qut] at e;exact e)
  simp [h1,h2,this]
 subst h1 h2
 by_cases h3:qry ⟨l,h,d0,d1,d2,d3,d4,d5,d6⟩ ⟨l,h,d0',d1',d2',d3',d4',d5',d6'⟩=true
 ·rw [h3]
  have:=data_iff.1 h3
  simp only at this
  simp [this]
 ·have h4:qry ⟨l,h,d0,d1,d2,d3,d4,d5,d6⟩ ⟨l,h,d0',d1',d2',d3',d4',d5',d6'⟩=false:=by simpa using h3
  rw [h4]
  have:¬ ((⟨l,h,d0,d1,d2,d3,d4,d5,d6⟩:Pg)=⟨l,h,d0',d1',d2',d3',d4',d5',d6'⟩):=fun e=>by
   injection e with _ _ e0 e1 e2 e3 e4 e5 e6
   exact h3 (data_iff.2 ⟨e0,e1,e2,e3,e4,e5,e6⟩)
  simp [this]
end Go.Proofs.YtghkkdjbaehboaaGreat
