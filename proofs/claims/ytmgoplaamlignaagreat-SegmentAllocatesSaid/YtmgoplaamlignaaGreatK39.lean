/- Texts laid together: walks of functions, what they compute, and plain laws of it. Own work. -/
import Derived.Test.YtmgoplaamlignaaGreatK38
import Derived.Test.YtmgoplaamlignaaGreatK23
import Derived.Test.YtmgoplaamlignaaGreatK12
import Derived.Test.YtmgoplaamlignaaGreatK19
import Derived.Test.YtmgoplaamlignaaGreatK26
import Derived.Test.YtmgoplaamlignaaGreatK7
import Derived.Test.YtmgoplaamlignaaGreatK6
import Derived.Test.YtmgoplaamlignaaGreatK1
namespace Go.Proofs.YtmgoplaamlignaaGreat
open Go.RowKit Tryz
set_option linter.unusedVariables false
set_option linter.unusedSimpArgs false
set_option maxRecDepth 100000
set_option maxHeartbeats 4000000
theorem Sweep_ok (cu:Cu) (cl lines:Int) (ks:List Pg) (hks:ks.length≤5000):FnF Tryz.prog 107 [IsCu cu,Is (.int .i64 cl),Is (.int .i64 lines),qal tPg ks] (fun B=>qek PSS fun r=>qjl B r):=by
 refine FnF.enter func107 ntmps107 rfl rfl ?_
 intro c hX
 refine t3 ?_
 intro i4
 refine s1 ?_
 intro i8
 refine t31 ?_
 refine cN ?_ ?_ <;> intro h1
 ·refine t2 ?_
  refine kRF call134 (qbk c.w.heap.size _) ?_
  refine t5 ?_
  exact rXF (⟨_,_,(⟨_,(⟨_,_,_⟩:Cu),_,_⟩:SO26),_⟩:SS26) results107 (hp:=by exact wl0) (hD0:=hX.2)
 refine t16 ?_
 refine cN ?_ ?_ <;> intro h4
 ·refine t18 ?_
  refine cN ?_ ?_ <;> intro h5
  ·refine t2 ?_
   refine kRF call134 (qbk c.w.heap.size _) ?_
   refine t7 ?_
   exact rXF (⟨_,_,(⟨_,(⟨_,_,_⟩:Cu),_,_⟩:SO26),_⟩:SS26) results107 (hp:=by exact wl0) (hD0:=hX.2)
  have hlv:0≤cu.level:=by
   simp only [Bool.or_eq_false_iff,decide_eq_false_iff_not] at h5
   omega
  refine t8 ?_
  refine qap rfl (by ((refine qaw call135 (qss cu _ _ _ ?_ hlv) ⟨qar,⟨qar,⟨qar,⟨qar,trivial⟩⟩⟩⟩);all_goals (first|omega|(simp;done)|(simp;omega)|(refine Nat.le_trans (qai _ _) ?_;omega)|(refine Nat.le_trans (qai _ _) (Nat.le_trans (Nat.add_le_add_right (qai _ _) _) ?_);omega)))) ?_
  (refine qa5 57 rfl ?_;intro x57 hx57)
  refine t6 ?_
  exact rXF (⟨_,_,(⟨_,(⟨_,_,_⟩:Cu),_,_⟩:SO26),_⟩:SS26) results107 (hp:=by exact hx57) (hD0:=hX.2)
 refine t6 ?_
 refine cN ?_ ?_ <;> intro h8
 ·refine t13 ?_
  refine cN ?_ ?_ <;> intro h9
  ·refine t2 ?_
   refine kRF call134 (qbk c.w.heap.size _) ?_
   refine t7 ?_
   exact rXF (⟨_,_,(⟨_,(⟨_,_,_⟩:Cu),_,_⟩:SO26),_⟩:SS26) results107 (hp:=by exact wl0) (hD0:=hX.2)
  refine t7 ?_
  refine qap rfl (by ((refine qaw call136 (qqo cu _ _ ?_) ⟨qar,⟨qar,⟨qar,trivial⟩⟩⟩);all_goals (first|omega|(simp;done)|(simp;omega)|(refine Nat.le_trans (qai _ _) ?_;omega)|(refine Nat.le_trans (qai _ _) (Nat.le_trans (Nat.add_le_add_right (qai _ _) _) ?_);omega)))) ?_
  (refine qa5 72 rfl ?_;intro x72 hx72)
  refine t6 ?_
  exact rXF (⟨_,_,(⟨_,(⟨_,_,_⟩:Cu),_,_⟩:SO26),_⟩:SS26) results107 (hp:=by exact hx72) (hD0:=hX.2)
 refine t6 ?_
 refine cN ?_ ?_ <;> intro h12
 ·refine t6 ?_
  refine qap rfl (by ((refine qaw call137 (ql4 cu _ _ _ ?_) ⟨qar,⟨qar,⟨qar,⟨qar,trivial⟩⟩⟩⟩);all_goals (first|omega|(simp;done)|(simp;omega)|(refine Nat.le_trans (qai _ _) ?_;omega)|(refine Nat.le_trans (qai _ _) (Nat.le_trans (Nat.add_le_add_right (qai _ _) _) ?_);omega)))) ?_
  (refine qa5 79 rfl ?_;intro x79 hx79)
  refine t6 ?_
  exact rXF (⟨_,_,(⟨_,(⟨_,_,_⟩:Cu),_,_⟩:SO26),_⟩:SS26) results107 (hp:=by exact hx79) (hD0:=hX.2)
 refine t6 ?_
 refine cN ?_ ?_ <;> intro h14
 ·refine t8 ?_
  refine cN ?_ ?_ <;> intro h15
  ·refine t2 ?_
   refine kRF call134 (qbk c.w.heap.size _) ?_
   refine t7 ?_
   exact rXF (⟨_,_,(⟨_,(⟨_,_,_⟩:Cu),_,_⟩:SO26),_⟩:SS26) results107 (hp:=by exact wl0) (hD0:=hX.2)
  refine t8 ?_
  refine qap rfl (by ((refine qaw call138 (qns cu _ _ _ ?_) ⟨qar,⟨qar,⟨qar,⟨qar,trivial⟩⟩⟩⟩);all_goals (first|omega|(simp;done)|(simp;omega)|(refine Nat.le_trans (qai _ _) ?_;omega)|(refine Nat.le_trans (qai _ _) (Nat.le_trans (Nat.add_le_add_right (qai _ _) _) ?_);omega)))) ?_
  (refine qa5 90 rfl ?_;intro x90 hx90)
  refine t6 ?_
  exact rXF (⟨_,_,(⟨_,(⟨_,_,_⟩:Cu),_,_⟩:SO26),_⟩:SS26) results107 (hp:=by exact hx90) (hD0:=hX.2)
 refine t6 ?_
 refine cN ?_ ?_ <;> intro h18
 ·refine t5 ?_
  refine qap rfl (by ((refine qaw call108 (qfh (⟨_,_,_,_,_,_⟩:Ep26) _ ?_ ?_) ⟨qbb,⟨qbb,trivial⟩⟩);all_goals (first|omega|(simp;done)|(simp;omega)|(refine Nat.le_trans (qai _ _) ?_;omega)|(refine Nat.le_trans (qai _ _) (Nat.le_trans (Nat.add_le_add_right (qai _ _) _) ?_);omega)))) ?_
  (refine qa5 96 rfl ?_;intro x96 hx96)
  refine s1 ?_
  intro i9
  refine t5 ?_
  obtain ⟨⟨he1,he2,he3⟩,he4⟩:=hx96
  have he1l:=he1.1
  refine t6 ?_
  refine cN ?_ ?_ <;> intro h20
  ·refine t12 ?_
   exact rXF (⟨_,_,(⟨_,(⟨_,_,_⟩:Cu),_,_⟩:SO26),_⟩:SS26) results107 (hp:=by exact wl0) (hD0:=hX.2)
  refine t22 ?_
  refine cN ?_ ?_ <;> intro h22
  ·refine t3 ?_
   refine kXF call139 (qgg c.w.heap.size (⟨_,_,_⟩:Cu)) ?_
   refine t7 ?_
   exact rXF (⟨_,_,(⟨_,(⟨_,_,_⟩:Cu),_,_⟩:SO26),_⟩:SS26) results107 (hp:=by exact wl0) (hD0:=hX.2)
  refine t11 ?_
  refine cN ?_ ?_ <;> intro h24
  ·refine t5 ?_
   refine kRF call134 (qbk c.w.heap.size _) ?_
   refine t7 ?_
   exact rXF (⟨_,_,(⟨_,(⟨_,_,_⟩:Cu),_,_⟩:SO26),_⟩:SS26) results107 (hp:=by exact wl0) (hD0:=hX.2)
  refine t10 ?_
  refine qap rfl (by ((refine qac call140 (qlo c.w.heap.size _ _ (⟨_,_,_⟩:Cu) ?_ ?_) ⟨qbb,⟨qbb,⟨qbb,trivial⟩⟩⟩);all_goals (first|first|omega|(simp;done)|(simp;omega)|first|omega|(simp;done)|(simp;omega)|(refine Nat.le_trans (qai _ _) ?_;omega)|(refine Nat.le_trans (qai _ _) (Nat.le_trans (Nat.add_le_add_right (qai _ _) _) ?_);omega)))) ?_
  (refine qa5 134 rfl ?_;intro x134 hx134)
  refine t6 ?_
  exact rXF (⟨_,_,(⟨_,(⟨_,_,_⟩:Cu),_,_⟩:SO26),_⟩:SS26) results107 (hp:=by exact qie hx134 (he1.mono (by decide))) (hD0:=hX.2)
 refine t6 ?_
 refine kXF call139 (qgg c.w.heap.size (⟨_,_,_⟩:Cu)) ?_
 refine t4 ?_
 exact rXF (⟨_,_,(⟨_,(⟨_,_,_⟩:Cu),_,_⟩:SO26),_⟩:SS26) results107 (hp:=by exact wl0) (hD0:=hX.2)
def FnX (P:Program) (f:FuncId) (As:List VP) (its:List Item) {ι:Type} (p:ι→Prop) (R:ι→VP) (its':ι→List Item):Prop:=Fn P f As its (fun i:{i:ι // p i}=>R i.1) (fun i=>its' i.1)
def OpSX (P:Program) (c:Ctx) (o:Oper) (A:Nat→Option VP) (L:List Item) {ι:Type} (p:ι→Prop) (F:ι→VP) (L':ι→List Item):Prop:=OpS P c o A L (fun i:{i:ι // p i}=>F i.1) (fun i=>L' i.1)
section
variable {P:Program} {c:Ctx} {A:Nat→Option VP} {L:List Item} {d:Option Tmp} {ty:TypeId} {pos:String} {af:Array Edge} {g:Option (Nat×Bool)}
theorem qch {f:FuncId} {xs:List Operand} {ts:Array TypeId} {As:List VP} {it:Item} {L1:List Item} {ι:Type} {p:ι→Prop} {R:ι→VP} {it':ι→Item} (hd:Drop1 L it L1) (hc:∀ (args:Array Value) (w:World),(callFunc f args).run P w = .ok (.enter f args) w)
  (hF:FnX P f As [it] p R (fun i=>[it' i])) (ha:ArgsE A L xs As):OpSX P c ⟨d,.call { callee:=.value (.func f),args:=xs.toArray,argTypes:=ts },ty,pos,af,g⟩ A L p R (fun i=>it' i :: L1):=qdy hd hc hF ha
theorem qds {f:FuncId} {xs:List Operand} {ts:Array TypeId} {As:List VP} {it it2:Item} {L1 L2:List Item} {ι:Type} {p:ι→Prop} {R:ι→VP} {it' it2':ι→Item} (hd:Drop1 L it L1) (hd2:Drop1 L1 it2 L2) (hc:∀ (args:Array Value) (w:World),(callFunc f args).run P w = .ok (.enter f args) w)
  (hF:FnX P f As [it,it2] p R (fun i=>[it' i,it2' i])) (ha:ArgsE A L xs As):OpSX P c ⟨d,.call { callee:=.value (.func f),args:=xs.toArray,argTypes:=ts },ty,pos,af,g⟩ A L p R (fun i=>it' i :: it2' i :: L2):=qhx hd hd2 hc hF ha
theorem qym {f:FuncId} {xs:List Operand} {ts:Array TypeId} {As:List VP} {ι:Type} {p:ι→Prop} {R:ι→VP} {it' it2':ι→Item} (hc:∀ (args:Array Value) (w:World),(callFunc f args).run P w = .ok (.enter f args) w)
  (hF:FnX P f As [] p R (fun i=>[it' i,it2' i])) (ha:ArgsE A L xs As):OpSX P c ⟨d,.call { callee:=.value (.func f),args:=xs.toArray,argTypes:=ts },ty,pos,af,g⟩ A L p R (fun i=>it' i :: it2' i :: L):=qq3 hc hF ha
end
section
variable {P:Program} {ops:Array Oper} {rest:List Oper} {c:Ctx} {N:Nat} {E:Env} {L:List Item} {Q:Exit→Act→World→Prop} {t:Tmp} {op:Op} {ty:TypeId} {pos:String} {af:Array Edge} {nd:List Nat} {k:Nat} {ι:Type} {p:ι→Prop} {F:ι→VP} {L':ι→List Item}
theorem qe3 (hd:Nat.blt t N=true) (hs:OpSX P c ⟨some t,op,ty,pos,af,none⟩ (look E) L p F L') (h:∀ i,p i→JL P ops Q c N rest ((t,F i) :: E) (L' i)):JL P ops Q c N (⟨some t,op,ty,pos,af,none⟩ :: rest) E L:=qe6 hd hs fun i=>h i.1 i.2
end
section
variable {P:Program} {c:Ctx} {N:Nat} {E:Env} {L:List Item}
theorem qax {fn:Func} {ι:Type} {p:ι→Prop} {R0:{i:ι // p i}→VP} {L0:{i:ι // p i}→List Item} {rs:List ResultVar} {Bs:List VP} (i:ι) (hp:p i) (hB:qu3 Bs=R0 ⟨i,hp⟩) (hr:fn.results=rs.toArray) (hE:qqe P E L rs Bs) (hL:SubP (L0 ⟨i,hp⟩) L) (hD0:c.ds=[]:=by first|assumption|exact And.right (by assumption)) :
  JQ c N E L (bodyPost P fn (qus c R0 L0)) .ret:=qed hr hE ⟨i,hp⟩ (by rw [hB];exact SubL.rfl') hL hD0
end
theorem qfl {A:VP}:Sub A Top:=fun _ _ _=>trivial
theorem qj2 {ι:Type} {p:ι→Prop} {R:Nat→ι→VP} (h:∀ i,qjn fun B=>R B i):qjn fun B=>qek p (R B):=fun B B' φ φ' v hB hl ⟨i,hi,k⟩=>⟨i,hi,h i B B' φ φ' v hB hl k⟩
structure Hs where
 pages:List Pg
 seq:Int
 table:List Rw
 cur:Cu
def LnI (H:List Pg):Prop:=∀ (i:Nat) p,H[i]?=some p→p.l=96+(i:Int)
theorem lat_ix {H:List Pg} (h:LnI H) {i:Nat} {p:Pg} (hi:H[i]?=some p):qb6 H (96+(i:Int))=p:=by
 have hp:=h i p hi
 unfold qb6 qgh
 cases hq:(H.filter fun p=>decide (p.l=96+(i:Int))).getLast? with
 | none =>
  have h1:=List.getLast?_eq_none_iff.1 hq
  have h2:p∈H.filter fun p=>decide (p.l=96+(i:Int)):=List.mem_filter.2 ⟨List.mem_of_getElem? hi,decide_eq_true hp⟩
  rw [h1] at h2
  exact absurd h2 List.not_mem_nil
 | some q =>
  have h1:=List.mem_filter.1 (List.mem_of_getLast? hq)
  obtain ⟨j,hj⟩:=List.mem_iff_getElem?.1 h1.1
  have h2:=h j q hj
  have h3:=of_decide_eq_true h1.2
  have:j=i:=by omega
  subst this
  rw [hj] at hi
  cases hi
  rfl
theorem comP_ix {H:List Pg} {w:Pg} {i:Nat} {p:Pg} (h:(qnk H w)[i]?=some p):H[i]?=some p∨((i:Int)=w.l-96∧∃ x,p={ w with h:=x }):=by
 unfold qnk at h
 split at h
 ·rename_i hr
  rw [List.getElem?_set] at h
  split at h
  ·rename_i he
   split at h
   ·injection h with h
    exact .inr ⟨by omega,_,h.symm⟩
   ·cases h
  ·exact .inl h
 ·exact .inl h
theorem comP_ln {H:List Pg} {w:Pg} (h:LnI H):LnI (qnk H w):=fun i p hp=>by
 rcases comP_ix hp with hp|⟨h1,x,rfl⟩
 ·exact h i p hp
 ·show w.l=_;omega
theorem qoh:∀ (ws:List Pg) {H:List Pg},LnI H→LnI (ws.foldl qnk H)
 | [],_,h=>h
 | w :: ws,_,h=>qoh ws (comP_ln h)
theorem qt3:∀ (ws:List Pg) {H:List Pg} {i:Nat},(∀ v,v∈ws→v.l≠96+(i:Int))→(ws.foldl qnk H)[i]?=H[i]?
 | [],H,i,_=>rfl
 | w :: ws,H,i,h=>by
  rw [List.foldl_cons,qt3 ws fun v hv=>h v (List.mem_cons_of_mem _ hv)]
  have hw:=h w (List.mem_cons_self ..)
  unfold qnk
  split
  ·rw [List.getElem?_set,if_neg (by omega)]
  ·rfl
theorem com_at:∀ (ws:List Pg) {H:List Pg} {w:Pg} {i:Nat},Asc ws→w∈ws→w.l=96+(i:Int)→i<H.length→∃ x,(ws.foldl qnk H)[i]?=some { w with h:=x }
 | v :: ws,H,w,i,ha,hm,hl,hi=>by
  obtain ⟨h1,h2⟩:=List.pairwise_cons.1 ha
  rw [List.foldl_cons]
  rcases List.mem_cons.1 hm with rfl|hm
  ·rw [qt3 ws fun u hu=>by have:=h1 u hu;omega]
   refine ⟨qyn (H.getD (w.l-96).toNat Pg.nil).h,?_⟩
   unfold qnk
   rw [if_pos (by omega),List.getElem?_set,if_pos (by omega),if_pos (by omega)]
  ·exact com_at ws h2 hm hl (by rw [qxs];exact hi)
theorem qy1 {H ws:List Pg} {f:Int} {m:Nd} (h:LnI H) (hf:0≤f∧f<6) (hn:8≤H.length) (h0:(qcu (qb6 H (98+f))).2=0) (hm:Nld (qcu (qb6 H (98+f))).1 m) (hlt:qo9 m<qo9 (qcu (qb6 H (98+f))).1) (ha:Asc ws) (hw:(qdk (qb6 H (98+f)) m).1∈ws) :
  qo9 (qcu (qb6 (ws.foldl qnk H) (98+f))).1<qo9 (qcu (qb6 H (98+f))).1:=by
 obtain ⟨j,hj⟩:∃ j:Nat,f=(j:Int):=⟨f.toNat,by omega⟩
 subst hj
 have e1:(98:Int)+(j:Int)=96+((2+j:Nat):Int):=by omega
 obtain ⟨p,hp⟩:∃ p,H[2+j]?=some p:=⟨_,List.getElem?_eq_getElem (by omega)⟩
 have e2:=lat_ix h hp
 rw [← e1] at e2
 rw [e2] at h0 hm hlt hw ⊢
 have hpl:=h _ _ hp
 obtain ⟨b1,b2,b3⟩:=zcq (za9 h0 hm)
 obtain ⟨x,hx⟩:=com_at ws (H:=H) (i:=2+j) ha hw (by rw [b2];exact hpl) (by omega)
 have e3:=lat_ix (qoh ws h) hx
 rw [← e1] at e3
 rw [e3]
 have e4:∀ (q:Pg) (y:BitVec 64),qcu { q with h:=y }=qcu q:=fun q y=>rfl
 rw [e4,b1]
 exact hlt
theorem qh9 (b n:Nat) (s:Option Addr×Nat) (C1 C2 C3 C4 C5 C6:VP) (H ws:List Pg) (hH:H.length=n) (hn:n≤200) (hlo:∀ w,w∈ws→Ln w) :
  Fn Tryz.prog 23 [Is (.pointer (some ⟨b,0,none⟩)),qal tPg ws] [blk b 62 [Is (slV n s),C1,C2,C3,C4,C5,C6],buf (slV n s) 53 tPg H] (fun _:Unit=>qbv []) (fun _=>[blk b 62 [Is (slV n s),C1,C2,C3,C4,C5,C6],buf (slV n s) 53 tPg (ws.foldl qnk H)]):=by
 refine Fn.enterN func23 ntmps23 rfl rfl ?_
 intro c hX
 refine qgn (t:=1) rfl (fun hlen=>?_)
 refine t6 ?_
 refine qbr (fun k:Nat=>k≤ws.length) (fun k=>[(0,Is (.pointer (some ⟨b,0,none⟩))),(1,qal tPg ws),(4,Is (.int .i64 (k:Nat)))]) (fun k=>[blk b 62 [Is (slV n s),C1,C2,C3,C4,C5,C6],buf (slV n s) 53 tPg ((ws.take k).foldl qnk H)]) (fun k=>ws.length-k) 0 (Nat.zero_le _) qde qab ?_
 rintro k hk
 refine t9 ?_
 refine cN ?_ ?_ <;> intro h1
 ·have hlt:k<ws.length:=by have:=of_decide_eq_true h1;omega
  clear h1
  obtain ⟨w,hz⟩:∃ z,ws[k]?=some z:=⟨ws[k],List.getElem?_eq_getElem hlt⟩
  have hct:=com_take (H:=H) hz
  have hwl0:=hlo w (List.mem_of_getElem? hz)
  have hwl:-1≤w.l∧w.l≤255:=hwl0
  obtain ⟨G,hG⟩:∃ G,(ws.take k).foldl qnk H=G:=⟨_,rfl⟩
  have hGl:G.length=n:=by rw [← hG,qks,hH]
  rw [hG] at hct
  rw [hG]
  refine t9 ?_
  refine qap rfl (by exact qa1 (k:=0) (er rfl) rfl rfl rfl rfl qbo) ?_
  refine qap rfl (by exact qbw (er rfl) rfl rfl rfl) ?_
  refine t11 ?_
  (refine qcq rfl rfl rfl (fun hg=>(by have hg0:=hg;(try simp at hg);exact qg4 evG)) ?_)
  (refine qcq rfl rfl rfl (fun hg=>(by have hg0:=hg;(try simp at hg);exact qbf (k:=0) evG rfl rfl rfl rfl)) ?_)
  (refine qcq rfl rfl rfl (fun hg=>(by have hg0:=hg;(try simp at hg);exact qd9 evG qbp rf rf rf)) ?_)
  refine t5 ?_
  refine cN ?_ ?_ <;> intro h4
  ·have g:96≤w.l∧w.l<96+(n:Int):=by simp at h4;omega
   obtain ⟨j,hj⟩:∃ j:Nat,w.l-96=(j:Int):=⟨(w.l-96).toNat,by omega⟩
   have hjn:j<G.length:=by omega
   obtain ⟨q,hq⟩:∃ q,G[j]?=some q:=⟨G[j],List.getElem?_eq_getElem hjn⟩
   have hcv:qnk G w=G.set j { w with h:=qyn q.h }:=by
    unfold qnk
    rw [if_pos (by omega),hj,Int.toNat_natCast,List.getD_eq_getElem?_getD,hq]
    rfl
   rw [hcv] at hct
   clear h4
   rw [hj]
   refine t7 ?_
   intro i6
   refine t6 ?_
   refine qap rfl (by exact qg4 (er rfl)) ?_
   refine qap rfl (by exact qbf (k:=0) (er rfl) rfl rfl rfl rfl) ?_
   refine qap rfl (by exact qd9 (er rfl) qbp rf rf rf) ?_
   refine s1 ?_
   refine qap rfl (by exact qao (k:=j) (er rfl) qbp (er rfl) rfl rfl qca qbt) ?_
   refine qap rfl (by exact qbg (k:=1) (er rfl) qbp qbt rfl rfl rfl rfl) ?_
   refine qap rfl (by exact qer (er rfl) qbp hq rfl rfl rf) ?_
   refine t3 ?_
   refine qap rfl (by exact qbf (k:=1) (er rfl) rfl rfl rfl rfl) ?_
   refine qge 44 (Is (.int .u64 (UV (qyn q.h)))) rfl (SubL.eq (congrArg Is (congrArg (Value.int .u64) (nextH_eq q.h)))) ?_
   refine t3 ?_
   refine qa0 rfl (by kernel_rfl) ?_
   refine qct [0,1,1,1,0,1,1,2] (by kernel_rfl) (by kernel_rfl) ?_
   refine qb7 (qay rfl) ?_
   refine qc4 (by exact qg4 (er rfl)) ?_
   refine qc4 (by exact qbf (k:=0) (er rfl) rfl rfl rfl rfl) ?_
   refine qc4 (by exact qd9 (er rfl) qbp rf rf rf) ?_
   refine qb7 (qay rfl) ?_
   refine qc4 (by exact qbs (n:=9) (er rfl) qbp rf rf rf rf qbo) ?_
   refine qc4 (by exact qao (k:=j) (er rfl) qbp (er rfl) rfl rfl qca qbt) ?_
   refine qiy (by exact qc8 (z':={ w with h:=qyn q.h }) (er rfl) (er rfl) qaf qae hq rfl rf rf) ?_
   refine qeu ?_
   refine qat ?_
   refine t7 ?_
   (rw [← hct];exact qaa (k+1) (by omega) (by omega) qde qab)
  have hcv:qnk G w=G:=by
   unfold qnk
   rw [if_neg]
   simp at h4
   omega
  rw [hcv] at hct
  rw [← hct]
  clear h4
  refine t8 ?_
  exact qaa (k+1) (by omega) (by omega) qde qab
 have hke:k=ws.length:=by have:=of_decide_eq_false h1;omega
 subst hke
 clear h1
 rw [List.take_length]
 refine t5 ?_
 exact qed (Bs:=[]) results23 trivial () SubL.rfl' qab
@[reducible] def zdh (B:Nat) (r:ES26):VP:=IsAgg [Top,qbe B (qal tPg r.writes),Is (.int .i64 r.out.code),Top,Top,Top,Top,Is (.bool r.over),Top]
@[reducible] def zdd (B:Nat) (r:SS26):VP:=IsAgg [Top,qbe B (qal tPg r.writes),Is (.int .i64 r.out.code),Is (.int .i64 r.out.next.phase),Is (.int .i64 r.out.next.level),Is (.int .u32 (UV r.out.next.key)),Top,Top,Top]
theorem zdj (op:Ep26) (ks:List Pg) (hks:ks.length≤10000) (hol:op.list.length≤1000):FnF Tryz.prog 108 [qqi op,qal tPg ks] (fun B=>qek (PEN op ks) fun r=>zdh B r):=
 (qfh op ks hks hol).sub fun B φ v ⟨r,hp,vs,e,k,o⟩=>⟨r,hp,vs,e,Subs.alls (show Subs ((qz2 B).cells r) [Top,qbe B (qal tPg r.writes),Is (.int .i64 r.out.code),Top,Top,Top,Top,Is (.bool r.over),Top] from ⟨qfl,Sub.rfl',Sub.rfl',qfl,qfl,qfl,qfl,Sub.rfl',qfl,trivial⟩) k,o⟩
theorem zc3 (cu:Cu) (cl lines:Int) (ks:List Pg) (hks:ks.length≤5000):FnF Tryz.prog 107 [IsCu cu,Is (.int .i64 cl),Is (.int .i64 lines),qal tPg ks] (fun B=>qek PSS fun r=>zdd B r):=
 (Sweep_ok cu cl lines ks hks).sub fun B φ v ⟨r,hp,vs,e,k,o⟩=>⟨r,hp,vs,e,Subs.alls (show Subs ((qz1 B).cells r) [Top,qbe B (qal tPg r.writes),Is (.int .i64 r.out.code),Is (.int .i64 r.out.next.phase),Is (.int .i64 r.out.next.level),Is (.int .u32 (UV r.out.next.key)),Top,Top,Top] from ⟨qfl,Sub.rfl',Sub.rfl',Sub.rfl',Sub.rfl',Sub.rfl',qfl,qfl,qfl,trivial⟩) k,o⟩
theorem zb3 {p:ES26→Prop}:qjn fun B=>qek p (fun r=>zdh B r):=qj2 fun r =>
 qj3 [fun _=>Top,fun B=>qbe B (qal tPg r.writes),fun _=>Is (.int .i64 r.out.code),fun _=>Top,fun _=>Top,fun _=>Top,fun _=>Top,fun _=>Is (.bool r.over),fun _=>Top] ⟨qa6 qco,qet,qa6 qc3,qa6 qco,qa6 qco,qa6 qco,qa6 qco,qa6 qc3,qa6 qco,trivial⟩
theorem zb2 {p:SS26→Prop}:qjn fun B=>qek p (fun r=>zdd B r):=qj2 fun r =>
 qj3 [fun _=>Top,fun B=>qbe B (qal tPg r.writes),fun _=>Is (.int .i64 r.out.code),fun _=>Is (.int .i64 r.out.next.phase),fun _=>Is (.int .i64 r.out.next.level),fun _=>Is (.int .u32 (UV r.out.next.key)),fun _=>Top,fun _=>Top,fun _=>Top] ⟨qa6 qco,qet,qa6 qc3,qa6 qc3,qa6 qc3,qa6 qc3,qa6 qco,qa6 qco,qa6 qco,trivial⟩
theorem qjo (b n:Nat) (s:Option Addr×Nat) (lines:Int) (x:Hs) (op:Ep26) (hop:op.list=[]) (hfor:op.kind=5→0≤op.for_∧op.for_<6) (hn:8≤n∧n≤200) (hH:x.pages.length=n) (hln:LnI x.pages):FnX Tryz.prog 87 [Is (.pointer (some ⟨b,0,none⟩)),qqi op] [blk b 62 [Is (slV n s),Is (.int .i64 lines),Is (.int .i64 x.seq),qal tRw x.table,Is (.int .i64 x.cur.phase),Is (.int .i64 x.cur.level),Is (.int .u32 (UV x.cur.key))],buf (slV n s) 53 tPg x.pages]
  (fun i:List Pg×Bool=>i.1.length=n∧LnI i.1∧(i.2=true→op.kind=5→qo9 (qcu (qb6 i.1 (98+op.for_))).1<qo9 (qcu (qb6 x.pages (98+op.for_))).1)) (fun i=>Is (.bool i.2)) (fun i=>[blk b 62 [Is (slV n s),Is (.int .i64 lines),Is (.int .i64 x.seq),qal tRw x.table,Is (.int .i64 x.cur.phase),Is (.int .i64 x.cur.level),Is (.int .u32 (UV x.cur.key))],buf (slV n s) 53 tPg (i.1)]):=by
 refine Fn.enterB func87 ntmps87 rfl rfl ?_
 intro c hX hbelow
 refine t3 ?_
 intro i3
 refine t4 ?_
 refine qa0 rfl (by kernel_rfl) ?_
 refine qgl (its:=[]) ?_
 refine f1 0 ?_
 refine f1 1 ?_
 refine f1 2 ?_
 refine f1 3 ?_
 refine f1 4 ?_
 refine qm4 6 rfl (by kernel_rfl) (fun _=>(qbi rfl qbo rfl)) ?_
 (refine qy9 5 [0,1,2,3,4,5] rfl (by kernel_rfl) (by ((refine qc9 qga call108 (zdj op x.pages ?_ ?_) ⟨qar,⟨qar,trivial⟩⟩ (zb3));all_goals (first|omega|rw [hop];decide))) ?_;intro x11 hx11)
 (refine qgk 5 6 (by kernel_rfl) rfl rfl ?_;intro i5)
 refine qfi 7 [0,1,2,3,4,5,6,7] rfl (by kernel_rfl) (fun c'=>by exact qa9 (er rfl) (er rfl) qaf qae rf rf rf) ?_
 refine qeq (by kernel_rfl) rfl ?_
 show JQ _ _ _ _ _ _
 refine t3 ?_
 obtain ⟨⟨hw,hnd,hck⟩,h5⟩:=hx11
 refine t12 ?_
 refine cN ?_ ?_ <;> intro h2
 ·refine t7 ?_
  refine qax (Bs:=[_]) (_,_) ?_ rfl results87 eXF qab (hD0:=hX.2)
  exact ⟨hH,hln,fun h=>Bool.noConfusion h⟩
 rw [Bool.or_eq_false_iff] at h2
 have hov:x11.over=true:=by simpa using h2.1
 have hcd:x11.out.code=0:=by simpa using h2.2
 refine t7 ?_
 (refine qe6 rfl (qhx qbh qbh call23 (qh9 b n s _ _ _ _ _ _ x.pages x11.writes hH hn.2 hw.2) ⟨qar,⟨qar,trivial⟩⟩) ?_;intro i24)
 refine t8 ?_
 refine qax (Bs:=[_]) (_,_) ?_ rfl results87 eXF qab (hD0:=hX.2)
 exact ⟨by rw [qks];exact hH,qoh _ hln,fun _ hk=>by
 obtain ⟨h0,m,hm,hlt,ha,hmem⟩:=h5 hk hov hcd
 exact qy1 hln (hfor hk) (by omega) h0 hm hlt ha hmem⟩
theorem qoy (b n:Nat) (s:Option Addr×Nat) (lines:Int) (x:Hs) (cl:Int) (hcl:0≤cl∧cl<6) (hn:8≤n∧n≤200) (hH:x.pages.length=n) (hln:LnI x.pages):FnX Tryz.prog 88 [Is (.pointer (some ⟨b,0,none⟩)),Is (.int .i64 cl)] [blk b 62 [Is (slV n s),Is (.int .i64 lines),Is (.int .i64 x.seq),qal tRw x.table,Is (.int .i64 x.cur.phase),Is (.int .i64 x.cur.level),Is (.int .u32 (UV x.cur.key))],buf (slV n s) 53 tPg x.pages]
  (fun i:List Pg=>i.length=n∧LnI i) (fun i=>qbv []) (fun i=>[blk b 62 [Is (slV n s),Is (.int .i64 lines),Is (.int .i64 x.seq),qal tRw x.table,Is (.int .i64 x.cur.phase),Is (.int .i64 x.cur.level),Is (.int .u32 (UV x.cur.key))],buf (slV n s) 53 tPg (i)]):=by
 refine Fn.enterB func88 ntmps88 rfl rfl ?_
 intro c hX hbelow
 refine t4 ?_
 (refine qe3 rfl (by ((refine qds qbh qbh call87 (qjo b n s lines x (⟨3,_,_,_,_,[]⟩:Ep26) rfl (fun h=>absurd (show (3:Int)=5 from h) ?_) hn hH hln) ⟨qar,⟨qar,trivial⟩⟩);all_goals (decide))) ?_;intro x6 hx6)
 refine t3 ?_
 obtain ⟨he1,he2,_⟩:=hx6
 refine t3 ?_
 (refine qe3 rfl (by ((refine qds qbh qbh call87 (qjo b n s lines ⟨x6.1,x.seq,x.table,x.cur⟩ (⟨3,_,_,_,_,[]⟩:Ep26) rfl (fun h=>absurd (show (3:Int)=5 from h) ?_) hn he1 he2) ⟨qar,⟨qar,trivial⟩⟩);all_goals (decide))) ?_;intro x9 hx9)
 refine t3 ?_
 obtain ⟨he3,he4,_⟩:=hx9
 refine qaz [(0,_),(1,_)] [] (fun y:(List Pg)=>y.length=n∧LnI y) (fun y=>[]) (fun y=>[blk b 62 [Is (slV n s),Is (.int .i64 lines),Is (.int .i64 x.seq),qal tRw x.table,Is (.int .i64 x.cur.phase),Is (.int .i64 x.cur.level),Is (.int .u32 (UV x.cur.key))],buf (slV n s) 53 tPg (y)]) (fun y=>qo9 (qcu (qb6 y (98+cl))).1) _ ?_ qah qab ?_
 ·exact (⟨he3,he4⟩)
 rintro H hI
 refine t10 ?_
 (refine qe3 rfl (qds qbh qbh call87 (qjo b n s lines ⟨H,x.seq,x.table,x.cur⟩ (⟨5,_,_,_,cl,[]⟩:Ep26) rfl (fun _=>hcl) hn hI.1 hI.2) ⟨qar,⟨qar,trivial⟩⟩) ?_;intro x17 hx17)
 refine t2 ?_
 refine cN ?_ ?_ <;> intro h2
 ·refine t5 ?_
  refine qaa _ ?_ ?_ qah qab
  ·exact ⟨hx17.1,hx17.2.1⟩
  ·exact hx17.2.2 h2 rfl
 refine t5 ?_
 refine qax (Bs:=[]) _ ?_ rfl results88 trivial qab (hD0:=hX.2)
 exact ⟨hx17.1,hx17.2.1⟩
theorem mem_latB {ks:List Pg} {x:Int}:qe5 ks x=true↔∃ p,p∈ks∧p.l=x:=by
 unfold qe5 qgh
 constructor
 ·intro h
  obtain ⟨p,hp⟩:=Option.isSome_iff_exists.1 h
  have h1:=List.mem_filter.1 (List.mem_of_getLast? hp)
  exact ⟨p,h1.1,of_decide_eq_true h1.2⟩
 ·rintro ⟨p,h1,h2⟩
  have h3:p∈ks.filter fun p=>decide (p.l=x):=List.mem_filter.2 ⟨h1,decide_eq_true h2⟩
  cases h4:(ks.filter fun p=>decide (p.l=x)).getLast? with
  | none=>rw [List.getLast?_eq_none_iff.1 h4] at h3;cases h3
  | some q=>rfl
theorem qxr {p q:Nat→Bool} (h:∀ i,p i=true→q i=true):∀ {l:List Nat},(∃ i,i∈l∧q i=true∧p i=false)→(l.filter p).length<(l.filter q).length
 | [],he=>by obtain ⟨i,hi,_⟩:=he;cases hi
 | a :: l,he=>by
  have hle:∀ l:List Nat,(l.filter p).length≤(l.filter q).length:=fun l=>by
   induction l with
   | nil=>exact Nat.le_refl _
   | cons b l ih =>
    rw [List.filter_cons,List.filter_cons]
    cases hp:p b with
    | true=>rw [if_pos rfl,if_pos (h b hp)];simp only [List.length_cons];omega
    | false =>
     rw [if_neg (by simp)]
     split
     ·simp only [List.length_cons];omega
     ·exact ih
  obtain ⟨i,hi,hq,hp⟩:=he
  rw [List.filter_cons,List.filter_cons]
  rcases List.mem_cons.1 hi with rfl|hi
  ·rw [hp,hq,if_neg (by simp),if_pos rfl]
   have:=hle l
   simp only [List.length_cons];omega
  ·have ih:=qxr h ⟨i,hi,hq,hp⟩
   cases hpa:p a with
   | true=>rw [if_pos rfl,if_pos (h a hpa)];simp only [List.length_cons];omega
   | false =>
    rw [if_neg (by simp)]
    split
    ·simp only [List.length_cons];omega
    ·exact ih
def cntK (ks:List Pg):Nat:=((List.range 160).filter fun i:Nat=>qe5 ks (96+(i:Int))).length
theorem cntK_le (ks:List Pg):cntK ks≤160:=by
 unfold cntK
 exact Nat.le_trans (List.length_filter_le _ _) (by rw [List.length_range];exact Nat.le_refl _)
theorem pgF_l {H:List Pg} (hH:LnI H) {x:Int} (hx:96≤x):(pgF H x).l=x:=by
 by_cases h:x-96<(H.length:Int)
 ·obtain ⟨p,hp⟩:∃ q,H[(x-96).toNat]?=some q:=⟨_,List.getElem?_eq_getElem (by omega)⟩
  rw [pgF_in h hp,hH _ _ hp]
  omega
 ·rw [zas h]
def ndOk (ks:List Pg) (nd:List Int):Prop:=0<nd.length∧nd.length≤30∧nd.Pairwise (· < ·)∧∀ x,x∈nd→qe5 ks x=false∧96≤x∧x≤255
theorem fetch_grow {ks H:List Pg} {nd:List Int} (hH:LnI H) (hn:ndOk ks nd):cntK ks<cntK (ks++nd.map (pgF H)):=by
 obtain ⟨h1,_,_,h2⟩:=hn
 unfold cntK
 refine qxr (fun i hi=>?_) ?_
 ·obtain ⟨p,h3,h4⟩:=mem_latB.1 hi
  exact mem_latB.2 ⟨p,List.mem_append_left _ h3,h4⟩
 ·cases nd with
  | nil=>exact absurd h1 (by simp)
  | cons x r =>
   obtain ⟨h3,h4,h5⟩:=h2 x (List.mem_cons_self ..)
   refine ⟨(x-96).toNat,List.mem_range.2 (by omega),?_,?_⟩
   ·rw [show 96+(((x-96).toNat:Nat):Int)=x by omega]
    exact mem_latB.2 ⟨pgF H x,List.mem_append_right _ (List.mem_map_of_mem (List.mem_cons_self ..)),pgF_l hH h4⟩
   ·rw [show 96+(((x-96).toNat:Nat):Int)=x by omega]
    exact h3
theorem qn4 {ks:List Pg} {ls:List Int} (hl:ls.length≤30) (hr:∀ x,x∈ls→96≤x∧x≤255) (h:decide (((qdu ks ls).length:Int)>0)=true):ndOk ks (qdu ks ls):=by
 have h0:=of_decide_eq_true h
 have h1:=qi7 ks ls
 exact ⟨by omega,by omega,qti ks ls,fun x hx=>⟨(mem_missR.1 hx).2,hr x (mem_missR.1 hx).1⟩⟩
theorem zbo {s:Int} (h:0≤s∧s≤8):96≤qas s∧qas s≤255:=by
 unfold qas
 rw [if_pos h]
 omega
theorem zby:∀ {n:Nat} {x:Int},n≤9→x∈qo2 n→96≤x∧x≤255
 | 0,x,_,h=>by simp [qo2] at h
 | n+1,x,hn,h=>by
  unfold qo2 at h
  rcases List.mem_append.1 h with h|h
  ·exact zby (by omega) h
  ·rw [List.mem_singleton.1 h]
   exact zbo ⟨by omega,by omega⟩
theorem acT_need {ks:List Pg} {o inc fr:Int} {nd ot:Pg×Nd×Int} {s:Int} (hs:s≤8) (h:(acT ks o inc fr nd ot s).over=false):ndOk ks (acT ks o inc fr nd ot s).need:=by
 unfold acT at h ⊢
 by_cases h1:decide (s<0)=true
 ·rw [if_pos h1] at h;cases h
 rw [if_neg h1] at h ⊢
 have h1':¬ s<0:=fun e=>h1 (decide_eq_true e)
 by_cases h2:decide (((qdu ks [qas s]).length:Int)>0)=true
 ·rw [if_pos h2]
  exact qn4 (by simp) (fun x hx=>by rw [List.mem_singleton.1 hx];exact zbo ⟨by omega,hs⟩) h2
 rw [if_neg h2] at h
 split at h
 ·cases h
 split at h
 ·cases h
 split at h
 ·cases h
 ·cases h
theorem acU_need {ks:List Pg} {o inc:Int} {nd:Pg×Nd×Int} {s:Int} (h:(acU ks o inc nd s).over=false):False:=by
 unfold acU at h
 split at h
 ·cases h
 ·cases h
theorem acR_need {ks:List Pg} {o inc lines fr:Int} (h:(acR ks o inc lines fr).over=false):ndOk ks (acR ks o inc lines fr).need:=by
 have hcn:=qe9 lines
 unfold acR at h ⊢
 by_cases h1:(((((!clB o lines||decide (inc<1))||decide (inc>59))||decide (fr < -1))||decide (fr≥6))||fr==o)=true
 ·rw [if_pos h1] at h;cases h
 rw [if_neg h1] at h ⊢
 have hcl:(0≤o∧o<6) ∧ -1≤fr∧fr<6:=by unfold clB at h1;simp at h1;omega
 by_cases h2:decide (((qdu ks (ask2 o fr)).length:Int)>0)=true
 ·rw [if_pos h2]
  refine qn4 (by unfold ask2;split <;> simp) (fun x hx=>?_) h2
  unfold ask2 at hx
  split at hx
  ·rename_i hf
   have:=of_decide_eq_true hf
   rcases List.mem_cons.1 hx with rfl|hx
   ·omega
   ·rw [List.mem_singleton.1 hx];omega
  ·rw [List.mem_singleton.1 hx];omega
 rw [if_neg h2] at h ⊢
 by_cases h3:((qfs ks o).2.2 != 0)=true
 ·rw [if_pos h3] at h;cases h
 rw [if_neg h3] at h ⊢
 by_cases h4:decide (fr≥0)=true
 ·rw [if_pos h4] at h ⊢
  by_cases h5:((qfs ks fr).2.2 != 0)=true
  ·rw [if_pos h5] at h;cases h
  rw [if_neg h5] at h ⊢
  refine acT_need ?_ h
  rw [qng]
  cases e:qf8 (qfs ks fr).2.1.sg (qa7 lines) with
  | nil=>exact (by decide:(-1:Int)≤8)
  | cons x r =>
   have:=qwr e
   show x≤8
   omega
 ·rw [if_neg h4] at h ⊢
  by_cases h5:decide (((qdu ks (qo2 (qa7 lines))).length:Int)>0)=true
  ·rw [if_pos h5]
   exact qn4 (by rw [qnh];omega) (fun x hx=>zby hcn hx) h5
  ·rw [if_neg h5] at h
   exact absurd (acU_need h) id
section
variable {P:Program} {c:Ctx} {A:Nat→Option VP} {L:List Item} {d:Option Tmp} {ty:TypeId} {pos:String} {af:Array Edge} {g:Option (Nat×Bool)}
theorem qc5 {α:Type} {T:Ty α} {xs:List α} {i:Option Addr×Nat} {n:Nat} {e e0:TypeId} {x y:Operand} {t:TypeId} {o len sz k:Nat} {j:Int} {q:IntKind} (hx:Ev A L x (Is (bpt i o))) (hL:buf (slV n i) e0 T xs∈L) (h0:0<xs.length) (hy:Ev A L y (Is (.int q j))) (hu:P.underlying t=some (.array len e)) (hs:(P.info? e).map (·.size)=some sz) (hj:j=k) (hk:k<len) :
  OpP P c ⟨d,.indexAddr t x y,ty,pos,af,g⟩ A L (Is (bpt i (o+k*sz))):=
 opp fun φ a w hm he=>by
  have h1:a.eval x=bpt i o:=he x (by simp [Op.operands]) _ hx
  have h6:a.eval y = .int q j:=he y (by simp [Op.operands]) _ hy
  obtain ⟨gg,cap,cur,rfl,_⟩:=qkj hm hL h0
  refine ⟨_,?_,rfl⟩
  have h7:(0:Int)≤j∧j<(len:Int):=by omega
  have h8:j.toNat=k:=by omega
  simp only [execOp,h1,h6,bpt]
  refine qcg ?_
  simp only [Instr.indexAt,asIntOf,Sem.run_bind,Sem.run_pure,Result.andThen_ok,run_underlying hu,Instr.sureAddr,h7,and_self,if_true,qby hs,h8,qdm]
end
end Go.Proofs.YtmgoplaamlignaaGreat
