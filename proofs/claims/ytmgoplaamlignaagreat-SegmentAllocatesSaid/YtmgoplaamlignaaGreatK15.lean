/- Texts laid together: walks of functions, what they compute, and plain laws of it. Own work. -/
import Derived.Maps.RangeRun
import Derived.Maps.Keyed
import Derived.Test.YtmgoplaamlignaaGreatK8
import Derived.Test.YtmgoplaamlignaaGreatK14
import Derived.Test.YtmgoplaamlignaaGreatK9
import Derived.Test.YtmgoplaamlignaaGreatK1
namespace Go.Proofs.YtmgoplaamlignaaGreat
open Go.RowKit Tryz
set_option linter.unusedVariables false
set_option linter.unusedSimpArgs false
set_option maxRecDepth 100000
set_option maxHeartbeats 4000000
section
open Go.ChangeMaps (setBlock)
section
variable {α:Type}
def MapAll (φ:Fz) (V:α→VP):List (Int×α)→List MapEntry→Prop
 | [],[]=>True
 | p :: l,e :: es=>(e.key = .int .i64 p.1∧(V p.2).ok φ e.val)∧MapAll φ V l es
 | _,_=>False
theorem MapAll.mono {φ φ':Fz} (h:Fle φ φ') {V:α→VP}:∀ {l:List (Int×α)} {es:List MapEntry},MapAll φ V l es→MapAll φ' V l es
 | [],[],_=>trivial
 | p :: l,e :: es,⟨h1,h2⟩=>⟨⟨h1.1,(V p.2).mono h h1.2⟩,MapAll.mono h h2⟩
theorem MapAll.len {φ:Fz} {V:α→VP}:∀ {l:List (Int×α)} {es:List MapEntry},MapAll φ V l es→l.length=es.length
 | [],[],_=>rfl
 | p :: l,e :: es,⟨h1,h2⟩=>by simp [MapAll.len h2]
theorem MapAll.get {φ:Fz} {V:α→VP}:∀ {l:List (Int×α)} {es:List MapEntry} {j:Nat} {p:Int×α},MapAll φ V l es→l[j]?=some p→∃ e,es[j]?=some e∧e.key = .int .i64 p.1∧(V p.2).ok φ e.val
 | [],[],j,p,_,h=>by simp at h
 | q :: l,e :: es,0,p,⟨h1,_⟩,h=>by simp at h;subst h;exact ⟨e,rfl,h1⟩
 | q :: l,e :: es,j+1,p,⟨_,h2⟩,h=>by
  obtain ⟨e',h3,h4⟩:=MapAll.get h2 (by simpa using h)
  exact ⟨e',by simpa using h3,h4⟩
theorem MapAll.set {φ:Fz} {V:α→VP}:∀ {l:List (Int×α)} {es:List MapEntry} (j:Nat) {p:Int×α} {e:MapEntry},MapAll φ V l es→e.key = .int .i64 p.1→(V p.2).ok φ e.val→MapAll φ V (l.set j p) (es.set j e)
 | [],[],_,_,_,_,_,_=>trivial
 | q :: l,e :: es,0,p,f,⟨_,h2⟩,h3,h4=>⟨⟨h3,h4⟩,h2⟩
 | q :: l,e :: es,j+1,p,f,⟨h1,h2⟩,h3,h4=>⟨h1,MapAll.set j h2 h3 h4⟩
theorem MapAll.push {φ:Fz} {V:α→VP}:∀ {l:List (Int×α)} {es:List MapEntry} {p:Int×α} {e:MapEntry},MapAll φ V l es→e.key = .int .i64 p.1→(V p.2).ok φ e.val→MapAll φ V (l++[p]) (es++[e])
 | [],[],_,_,_,h3,h4=>⟨⟨h3,h4⟩,trivial⟩
 | q :: l,e :: es,p,f,⟨h1,h2⟩,h3,h4=>⟨h1,MapAll.push h2 h3 h4⟩
def qmp:List (Int×α)→Int→α→List (Int×α)
 | [],k,x=>[(k,x)]
 | (j,y) :: l,k,x=>if j=k then (k,x) :: l else (j,y) :: qmp l k x
def qo1:List (Int×α)→Int→Option α
 | [],_=>none
 | (j,y) :: l,k=>if j=k then some y else qo1 l k
theorem qrp {φ:Fz} {V:α→VP} (k:Int):∀ {l:List (Int×α)} {es:List MapEntry} (i:Nat),MapAll φ V l es →
  (qo1 l k=none∧Instr.findNow (.int .i64) (.int .i64 k) es i=some none∧(∀ x,qmp l k x=l++[(k,x)])∧∀ e,e∈es→e.key ≠ .int .i64 k) ∨
  ∃ j x e,qo1 l k=some x∧Instr.findNow (.int .i64) (.int .i64 k) es i=some (some (i+j,e.val))∧es[j]?=some e∧e.key = .int .i64 k∧(V x).ok φ e.val∧∀ y,qmp l k y=l.set j (k,y)
 | [],[],i,_=>.inl ⟨rfl,rfl,fun _=>rfl,by simp⟩
 | (m,y) :: l,e :: es,i,⟨⟨h1,h1'⟩,h2⟩=>by
  by_cases hk:m=k
  ·subst hk
   refine .inr ⟨0,y,e,by simp [qo1],?_,rfl,h1,h1',fun z=>by simp [qmp]⟩
   simp [Instr.findNow,Instr.sameNow,h1]
  ·have hs:Instr.sameNow (.int .i64) (.int .i64 k) e.key=some false:=by
    rw [h1]
    simp only [Instr.sameNow,if_true]
    rw [show (k==m)=false by simpa using fun h=>hk h.symm]
   rcases qrp k (i+1) h2 with ⟨h3,h4,h5,h6⟩|⟨j,x,e',h3,h4,h5,h6,h7,h8⟩
   ·refine .inl ⟨by simp [qo1,hk,h3],by simp [Instr.findNow,hs,h4],fun x=>by simp [qmp,hk,h5],fun f hf=>?_⟩
    rcases List.mem_cons.1 hf with rfl|hf
    ·rw [h1];intro e;injection e with _ e;exact hk e
    ·exact h6 f hf
   ·exact .inr ⟨j+1,x,e',by simp [qo1,hk,h3],by simp [Instr.findNow,hs,h4];omega,by simpa using h5,h6,h7,fun z=>by simp [qmp,hk,h8]⟩
def mp (b:Nat) (V:α→VP) (l:List (Int×α)):Item:=⟨some b,fun φ o=>∃ es clock,o=some (.map es clock)∧MapKept.Stamped es clock∧MapAll φ V l es.toList,fun h ⟨es,ck,h1,h2,h3⟩=>⟨es,ck,h1,h2,h3.mono h⟩⟩
def mpr (b:Nat) (V:α→VP) (l:List (Int×α)) (bs:List Nat) (ck:Nat):Item:=⟨some b,fun φ o=>∃ es:Array MapEntry,o=some (.map es ck)∧MapKept.Stamped es ck∧es.toList.map (·.born)=bs∧MapAll φ V l es.toList,fun h ⟨es,h1,h2,h3,h4⟩=>⟨es,h1,h2,h3,h4.mono h⟩⟩
def itr (r b:Nat) (bs:List Nat) (ck:Nat) (S:List Nat):Item:=⟨some r,fun φ o=>o=some (.mapIter (some b) ck (S.map fun j=>bs.getD j 0).toArray ck),fun _ h=>h⟩
section
variable {P:Program} {c:Ctx} {A:Nat→Option VP} {L:List Item} {d:Option Tmp} {ty:TypeId} {pos:String} {af:Array Edge} {g:Option (Nat×Bool)}
variable {V:α→VP} {l:List (Int×α)} {b:Nat} {x y z:Operand} {t kt et:TypeId}
theorem qms {φ:Fz} {w:World} {b:Nat} {it:Item} (hm:HP c φ L w) (hL:it∈L) (hat:it.at_=some b):it.ok φ w.heap[b]?∧b<w.heap.size∧∀ i,φ b i=none:=by
 obtain ⟨h1,h2⟩:=hm.mem.items _ hL
 rw [hat] at h1
 exact ⟨by simpa using h1,h2 b hat⟩
theorem qwc {w:World} {b:Nat} {o:Obj} {it:Item} (hat:it.at_=some b):Kpt (qb4 [it]) w (setBlock w b o):=by
 refine ⟨rfl,rfl,rfl,by simp [setBlock],fun k hk hn=>?_⟩
 have hne:b≠k:=fun e=>hn (mem_names.2 ⟨it,List.mem_singleton.2 rfl,by rw [hat,e]⟩)
 simp [setBlock,Array.getElem?_setIfInBounds_ne hne]
theorem qsx {φ:Fz} {w:World} {b:Nat} {o:Obj} {it:Item} (hat:it.at_=some b) (hlt:b<w.heap.size) (hno:∀ i,φ b i=none) (h:it.ok φ (some o)):it.here φ (setBlock w b o):=by
 refine ⟨?_,fun b' hb'=>?_⟩
 ·rw [hat]
  simp [setBlock,hlt,h]
 ·rw [hat] at hb';injection hb' with hb';subst hb'
  exact ⟨by simp [setBlock];exact hlt,hno⟩
theorem op_makeMap (V:α→VP):OpN P c ⟨d,.makeMap t none,ty,pos,af,g⟩ A L (fun b:Nat=>.map (some b)) (fun b=>mp b V []):=by
 intro φ a w K Q hm he hk
 have hrun:(execOp a.eval ⟨d,.makeMap t none,ty,pos,af,g⟩).run P w = .ok (.value (.map (some w.heap.size))) (w.alloc (.map #[] 0)):=by
  simp only [execOp,Option.map_none]
  refine qcg ?_
  simp [Instr.makeMap]
 unfold Oper.wp
 rw [hrun]
 exact hk w.heap.size φ _ (qp0 (b:=0) hm rfl ⟨#[],0,rfl,MapKept.stamped_empty 0,trivial⟩)
theorem op_mapPut {k:Int} {v:α} {L':List Item} (hx:Ev A L x (Is (.map (some b)))) (hy:Ev A L y (Is (.int .i64 k))) (hz:Ev A L z (V v)) (hr:Repl L (mp b V l) (mp b V (qmp l k v)) L') (hu:P.underlying t=some (.map kt et)) (hk:P.underlying kt=some (.int .i64)) :
  OpS P c ⟨d,.mapUpdate t x y z,ty,pos,af,g⟩ A L (fun _:Unit=>Is undef) (fun _=>L'):=by
 intro φ a w K Q hm he hK
 have h1:a.eval x = .map (some b):=he x (by simp [Op.operands]) _ hx
 have h2:a.eval y = .int .i64 k:=he y (by simp [Op.operands]) _ hy
 have h3:(V v).ok φ (a.eval z):=he z (by simp [Op.operands]) _ hz
 obtain ⟨⟨es,ck,e1,e2,e3⟩,hlt,hno⟩:=qms hm hr.mem rfl
 have key:∃ o:Obj,(execOp a.eval ⟨d,.mapUpdate t x y z,ty,pos,af,g⟩).run P w = .ok .skip (setBlock w b o)∧(mp b V (qmp l k v)).ok φ (some o):=by
  have hck:(Instr.checkKey false 10000 kt (.int .i64 k)).run P w = .ok () w:=MapKept.run_checkKey (k:=.int .i64 k) hk (by simp [MapKept.IsKey]) false 9999
  rcases qrp k 0 e3 with ⟨_,f2,f3,f4⟩|⟨j,u,e,_,f2,f3,f4,f5,f6⟩
  ·refine ⟨.map (es.push ⟨.int .i64 k,a.eval z,ck⟩) (ck+1),?_,_,_,rfl,MapKept.stamped_push e2 f4,?_⟩
   ·simp only [execOp,h1,h2,Instr.mapUpdate,Sem.run_bind,run_underlying hu,Result.andThen_ok,MapKept.run_getObj_map e1,hck,MapKept.run_findKey hk f2,MapKept.run_setObj_map _ e1,setBlock,Sem.run_pure]
   ·rw [f3,Array.toList_push]
    exact e3.push rfl h3
  ·have hj:es[j]?=some e:=by simpa using f3
   rw [Nat.zero_add] at f2
   refine ⟨.map (es.modify j fun e'=>{ e' with key:=.int .i64 k,val:=a.eval z }) ck,?_,_,_,rfl,MapKept.stamped_modify e2 _ _ (fun _ _=>rfl) (fun e' _ he'=>by rw [hj] at he';cases he';exact f4.symm),?_⟩
   ·have hst:(Instr.keyThatStays (.int .i64 k) (.int .i64 k)).run P w = .ok (.int .i64 k) w:=by
     simp [Instr.keyThatStays,Instr.sameBits]
    simp only [execOp,h1,h2,Instr.mapUpdate,Sem.run_bind,run_underlying hu,Result.andThen_ok,MapKept.run_getObj_map e1,hck,MapKept.run_findKey hk f2,hj,Option.map_some,Option.getD_some,f4,hst,MapKept.run_setObj_map _ e1,setBlock,Sem.run_pure]
   ·have hl:(es.modify j fun e'=>{ e' with key:=.int .i64 k,val:=a.eval z }).toList=es.toList.set j { e with key:=.int .i64 k,val:=a.eval z }:=by
     rw [Array.toList_modify,ChangeMaps.modify_eq_set _ _ _ _ f3]
    rw [f6,hl]
    exact e3.set j rfl h3
 obtain ⟨o,hrun,hok⟩:=key
 unfold Oper.wp
 rw [hrun]
 exact hK () φ undef _ Fle.rfl' rfl (hm.upd hr (qwc rfl) (qsx rfl hlt hno hok) fun b' hb'=>.inr hb')
def lookV (V:α→VP) (z:Value):Option α→VP
 | some v=>V v
 | none=>Is z
theorem qpm {φ:Fz} {w:World} {es:Array MapEntry} {ck:Nat} {k:Int} {zv:Value} (cm:Bool) (e1:w.heap[b]?=some (.map es ck)) (e3:MapAll φ V l es.toList) (hu:P.underlying t=some (.map kt et)) (hk:P.underlying kt=some (.int .i64)) (hz:(P.info? et).map (·.zero)=some (some zv)) :
  ∃ v,(Instr.lookup t (.map (some b)) (.int .i64 k) cm).run P w = .ok (if cm then .tuple #[v,.bool (qo1 l k).isSome] else v) w∧(lookV V zv (qo1 l k)).ok φ v:=by
 have hck:(Instr.checkKey es.isEmpty 10000 kt (.int .i64 k)).run P w = .ok () w:=MapKept.run_checkKey (k:=.int .i64 k) hk (by simp [MapKept.IsKey]) _ 9999
 rcases qrp k 0 e3 with ⟨f1,f2,f3,f4⟩|⟨j,u,e,f1,f2,f3,f4,f5,f6⟩
 ·refine ⟨zv,?_,by rw [f1];exact rfl⟩
  simp only [Instr.lookup,Sem.run_bind,run_underlying hu,Result.andThen_ok,MapKept.run_getObj_map e1,Sem.run_pure,hck,MapKept.run_findKey hk f2,qia hz,f1,Option.isSome]
 ·refine ⟨e.val,?_,by rw [f1];exact f5⟩
  simp only [Instr.lookup,Sem.run_bind,run_underlying hu,Result.andThen_ok,MapKept.run_getObj_map e1,Sem.run_pure,hck,MapKept.run_findKey hk f2,f1,Option.isSome]
theorem za4 {k:Int} {zv:Value} (hx:Ev A L x (Is (.map (some b)))) (hL:mp b V l∈L) (hy:Ev A L y (Is (.int .i64 k))) (hu:P.underlying t=some (.map kt et)) (hk:P.underlying kt=some (.int .i64)) (hz:(P.info? et).map (·.zero)=some (some zv)) :
  OpP P c ⟨d,.lookup t x y false,ty,pos,af,g⟩ A L (lookV V zv (qo1 l k)):=
 opp fun φ a w hm he=>by
  have h1:a.eval x = .map (some b):=he x (by simp [Op.operands]) _ hx
  have h2:a.eval y = .int .i64 k:=he y (by simp [Op.operands]) _ hy
  obtain ⟨⟨es,ck,e1,e2,e3⟩,_⟩:=qms hm hL rfl
  obtain ⟨v,f1,f2⟩:=qpm (k:=k) false e1 e3 hu hk hz
  exact ⟨v,by simp only [execOp,h1,h2];exact qcg f1,f2⟩
theorem qyk {k:Int} {zv:Value} (hx:Ev A L x (Is (.map (some b)))) (hL:mp b V l∈L) (hy:Ev A L y (Is (.int .i64 k))) (hu:P.underlying t=some (.map kt et)) (hk:P.underlying kt=some (.int .i64)) (hz:(P.info? et).map (·.zero)=some (some zv)) :
  OpP P c ⟨d,.lookup t x y true,ty,pos,af,g⟩ A L (qbv [lookV V zv (qo1 l k),Is (.bool (qo1 l k).isSome)]):=
 opp fun φ a w hm he=>by
  have h1:a.eval x = .map (some b):=he x (by simp [Op.operands]) _ hx
  have h2:a.eval y = .int .i64 k:=he y (by simp [Op.operands]) _ hy
  obtain ⟨⟨es,ck,e1,e2,e3⟩,_⟩:=qms hm hL rfl
  obtain ⟨v,f1,f2⟩:=qpm (k:=k) true e1 e3 hu hk hz
  exact ⟨_,by simp only [execOp,h1,h2];exact qcg f1,⟨[v,_],rfl,f2,rfl,trivial⟩⟩
theorem op_range {L1:List Nat→Nat→List Item} (hx:Ev A L x (Is (.map (some b)))) (hr:∀ bs ck,Repl L (mp b V l) (mpr b V l bs ck) (L1 bs ck)) (hu:P.underlying t=some (.map kt et)) :
  OpS P c ⟨d,.range t x,ty,pos,af,g⟩ A L (fun i:Nat×List Nat×Nat=>Is (.pointer (some ⟨i.1,0,none⟩))) (fun i=>itr i.1 b i.2.1 i.2.2 [] :: L1 i.2.1 i.2.2):=by
 intro φ a w K Q hm he hK
 have h1:a.eval x = .map (some b):=he x (by simp [Op.operands]) _ hx
 obtain ⟨⟨es,ck,e1,e2,e3⟩,hlt,hno⟩:=qms hm (hr [] 0).mem rfl
 have hrun:(execOp a.eval ⟨d,.range t x,ty,pos,af,g⟩).run P w = .ok (.value (.pointer (some ⟨w.heap.size,0,none⟩))) (w.alloc (.mapIter (some b) ck #[] ck)):=by
  simp only [execOp,h1]
  exact qcg (run_range_map w t kt et b es ck hu e1)
 have hm2:=hm.upd (hr (es.toList.map (·.born)) ck) (Kpt.refl _ w) ⟨by simp only [mpr,Option.bind_some];exact ⟨es,e1,e2,rfl,e3⟩,fun b' hb'=>by
  have hb2:some b=some b':=hb'
  injection hb2 with hb2;subst hb2;exact ⟨hlt,hno⟩⟩ (fun b' hb'=>.inr hb')
 have hm3:=hm2.new (qp0 (b:=0) (it:=itr w.heap.size b (es.toList.map (·.born)) ck []) (o:=.mapIter (some b) ck #[] ck) hm2 rfl rfl)
 unfold Oper.wp
 rw [hrun]
 exact hK (w.heap.size,es.toList.map (fun x:MapEntry=>x.born),ck) φ _ _ Fle.rfl' rfl hm3
def zdc (p:Bool):VP:=⟨fun _ v=>∃ vs:List Value,v = .tuple (.bool p :: vs).toArray,fun _ h=>h⟩
theorem op_extractHd {p:Bool} (hx:Ev A L x (zdc p)):OpP P c ⟨d,.extract x 0,ty,pos,af,g⟩ A L (Is (.bool p)):=
 opp fun φ a w hm he=>by
  obtain ⟨vs,h1⟩:(zdc p).ok φ (a.eval x):=he x (by simp [Op.operands]) _ hx
  refine ⟨.bool p,?_,rfl⟩
  simp only [execOp,h1,Instr.extract]
  rfl
def Stp (n:Nat) (S:List Nat) (p:Bool×List Nat):Prop:=if p.1 then ∃ j,p.2=S++[j]∧j<n∧j ∉ S else p.2=S∧∀ j,j<n→j∈S
theorem op_next {r:Nat} {bs:List Nat} {ck:Nat} {S:List Nat} {L1:List Nat→List Item} (hx:Ev A L x (Is (.pointer (some ⟨r,0,none⟩)))) (hL:mpr b V l bs ck∈L) (hr:∀ S',Repl L (itr r b bs ck S) (itr r b bs ck S') (L1 S')) (hS:∀ j,j∈S→j<l.length) :
  OpS P c ⟨d,.next x false,ty,pos,af,g⟩ A L (fun i:{p:Bool×List Nat // Stp l.length S p}=>zdc i.1.1) (fun i=>L1 i.1.2):=by
 intro φ a w K Q hm he hK
 have h1:a.eval x = .pointer (some ⟨r,0,none⟩):=he x (by simp [Op.operands]) _ hx
 obtain ⟨⟨es,e1,e2,e3,e4⟩,_⟩:=qms hm hL rfl
 obtain ⟨i1,hlt,hno⟩:=qms hm (hr []).mem rfl
 have i1':w.heap[r]?=some (.mapIter (some b) ck (S.map fun j=>bs.getD j 0).toArray ck):=i1
 have hlen:=e4.len
 have hseen:∀ j (hj:j<es.toList.length),((S.map fun j=>bs.getD j 0).toArray.contains (es.toList[j]).born=true↔j∈S):=fun j hj=>by
  rw [List.contains_toArray,List.contains_iff_mem,List.mem_map]
  have hbj:bs.getD j 0=(es.toList[j]).born:=by
   rw [← e3,List.getD_eq_getElem?_getD,List.getElem?_map,List.getElem?_eq_getElem hj];rfl
  constructor
  ·rintro ⟨i,hi,hb⟩
   have hi2:i<es.toList.length:=by rw [← hlen];exact hS i hi
   have hbi:bs.getD i 0=(es.toList[i]).born:=by
    rw [← e3,List.getD_eq_getElem?_getD,List.getElem?_map,List.getElem?_eq_getElem hi2];rfl
   have hn:=((MapKept.stamped_iff es ck).1 e2).2.1
   have hij:i=j:=by
    have h3:(es.toList.map (·.born))[i]'(by simpa using hi2)=(es.toList.map (·.born))[j]'(by simpa using hj):=by
     rw [List.getElem_map,List.getElem_map,← hbi,hb]
    exact (List.getElem_inj hn).1 h3
   exact hij ▸ hi
  ·exact fun h=>⟨j,h,hbj⟩
 rcases run_next_at (P:=P) w ty r b ck ck _ es ck i1' e1 e2.1 (Nat.le_refl _) with ⟨h0,hrun⟩|⟨e,he2,w1,hal,hrun⟩
 ·unfold Oper.wp
  simp only [execOp,h1]
  rw [qcg hrun]
  refine hK ⟨(false,S),⟨rfl,fun j hj=>?_⟩⟩ φ _ w Fle.rfl' ⟨[],rfl⟩ (by show HP c φ (L1 S) w;rw [(hr S).same rfl];exact hm)
  have hj2:j<es.toList.length:=by rw [← hlen];exact hj
  refine (hseen j hj2).1 ?_
  have hemp:leftOf es (S.map fun j=>bs.getD j 0).toArray=#[]:=Array.eq_empty_of_size_eq_zero h0
  cases hc:(S.map fun j=>bs.getD j 0).toArray.contains (es.toList[j]).born with
  | true=>rfl
  | false =>
   have hin:es.toList[j]∈leftOf es (S.map fun j=>bs.getD j 0).toArray:=Array.mem_filter.2 ⟨Array.mem_toList_iff.1 (List.getElem_mem hj2),by rw [hc];rfl⟩
   rw [hemp] at hin
   simp at hin
 ·obtain ⟨m1,m2⟩:=mem_left he2
  obtain ⟨j,hj,hje⟩:=List.getElem_of_mem m1
  have hnot:j ∉ S:=fun h=>by
   have:=(hseen j hj).2 h
   rw [hje,m2] at this;cases this
  have hbj:bs.getD j 0=e.born:=by
   rw [← e3,List.getD_eq_getElem?_getD,List.getElem?_map,List.getElem?_eq_getElem hj]
   simp [hje]
  have hmw:HP c φ L w1:=by
   rcases hal with rfl|rfl
   ·exact hm
   ·exact hm.drew
  have hlt1:r<w1.heap.size:=by rcases hal with rfl|rfl <;> exact hlt
  have hup:=hmw.upd (hr (S++[j])) (qwc (b:=r) rfl) (qsx (b:=r) (o:=.mapIter (some b) ck ((S.map fun j=>bs.getD j 0).toArray.push e.born) ck) rfl hlt1 hno (by simp [itr,hbj,List.getD_eq_getElem?_getD] at hbj ⊢;exact hbj.symm)) (fun b' hb'=>.inr hb')
  unfold Oper.wp
  simp only [execOp,h1]
  rw [qcg hrun]
  refine hK ⟨(true,S++[j]),⟨j,rfl,by rw [hlen];exact hj,hnot⟩⟩ φ _ _ Fle.rfl' ⟨_,rfl⟩ hup
theorem op_entry {r j:Nat} {bs:List Nat} {ck:Nat} {S:List Nat} {p:Int×α} (hx:Ev A L x (Is (.pointer (some ⟨r,0,none⟩)))) (hL:mpr b V l bs ck∈L) (hr:itr r b bs ck (S++[j])∈L) (hj:l[j]?=some p) :
  OpP P c ⟨d,.entry x,ty,pos,af,g⟩ A L (qbv [Is (.int .i64 p.1),V p.2]):=
 opp fun φ a w hm he=>by
  have h1:a.eval x = .pointer (some ⟨r,0,none⟩):=he x (by simp [Op.operands]) _ hx
  obtain ⟨⟨es,e1,e2,e3,e4⟩,_⟩:=qms hm hL rfl
  obtain ⟨i1,_⟩:=qms hm hr rfl
  obtain ⟨e,f1,f2,f3⟩:=e4.get hj
  have hbj:bs.getD j 0=e.born:=by
   rw [← e3,List.getD_eq_getElem?_getD,List.getElem?_map,f1];rfl
  have i1':w.heap[r]?=some (.mapIter (some b) ck ((S.map fun j=>bs.getD j 0).toArray.push e.born) ck):=by
   have:w.heap[r]?=some (.mapIter (some b) ck ((S++[j]).map fun j=>bs.getD j 0).toArray ck):=i1
   rw [this,← hbj];simp
  have hrun:=run_entry_at (P:=P) w r b ck _ es ck e i1' e1 (List.mem_of_getElem? f1) ((MapKept.stamped_iff es ck).1 e2).2.1
  refine ⟨_,by simp only [execOp,h1];exact qcg hrun,⟨[e.key,e.val],rfl,?_,f3,trivial⟩⟩
  rw [f2];exact rfl
end
end
end
def qfj:List Pg→Pg→List Pg
 | [],p=>[p]
 | q :: l,p=>if q.l<p.l then q :: qfj l p else if q.l=p.l then p :: l else p :: q :: l
def qcx (a b:List Pg):List Pg:=(a++b).foldl qfj []
@[reducible] def Asc (l:List Pg):Prop:=l.Pairwise fun x y=>x.l<y.l
theorem qw5 {p:Pg}:∀ {l:List Pg},Asc l→∀ {x:Pg},x∈qfj l p↔x=p∨(x∈l∧x.l≠p.l)
 | [],_,x=>by simp [qfj]
 | q :: l,h,x=>by
  obtain ⟨h1,h2⟩:=List.pairwise_cons.1 h
  unfold qfj
  split
  ·rename_i hq
   rw [List.mem_cons,qw5 h2,List.mem_cons]
   constructor
   ·rintro (rfl|rfl|⟨h3,h4⟩)
    ·exact .inr ⟨.inl rfl,by omega⟩
    ·exact .inl rfl
    ·exact .inr ⟨.inr h3,h4⟩
   ·rintro (rfl|⟨rfl|h3,h4⟩)
    ·exact .inr (.inl rfl)
    ·exact .inl rfl
    ·exact .inr (.inr ⟨h3,h4⟩)
  ·rename_i hq
   split
   ·rename_i he
    rw [List.mem_cons,List.mem_cons]
    constructor
    ·rintro (rfl|h3)
     ·exact .inl rfl
     ·have:=h1 x h3
      exact .inr ⟨.inr h3,by omega⟩
    ·rintro (rfl|⟨rfl|h3,h4⟩)
     ·exact .inl rfl
     ·exact absurd he h4
     ·exact .inr h3
   ·rename_i he
    rw [List.mem_cons,List.mem_cons]
    constructor
    ·rintro (rfl|rfl|h3)
     ·exact .inl rfl
     ·exact .inr ⟨.inl rfl,he⟩
     ·have:=h1 x h3
      exact .inr ⟨.inr h3,by omega⟩
    ·rintro (rfl|⟨h3,h4⟩)
     ·exact .inl rfl
     ·exact .inr h3
theorem qr1 {p:Pg}:∀ {l:List Pg},Asc l→Asc (qfj l p)
 | [],_=>List.pairwise_singleton _ _
 | q :: l,h=>by
  obtain ⟨h1,h2⟩:=List.pairwise_cons.1 h
  unfold qfj
  split
  ·rename_i hq
   refine List.pairwise_cons.2 ⟨fun x hx=>?_,qr1 h2⟩
   rcases (qw5 h2).1 hx with rfl|⟨h3,_⟩
   ·exact hq
   ·exact h1 x h3
  ·rename_i hq
   split
   ·rename_i he
    exact List.pairwise_cons.2 ⟨fun x hx=>by have:=h1 x hx;omega,h2⟩
   ·rename_i he
    refine List.pairwise_cons.2 ⟨fun x hx=>?_,h⟩
    rcases List.mem_cons.1 hx with rfl|hx
    ·omega
    ·have:=h1 x hx;omega
theorem qxw:∀ (l:List Pg) {w:List Pg},Asc w→Asc (l.foldl qfj w)
 | [],_,h=>h
 | p :: l,_,h=>qxw l (qr1 h)
theorem zcs (a b:List Pg):Asc (qcx a b):=qxw _ List.Pairwise.nil
theorem qxf (p:Pg):∀ l:List Pg,(qfj l p).length≤l.length+1
 | []=>by simp [qfj]
 | q :: l=>by
  unfold qfj
  have:=qxf p l
  split
  ·simp only [List.length_cons];omega
  ·split <;> simp
theorem qro:∀ (l w:List Pg),(l.foldl qfj w).length≤w.length+l.length
 | [],w=>by simp
 | p :: l,w=>by
  have h1:=qxf p w
  have h2:=qro l (qfj w p)
  simp only [List.foldl_cons,List.length_cons];omega
theorem qai (a b:List Pg):(qcx a b).length≤a.length+b.length:=by
 have:=qro (a++b) []
 rw [List.length_append] at this
 unfold qcx
 simpa using this
theorem asc_ext:∀ {xs ys:List Pg},Asc xs→Asc ys→(∀ x,x∈xs↔x∈ys)→xs=ys
 | [],[],_,_,_=>rfl
 | [],y :: ys,_,_,h=>by have:=(h y).2 (List.mem_cons_self ..);simp at this
 | x :: xs,[],_,_,h=>by have:=(h x).1 (List.mem_cons_self ..);simp at this
 | x :: xs,y :: ys,h1,h2,h=>by
  obtain ⟨a1,a2⟩:=List.pairwise_cons.1 h1
  obtain ⟨b1,b2⟩:=List.pairwise_cons.1 h2
  have hxy:x=y:=by
   rcases List.mem_cons.1 ((h x).1 (List.mem_cons_self ..)) with e|hx
   ·exact e
   ·rcases List.mem_cons.1 ((h y).2 (List.mem_cons_self ..)) with e|hy
    ·exact e.symm
    ·have:=b1 x hx;have:=a1 y hy;omega
  subst hxy
  refine congrArg _ (asc_ext a2 b2 fun z=>⟨fun hz=>?_,fun hz=>?_⟩)
  ·rcases List.mem_cons.1 ((h z).1 (List.mem_cons_of_mem _ hz)) with e|hz'
   ·subst e;have:=a1 z hz;omega
   ·exact hz'
  ·rcases List.mem_cons.1 ((h z).2 (List.mem_cons_of_mem _ hz)) with e|hz'
   ·subst e;have:=b1 z hz;omega
   ·exact hz'
structure Keyd (m:List (Int×Pg)):Prop where
 own:∀ e,e∈m→e.2.l=e.1
 nod:(m.map Prod.fst).Nodup
theorem qjy {α:Type} {k:Int} {v:α}:∀ {m:List (Int×α)},(m.map Prod.fst).Nodup→∀ {e:Int×α},e∈qmp m k v↔e=(k,v)∨(e∈m∧e.1≠k)
 | [],_,e=>by simp [qmp]
 | (j,y) :: m,h,e=>by
  have h':j ∉ m.map Prod.fst∧(m.map Prod.fst).Nodup:=List.nodup_cons.1 h
  unfold qmp
  split
  ·rename_i hj
   subst hj
   rw [List.mem_cons,List.mem_cons]
   constructor
   ·rintro (rfl|h3)
    ·exact .inl rfl
    ·exact .inr ⟨.inr h3,fun e1=>h'.1 (e1 ▸ List.mem_map.2 ⟨e,h3,rfl⟩)⟩
   ·rintro (rfl|⟨rfl|h3,h4⟩)
    ·exact .inl rfl
    ·exact absurd rfl h4
    ·exact .inr h3
  ·rename_i hj
   rw [List.mem_cons,qjy h'.2,List.mem_cons]
   constructor
   ·rintro (rfl|rfl|⟨h3,h4⟩)
    ·exact .inr ⟨.inl rfl,hj⟩
    ·exact .inl rfl
    ·exact .inr ⟨.inr h3,h4⟩
   ·rintro (rfl|⟨rfl|h3,h4⟩)
    ·exact .inr (.inl rfl)
    ·exact .inl rfl
    ·exact .inr (.inr ⟨h3,h4⟩)
theorem qw4 {α:Type} {k:Int} {v:α}:∀ {m:List (Int×α)},(m.map Prod.fst).Nodup→((qmp m k v).map Prod.fst).Nodup
 | [],_=>by simp [qmp]
 | (j,y) :: m,h=>by
  have h':j ∉ m.map Prod.fst∧(m.map Prod.fst).Nodup:=List.nodup_cons.1 h
  unfold qmp
  split
  ·rename_i hj
   subst hj
   exact h
  ·rename_i hj
   refine List.nodup_cons.2 ⟨fun hm=>?_,qw4 h'.2⟩
   obtain ⟨e,he,hje⟩:=List.mem_map.1 hm
   rcases (qjy h'.2).1 he with rfl|⟨h3,_⟩
   ·exact hj hje.symm
   ·exact h'.1 (List.mem_map.2 ⟨e,h3,hje⟩)
theorem Keyd.put {m:List (Int×Pg)} (h:Keyd m) (p:Pg):Keyd (qmp m p.l p):=
 ⟨fun e he=>by
  rcases (qjy h.nod).1 he with rfl|⟨h3,_⟩
  ·rfl
  ·exact h.own e h3,qw4 h.nod⟩
theorem Keyd.mem {m:List (Int×Pg)} (h:Keyd m) {p x:Pg}:x∈(qmp m p.l p).map Prod.snd↔x=p∨(x∈m.map Prod.snd∧x.l≠p.l):=by
 constructor
 ·intro hx
  obtain ⟨e,he,rfl⟩:=List.mem_map.1 hx
  rcases (qjy h.nod).1 he with rfl|⟨h3,h4⟩
  ·exact .inl rfl
  ·exact .inr ⟨List.mem_map.2 ⟨e,h3,rfl⟩,by rw [h.own e h3];exact h4⟩
 ·rintro (rfl|⟨hx,hne⟩)
  ·exact List.mem_map.2 ⟨(x.l,x),(qjy h.nod).2 (.inl rfl),rfl⟩
  ·obtain ⟨e,he,rfl⟩:=List.mem_map.1 hx
   exact List.mem_map.2 ⟨e,(qjy h.nod).2 (.inr ⟨he,by rw [← h.own e he];exact hne⟩),rfl⟩
theorem mput_len {α:Type} (k:Int) (v:α):∀ m:List (Int×α),(qmp m k v).length≤m.length+1
 | []=>by simp [qmp]
 | (j,y) :: m=>by
  unfold qmp
  have:=mput_len k v m
  split
  ·simp
  ·simp only [List.length_cons];omega
theorem qte:∀ (n:Nat) {S:List Nat},S.Nodup→(∀ j,j∈S→j<n)→S.length≤n
 | 0,S,_,h=>by
  match S with
  | []=>simp
  | j :: S=>have:=h j (List.mem_cons_self ..);omega
 | n+1,S,hn,h=>by
  by_cases hm:n∈S
  ·have h1:=List.length_erase_of_mem hm
   have h2:=qte n (hn.erase n) fun j hj=>by
    have h3:=h j (List.mem_of_mem_erase hj)
    have h4:j≠n:=fun e=>by subst e;exact (List.Nodup.mem_erase_iff hn).1 hj |>.1 rfl
    omega
   omega
  ·have:=qte n hn fun j hj=>by
    have h3:=h j hj
    have h4:j≠n:=fun e=>by subst e;exact hm hj
    omega
   omega
theorem qvi:∀ (n:Nat) {S:List Nat},S.Nodup→(∀ j,j∈S↔j<n)→S.Perm (List.range n)
 | 0,S,_,h=>by
  match S with
  | []=>exact List.Perm.refl _
  | j :: S=>have:=(h j).1 (List.mem_cons_self ..);omega
 | n+1,S,hn,h=>by
  have hm:n∈S:=(h n).2 (by omega)
  have h1:(S.erase n).Perm (List.range n):=qvi n (hn.erase n) fun j=>by
   rw [List.Nodup.mem_erase_iff hn,h]
   omega
  rw [List.range_succ]
  exact (List.perm_cons_erase hm).trans ((h1.cons n).trans (List.perm_append_singleton _ _).symm)
def qu7 (m:List (Int×Pg)) (S:List Nat):List Pg:=S.filterMap fun j=>(m[j]?).map Prod.snd
theorem pickM_add {m:List (Int×Pg)} {S:List Nat} {j:Nat} {e:Int×Pg} (h:m[j]?=some e):qu7 m (S++[j])=qu7 m S++[e.2]:=by
 unfold qu7
 rw [List.filterMap_append]
 simp [h]
theorem pickM_len {m:List (Int×Pg)} {S:List Nat} (h:∀ j,j∈S→j<m.length):(qu7 m S).length=S.length:=by
 unfold qu7
 induction S with
 | nil=>rfl
 | cons j S ih =>
  have hj:=h j (List.mem_cons_self ..)
  rw [List.filterMap_cons]
  simp only [List.getElem?_eq_getElem hj,Option.map_some,List.length_cons]
  rw [ih fun i hi=>h i (List.mem_cons_of_mem _ hi)]
theorem pickM_all (m:List (Int×Pg)):qu7 m (List.range m.length)=m.map Prod.snd:=by
 unfold qu7
 apply List.ext_getElem?
 intro i
 have key:∀ (m:List (Int×Pg)),(List.range m.length).filterMap (fun j=>(m[j]?).map Prod.snd)=m.map Prod.snd:=fun m=>by
  induction m with
  | nil=>rfl
  | cons e m ih =>
   rw [List.length_cons,List.range_succ_eq_map,List.filterMap_cons]
   simp only [List.getElem?_cons_zero,Option.map_some,List.map_cons]
   rw [List.filterMap_map]
   have:((fun j=>((e :: m)[j]?).map Prod.snd) ∘ Nat.succ)=fun j=>(m[j]?).map Prod.snd:=by
    funext j;simp
   rw [this,ih]
 rw [key]
theorem qxd:∀ {W:List Pg} {p:Pg} (k:Nat),(∀ j q,j<k→W[j]?=some q→q.l<p.l)→∀ {q:Pg},W[k]?=some q→q.l=p.l→qfj W p=W.set k p
 | [],p,k,_,q,hq,_=>by simp at hq
 | x :: W,p,0,_,q,hq,he=>by
  simp at hq;subst hq
  unfold qfj
  rw [if_neg (by omega),if_pos he];rfl
 | x :: W,p,k+1,h,q,hq,he=>by
  have h0:=h 0 x (by omega) rfl
  unfold qfj
  rw [if_pos h0,qxd k (fun j q hj hq=>h (j+1) q (by omega) (by simpa using hq)) (by simpa using hq) he];rfl
theorem qxe:∀ {W:List Pg} {p:Pg} (k:Nat),k≤W.length→(∀ j q,j<k→W[j]?=some q→q.l<p.l)→(∀ q,W[k]?=some q→p.l<q.l)→qfj W p=W.take k++([p]++W.drop k)
 | [],p,k,hk,_,_=>by
  have:k=0:=by simpa using hk
  subst this;rfl
 | x :: W,p,0,_,_,h2=>by
  have:=h2 x rfl
  unfold qfj
  rw [if_neg (by omega),if_neg (by omega)];rfl
 | x :: W,p,k+1,hk,h,h2=>by
  have h0:=h 0 x (by omega) rfl
  unfold qfj
  rw [if_pos h0,qxe k (by simpa using hk) (fun j q hj hq=>h (j+1) q (by omega) (by simpa using hq)) (fun q hq=>h2 q (by simpa using hq))];rfl
theorem zb7 {l:List Pg} {k:Nat} {p:Pg} (h:l[k]?=some p):(l.take (k+1)).foldl qfj []=qfj ((l.take k).foldl qfj []) p:=by
 rw [List.take_add_one,h,List.foldl_append];rfl
def Pg.nil:Pg:=⟨0,0#64,0#64,0#64,0#64,0#64,0#64,0#64,0#64⟩
theorem zb6 (l:List Pg) (k:Nat):((l.take k).foldl qfj []).length≤k:=by
 have h1:=qro (l.take k) []
 rw [List.length_take] at h1
 simp at h1
 omega
theorem getDq {W:List Pg} {k:Nat} (h:k<W.length):W[k]?=some (W.getD k Pg.nil):=by
 rw [List.getElem?_eq_getElem h,List.getD_eq_getElem?_getD,List.getElem?_eq_getElem h];rfl
set_option maxHeartbeats 2000000 in
theorem qqg (a b:List Pg) (hn:a.length+b.length≤400000):Fn Tryz.prog 52 [qal tPg a,qal tPg b] [] (fun i:Option Addr×Nat=>Is (slV (qcx a b).length i)) (fun i=>[buf (slV (qcx a b).length i) 53 tPg (qcx a b)]):=by
 have hal:(a++b).length≤400000:=by rw [List.length_append];exact hn
 refine Fn.enterN func52 ntmps52 rfl rfl ?_
 intro c hX
 refine t12 ?_
 (refine qzh rfl (qkc tPg rfl rfl) ?_;intro i9)
 refine s1 ?_
 (refine qe6 rfl (qb9 (er rfl) (fun _=>qae) evS (by exact qep rfl rfl rfl) qbt) ?_;intro i11)
 refine s1 ?_
 (refine qe6 rfl (qb9 (er rfl) (fun _=>qae) evS (by exact qep rfl rfl rfl) qbt) ?_;intro i13)
 refine t5 ?_
 rw [List.nil_append]
 refine qa8 hX (v:=slV (a++b).length i13) qae ?_
 refine qb0 6 (qal tPg (a++b)) rfl (SubL.fact qbp) ?_
 refine qcn 53 tPg ?_
 refine t5 ?_
 refine qbr (fun z:Nat×(Option Addr×Nat)=>z.1≤(a++b).length) (fun z=>[(5,Is (slV (((a++b).take z.1).foldl qfj []).length z.2)),(6,qal tPg (a++b)),(7,Is (.int .i64 (z.1:Nat)))]) (fun z=>[buf (slV (((a++b).take z.1).foldl qfj []).length z.2) 53 tPg (((a++b).take z.1).foldl qfj [])]) (fun z=>(a++b).length-z.1) (0,(none,0)) (Nat.zero_le _) qbl qab ?_
 rintro ⟨k,s⟩ hk
 dsimp only at hk ⊢
 refine t9 ?_
 refine cN ?_ ?_ <;> intro h4
 ·have hlt:k<(a++b).length:=by have:=of_decide_eq_true h4;omega
  clear h4
  obtain ⟨p,hp⟩:∃ z,(a++b)[k]?=some z:=⟨(a++b)[k],List.getElem?_eq_getElem hlt⟩
  have hft:=zb7 hp
  have hwl:=zb6 (a++b) k
  obtain ⟨W,hW⟩:∃ W,((a++b).take k).foldl qfj []=W:=⟨_,rfl⟩
  rw [hW] at hft hwl
  rw [hW]
  refine t11 ?_
  refine qbr (fun j:Nat=>j≤W.length∧∀ i q,i<j→W[i]?=some q→q.l<p.l) (fun j=>[(5,Is (slV W.length s)),(6,qal tPg (a++b)),(7,Is (.int .i64 (k:Nat))),(8,Is (.int .i64 (j:Nat)))]) (fun _=>[buf (slV W.length s) 53 tPg W]) (fun j=>W.length-j) 0 ⟨Nat.zero_le _,fun i q hi=>by omega⟩ qbl qab ?_
  rintro j ⟨hj,hlo⟩
  obtain ⟨q,hq0⟩:∃ q,W.getD j Pg.nil=q:=⟨_,rfl⟩
  have hq:j<W.length→W[j]?=some q:=fun h=>by rw [← hq0];exact getDq h
  refine t2 ?_
  refine qa0 rfl (by kernel_rfl) ?_
  refine qag 17 (by kernel_rfl) ?_
  refine t7 ?_
  (refine qem rfl rfl (fun hg=>(by have hg0:=hg;(try simp at hg);exact qao (k:=j) evG qbp evG rfl rfl qca qbt)) ?_)
  (refine qem rfl rfl (fun hg=>(by have hg0:=hg;(try simp at hg);exact qbg (k:=0) evG qbp qbt rfl rfl rfl rfl)) ?_)
  (refine qem rfl rfl (fun hg=>(by have hg0:=hg;(try simp at hg);exact qer evG qbp (hq (by omega)) rfl rfl rf)) ?_)
  refine t2 ?_
  (refine qem rfl rfl (fun hg=>(by have hg0:=hg;(try simp at hg);exact qau (j:=_) evG evG rfl rfl rf hp)) ?_)
  refine t4 ?_
  refine ⟨rfl,?_⟩
  refine qat ?_
  refine s1 ?_
  refine cN ?_ ?_ <;> intro h7
  ·have h':j<W.length∧q.l<p.l:=by
    rw [Bool.and_eq_true] at h7
    have h8:=of_decide_eq_true h7.1
    exact ⟨by omega,of_decide_eq_true h7.2⟩
   clear h7
   refine t9 ?_
   exact qaa (j+1) ⟨by omega,fun i q' hi hq'=>by
    by_cases hij:i=j
    ·subst hij;rw [hq h'.1] at hq';cases hq';exact h'.2
    ·exact hlo i q' (by omega) hq'⟩ (by omega) qbl qab
  have h':j=W.length∨¬ q.l<p.l:=by
   by_cases hjl:j=W.length
   ·exact .inl hjl
   ·refine .inr fun hh=>?_
    have e1:decide ((j:Int)<(W.length:Int))=true:=decide_eq_true (by omega)
    rw [e1,Bool.true_and,decide_eq_true hh] at h7
    cases h7
  clear h7
  refine t7 ?_
  refine qa0 rfl (by kernel_rfl) ?_
  refine qag 17 (by kernel_rfl) ?_
  refine t7 ?_
  (refine qem rfl rfl (fun hg=>(by have hg0:=hg;(try simp at hg);exact qao (k:=j) evG qbp evG rfl rfl qca qbt)) ?_)
  (refine qem rfl rfl (fun hg=>(by have hg0:=hg;(try simp at hg);exact qbg (k:=0) evG qbp qbt rfl rfl rfl rfl)) ?_)
  (refine qem rfl rfl (fun hg=>(by have hg0:=hg;(try simp at hg);exact qer evG qbp (hq (by omega)) rfl rfl rf)) ?_)
  refine t2 ?_
  (refine qem rfl rfl (fun hg=>(by have hg0:=hg;(try simp at hg);exact qau (j:=_) evG evG rfl rfl rf hp)) ?_)
  refine t4 ?_
  refine ⟨rfl,?_⟩
  refine qat ?_
  refine s1 ?_
  refine cN ?_ ?_ <;> intro h9
  ·have h2:j<W.length∧q.l=p.l:=by
    rw [Bool.and_eq_true] at h9
    have h8:=of_decide_eq_true h9.1
    exact ⟨by omega,by simpa using h9.2⟩
   clear h9
   have hs:=qxd j hlo (hq h2.1) h2.2
   refine t6 ?_
   refine qap rfl (by exact qau (j:=_) (er rfl) (er rfl) rfl rfl rf hp) ?_
   refine s1 ?_
   refine qap rfl (by exact qao (k:=j) (er rfl) qbp (er rfl) rfl rfl qca qbt) ?_
   refine qk0 (by exact qc8 (z':=p) (er rfl) (er rfl) qbn qae (hq h2.1) rfl rf rf) ?_
   refine t11 ?_
   (rw [← hs,← hft];refine qaa (k+1,s) (by dsimp only;omega) (by dsimp only;omega) ⟨⟨_,rfl,SubL.eq (by rw [hft,hs,List.length_set])⟩,⟨_,rfl,SubL.rfl'⟩,⟨_,rfl,SubL.eq (ieq (by dsimp only;omega))⟩,trivial⟩ ?_;rw [show (slV W.length s)=slV (((a++b).take (k+1)).foldl qfj []).length s by rw [hft,hs,List.length_set]];exact qab)
  have h2:∀ q',W[j]?=some q'→p.l<q'.l:=fun q' hq'=>by
   have hjl:=(List.getElem?_eq_some_iff.1 hq').1
   rw [hq hjl] at hq';cases hq'
   have e1:decide ((j:Int)<(W.length:Int))=true:=decide_eq_true (by omega)
   rw [e1,Bool.true_and] at h9
   have h10:¬ q.l=p.l:=by simpa using h9
   rcases h' with h' | h'
   ·omega
   ·omega
  clear h9
  have hs2:=qxe j hj hlo h2
  refine t2 ?_
  refine qa0 rfl (by kernel_rfl) ?_
  refine qag 12 (by kernel_rfl) ?_
  refine t2 ?_
  refine qbc (qyi (h:=j) (er rfl) qbp rfl rfl rfl ⟨_,_,(er rfl),(show _=((j:Nat):Int) by rfl)⟩ qbt) ?_
  refine t2 ?_
  refine qbc (by exact qau (j:=_) (er rfl) (er rfl) rfl rfl rf hp) ?_
  refine s1 ?_
  refine qbc (qcb (size:=9) (qs:=[(0,_)]) rfl rfl rfl ⟨⟨rfl,_,(er rfl),qbn⟩,trivial⟩ rf rf) ?_
  refine t2 ?_
  refine qbc (qyj (l:=j) (er rfl) qbp rfl rfl ⟨_,_,(er rfl),(show _=((j:Nat):Int) by rfl)⟩ rfl qbt) ?_
  refine qbc (qq4 (T:=tPg) ([p]) (er rfl) qz3 rfl rfl (er rfl) qbp qbt (by exact qep rfl rfl rfl) qbt) ?_
  refine ⟨rfl,?_⟩
  (refine JD_s (by kernel_rfl) rfl rfl (za7 (h:=j) (er rfl) qae qbt (fun _=>qae) evS (by exact qep rfl rfl rfl) qbt) ?_;intro i75)
  refine JD_1 (by kernel_rfl) rfl rfl (qeb rfl) ?_
  refine qat ?_
  refine t7 ?_
  (rw [← hs2,← hft];exact qaa (k+1,i75) (by dsimp only;omega) (by dsimp only;omega) qbl qab)
 have hke:k=(a++b).length:=by have:=of_decide_eq_false h4;omega
 subst hke
 rw [List.take_length]
 refine t12 ?_
 exact qed (Bs:=[Is (slV (qcx a b).length s)]) results52 eT s SubL.rfl' qab
theorem qmm {α:Type} {xs ys:List α} {k:Nat} {x y:α} (hx:xs[k]?=some x) (hy:ys[k]?=some y) (h:xs.take k=ys.take k):(xs.take (k+1)=ys.take (k+1))↔x=y:=by
 rw [List.take_add_one,List.take_add_one,hx,hy,h]
 simp
def qt1 (p:Pg):List Value:=[.int .u64 (UV p.d0),.int .u64 (UV p.d1),.int .u64 (UV p.d2),.int .u64 (UV p.d3),.int .u64 (UV p.d4),.int .u64 (UV p.d5),.int .u64 (UV p.d6)]
def qvu (p q:Pg):Bool:=p.d0==q.d0&&(p.d1==q.d1&&(p.d2==q.d2&&(p.d3==q.d3&&(p.d4==q.d4&&(p.d5==q.d5&&p.d6==q.d6)))))
theorem data_iff {p q:Pg}:qvu p q=true↔p.d0=q.d0∧p.d1=q.d1∧p.d2=q.d2∧p.d3=q.d3∧p.d4=q.d4∧p.d5=q.d5∧p.d6=q.d6:=by
 unfold qvu
 simp only [Bool.and_eq_true,beq_iff_eq]
theorem eqD_run (p q:Pg) (w:World):(Op.equal 51 (.agg (qt1 p).toArray) (.agg (qt1 q).toArray)).run Tryz.prog w = .ok (qvu p q) w:=
 eq7 9998 w p.d0 p.d1 p.d2 p.d3 p.d4 p.d5 p.d6 q.d0 q.d1 q.d2 q.d3 q.d4 q.d5 q.d6
theorem zch (o:BinOp) (x y:Operand) (p q:Pg) (w:World):(eqGuard o 51 x y (.agg (qt1 p).toArray) (.agg (qt1 q).toArray)).run Tryz.prog w = .ok () w:=by
 have h:Tryz.prog.eqGuardType Tryz.prog.depth 51=false:=by kernel_rfl
 cases o <;> simp [eqGuard,program,Sem.run,h]
theorem eqD_neq (p q:Pg) (w:World):(binOp .neq 51 (.agg (qt1 p).toArray) (.agg (qt1 q).toArray)).run Tryz.prog w = .ok (.bool (!qvu p q)) w:=by
 simp only [binOp,Sem.run_bind,eqD_run,Result.andThen_ok,Sem.run_pure]
theorem same_pg (p q:Pg):(p.l != q.l||(UV p.h != UV q.h || !qvu p q)) = !decide (p=q):=by
 obtain ⟨l,h,d0,d1,d2,d3,d4,d5,d6⟩:=p
 obtain ⟨l',h',d0',d1',d2',d3',d4',d5',d6'⟩:=q
 by_cases h1:l=l'
 case neg=>simp [h1]
 by_cases h2:h=h'
 case neg =>
  have:UV h≠UV h':=fun e=>h2 (by rw [qug] at e;exact e)
  simp [h1,h2,this]
 subst h1 h2
 by_cases h3:qvu ⟨l,h,d0,d1,d2,d3,d4,d5,d6⟩ ⟨l,h,d0',d1',d2',d3',d4',d5',d6'⟩=true
 ·rw [h3]
  have:=data_iff.1 h3
  simp only at this
  simp [this]
 ·have h4:qvu ⟨l,h,d0,d1,d2,d3,d4,d5,d6⟩ ⟨l,h,d0',d1',d2',d3',d4',d5',d6'⟩=false:=by simpa using h3
  rw [h4]
  have:¬ ((⟨l,h,d0,d1,d2,d3,d4,d5,d6⟩:Pg)=⟨l,h,d0',d1',d2',d3',d4',d5',d6'⟩):=fun e=>by
   injection e with _ _ e0 e1 e2 e3 e4 e5 e6
   exact h3 (data_iff.2 ⟨e0,e1,e2,e3,e4,e5,e6⟩)
  simp [this]
end Go.Proofs.YtmgoplaamlignaaGreat
