/- Texts laid together: walks of functions, what they compute, and plain laws of it. Own work. -/
import Derived.Test.YtmgoplaamlignaaGreatK23
import Derived.Test.YtmgoplaamlignaaGreatK1
namespace Go.Proofs.YtmgoplaamlignaaGreat
open Go.RowKit Tryz
set_option linter.unusedVariables false
set_option linter.unusedSimpArgs false
set_option maxRecDepth 100000
set_option maxHeartbeats 4000000
theorem qpo:∀ {As:List VP} {k:Nat} {B:VP},PureVs As→As[k]?=some B→qlw B
 | [],_,_,_,h=>by simp at h
 | A :: As,0,B,h,e=>by simp at e;subst e;exact h.1
 | A :: As,k+1,B,h,e=>qpo (k:=k) h.2 (by simpa using e)
def AtB (B:Nat) (A:VP):VP:=⟨fun φ v=>A.ok φ v∧∃ b o n cp,v = .slice (some ⟨b,o,none⟩) n cp∧B≤b,fun h k=>⟨A.mono h k.1,k.2⟩⟩
theorem zcr {B:Nat} {F:VP} {α:Type} {T:Ty α} {xs:List α} (hs:SubL [] F (qal T xs)) (hp:∀ x,PureVs (T.cells x)) {φ:Fz} {v:Value} (h:(AtB B F).ok φ v):(qbe B (qal T xs)).ok φ v:=by
 obtain ⟨h1,b,o,n,cp,e,hb⟩:=h
 obtain ⟨a',n',c',e',k1,k2,k3,k4⟩:=hs φ v (fun _ hi=>absurd hi List.not_mem_nil) h1
 rw [e] at e'
 cases e'
 refine ⟨_,_,_,e,k1,k2,k3,?_⟩
 rcases k4 with k4|⟨b',o',e2,k4⟩
 ·exact .inl k4
 ·cases e2
  refine .inr ⟨_,_,rfl,fun k x hx j D hD=>?_⟩
  obtain ⟨u,q1,q2,q3⟩:=k4 k x hx j D hD
  refine ⟨u,?_,qpo (hp x) hD _ _ _ q2,q3⟩
  unfold fresh;rw [if_pos hb];exact q1
theorem qcf (p:Pg):PureVs (tPg.cells p):=⟨qc3,qc3,qc3,qc3,qc3,qc3,qc3,qc3,qc3,trivial⟩
theorem ovr_one {Z A:List VP} {s:Nat} (hA:A.length=s) (hZ:Z.length=1*s):ovr Z (0*s) A=A:=by
 have e1:=qkl A [] Z [] (by omega)
 simp only [List.append_nil,List.nil_append,List.length_nil] at e1
 rw [Nat.zero_mul,e1]
theorem SubL.row1 {L:List Item} {α:Type} {T:Ty α} {x:α} {A:List VP} {zs:List Value} {s m:Nat} (hs:s=T.size) (hA:A.length=s) (hm:m=1*s) (h1:SubLs L A (T.cells x)):SubL L (qew 1 s (ovr (List.map Is (qmz zs m)) (0*s) A)) (qal T [x]):=by
 rw [ovr_one hA (by simp [qmz,hm])]
 exact SubL.row rfl hs (by simpa using h1)
theorem SubL.freshNil {L:List Item} {α:Type} {T:Ty α} {B:Nat}:SubL L (Is (.slice none 0 0)) (qbe B (qal T [])):=fun φ v _ h=>by
 have h':v = .slice none 0 0:=h
 subst h'
 exact ⟨none,0,0,rfl,rfl,Nat.le_refl _,Nat.zero_le _,.inl rfl⟩
theorem SubL.toT {L:List Item} {b:Bool} {X A B:VP} (hb:b=true) (h:SubL L X A):SubL L X (qdn b A B):=fun φ v f k=>by subst hb;exact h φ v f k
theorem SubL.toF {L:List Item} {b:Bool} {X A B:VP} (hb:b=false) (h:SubL L X B):SubL L X (qdn b A B):=fun φ v f k=>by subst hb;exact h φ v f k
def PgX:List VP:=[qek (fun n:Int=>-1≤n∧n≤255) fun n=>Is (.int .i64 n),VEx fun d:BitVec 64=>Is (.int .u64 (UV d)),VEx fun d:BitVec 64=>Is (.int .u64 (UV d)),VEx fun d:BitVec 64=>Is (.int .u64 (UV d)),VEx fun d:BitVec 64=>Is (.int .u64 (UV d)),VEx fun d:BitVec 64=>Is (.int .u64 (UV d)),VEx fun d:BitVec 64=>Is (.int .u64 (UV d)),VEx fun d:BitVec 64=>Is (.int .u64 (UV d)),VEx fun d:BitVec 64=>Is (.int .u64 (UV d))]
@[reducible] def qul:VP:=IsAgg PgX
@[reducible] def IsIX:VP:=VEx fun n:Int=>Is (.int .i64 n)
theorem pgX_of (p:Pg) (hp:Ln p):Subs (tPg.cells p) PgX:=⟨fun _ _ h=>⟨_,hp,h⟩,fun _ _ h=>⟨_,h⟩,fun _ _ h=>⟨_,h⟩,fun _ _ h=>⟨_,h⟩,fun _ _ h=>⟨_,h⟩,fun _ _ h=>⟨_,h⟩,fun _ _ h=>⟨_,h⟩,fun _ _ h=>⟨_,h⟩,fun _ _ h=>⟨_,h⟩,trivial⟩
theorem pgX_to {φ:Fz} {vs:List Value} (h:Alls φ PgX vs):∃ p,Ln p∧Alls φ (tPg.cells p) vs:=by
 match vs,h with
 | [_,_,_,_,_,_,_,_,_],⟨⟨l,hl,h0⟩,⟨h',h1⟩,⟨d0,h2⟩,⟨d1,h3⟩,⟨d2,h4⟩,⟨d3,h5⟩,⟨d4,h6⟩,⟨d5,h7⟩,⟨d6,h8⟩,_⟩=>exact ⟨⟨l,h',d0,d1,d2,d3,d4,d5,d6⟩,hl,h0,h1,h2,h3,h4,h5,h6,h7,h8,trivial⟩
theorem FnP.px {P:Program} {f:FuncId} {As:List VP} {q:Pg} (hq:Ln q) (h:FnP P f As (qek (fun r:Pg×Int=>Ln q→Ln r.1) fun r=>qbv [qdw r.1,Is (.int .i64 r.2)])):FnP P f As (qbv [qul,IsIX]):=fun φ w vs ha hm =>
 (h φ w vs ha hm).mono fun e w' ⟨i,v,φ',h1,⟨r,hr,us,h2,h3⟩,h4⟩=>⟨i,v,φ',h1,⟨us,h2,by
  match us,h3 with
  | [_,_],⟨⟨ws,e1,k1,k2⟩,e2,_⟩=>exact ⟨⟨ws,e1,(pgX_of r.1 (hr hq)).alls k1,k2⟩,⟨r.2,e2⟩,trivial⟩⟩,h4⟩
theorem qcw {P:Program} {c:Ctx} {N:Nat} {E:Env} {L:List Item} {Q:Exit→Go.Act→World→Prop} {x:Code} {b:Nat} {t:TypeId} {L':Pg→List Item} (hr:∀ p,Repl L (blk b t PgX) (blk b t (tPg.cells p)) (L' p)) (h:∀ p,Ln p→JC P c N x E (L' p) Q):JC P c N x E L Q:=fun φ a w st=>by
 obtain ⟨⟨vs,h1,h2,h3⟩,h4⟩:=st.mem.mem.items _ (hr Pg.nil).mem
 obtain ⟨p,hl,hp⟩:=pgX_to h2
 exact h p hl φ a w ⟨st.defers,st.size,st.env,st.mem.upd (hr p) (Kpt.refl _ _) ⟨⟨vs,h1,hp,h3⟩,h4⟩ fun b' hb'=>.inr hb'⟩
theorem qaf {A:VP} {As:List VP} (h:qdx A As:=by first|exact qok|exact qrw rfl|exact qrv|exact qt4|exact qxu|exact qp6|exact qoi|exact qoj rfl):qdx A As:=h
section
variable {P:Program} {c:Ctx} {A:Nat→Option VP} {L:List Item} {d:Option Tmp} {ty:TypeId} {pos:String} {af:Array Edge} {g:Option (Nat×Bool)}
theorem qa2 {t e:TypeId} {n size:Nat} {z:Value} {ps:Array (Nat×Operand)} {qs:List (Nat×List VP)} {Rs:List VP} (hu:P.underlying t=some (.slice e)) (hs:(P.info? e).map (·.size)=some size) (hz:(P.info? e).map (·.zero)=some (some z))
  (hq:PartsE A L ps.toList qs) (hf:qkp (fun i=>some (i*size,size)) ((qmz (qen z) (n*size)).map Is) qs=some Rs)
  (hn':(Nat.ble (n*size) 16777216&&Nat.blt 0 (n*size)&&Nat.ble n 1000000&&(qmz (qen z) (n*size)).all Value.oneCell')=true) :
  OpP P c ⟨d,.buildSlice t n ps,ty,pos,af,g⟩ A L (AtB c.w.heap.size (qew n size Rs)):=
 opq fun φ a w hm he=>by
  have hn5:Rs.length=n*size:=by rw [qof hf,List.length_map,qmz,List.length_map,List.length_range]
  simp only [Bool.and_eq_true] at hn'
  obtain ⟨⟨⟨n1,n2⟩,n3⟩,n4⟩:=hn'
  have m1:=Nat.le_of_ble_eq_true n1
  have m2:0<n*size:=Nat.le_of_ble_eq_true n2
  have m3:=Nat.le_of_ble_eq_true n3
  have hp:=hq.at_ (φ:=φ) (a:=a) fun i x hx=>he x (by simp only [Op.operands];simp;exact ⟨i,by simpa using hx⟩)
  obtain ⟨rs,h1,h2,h3⟩:=qme (qhl (φ:=φ) (qmz (qen z) (n*size))) (qhd n4) hp hf
  obtain ⟨φ',g1,g2,g3⟩:=zbv (e:=e) hm h2 h3
  refine ⟨.slice (some ⟨w.heap.size,0,none⟩) n n,φ',_,?_,g2,⟨⟨w.heap.size,rfl,g3,hn5,by unfold maxLen;omega⟩,_,_,_,_,rfl,hm.kept.size⟩⟩
  simp only [execOp]
  refine qcg ?_
  have e1:(ps.map fun x=>(x.1,a.eval x.2)).toList=ps.toList.map fun p=>(p.1,a.eval p.2):=by simp
  have e2:((Array.range (n*size)).map fun x=>z.cells[x % z.cells.size]!)=(qmz (qen z) (n*size)).toArray:=by
   unfold qmz qen
   rw [Array.toArray_toList]
   apply Array.ext'
   simp
  simp only [Instr.buildSlice,Sem.run_bind,run_underlying hu,Result.andThen_ok,qby hs]
  rw [if_neg (by omega)]
  have e3:(List.map (fun x:Nat×Operand=>(x.1,a.eval x.2)) ps.toList)=ps.toList.map fun p=>(p.1,a.eval p.2):=rfl
  have e4:¬ n*size=0:=by omega
  simp only [if_neg e4,Sem.run_bind,qia hz,Result.andThen_ok,Sem.run_pure,e1,e2,h1,newRow,run_newObj_alloc]
theorem OpP.to {o:Oper} {F F':VP} (h:OpP P c o A L F) (hs:SubL [] F F'):OpP P c o A L F':=
 OpP.sub h fun φ v k=>hs _ _ (fun _ hi=>absurd hi List.not_mem_nil) k
theorem OpP.fr {o:Oper} {B:Nat} {F:VP} {α:Type} {T:Ty α} {xs:List α} (h:OpP P c o A L (AtB B F)) (hp:∀ x,PureVs (T.cells x)) (hs:SubL [] F (qal T xs)):OpP P c o A L (qbe B (qal T xs)):=
 OpP.sub h fun φ v k=>zcr hs hp k
end
theorem qaj {L:List Item} {A B:List VP} (h:SubLs L A B:=by (repeat' (first|exact SubL.rfl' | exact trivial|refine ⟨?_,?_⟩|exact SubL.nil|((with_reducible show SubL _ _ (qbe _ _));first|exact SubL.freshNil|exact SubL.low (by assumption) (fun _ _ h=>h))|((with_reducible show SubL _ _ (qdn _ _ _));first|(refine SubL.toT rfl ?_)|(refine SubL.toF (by first|exact rfl|assumption) ?_))|exact SubL.eq (congrArg Is (qcz (by first|decide|omega)))|exact SubL.eq (congrArg Is (qda (by first|decide|omega)))))):SubLs L A B:=h
theorem qfm {L:List Item} {A B:VP} (h:SubL L A B:=by (repeat' (first|exact SubL.rfl' | exact trivial|refine ⟨?_,?_⟩|exact SubL.nil|((with_reducible show SubL _ _ (qbe _ _));first|exact SubL.freshNil|exact SubL.low (by assumption) (fun _ _ h=>h))|((with_reducible show SubL _ _ (qdn _ _ _));first|(refine SubL.toT rfl ?_)|(refine SubL.toF (by first|exact rfl|assumption) ?_))|refine SubL.agg ?_|refine SubL.tup ?_|exact SubL.top|exact SubL.fresh|((with_reducible show SubL _ (qew _ _ _) _);first|exact SubL.row1 rf rf rf qaj|exact SubL.row2 rf rf rf rf qaj qaj|exact SubL.row3 rf rf rf rf rf qaj qaj qaj|refine SubL.row rf rf ?_)|((with_reducible show SubL _ (Is _) (IsAgg _));refine SubL.lit rfl ?_)|((with_reducible show SubL _ (qdn _ _ _) _);refine SubL.iteT (by first|assumption|(simp;done)|(simp;omega)|(simp_all;done)) ?_)|exact SubL.eq (congrArg Is (qcz (by first|decide|omega)))|exact SubL.eq (congrArg Is (qda (by first|decide|omega)))|exact SubL.fact (by repeat (first|exact List.Mem.head _|apply List.Mem.tail))))):SubL L A B:=h
theorem qv8 {L:List Item} {A B:List VP} (h:SubLs L A B:=by (repeat' (first|exact SubL.rfl' | exact trivial|refine ⟨?_,?_⟩|exact SubL.nil|((with_reducible show SubL _ _ (qbe _ _));first|exact SubL.freshNil|exact SubL.low (by assumption) (fun _ _ h=>h))|((with_reducible show SubL _ _ (qdn _ _ _));first|(refine SubL.toT rfl ?_)|(refine SubL.toF (by first|exact rfl|assumption) ?_))|refine SubL.agg ?_|refine SubL.tup ?_|exact SubL.top|exact SubL.fresh|((with_reducible show SubL _ (qew _ _ _) _);first|exact SubL.row1 rf rf rf qaj|exact SubL.row2 rf rf rf rf qaj qaj|exact SubL.row3 rf rf rf rf rf qaj qaj qaj|refine SubL.row rf rf ?_)|((with_reducible show SubL _ (Is _) (IsAgg _));refine SubL.lit rfl ?_)|((with_reducible show SubL _ (qdn _ _ _) _);refine SubL.iteT (by first|assumption|(simp;done)|(simp;omega)|(simp_all;done)) ?_)|exact SubL.eq (congrArg Is (qcz (by first|decide|omega)))|exact SubL.eq (congrArg Is (qda (by first|decide|omega)))|exact SubL.fact (by repeat (first|exact List.Mem.head _|apply List.Mem.tail))))):SubLs L A B:=h
theorem qde {L:List Item} {E E':Env} (h:ESub L E E':=by ((repeat (refine ⟨⟨_,rfl,(by (repeat' (first|exact SubL.rfl' | exact trivial|refine ⟨?_,?_⟩|exact SubL.nil|((with_reducible show SubL _ _ (qbe _ _));first|exact SubL.freshNil|exact SubL.low (by assumption) (fun _ _ h=>h))|((with_reducible show SubL _ _ (qdn _ _ _));first|(refine SubL.toT rfl ?_)|(refine SubL.toF (by first|exact rfl|assumption) ?_))|refine SubL.agg ?_|refine SubL.tup ?_|exact SubL.top|exact SubL.fresh|((with_reducible show SubL _ (qew _ _ _) _);first|exact SubL.row1 rf rf rf qaj|exact SubL.row2 rf rf rf rf qaj qaj|exact SubL.row3 rf rf rf rf rf qaj qaj qaj|refine SubL.row rf rf ?_)|((with_reducible show SubL _ (Is _) (IsAgg _));refine SubL.lit rfl ?_)|((with_reducible show SubL _ (qdn _ _ _) _);refine SubL.iteT (by first|assumption|(simp;done)|(simp;omega)|(simp_all;done)) ?_)|exact SubL.eq (congrArg Is (qcz (by first|decide|omega)))|exact SubL.eq (congrArg Is (qda (by first|decide|omega)))|exact SubL.fact (by repeat (first|exact List.Mem.head _|apply List.Mem.tail)))))⟩,?_⟩));exact trivial)):ESub L E E':=h
theorem qar {A:Nat→Option VP} {L:List Item} {x:Operand} {B:VP} (h:Ev A L x B:=by (exact Ev.sub rfl (by first|with_reducible exact SubL.rfl' | ((with_reducible show SubL _ (IsAgg _) _);exact SubL.rfl')|((with_reducible show SubL _ (qew _ _ _) _);first|exact SubL.row1 rf rf rf qaj|exact SubL.row2 rf rf rf rf qaj qaj|exact SubL.row3 rf rf rf rf rf qaj qaj qaj|exact SubL.row rf rf qv8)|(repeat' (first|exact SubL.rfl' | exact trivial|refine ⟨?_,?_⟩|exact SubL.nil|((with_reducible show SubL _ _ (qbe _ _));first|exact SubL.freshNil|exact SubL.low (by assumption) (fun _ _ h=>h))|((with_reducible show SubL _ _ (qdn _ _ _));first|(refine SubL.toT rfl ?_)|(refine SubL.toF (by first|exact rfl|assumption) ?_))|refine SubL.agg ?_|refine SubL.tup ?_|exact SubL.top|exact SubL.fresh|((with_reducible show SubL _ (qew _ _ _) _);first|exact SubL.row1 rf rf rf qaj|exact SubL.row2 rf rf rf rf qaj qaj|exact SubL.row3 rf rf rf rf rf qaj qaj qaj|refine SubL.row rf rf ?_)|((with_reducible show SubL _ (Is _) (IsAgg _));refine SubL.lit rfl ?_)|((with_reducible show SubL _ (qdn _ _ _) _);refine SubL.iteT (by first|assumption|(simp;done)|(simp;omega)|(simp_all;done)) ?_)|exact SubL.eq (congrArg Is (qcz (by first|decide|omega)))|exact SubL.eq (congrArg Is (qda (by first|decide|omega)))|exact SubL.fact (by repeat (first|exact List.Mem.head _|apply List.Mem.tail))))))):Ev A L x B:=h
theorem subXF {L:List Item} {A B:VP} (h:SubL L A B:=by (repeat' (first|exact SubL.rfl' | exact trivial|refine ⟨?_,?_⟩|exact SubL.nil|((with_reducible show SubL _ _ (qbe _ _));first|exact SubL.freshNil|exact SubL.low (by assumption) (fun _ _ h=>h))|((with_reducible show SubL _ _ (qdn _ _ _));first|(refine SubL.toT rfl ?_)|(refine SubL.toF (by first|exact rfl|assumption) ?_))|exact SubL.eq (congrArg Is (qcz (by decide)))|exact SubL.eq (congrArg Is (qda (by decide)))|refine SubL.aggN qbo ?_|refine SubL.tup ?_|exact SubL.top|exact SubL.fresh|((with_reducible show SubL _ (qew _ _ _) _);first|exact SubL.row1 rf rf rf qaj|exact SubL.row2 rf rf rf rf qaj qaj|exact SubL.row3 rf rf rf rf rf qaj qaj qaj|refine SubL.row rf rf ?_)|((with_reducible show SubL _ (Is _) (IsAgg _));refine SubL.lit rfl ?_)|((with_reducible show SubL _ (qdn _ _ _) _);refine SubL.iteT (by first|assumption|(simp;done)|(simp;omega)|(simp_all;done)) ?_)|exact SubL.eq (congrArg Is (qcz (by first|decide|omega)))|exact SubL.eq (congrArg Is (qda (by first|decide|omega)))|exact SubL.fact (by repeat (first|exact List.Mem.head _|apply List.Mem.tail))))):SubL L A B:=h
theorem qba {L:List Item} {A B:List VP} (h:SubLs L A B:=by (refine SubLs.nrmd qbo ?_;(repeat' (first|exact SubL.rfl' | exact trivial|refine ⟨?_,?_⟩|exact SubL.nil|((with_reducible show SubL _ _ (qbe _ _));first|exact SubL.freshNil|exact SubL.low (by assumption) (fun _ _ h=>h))|((with_reducible show SubL _ _ (qdn _ _ _));first|(refine SubL.toT rfl ?_)|(refine SubL.toF (by first|exact rfl|assumption) ?_))|exact SubL.eq (congrArg Is (qcz (by decide)))|exact SubL.eq (congrArg Is (qda (by decide)))|refine SubL.aggN qbo ?_|refine SubL.tup ?_|exact SubL.top|exact SubL.fresh|((with_reducible show SubL _ (qew _ _ _) _);first|exact SubL.row1 rf rf rf qaj|exact SubL.row2 rf rf rf rf qaj qaj|exact SubL.row3 rf rf rf rf rf qaj qaj qaj|refine SubL.row rf rf ?_)|((with_reducible show SubL _ (Is _) (IsAgg _));refine SubL.lit rfl ?_)|((with_reducible show SubL _ (qdn _ _ _) _);refine SubL.iteT (by first|assumption|(simp;done)|(simp;omega)|(simp_all;done)) ?_)|exact SubL.eq (congrArg Is (qcz (by first|decide|omega)))|exact SubL.eq (congrArg Is (qda (by first|decide|omega)))|exact SubL.fact (by repeat (first|exact List.Mem.head _|apply List.Mem.tail)))))):SubLs L A B:=h
theorem qah {L:List Item} {E E':Env} (h:ESub L E E':=by ((repeat (refine ⟨⟨_,rfl,(by (repeat' (first|exact SubL.rfl' | exact trivial|refine ⟨?_,?_⟩|exact SubL.nil|((with_reducible show SubL _ _ (qbe _ _));first|exact SubL.freshNil|exact SubL.low (by assumption) (fun _ _ h=>h))|((with_reducible show SubL _ _ (qdn _ _ _));first|(refine SubL.toT rfl ?_)|(refine SubL.toF (by first|exact rfl|assumption) ?_))|exact SubL.eq (congrArg Is (qcz (by decide)))|exact SubL.eq (congrArg Is (qda (by decide)))|refine SubL.aggN qbo ?_|refine SubL.tup ?_|exact SubL.top|exact SubL.fresh|((with_reducible show SubL _ (qew _ _ _) _);first|exact SubL.row1 rf rf rf qaj|exact SubL.row2 rf rf rf rf qaj qaj|exact SubL.row3 rf rf rf rf rf qaj qaj qaj|refine SubL.row rf rf ?_)|((with_reducible show SubL _ (Is _) (IsAgg _));refine SubL.lit rfl ?_)|((with_reducible show SubL _ (qdn _ _ _) _);refine SubL.iteT (by first|assumption|(simp;done)|(simp;omega)|(simp_all;done)) ?_)|exact SubL.eq (congrArg Is (qcz (by first|decide|omega)))|exact SubL.eq (congrArg Is (qda (by first|decide|omega)))|exact SubL.fact (by repeat (first|exact List.Mem.head _|apply List.Mem.tail)))))⟩,?_⟩));exact trivial)):ESub L E E':=h
theorem qbb {A:Nat→Option VP} {L:List Item} {x:Operand} {B:VP} (h:Ev A L x B:=by (first|exact er rfl|exact Ev.sub rfl (by (repeat' (first|exact SubL.rfl' | exact trivial|refine ⟨?_,?_⟩|exact SubL.nil|((with_reducible show SubL _ _ (qbe _ _));first|exact SubL.freshNil|exact SubL.low (by assumption) (fun _ _ h=>h))|((with_reducible show SubL _ _ (qdn _ _ _));first|(refine SubL.toT rfl ?_)|(refine SubL.toF (by first|exact rfl|assumption) ?_))|exact SubL.eq (congrArg Is (qcz (by decide)))|exact SubL.eq (congrArg Is (qda (by decide)))|refine SubL.aggN qbo ?_|refine SubL.tup ?_|exact SubL.top|exact SubL.fresh|((with_reducible show SubL _ (qew _ _ _) _);first|exact SubL.row1 rf rf rf qaj|exact SubL.row2 rf rf rf rf qaj qaj|exact SubL.row3 rf rf rf rf rf qaj qaj qaj|refine SubL.row rf rf ?_)|((with_reducible show SubL _ (Is _) (IsAgg _));refine SubL.lit rfl ?_)|((with_reducible show SubL _ (qdn _ _ _) _);refine SubL.iteT (by first|assumption|(simp;done)|(simp;omega)|(simp_all;done)) ?_)|exact SubL.eq (congrArg Is (qcz (by first|decide|omega)))|exact SubL.eq (congrArg Is (qda (by first|decide|omega)))|exact SubL.fact (by repeat (first|exact List.Mem.head _|apply List.Mem.tail))))))):Ev A L x B:=h
theorem kRF {P:Program} {c:Ctx} {N:Nat} {E:Env} {L:List Item} {Q:Exit→Go.Act→World→Prop} {ops:Array Oper} {rest:List Oper} {ty:TypeId} {pos:String} {af:Array Edge} {tt:Tmp} {f:FuncId} {xs:List Operand} {ts:Array TypeId} {As:List VP} {R:VP} (hc:∀ (args:Array Value) (w:World),(callFunc f args).run P w = .ok (.enter f args) w) (hF:FnP P f As R) (h:JL P ops Q c N rest ((tt,R) :: E) L) (hd:Nat.blt tt N=true:=by exact rfl) (ha:ArgsE (look E) L xs As:=by repeat (first|exact trivial|refine ⟨qar,?_⟩)):JL P ops Q c N (⟨some tt,.call { callee:=.value (.func f),args:=xs.toArray,argTypes:=ts },ty,pos,af,none⟩ :: rest) E L:=qap hd (qac hc hF ha) h
theorem kXF {P:Program} {c:Ctx} {N:Nat} {E:Env} {L:List Item} {Q:Exit→Go.Act→World→Prop} {ops:Array Oper} {rest:List Oper} {ty:TypeId} {pos:String} {af:Array Edge} {tt:Tmp} {f:FuncId} {xs:List Operand} {ts:Array TypeId} {As:List VP} {R:VP} (hc:∀ (args:Array Value) (w:World),(callFunc f args).run P w = .ok (.enter f args) w) (hF:FnP P f As R) (h:JL P ops Q c N rest ((tt,R) :: E) L) (hd:Nat.blt tt N=true:=by exact rfl) (ha:ArgsE (look E) L xs As:=by repeat (first|exact trivial|refine ⟨qbb,?_⟩)):JL P ops Q c N (⟨some tt,.call { callee:=.value (.func f),args:=xs.toArray,argTypes:=ts },ty,pos,af,none⟩ :: rest) E L:=qap hd (qac hc hF ha) h
theorem eRF {P:Program} {E:Env} {L:List Item} {rs:List ResultVar} {Bs:List VP} (h:qqe P E L rs Bs:=by repeat (first|exact trivial|refine ⟨⟨_,_,_,_,rfl,qbp,rfl,.inr ⟨rfl,_,rfl,rfl,qfm⟩⟩,?_⟩|refine ⟨⟨_,rfl,qfm⟩,?_⟩)):qqe P E L rs Bs:=h
theorem eXF {P:Program} {E:Env} {L:List Item} {rs:List ResultVar} {Bs:List VP} (h:qqe P E L rs Bs:=by repeat (first|exact trivial|refine ⟨⟨_,_,_,_,rfl,qbp,rfl,.inr ⟨rfl,_,rfl,rfl,subXF⟩⟩,?_⟩|refine ⟨⟨_,rfl,subXF⟩,?_⟩)):qqe P E L rs Bs:=h
theorem rXF {P:Program} {c:Ctx} {N:Nat} {E:Env} {L:List Item} {fn:Func} {ι:Type} {p:ι→Prop} {R:ι→VP} {L':Unit→List Item} {rs:List ResultVar} {B:VP} (i:ι) (hr:fn.results=rs.toArray) (hB:qu3 [B]=R i:=by exact rfl) (hE:qqe P E L rs [B]:=by exact eXF) (hL:(L' ()).Sublist L:=by exact List.nil_sublist _) (hp:p i) (hD0:c.ds=[]:=by first|assumption|exact And.right (by assumption)):JQ c N E L (bodyPost P fn (qus c (fun _:Unit=>qek p R) L')) .ret:=qcd i hB hr hE hL hp hD0
theorem qmn {P:Program} {c:Ctx} {N:Nat} {E:Env} {L:List Item} {fn:Func} {ι:Type} {p:ι→Prop} {R:ι→VP} {L':Unit→List Item} {rs:List ResultVar} {B B2:VP} (i:ι) (hr:fn.results=rs.toArray) (hB:qu3 [B,B2]=R i:=by exact rfl) (hE:qqe P E L rs [B,B2]:=by exact eXF) (hL:(L' ()).Sublist L:=by exact List.nil_sublist _) (hp:p i) (hD0:c.ds=[]:=by first|assumption|exact And.right (by assumption)):JQ c N E L (bodyPost P fn (qus c (fun _:Unit=>qek p R) L')) .ret:=qcd i hB hr hE hL hp hD0
theorem f1 {P:Program} {ops:Array Oper} {c:Ctx} {N:Nat} {L:List Item} {Q:Exit→Go.Act→World→Prop} {nd fr dn ks mi:List Nat} {EO:EnvO} {t:Tmp} {op:Go.Op} {ty:TypeId} {pos:String} {af:Array Edge} {F:VP} (i:Nat) (h:JF P ops Q c N nd fr dn ks (i :: mi) ((t,.v F) :: EO) L) (hi:ops[i]?=some ⟨some t,op,ty,pos,af,none⟩:=by exact rfl) (hB:qtg nd fr mi i=true:=by kernel_rfl) (hs:OpP P c ⟨some t,op,ty,pos,af,none⟩ (vals EO) L F:=by exact opF):JF P ops Q c N nd fr dn ks mi EO L:=qkf i hi hB hs h
theorem qc0 {c:Ctx} {Q:Exit→Go.Act→World→Prop} {N:Nat} {E:Env} {L L':List Item} {b:Nat} {t:TypeId} {As:List VP} {ex:Exit} {B0:Nat} {i1 i2 i3 i4 i5 i6 i7:Int} {u1 u2 u3 u4 u5 u6:BitVec 64} {b1 b2 b3 b4 b5:Bool} {l1 l2 l3:List Int} {p1 p2:List Pg} {xs:List St29} {rs:List Rs29} (k:JQ c N E L' Q ex) (hr:Repl L (blk b t As) (blk b t [Is (.int .i64 i1),Is (.int .i64 i2),Is (.int .i64 i3),qal tSt29 xs,qal tI64 l1,Is (.bool b1),Is (.int .u64 (UV u1)),Is (.int .u64 (UV u2)),Is (.int .u64 (UV u3)),Is (.int .u64 (UV u4)),Is (.int .u64 (UV u5)),Is (.int .u64 (UV u6)),qal tPg p1,qbe B0 (qal tPg p2),qal tI64 l2,qal tI64 l3,Is (.int .i64 i4),Is (.int .i64 i5),Is (.int .i64 i6),Is (.int .i64 i7),qal tRs29 rs,Is (.slice none 0 0),Is (.bool b2),Is (.bool b3),Is (.bool b4),Is (.bool b5)]) L':=by exact qae) (h:SubLs L As [Is (.int .i64 i1),Is (.int .i64 i2),Is (.int .i64 i3),qal tSt29 xs,qal tI64 l1,Is (.bool b1),Is (.int .u64 (UV u1)),Is (.int .u64 (UV u2)),Is (.int .u64 (UV u3)),Is (.int .u64 (UV u4)),Is (.int .u64 (UV u5)),Is (.int .u64 (UV u6)),qal tPg p1,qbe B0 (qal tPg p2),qal tI64 l2,qal tI64 l3,Is (.int .i64 i4),Is (.int .i64 i5),Is (.int .i64 i6),Is (.int .i64 i7),qal tRs29 rs,Is (.slice none 0 0),Is (.bool b2),Is (.bool b3),Is (.bool b4),Is (.bool b5)]:=by exact qba):JQ c N E L Q ex:=qam hr h k
end Go.Proofs.YtmgoplaamlignaaGreat
