/- Texts laid together: walks of functions, what they compute, and plain laws of it. Own work. -/
import Derived.Below
import Derived.Deep.Draws
import Derived.ChangeKeysEq
import Derived.Test.YtmgoplaamlignaaGreatK7
import Derived.Test.YtmgoplaamlignaaGreatK1
import Derived.Test.YtmgoplaamlignaaGreatK6
namespace Go.Proofs.YtmgoplaamlignaaGreat
open Go.RowKit Tryz
set_option linter.unusedVariables false
set_option linter.unusedSimpArgs false
set_option maxRecDepth 100000
set_option maxHeartbeats 4000000
def fresh (B:Nat) (φ:Fz):Fz:=fun b i=>if B≤b then φ b i else none
theorem qxl (B:Nat) (φ:Fz):Fle (fresh B φ) φ:=fun b i v e=>by
 unfold fresh at e
 split at e
 ·exact e
 ·cases e
theorem qyx {B:Nat} {φ φ':Fz} (h:Fle φ φ'):Fle (fresh B φ) (fresh B φ'):=fun b i v e=>by
 unfold fresh at e ⊢
 split at e
 ·rename_i hb;rw [if_pos hb];exact h _ _ _ e
 ·cases e
theorem qts {B B':Nat} {φ:Fz} (h:B'≤B):Fle (fresh B φ) (fresh B' φ):=fun b i v e=>by
 unfold fresh at e ⊢
 split at e
 ·rename_i hb;rw [if_pos (Nat.le_trans h hb)];exact e
 ·cases e
def qbe (B:Nat) (A:VP):VP:=⟨fun φ v=>A.ok (fresh B φ) v,fun h k=>A.mono (qyx h) k⟩
theorem SubL.fresh {L:List Item} {B:Nat} {A:VP}:SubL L (qbe B A) A:=fun φ v _ h=>A.mono (qxl B φ) h
def qjn (R:Nat→VP):Prop:=∀ B B' φ φ' v,B'≤B→Fle (fresh B φ) (fresh B' φ')→(R B).ok φ v→(R B').ok φ' v
theorem qa6 {A:VP} (h:qlw A):qjn fun _=>A:=fun _ _ _ _ _ _ _ k=>h _ _ _ k
theorem qet {A:VP}:qjn fun B=>qbe B A:=fun B B' φ φ' v hB h k=>A.mono h k
def FreshRs:List (Nat→VP)→Prop
 | []=>True
 | R :: Rs=>qjn R∧FreshRs Rs
theorem FreshRs.alls {B B':Nat} {φ φ':Fz} (hB:B'≤B) (h:Fle (fresh B φ) (fresh B' φ')):∀ {Rs:List (Nat→VP)} {vs:List Value},FreshRs Rs→Alls φ (Rs.map fun R=>R B) vs→Alls φ' (Rs.map fun R=>R B') vs
 | [],[],_,_=>trivial
 | R :: Rs,v :: vs,⟨h1,h2⟩,⟨h3,h4⟩=>⟨h1 _ _ _ _ _ hB h h3,FreshRs.alls hB h h2 h4⟩
theorem qj3 (Rs:List (Nat→VP)) (h:FreshRs Rs):qjn fun B=>IsAgg (Rs.map fun R=>R B):=fun B B' φ φ' v hB hl ⟨vs,e,k,o⟩=>⟨vs,e,h.alls hB hl k,o⟩
section
variable {P:Program} {c:Ctx} {A:Nat→Option VP} {L:List Item} {d:Option Tmp} {ty:TypeId} {pos:String} {af:Array Edge} {g:Option (Nat×Bool)}
def FnF (P:Program) (f:FuncId) (As:List VP) (R:Nat→VP):Prop:=
 ∀ φ w vs,Alls φ As vs→Mem φ [] w→Calls P f vs.toArray w fun e w'=>∃ v φ',e = .returned v∧(R w.heap.size).ok φ' v∧HP ⟨w,φ,[],[]⟩ φ' [] w'
theorem FnF.toP {f:FuncId} {As:List VP} {R:Nat→VP} {R':VP} (h:FnF P f As R) (hs:∀ B φ v,(R B).ok φ v→R'.ok φ v):FnP P f As R':=fun φ w vs ha hm =>
 (h φ w vs ha hm).mono fun e w' ⟨v,φ',h1,h2,h3⟩=>⟨(),v,φ',h1,hs _ _ _ h2,by simpa [qb4] using h3⟩
theorem Fn.toF {α:Type} {T:Ty α} {xs:List α} {n:Nat} {e:TypeId} {f:FuncId} {As:List VP} {R:Nat→VP} {R0:Option Addr×Nat→VP} (h:Fn P f As [] R0 (fun i:Option Addr×Nat=>[buf (slV n i) e T xs])) (hT:∀ x,PureVs (T.cells x))
  (hR:∀ i B φ v,(qbe B (qal T xs)).ok φ (slV n i)→(R0 i).ok φ v→(R B).ok φ v):FnF P f As R:=fun φ w vs ha hm=>by
 refine (h φ w vs ha hm).mono ?_
 rintro e' w' ⟨i,v,φ',h1,h2,h3⟩
 have h3':HP ⟨w,φ,[],[]⟩ φ' [buf (slV n i) e T xs] w':=by simpa [qb4] using h3
 have hit:=h3'.mem.items _ (List.mem_cons_self ..)
 obtain ⟨flat,f1,f2,f3⟩:=qj7 hit
 have alls_pure:∀ (ys:List α) (us:List Value) (ψ ψ':Fz),Alls ψ (ys.flatMap T.cells) us→Alls ψ' (ys.flatMap T.cells) us:=fun ys=>by
  induction ys with
  | nil =>
   intro us ψ ψ' hh
   match us,hh with
   | [],_=>trivial
  | cons y ys ih =>
   intro us ψ ψ' hh
   rw [List.flatMap_cons] at hh ⊢
   have hl:(T.cells y).length=T.size:=T.len y
   have hlen:=hh.len
   have e1:=hh.take T.size
   have e2:=hh.drop T.size
   rw [← hl,List.take_left] at e1
   rw [← hl,List.drop_left] at e2
   have e3:=(hT y).alls (φ':=ψ') e1
   have e4:=ih _ ψ ψ' e2
   have:=e3.append e4
   rwa [List.take_append_drop] at this
 rcases f3.2 with ⟨h0,hn⟩|⟨gg,cap,cur,h0,_,e1,e2,e3,e4,e5⟩
 ·have hxs:xs=[]:=List.eq_nil_of_length_eq_zero hn
  refine ⟨v,φ',h1,hR i _ φ' v ?_ h2,h3'.lessP (SubP.nil _)⟩
  subst hxs
  rw [h0]
  exact ⟨none,0,0,rfl,rfl,Nat.le_refl _,Nat.zero_le _,.inl rfl⟩
 ·obtain ⟨φ2,k1,k2⟩:=h3'.freeze (p0:=True) ⟨rfl,trivial⟩ (Repl.head _ (fact (slV n i) (qal T xs)) _)
  have hgg:w.heap.size≤gg:=by
   have:=h3'.mine gg (mem_names.2 ⟨_,List.mem_cons_self ..,by show (slV n i).ownBlock=some gg;rw [h0];rfl⟩)
   exact this.resolve_right (by simp)
  have hk3:=k2.mem.items _ (List.mem_cons_self ..)
  obtain ⟨a,m,cp,q1,q2,q3,q4,q5⟩:(qal T xs).ok φ2 (slV n i):=hk3.1
  refine ⟨v,φ2,h1,hR i _ φ2 v ?_ ((R0 i).mono k1 h2),k2.lessP (SubP.nil _)⟩
  refine ⟨a,m,cp,q1,q2,q3,q4,?_⟩
  rcases q5 with q5|⟨b,o,q5,q6⟩
  ·exact .inl q5
  ·have hb:b=gg:=by
    rw [h0,q5] at q1
    injection q1 with q1 _ _
    injection q1 with q1
    injection q1 with q1 _ _
    exact q1.symm
   refine .inr ⟨b,o,q5,fun k x hx j B hB=>?_⟩
   obtain ⟨u,r1,r2,r3⟩:=q6 k x hx j B hB
   refine ⟨u,?_,?_,r3⟩
   ·unfold fresh;rw [if_pos (by rw [hb];exact hgg)];exact r1
   ·have hp:∀ (Bs:List VP) (j:Nat) (D:VP),PureVs Bs→Bs[j]?=some D→qlw D:=fun Bs=>by
     induction Bs with
     | nil=>intro j D _ hj;simp at hj
     | cons E Es ih =>
      intro j D ⟨p1,p2⟩ hj
      cases j with
      | zero=>simp at hj;subst hj;exact p1
      | succ j=>exact ih j D p2 (by simpa using hj)
    exact hp _ _ _ (hT x) hB _ _ _ r2
theorem qc9 {f:FuncId} {xs:List Operand} {ts:Array TypeId} {As:List VP} {R:Nat→VP} {L':List Item} (hL:LendL L L') (hc:∀ (args:Array Value) (w:World),(callFunc f args).run P w = .ok (.enter f args) w)
  (hF:FnF P f As R) (ha:ArgsE A L' xs As) (hR:qjn R):OpP P c ⟨d,.call { callee:=.value (.func f),args:=xs.toArray,argTypes:=ts },ty,pos,af,g⟩ A L (R c.w.heap.size):=by
 intro φ a w K Q hm he hk
 obtain ⟨φ1,hle,hm1⟩:=hL.mem [] φ w hm.mem
 rw [List.nil_append] at hm1
 have hv:=ha.alls (φ:=φ1) (a:=a) fun x hx B hB=>by
  obtain ⟨D,h1,h2⟩:=hB
  exact h2 φ1 _ hm1.facts (D.mono hle (he x (by simp [Op.operands,Call.operands,hx]) D (.rfl' h1)))
 unfold Oper.wp
 rw [qg1 hc]
 refine (hF φ1 w _ hv ⟨hm1.base,by simp,List.Pairwise.nil⟩).mono ?_
 rintro e w' ⟨v,φ',rfl,h1,h2⟩
 refine hk (fun b i=>if b<w.heap.size then φ b i else φ' b i) v w' ⟨⟨fun b i u hu=>?_,by simp,List.Pairwise.nil⟩,h2.kept,by simp [qb4],fun b i hb=>if_pos hb⟩ (hR _ _ _ _ _ hm.kept.size (fun b i u hu=>?_) h1)
 ·split at hu
  ·rename_i hb
   exact h2.mem.base b i u (by rw [h2.old b i hb];exact hle _ _ _ hu)
  ·exact h2.mem.base b i u hu
 ·unfold fresh at hu ⊢
  split at hu
  ·rename_i hb
   rw [if_pos (Nat.le_trans hm.kept.size hb)]
   show (if b<w.heap.size then φ b i else φ' b i)=some u
   rw [if_neg (by omega)]
   exact hu
  ·cases hu
theorem qam {Q:Exit→Act→World→Prop} {N:Nat} {E:Env} {b:Nat} {t:TypeId} {As As':List VP} {L':List Item} {ex:Exit} (hr:Repl L (blk b t As) (blk b t As') L') (h:SubLs L As As') (k:JQ c N E L' Q ex):JQ c N E L Q ex:=fun φ a w st=>by
 refine k φ a w ⟨st.defers,st.size,st.env,st.mem.upd hr (Kpt.refl _ _) ?_ fun b' hb'=>.inr hb'⟩
 obtain ⟨⟨vs,h1,h2,h3⟩,h4⟩:=st.mem.mem.items _ hr.mem
 exact ⟨⟨vs,h1,h.alls st.mem.mem.facts h2,h3⟩,h4⟩
theorem qbq {Q:Exit→Act→World→Prop} {N:Nat} {E:Env} {b:Nat} {t:TypeId} {As As':List VP} {L':List Item} {x:Code} (hr:Repl L (blk b t As) (blk b t As') L') (h:SubLs L As As') (k:JC P c N x E L' Q):JC P c N x E L Q:=fun φ a w st=>by
 refine k φ a w ⟨st.defers,st.size,st.env,st.mem.upd hr (Kpt.refl _ _) ?_ fun b' hb'=>.inr hb'⟩
 obtain ⟨⟨vs,h1,h2,h3⟩,h4⟩:=st.mem.mem.items _ hr.mem
 exact ⟨⟨vs,h1,h.alls st.mem.mem.facts h2,h3⟩,h4⟩
end
theorem subT {L:List Item} {A B:VP} (h:SubL L A B:=by (repeat' (first|exact SubL.rfl' | exact SubL.nil|exact SubL.top|exact SubL.fresh|exact trivial|refine SubL.agg ?_|refine SubL.tup ?_|exact SubL.fact (by repeat (first|exact List.Mem.head _|apply List.Mem.tail))|refine SubL.row rf rf ?_|refine SubL.lit rfl ?_|refine SubL.iteT (by first|assumption|(simp;done)|(simp;omega)|(simp_all;done)) ?_|exact SubL.eq (congrArg Is (qcz (by first|decide|omega)))|exact SubL.eq (congrArg Is (qda (by first|decide|omega)))|refine ⟨?_,?_⟩))):SubL L A B:=h
theorem qev {L:List Item} {A B:List VP} (h:SubLs L A B:=by (repeat' (first|exact SubL.rfl' | exact SubL.nil|exact SubL.top|exact SubL.fresh|exact trivial|refine SubL.agg ?_|refine SubL.tup ?_|exact SubL.fact (by repeat (first|exact List.Mem.head _|apply List.Mem.tail))|refine SubL.row rf rf ?_|refine SubL.lit rfl ?_|refine SubL.iteT (by first|assumption|(simp;done)|(simp;omega)|(simp_all;done)) ?_|exact SubL.eq (congrArg Is (qcz (by first|decide|omega)))|exact SubL.eq (congrArg Is (qda (by first|decide|omega)))|refine ⟨?_,?_⟩))):SubLs L A B:=h
theorem qz3 {L:List Item} {A B:List VP} (h:SubLs L A B:=by (repeat' (first|exact SubL.rfl' | exact trivial|exact SubL.eq (congrArg Is (qcz (by first|decide|omega)))|exact SubL.eq (congrArg Is (qda (by first|decide|omega)))|refine ⟨?_,?_⟩))):SubLs L A B:=h
theorem evS {A:Nat→Option VP} {L:List Item} {x:Operand} {B:VP} (h:Ev A L x B:=by (first|exact er rfl|exact Ev.sub rfl (by (repeat' (first|exact SubL.rfl' | exact SubL.nil|exact SubL.top|exact SubL.fresh|exact trivial|refine SubL.agg ?_|refine SubL.tup ?_|exact SubL.fact (by repeat (first|exact List.Mem.head _|apply List.Mem.tail))|refine SubL.row rf rf ?_|refine SubL.lit rfl ?_|refine SubL.iteT (by first|assumption|(simp;done)|(simp;omega)|(simp_all;done)) ?_|exact SubL.eq (congrArg Is (qcz (by first|decide|omega)))|exact SubL.eq (congrArg Is (qda (by first|decide|omega)))|refine ⟨?_,?_⟩))))):Ev A L x B:=h
theorem evG {A:Nat→Option VP} {L:List Item} {x:Operand} {B:VP} (h:Ev A L x B:=by (first|exact er rfl|exact Ev.sub rfl (SubL.iteT (by first|assumption|(simp;done)|(simp;omega)|(simp_all;done)) SubL.rfl'))):Ev A L x B:=h
theorem qgi {A:Nat→Option VP} {L:List Item} {x:Operand} {B:VP} (h:Ev A L x B:=by (first|exact er rfl|exact Ev.sub rfl (SubL.eq (congrArg Is (qcz (by first|decide|omega)))))):Ev A L x B:=h
theorem ql1 {A:Nat→Option VP} {L:List Item} {x:Operand} {B:VP} (h:Ev A L x B:=by (first|exact er rfl|exact Ev.sub rfl (SubL.eq (congrArg Is (qda (by first|decide|omega)))))):Ev A L x B:=h
theorem qiv {A:Nat→Option VP} {L:List Item} {x:Operand} {B:VP} (h:Ev A L x B:=by (first|exact er rfl|exact Ev.sub rfl (SubL.iteT (by first|assumption|(simp;done)|(simp;omega)|(simp_all;done)) SubL.rfl')|exact Ev.sub rfl (SubL.eq (congrArg Is (qcz (by first|decide|omega))))|exact Ev.sub rfl (SubL.iteT (by first|assumption|(simp;done)|(simp;omega)|(simp_all;done)) (SubL.eq (congrArg Is (qcz (by first|decide|omega))))))):Ev A L x B:=h
theorem qiw {A:Nat→Option VP} {L:List Item} {x:Operand} {B:VP} (h:Ev A L x B:=by (first|exact er rfl|exact Ev.sub rfl (SubL.iteT (by first|assumption|(simp;done)|(simp;omega)|(simp_all;done)) SubL.rfl')|exact Ev.sub rfl (SubL.eq (congrArg Is (qda (by first|decide|omega))))|exact Ev.sub rfl (SubL.iteT (by first|assumption|(simp;done)|(simp;omega)|(simp_all;done)) (SubL.eq (congrArg Is (qda (by first|decide|omega))))))):Ev A L x B:=h
theorem qbp {a:Item} {l:List Item} (h:a∈l:=by (repeat (first|exact List.Mem.head _|apply List.Mem.tail))):a∈l:=h
theorem qae {L L':List Item} {a b:Item} (h:Repl L a b L':=by (repeat (first|exact Repl.head _ _ _|apply Repl.tail))):Repl L a b L':=h
theorem qbn {A:VP} {As:List VP} (h:qdx A As:=by (first|exact qok|exact qrw rfl|exact qrv|exact qoi|exact qoj rfl)):qdx A As:=h
theorem qfv {k:IntKind} {n r:Int} (h:k.wrap n=r:=by (first|exact qo3 (by omega)|exact wU64 (by omega)|exact wU32 (by omega)|rfl)):k.wrap n=r:=h
theorem qy3 {k:IntKind} {n r:Int} (h:k.wrap n=r:=by (first|with_reducible exact qzu _|with_reducible exact qzx _|with_reducible exact to_u8_8 _|with_reducible exact to_u64_8 _|with_reducible exact qzv _|with_reducible exact to_u8_64 _|with_reducible exact qzw _|with_reducible exact to_i64_8 _|with_reducible exact qzz _|exact qo3 (by first|omega|assumption)|exact wU64 (by omega)|exact wU32 (by omega)|with_reducible exact qzy _|with_reducible exact qhs _|with_reducible exact qx8 _|with_reducible exact qsp _|rfl)):k.wrap n=r:=h
theorem qga {L L':List Item} (h:LendL L L':=by (repeat (first|with_reducible exact LendL.nil|with_reducible apply LendL.buf|with_reducible apply LendL.blk|with_reducible apply LendL.keep))):LendL L L':=h
theorem qqx {R:VP} (h:qlw R:=by (repeat (first|with_reducible exact qc3|exact trivial|with_reducible refine pure_tup ?_|with_reducible refine pure_agg ?_|(with_reducible refine pure_ex (fun _=>?_))|refine ⟨?_,?_⟩))):qlw R:=h
theorem qbl {L:List Item} {E E':Env} (h:ESub L E E':=by ((repeat (refine ⟨⟨_,rfl,(by (repeat' (first|exact SubL.rfl' | exact SubL.nil|exact SubL.top|exact SubL.fresh|exact trivial|refine SubL.agg ?_|refine SubL.tup ?_|exact SubL.fact (by repeat (first|exact List.Mem.head _|apply List.Mem.tail))|refine SubL.row rf rf ?_|refine SubL.lit rfl ?_|refine SubL.iteT (by first|assumption|(simp;done)|(simp;omega)|(simp_all;done)) ?_|exact SubL.eq (congrArg Is (qcz (by first|decide|omega)))|exact SubL.eq (congrArg Is (qda (by first|decide|omega)))|refine ⟨?_,?_⟩)))⟩,?_⟩));exact trivial)):ESub L E E':=h
theorem qab {L M:List Item} (h:SubP M L:=by (repeat (first|exact SubP.nil _|refine SubP.cons (by repeat (first|exact Drop1.here _ _|apply Drop1.next)) ?_))):SubP M L:=h
theorem qbt {p:Prop} (h:p:=by (first|omega|(simp;done)|(simp;omega))):p:=h
theorem qca {p:Prop} (h:p:=by (first|rfl|assumption|omega)):p:=h
section
variable {P:Program} {c:Ctx} {A:Nat→Option VP} {L:List Item} {d:Option Tmp} {ty:TypeId} {pos:String} {af:Array Edge} {g:Option (Nat×Bool)}
theorem zau {φ:Fz} {As:List VP} {vs:List Value} {t:TypeId} {D:TypeDesc} {o:Nat} {B:VP} {w:World} (h:Alls φ As vs) (hu:P.underlying t=some D) (hD:qr4 D=false) (hB:As[o]?=some B):∃ v,(part t vs.toArray o).run P w = .ok v w∧B.ok φ v:=by
 obtain ⟨v,h3,h4⟩:=qxx h hB
 exact ⟨v,by simp only [part,Sem.run_bind,qfn hu,hD,Result.andThen_ok,h3];rfl,h4⟩
theorem qs4 {φ:Fz} {As Rs:List VP} {vs:List Value} {t:TypeId} {D:TypeDesc} {o n:Nat} {w:World} (h:Alls φ As vs) (h1:ones vs) (hu:P.underlying t=some D) (hD:qr4 D=true) (hn:(P.info? t).map (·.size)=some n) (hR:(As.drop o).take n=Rs) :
  ∃ v,(part t vs.toArray o).run P w = .ok v w∧(IsAgg Rs).ok φ v:=by
 refine ⟨.agg ((vs.drop o).take n).toArray,?_,(vs.drop o).take n,rfl,?_,fun u hu=>h1 u (List.mem_of_mem_drop (List.mem_of_mem_take hu))⟩
 ·simp only [part,Sem.run_bind,qfn hu,hD,Result.andThen_ok,if_true,qby hn,Sem.run_pure]
  congr 2
  apply Array.ext'
  simp
 ·rw [← hR];exact (h.drop o).take n
theorem qpr {s:TypeId} {x:Operand} {i:Nat} {fs:Array Field} {f:Field} {As:List VP} {B:VP} {D:TypeDesc} (hx:Ev A L x (IsAgg As)) (hu:P.underlying s=some (.struct fs)) (hf:fs[i]?=some f) (hD:P.underlying f.type=some D) (hd:qr4 D=false) (hB:As[f.offset]?=some B) :
  OpP P c ⟨d,.field s x i,ty,pos,af,g⟩ A L B:=
 opp fun φ a w hm he=>by
  obtain ⟨vs,h1,h2,h3⟩:(IsAgg As).ok φ (a.eval x):=he x (by simp [Op.operands]) _ hx
  obtain ⟨v,h4,h5⟩:=zau (w:=w) h2 hD hd hB
  refine ⟨v,?_,h5⟩
  simp only [execOp,h1]
  refine qcg ?_
  simp only [Instr.field,asAgg,Sem.run_bind,Sem.run_pure,run_underlying hu,Result.andThen_ok,hf]
  exact h4
theorem qlf {t e:TypeId} {x y:Operand} {As Rs:List VP} {len sz k:Nat} {j:Int} {q:IntKind} {D:TypeDesc} (hx:Ev A L x (IsAgg As)) (hy:Ev A L y (Is (.int q j))) (hu:P.underlying t=some (.array len e)) (hD:P.underlying e=some D) (hd:qr4 D=true) (hs:(P.info? e).map (·.size)=some sz) (hj:j=k) (hk:k<len) (hR:(As.drop (k*sz)).take sz=Rs) :
  OpP P c ⟨d,.index t x y,ty,pos,af,g⟩ A L (IsAgg Rs):=
 opp fun φ a w hm he=>by
  obtain ⟨vs,h1,h2,h3⟩:(IsAgg As).ok φ (a.eval x):=he x (by simp [Op.operands]) _ hx
  have h6:a.eval y = .int q j:=he y (by simp [Op.operands]) _ hy
  obtain ⟨v,h4,h5⟩:=qs4 (w:=w) h2 h3 hD hd hs hR
  refine ⟨v,?_,h5⟩
  have h7:(0:Int)≤j∧j<(len:Int):=by omega
  have h8:j.toNat=k:=by omega
  simp only [execOp,h1,h6]
  refine qcg ?_
  simp only [Instr.index,asIntOf,Sem.run_bind,Sem.run_pure,Result.andThen_ok,run_underlying hu,h7,and_self,if_true,qby hs,h8]
  exact h4
end
def SlN (w:World) (v:Value) (s n:Nat) (xs:List Value):Prop:=
 xs.length=n*s∧((∃ a c,v = .slice a 0 c∧n=0) ∨
  ∃ b o c,v = .slice (some ⟨b,o,none⟩) n c∧n≤c∧c≤maxLen∧b<w.heap.size∧∀ i u,xs[i]?=some u→w.cell? ⟨b,o+i,none⟩=some u)
def Sl (w:World) (v:Value) (xs:List Value):Prop:=SlN w v 1 xs.length xs
theorem SlN.below {w w':World} {v:Value} {s n:Nat} {xs:List Value} (h:SlN w v s n xs) {B:Nat} (hb:Below B w w') (hB:w.heap.size≤B):SlN w' v s n xs:=by
 obtain ⟨h1,h2⟩:=h
 refine ⟨h1,?_⟩
 rcases h2 with h2|⟨b,o,c,e1,e2,e3,e4,e5⟩
 ·exact .inl h2
 ·refine .inr ⟨b,o,c,e1,e2,e3,Nat.lt_of_lt_of_le e4 hb.size,fun i u hu=>?_⟩
  rw [hb.cell (p:=⟨b,o+i,none⟩) (by show b<B;omega)]
  exact e5 i u hu
theorem Sl.below {w w':World} {v:Value} {xs:List Value} (h:Sl w v xs) (hb:Below w.heap.size w w'):Sl w' v xs:=SlN.below h hb (Nat.le_refl _)
theorem Sl.cases {w:World} {v:Value} {xs:List Value} (h:Sl w v xs) :
  (∃ a c,v = .slice a 0 c∧xs=[])∨∃ b o c,v = .slice (some ⟨b,o,none⟩) xs.length c∧xs.length≤c∧c≤maxLen∧b<w.heap.size∧∀ i u,xs[i]?=some u→w.cell? ⟨b,o+i,none⟩=some u:=by
 rcases h.2 with ⟨a,c,e1,e2⟩|h2
 ·exact .inl ⟨a,c,e1,List.eq_nil_of_length_eq_zero e2⟩
 ·exact .inr h2
theorem Sl.nil (w:World):Sl w (.slice none 0 0) []:=⟨rfl,.inl ⟨_,_,rfl,rfl⟩⟩
def Blk (w:World) (b:Nat) (t:TypeId) (cs:Array Value):Prop:=w.heap[b]?=some (.cells cs t (0,0))
theorem Blk.lt {w:World} {b:Nat} {t:TypeId} {cs:Array Value} (h:Blk w b t cs):b<w.heap.size:=by
 rcases Nat.lt_or_ge b w.heap.size with hl|hl
 ·exact hl
 ·unfold Blk at h;rw [Array.getElem?_eq_none hl] at h;cases h
theorem Blk.cell {w:World} {b:Nat} {t:TypeId} {cs:Array Value} (h:Blk w b t cs) (i:Nat):w.cell? ⟨b,i,none⟩=cs[i]?:=cell_of_row w b i cs t (0,0) h
theorem Blk.frozen {w:World} {b:Nat} {t:TypeId} {cs:Array Value} (h:Blk w b t cs) (i:Nat):w.frozen? ⟨b,i,none⟩=false:=frozen_of_row w b i cs t h
theorem Blk.below {w w':World} {b:Nat} {t:TypeId} {cs:Array Value} (h:Blk w b t cs) {B:Nat} (hb:Below B w w') (hB:b<B):Blk w' b t cs:=(hb.block b hB).trans h
theorem Blk.new (w:World) (t:TypeId) (cs:Array Value):Blk (w.alloc (.cells cs t)) w.heap.size t cs:=heap_alloc_new w _
theorem qr5 (b o k:Nat):(⟨b,o,none⟩:Addr).add k=⟨b,o+k,none⟩:=Addr.add_lit b o k
def cutA (a:Option Addr) (cap lo s:Nat):Option Addr:=if cap=lo then a else a.map (·.add (lo*s))
@[go_sem ↓ high] theorem sliced_cutA (a:Option Addr) (l h m s:Nat):sliced a l h m s = .slice (cutA a m l s) (h-l) (m-l):=rfl
theorem Sl.cut {w:World} {a:Option Addr} {n c:Nat} {xs:List Value} (h:Sl w (.slice a n c) xs) {lo hi:Nat} (h1:lo≤hi) (h2:hi≤n) {A:Option Addr} {c':Nat}
  (hA':A=cutA a c lo 1) (hc:c'=c-lo):Sl w (.slice A (hi-lo) c') ((xs.take hi).drop lo):=by
 have hA:A=if c=lo then a else a.map (·.add lo):=by rw [hA'];unfold cutA;simp
 have hn:xs.length=n:=by
  rcases h.cases with ⟨a',c'',e,rfl⟩|⟨b,o,c'',e,_⟩
  ·injection e with _ e2 _;rw [e2];rfl
  ·injection e with _ e2 _;exact e2.symm
 have hl:((xs.take hi).drop lo).length=hi-lo:=by rw [List.length_drop,List.length_take];omega
 refine ⟨by simp,?_⟩
 rw [hl]
 by_cases h0:hi-lo=0
 ·exact .inl ⟨A,c',by rw [h0],h0⟩
 ·rcases h.cases with ⟨a',c'',e,rfl⟩|⟨b,o,c'',e,e2,e3,e4,e5⟩
  ·simp at hn;omega
  ·injection e with g1 g2 g3
   subst g1 g3
   rw [if_neg (by omega)] at hA
   subst hA
   refine .inr ⟨b,o+lo,c',by rw [Option.map_some,qr5],by omega,by omega,e4,fun i u hu=>?_⟩
   rw [Nat.add_assoc]
   apply e5
   rw [List.getElem?_drop] at hu
   have hlt:lo+i<hi:=by
    rcases Nat.lt_or_ge (lo+i) hi with g|g
    ·exact g
    ·rw [List.getElem?_eq_none (by rw [List.length_take];omega)] at hu;cases hu
   rw [List.getElem?_take_of_lt hlt] at hu
   exact hu
theorem Sl.len {w:World} {a:Option Addr} {n c:Nat} {xs:List Value} (h:Sl w (.slice a n c) xs):xs.length=n:=by
 rcases h.cases with ⟨a',c'',e,rfl⟩|⟨b,o,c'',e,_⟩
 ·injection e with _ e2 _;rw [e2];rfl
 ·injection e with _ e2 _;exact e2.symm
@[go_sem high] theorem min_nat {P:Program} {w:World} (ts:Array TypeId) (t:TypeId) (k k':IntKind) (x y:Nat):(Builtin.min_ ts t #[.int k (x:Int),.int k' (y:Int)]).run P w = .ok (.int k ((min x y:Nat):Int)) w:=by
 rw [run_min_int2]
 congr 2
 split <;> omega
@[go_sem high] theorem max_nat {P:Program} {w:World} (ts:Array TypeId) (t:TypeId) (k k':IntKind) (x y:Nat):(Builtin.max_ ts t #[.int k (x:Int),.int k' (y:Int)]).run P w = .ok (.int k ((max x y:Nat):Int)) w:=by
 rw [run_max_int2]
 congr 2
 split <;> omega
theorem Sl.at_ {w:World} {a:Option Addr} {n c:Nat} {xs:List Value} (h:Sl w (.slice a n c) xs) {k:Nat} (hk:k<n) :
  ∃ b o,a=some ⟨b,o,none⟩∧b<w.heap.size∧∀ u,xs[k]?=some u→w.cell? ⟨b,o+k,none⟩=some u:=by
 rcases h.cases with ⟨a',c'',e,rfl⟩|⟨b,o,c'',e,e2,e3,e4,e5⟩
 ·injection e with _ e2 _;omega
 ·injection e with g1 g2 g3
  exact ⟨b,o,g1,e4,e5 k⟩
theorem Blk.alloc {w:World} {b:Nat} {t:TypeId} {cs:Array Value} (h:Blk w b t cs) (o:Obj):Blk (w.alloc o) b t cs:=(Below.heap_alloc w o b h.lt).trans h
structure Mb where
 n:Int
 b:Int
 f:Bool
 deriving DecidableEq
def Mb.cells (m:Mb):List Value:=[.int .i64 m.n,.int .i64 m.b,.bool m.f]
def Mb.val (m:Mb):Value:=.agg #[.int .i64 m.n,.int .i64 m.b,.bool m.f]
def Mb.at (ms:List Mb) (k:Nat):Mb:=ms.getD k ⟨0,0,false⟩
def SlM (w:World) (v:Value) (ms:List Mb):Prop:=SlN w v 3 ms.length (ms.flatMap Mb.cells)
theorem qyt (ms:List Mb) (k j:Nat) (hk:k<ms.length) (hj:j<3):(ms.flatMap Mb.cells)[k*3+j]?=((Mb.at ms k).cells)[j]?:=by
 induction ms generalizing k with
 | nil=>simp at hk
 | cons p ms ih =>
  rw [List.flatMap_cons]
  cases k with
  | zero=>rw [List.getElem?_append_left (by simp [Mb.cells];omega)];simp [Mb.at]
  | succ k =>
   rw [List.getElem?_append_right (by simp [Mb.cells];omega)]
   have e:(k+1)*3+j-p.cells.length=k*3+j:=by simp [Mb.cells];omega
   rw [e,ih k (by simpa using hk)]
   simp [Mb.at]
def MbAt (w:World) (b o:Nat) (m:Mb):Prop:=
 w.cell? ⟨b,o,none⟩=some (.int .i64 m.n)∧w.cell? ⟨b,o+1,none⟩=some (.int .i64 m.b)∧w.cell? ⟨b,o+2,none⟩=some (.bool m.f)
theorem SlM.len {w:World} {a:Option Addr} {n c:Nat} {ms:List Mb} (h:SlM w (.slice a n c) ms):ms.length=n:=by
 rcases h.2 with ⟨a',c',e,e2⟩|⟨b,o,c',e,_⟩
 ·injection e with _ e3 _;omega
 ·injection e with _ e3 _;exact e3.symm
theorem SlM.form {w:World} {v:Value} {ms:List Mb} (h:SlM w v ms):∃ a c,v = .slice a ms.length c:=by
 rcases h.2 with ⟨a',c',e,e2⟩|⟨b,o,c',e,_⟩
 ·exact ⟨a',c',by rw [e,e2]⟩
 ·exact ⟨_,c',e⟩
theorem SlM.at_ {w:World} {a:Option Addr} {n c:Nat} {ms:List Mb} (h:SlM w (.slice a n c) ms) {k:Nat} (hk:k<n) :
  ∃ b o,a=some ⟨b,o,none⟩∧b<w.heap.size∧∀ j,j<n→MbAt w b (o+j*3) (Mb.at ms j):=by
 have hl:=h.len
 rcases h.2 with ⟨a',c',e,e2⟩|⟨b,o,c',e,e2,e3,e4,e5⟩
 ·omega
 ·injection e with g1 g2 g3
  refine ⟨b,o,g1,e4,fun i hi=>?_⟩
  have g:∀ j,j<3→∀ u,((Mb.at ms i).cells)[j]?=some u→w.cell? ⟨b,o+i*3+j,none⟩=some u:=fun j hj u hu=>by
   rw [Nat.add_assoc]
   exact e5 _ u ((qyt ms i j (by omega) hj).trans hu)
  exact ⟨g 0 (by omega) _ rfl,g 1 (by omega) _ rfl,g 2 (by omega) _ rfl⟩
theorem SlM.below {w w':World} {v:Value} {ms:List Mb} (h:SlM w v ms) (hb:Below w.heap.size w w'):SlM w' v ms:=SlN.below h hb (Nat.le_refl _)
theorem SlM.alloc {w:World} {v:Value} {ms:List Mb} (h:SlM w v ms) (o:Obj):SlM (w.alloc o) v ms:=h.below ((Below.refl _ _).alloc (Nat.le_refl _) o)
theorem SlM.nil (w:World):SlM w (.slice none 0 0) []:=⟨rfl,.inl ⟨_,_,rfl,rfl⟩⟩
theorem MbAt.below {w w':World} {b o:Nat} {m:Mb} {B:Nat} (h:MbAt w b o m) (hb:Below B w w') (hB:b<B):MbAt w' b o m:=by
 have k:∀ x,w'.cell? ⟨b,x,none⟩=w.cell? ⟨b,x,none⟩:=fun x=>hb.cell (p:=⟨b,x,none⟩) hB
 unfold MbAt at *
 simp only [k]
 exact h
def tI64:Ty Int:=⟨1,fun n=>[Is (.int .i64 n)],fun _=>rfl⟩
def qur:Ty (BitVec 64):=⟨1,fun n=>[Is (.int .u64 (UV n))],fun _=>rfl⟩
def pageV (l:Int) (h d0 d1 d2 d3 d4 d5 d6:BitVec 64):Value:=
 .agg #[.int .i64 l,.int .u64 (UV h),.int .u64 (UV d0),.int .u64 (UV d1),.int .u64 (UV d2),.int .u64 (UV d3),.int .u64 (UV d4),.int .u64 (UV d5),.int .u64 (UV d6)]
theorem u64_one:∃ i,Tryz.prog.info? 24=some i:=by
 have h:(Tryz.prog.info? 24).isSome=true:=by kernel_rfl
 exact Option.isSome_iff_exists.1 h
set_option maxHeartbeats 1000000 in
@[go_sem high] theorem eq7 (d:Nat) (w:World) (a0 a1 a2 a3 a4 a5 a6 b0 b1 b2 b3 b4 b5 b6:BitVec 64) :
  (Op.equalIn (d+2) 51 (.agg #[.int .u64 (UV a0),.int .u64 (UV a1),.int .u64 (UV a2),.int .u64 (UV a3),.int .u64 (UV a4),.int .u64 (UV a5),.int .u64 (UV a6)])
   (.agg #[.int .u64 (UV b0),.int .u64 (UV b1),.int .u64 (UV b2),.int .u64 (UV b3),.int .u64 (UV b4),.int .u64 (UV b5),.int .u64 (UV b6)])).run Tryz.prog w =
  .ok (a0==b0&&(a1==b1&&(a2==b2&&(a3==b3&&(a4==b4&&(a5==b5&&a6==b6)))))) w:=by
 obtain ⟨i,hi⟩:=u64_one
 rw [show d+2=(d+1)+1 from rfl,run_equalIn_array w (d+1) _ _ Tryz.underlying51 hi]
 have hc:Tryz.prog.cellsOf 24=1:=by kernel_rfl
 rw [hc]
 have hp:∀ (cs:Array Value) (k:Nat) (h:k<cs.size) (w:World),(part 24 cs k).run Tryz.prog w = .ok cs[k] w:=by
  intro cs k h w
  simp [part,isAgg,run_underlying Tryz.underlying24,h]
 have he:∀ (a b:BitVec 64) (w:World),(Op.equalIn (d+1) 24 (.int .u64 (UV a)) (.int .u64 (UV b))).run Tryz.prog w = .ok (a==b) w:=by
  intro a b w
  rw [run_equalIn_int w d _ .u64 .u64 _ _ Tryz.underlying24,UV_beq]
 simp only [List.range_succ,List.range_zero,List.nil_append,List.cons_append,Op.eqItems,Sem.run_bind,Nat.mul_one]
 simp [hp,he]
 by_cases h0:a0=b0
 case neg=>simp [h0]
 by_cases h1:a1=b1
 case neg=>simp [h0,h1]
 by_cases h2:a2=b2
 case neg=>simp [h0,h1,h2]
 by_cases h3:a3=b3
 case neg=>simp [h0,h1,h2,h3]
 by_cases h4:a4=b4
 case neg=>simp [h0,h1,h2,h3,h4]
 by_cases h5:a5=b5
 case neg=>simp [h0,h1,h2,h3,h4,h5]
 by_cases h6:a6=b6
 case neg=>simp [h0,h1,h2,h3,h4,h5,h6]
 simp [h0,h1,h2,h3,h4,h5,h6]
structure Pg where
 l:Int
 h:BitVec 64
 d0:BitVec 64
 d1:BitVec 64
 d2:BitVec 64
 d3:BitVec 64
 d4:BitVec 64
 d5:BitVec 64
 d6:BitVec 64
 deriving DecidableEq
def Pg.cells (p:Pg):List Value:=[.int .i64 p.l,.int .u64 (UV p.h),.int .u64 (UV p.d0),.int .u64 (UV p.d1),.int .u64 (UV p.d2),.int .u64 (UV p.d3),.int .u64 (UV p.d4),.int .u64 (UV p.d5),.int .u64 (UV p.d6)]
def Pg.val (p:Pg):Value:=pageV p.l p.h p.d0 p.d1 p.d2 p.d3 p.d4 p.d5 p.d6
def SlP (w:World) (v:Value) (ps:List Pg):Prop:=SlN w v 9 ps.length (ps.flatMap Pg.cells)
theorem zcm (ps:List Pg) (k j:Nat) (hk:k<ps.length) (hj:j<9):(ps.flatMap Pg.cells)[k*9+j]?=(ps[k].cells)[j]?:=by
 induction ps generalizing k with
 | nil=>simp at hk
 | cons p ps ih =>
  rw [List.flatMap_cons]
  cases k with
  | zero=>rw [List.getElem?_append_left (by simp [Pg.cells];omega)];simp
  | succ k =>
   rw [List.getElem?_append_right (by simp [Pg.cells];omega)]
   have e:(k+1)*9+j-p.cells.length=k*9+j:=by simp [Pg.cells];omega
   rw [e,ih k (by simpa using hk)]
   rfl
def PgAt (w:World) (b o:Nat) (p:Pg):Prop:=
 w.cell? ⟨b,o,none⟩=some (.int .i64 p.l)∧w.cell? ⟨b,o+1,none⟩=some (.int .u64 (UV p.h))∧w.cell? ⟨b,o+2,none⟩=some (.int .u64 (UV p.d0))∧w.cell? ⟨b,o+3,none⟩=some (.int .u64 (UV p.d1)) ∧
 w.cell? ⟨b,o+4,none⟩=some (.int .u64 (UV p.d2))∧w.cell? ⟨b,o+5,none⟩=some (.int .u64 (UV p.d3))∧w.cell? ⟨b,o+6,none⟩=some (.int .u64 (UV p.d4))∧w.cell? ⟨b,o+7,none⟩=some (.int .u64 (UV p.d5))∧w.cell? ⟨b,o+8,none⟩=some (.int .u64 (UV p.d6))
theorem SlP.len {w:World} {a:Option Addr} {n c:Nat} {ps:List Pg} (h:SlP w (.slice a n c) ps):ps.length=n:=by
 rcases h.2 with ⟨a',c',e,e2⟩|⟨b,o,c',e,_⟩
 ·injection e with _ e3 _;omega
 ·injection e with _ e3 _;exact e3.symm
theorem SlP.form {w:World} {v:Value} {ps:List Pg} (h:SlP w v ps):∃ a c,v = .slice a ps.length c:=by
 rcases h.2 with ⟨a',c',e,e2⟩|⟨b,o,c',e,_⟩
 ·exact ⟨a',c',by rw [e,e2]⟩
 ·exact ⟨_,c',e⟩
theorem SlP.at_ {w:World} {a:Option Addr} {n c:Nat} {ps:List Pg} (h:SlP w (.slice a n c) ps) {k:Nat} (hk:k<ps.length) :
  ∃ b o,a=some ⟨b,o,none⟩∧b<w.heap.size∧PgAt w b (o+k*9) ps[k]:=by
 have hl:=h.len
 rcases h.2 with ⟨a',c',e,e2⟩|⟨b,o,c',e,e2,e3,e4,e5⟩
 ·omega
 ·injection e with g1 g2 g3
  refine ⟨b,o,g1,e4,?_⟩
  have g:∀ j,j<9→∀ u,(ps[k].cells)[j]?=some u→w.cell? ⟨b,o+k*9+j,none⟩=some u:=fun j hj u hu=>by
   rw [Nat.add_assoc]
   exact e5 _ u ((zcm ps k j hk hj).trans hu)
  exact ⟨g 0 (by omega) _ rfl,g 1 (by omega) _ rfl,g 2 (by omega) _ rfl,g 3 (by omega) _ rfl,g 4 (by omega) _ rfl,g 5 (by omega) _ rfl,g 6 (by omega) _ rfl,g 7 (by omega) _ rfl,g 8 (by omega) _ rfl⟩
theorem SlP.below {w w':World} {v:Value} {ps:List Pg} (h:SlP w v ps) (hb:Below w.heap.size w w'):SlP w' v ps:=SlN.below h hb (Nat.le_refl _)
theorem PgAt.below {w w':World} {b o:Nat} {p:Pg} {B:Nat} (h:PgAt w b o p) (hb:Below B w w') (hB:b<B):PgAt w' b o p:=by
 have k:∀ x,w'.cell? ⟨b,x,none⟩=w.cell? ⟨b,x,none⟩:=fun x=>hb.cell (p:=⟨b,x,none⟩) hB
 unfold PgAt at *
 simp only [k]
 exact h
theorem SlP.alloc {w:World} {v:Value} {ps:List Pg} (h:SlP w v ps) (o:Obj):SlP (w.alloc o) v ps:=h.below ((Below.refl _ _).alloc (Nat.le_refl _) o)
def tPg:Ty Pg:=⟨9,fun p=>[Is (.int .i64 p.l),Is (.int .u64 (UV p.h)),Is (.int .u64 (UV p.d0)),Is (.int .u64 (UV p.d1)),Is (.int .u64 (UV p.d2)),Is (.int .u64 (UV p.d3)),Is (.int .u64 (UV p.d4)),Is (.int .u64 (UV p.d5)),Is (.int .u64 (UV p.d6))],fun _=>rfl⟩
@[reducible] def qdw (p:Pg):VP:=IsAgg (tPg.cells p)
theorem qir (w:Nat) (k:Nat) (x:BitVec w) (m:BitVec w) (hm:m.toNat=2 ^ k-1):UV (x&&&m)=UV x % 2 ^ k:=by
 unfold UV
 rw [BitVec.toNat_and,hm,Nat.and_two_pow_sub_one_eq_mod]
 push_cast;rfl
theorem qlu (w:Nat) (x:BitVec w) (n:Nat):UV (x>>>n)=UV x / 2 ^ n:=by
 unfold UV
 rw [BitVec.toNat_ushiftRight,Nat.shiftRight_eq_div_pow]
 push_cast;rfl
structure Pt where
 line:Int
 gen:Int
 deriving DecidableEq
def tPt:Ty Pt:=⟨2,fun p=>[Is (.int .i64 p.line),Is (.int .i64 p.gen)],fun _=>rfl⟩
@[reducible] def qm6 (p:Pt):VP:=IsAgg (tPt.cells p)
def Pt.nil:Pt:=⟨0,0⟩
def qob (l:Int):Bool:=decide (l≥104)&&decide (l<256)
def qdz (p:Pt):Bool:=qob p.line&&decide (p.gen≥1)&&decide (p.gen≤16777215)
def qc1 (w:BitVec 32):Pt:=⟨UV w % 256,UV w / 256⟩
def qg2 (p:Pt):BitVec 32:=if qdz p then BitVec.ofInt 32 (p.line+256*p.gen) else 0#32
theorem validP_iff {p:Pt}:qdz p=true↔104≤p.line∧p.line<256∧1≤p.gen∧p.gen≤16777215:=by
 unfold qdz qob
 simp only [Bool.and_eq_true,decide_eq_true_eq]
 omega
theorem qj8 {n:Int} (h:0≤n∧n<4294967296):UV (BitVec.ofInt 32 n)=n:=by
 unfold UV
 rw [BitVec.toNat_ofInt];omega
theorem quw {p:Pt} (h:qdz p=true):qc1 (qg2 p)=p:=by
 have h1:=validP_iff.1 h
 unfold qc1 qg2
 rw [if_pos h,qj8 (by omega)]
 obtain ⟨l,g⟩:=p
 dsimp only at h1 ⊢
 congr 1 <;> omega
theorem qu9 {w:BitVec 32} (h:qdz (qc1 w)=true):qg2 (qc1 w)=w:=by
 have h2:=UV_lt w
 have h3:=qbj w
 unfold qg2
 rw [if_pos h]
 unfold qc1
 dsimp only
 rw [show UV w % 256+256*(UV w / 256)=UV w by omega,qjw]
theorem pack_ne {p:Pt} (h:qdz p=true):qg2 p≠0#32:=fun e=>by
 have h1:=validP_iff.1 h
 have h2:UV (qg2 p)=p.line+256*p.gen:=by unfold qg2;rw [if_pos h,qj8 (by omega)]
 rw [e] at h2
 simp [UV] at h2
 omega
theorem pack_or {p:Pt} (h:qdz p=true):BitVec.ofInt 32 p.gen<<<8|||BitVec.ofInt 32 p.line=qg2 p:=by
 have h1:=validP_iff.1 h
 have hg:(BitVec.ofInt 32 p.gen).toNat=p.gen.toNat:=by rw [BitVec.toNat_ofInt];omega
 have hl:(BitVec.ofInt 32 p.line).toNat=p.line.toNat:=by rw [BitVec.toNat_ofInt];omega
 unfold qg2
 rw [if_pos h]
 apply BitVec.eq_of_toNat_eq
 rw [BitVec.toNat_or,BitVec.toNat_shiftLeft,hg,hl,BitVec.toNat_ofInt]
 have e:p.gen.toNat<<<8 % 2 ^ 32=2 ^ 8*p.gen.toNat:=by rw [Nat.shiftLeft_eq];omega
 rw [e,← Nat.two_pow_add_eq_or_of_lt (by omega:p.line.toNat<2 ^ 8)]
 omega
theorem pack_add {p:Pt} (h:qdz p=true):BitVec.ofInt 32 p.line+256#32*BitVec.ofInt 32 p.gen=qg2 p:=by
 have h1:=validP_iff.1 h
 unfold qg2
 rw [if_pos h]
 apply BitVec.eq_of_toNat_eq
 simp only [BitVec.toNat_add,BitVec.toNat_mul,BitVec.toNat_ofInt,BitVec.toNat_ofNat]
 omega
theorem zav {p:Pt} (h:qdz p=false):qg2 p=0#32:=by unfold qg2;rw [h];rfl
theorem qux (x:BitVec 32):qc1 x=⟨UV (x&&&BitVec.ofInt 32 255),UV (x>>>8)⟩:=by
 have h1:=qir 32 8 x (BitVec.ofInt 32 255) rfl
 have h2:=qlu 32 x 8
 rw [h1,h2];rfl
theorem qx7 (x:BitVec 32):qc1 x=⟨IntKind.i64.wrap ((UV x).tmod 256),IntKind.i64.wrap (IntKind.u32.wrap ((UV x).tdiv 256))⟩:=by
 have h1:=qbj x
 have h2:=UV_lt x
 rw [Int.tmod_eq_emod_of_nonneg h1,Int.tdiv_eq_ediv_of_nonneg h1,wU32 (n:=UV x / 256) (by omega),qo3 (n:=UV x % 256) (by omega),qo3 (n:=UV x / 256) (by omega)]
 rfl
def Pt.cells (p:Pt):List Value:=[.int .i64 p.line,.int .i64 p.gen]
section
theorem qty (p q:Pt) (w:World):(Op.equal 88 (.agg p.cells.toArray) (.agg q.cells.toArray)).run Tryz.prog w = .ok (decide (p=q)) w:=by
 have h:(Op.equalIn (9999+1) 88 (.agg #[.int .i64 p.line,.int .i64 p.gen]) (.agg #[.int .i64 q.line,.int .i64 q.gen])).run Tryz.prog w = .ok (decide (p=q)) w:=by
  go_simp
  obtain ⟨a,b⟩:=p
  obtain ⟨a',b'⟩:=q
  by_cases h1:a=a' <;> by_cases h2:b=b' <;> simp [h1,h2]
 exact h
theorem qkq (o:BinOp) (x y:Operand) (p q:Pt) (w:World):(eqGuard o 88 x y (.agg p.cells.toArray) (.agg q.cells.toArray)).run Tryz.prog w = .ok () w:=by
 have h:Tryz.prog.eqGuardType Tryz.prog.depth 88=false:=by kernel_rfl
 cases o <;> simp [eqGuard,program,Sem.run,h]
theorem qtz (p q:Pt) (w:World):(binOp .eql 88 (.agg p.cells.toArray) (.agg q.cells.toArray)).run Tryz.prog w = .ok (.bool (decide (p=q))) w:=by
 simp only [binOp,Sem.run_bind,qty,Result.andThen_ok,Sem.run_pure]
theorem zcg (p q:Pt) (w:World):(binOp .neq 88 (.agg p.cells.toArray) (.agg q.cells.toArray)).run Tryz.prog w = .ok (.bool (!decide (p=q))) w:=by
 simp only [binOp,Sem.run_bind,qty,Result.andThen_ok,Sem.run_pure]
end
end Go.Proofs.YtmgoplaamlignaaGreat
