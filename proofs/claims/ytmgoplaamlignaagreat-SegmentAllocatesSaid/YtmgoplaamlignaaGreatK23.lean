/- Texts laid together: walks of functions, what they compute, and plain laws of it. Own work. -/
import Derived.Test.YtmgoplaamlignaaGreatK20
import Derived.Test.YtmgoplaamlignaaGreatK8
import Derived.Test.YtmgoplaamlignaaGreatK22
import Derived.Test.YtmgoplaamlignaaGreatK12
import Derived.Test.YtmgoplaamlignaaGreatK11
import Derived.Test.YtmgoplaamlignaaGreatK1
namespace Go.Proofs.YtmgoplaamlignaaGreat
open Go.RowKit Tryz
set_option linter.unusedVariables false
set_option linter.unusedSimpArgs false
set_option maxRecDepth 100000
set_option maxHeartbeats 4000000
theorem qcl {L:List Item} {A B:List VP} (h:SubLs L A B:=by (repeat' (first|exact SubL.rfl' | exact trivial|refine ⟨?_,?_⟩|exact SubL.nil|exact SubL.eq (congrArg Is (qcz (by first|decide|omega)))|exact SubL.eq (congrArg Is (qda (by first|decide|omega)))))):SubLs L A B:=h
theorem subR {L:List Item} {A B:VP} (h:SubL L A B:=by (repeat' (first|exact SubL.rfl' | exact trivial|refine ⟨?_,?_⟩|exact SubL.nil|refine SubL.agg ?_|refine SubL.tup ?_|exact SubL.top|exact SubL.fresh|((with_reducible show SubL _ (qew _ _ _) _);first|exact SubL.row2 rf rf rf rf qcl qcl|exact SubL.row3 rf rf rf rf rf qcl qcl qcl|refine SubL.row rf rf ?_)|((with_reducible show SubL _ (Is _) (IsAgg _));refine SubL.lit rfl ?_)|((with_reducible show SubL _ (qdn _ _ _) _);refine SubL.iteT (by first|assumption|(simp;done)|(simp;omega)|(simp_all;done)) ?_)|exact SubL.eq (congrArg Is (qcz (by first|decide|omega)))|exact SubL.eq (congrArg Is (qda (by first|decide|omega)))|exact SubL.fact (by repeat (first|exact List.Mem.head _|apply List.Mem.tail))))):SubL L A B:=h
theorem ql5 {L:List Item} {A B:List VP} (h:SubLs L A B:=by (repeat' (first|exact SubL.rfl' | exact trivial|refine ⟨?_,?_⟩|exact SubL.nil|refine SubL.agg ?_|refine SubL.tup ?_|exact SubL.top|exact SubL.fresh|((with_reducible show SubL _ (qew _ _ _) _);first|exact SubL.row2 rf rf rf rf qcl qcl|exact SubL.row3 rf rf rf rf rf qcl qcl qcl|refine SubL.row rf rf ?_)|((with_reducible show SubL _ (Is _) (IsAgg _));refine SubL.lit rfl ?_)|((with_reducible show SubL _ (qdn _ _ _) _);refine SubL.iteT (by first|assumption|(simp;done)|(simp;omega)|(simp_all;done)) ?_)|exact SubL.eq (congrArg Is (qcz (by first|decide|omega)))|exact SubL.eq (congrArg Is (qda (by first|decide|omega)))|exact SubL.fact (by repeat (first|exact List.Mem.head _|apply List.Mem.tail))))):SubLs L A B:=h
theorem qe8 {L:List Item} {E E':Env} (h:ESub L E E':=by ((repeat (refine ⟨⟨_,rfl,(by (repeat' (first|exact SubL.rfl' | exact trivial|refine ⟨?_,?_⟩|exact SubL.nil|refine SubL.agg ?_|refine SubL.tup ?_|exact SubL.top|exact SubL.fresh|((with_reducible show SubL _ (qew _ _ _) _);first|exact SubL.row2 rf rf rf rf qcl qcl|exact SubL.row3 rf rf rf rf rf qcl qcl qcl|refine SubL.row rf rf ?_)|((with_reducible show SubL _ (Is _) (IsAgg _));refine SubL.lit rfl ?_)|((with_reducible show SubL _ (qdn _ _ _) _);refine SubL.iteT (by first|assumption|(simp;done)|(simp;omega)|(simp_all;done)) ?_)|exact SubL.eq (congrArg Is (qcz (by first|decide|omega)))|exact SubL.eq (congrArg Is (qda (by first|decide|omega)))|exact SubL.fact (by repeat (first|exact List.Mem.head _|apply List.Mem.tail)))))⟩,?_⟩));exact trivial)):ESub L E E':=h
theorem evR {A:Nat→Option VP} {L:List Item} {x:Operand} {B:VP} (h:Ev A L x B:=by (exact Ev.sub rfl (by first|with_reducible exact SubL.rfl' | ((with_reducible show SubL _ (IsAgg _) _);exact SubL.rfl')|((with_reducible show SubL _ (qew _ _ _) _);first|exact SubL.row2 rf rf rf rf qcl qcl|exact SubL.row3 rf rf rf rf rf qcl qcl qcl|exact SubL.row rf rf ql5)|(repeat' (first|exact SubL.rfl' | exact trivial|refine ⟨?_,?_⟩|exact SubL.nil|refine SubL.agg ?_|refine SubL.tup ?_|exact SubL.top|exact SubL.fresh|((with_reducible show SubL _ (qew _ _ _) _);first|exact SubL.row2 rf rf rf rf qcl qcl|exact SubL.row3 rf rf rf rf rf qcl qcl qcl|refine SubL.row rf rf ?_)|((with_reducible show SubL _ (Is _) (IsAgg _));refine SubL.lit rfl ?_)|((with_reducible show SubL _ (qdn _ _ _) _);refine SubL.iteT (by first|assumption|(simp;done)|(simp;omega)|(simp_all;done)) ?_)|exact SubL.eq (congrArg Is (qcz (by first|decide|omega)))|exact SubL.eq (congrArg Is (qda (by first|decide|omega)))|exact SubL.fact (by repeat (first|exact List.Mem.head _|apply List.Mem.tail))))))):Ev A L x B:=h
theorem subX {L:List Item} {A B:VP} (h:SubL L A B:=by (repeat' (first|exact SubL.rfl' | exact trivial|refine ⟨?_,?_⟩|exact SubL.nil|exact SubL.eq (congrArg Is (qcz (by decide)))|exact SubL.eq (congrArg Is (qda (by decide)))|refine SubL.aggN qbo ?_|refine SubL.tup ?_|exact SubL.top|exact SubL.fresh|((with_reducible show SubL _ (qew _ _ _) _);first|exact SubL.row2 rf rf rf rf qcl qcl|exact SubL.row3 rf rf rf rf rf qcl qcl qcl|refine SubL.row rf rf ?_)|((with_reducible show SubL _ (Is _) (IsAgg _));refine SubL.lit rfl ?_)|((with_reducible show SubL _ (qdn _ _ _) _);refine SubL.iteT (by first|assumption|(simp;done)|(simp;omega)|(simp_all;done)) ?_)|exact SubL.eq (congrArg Is (qcz (by first|decide|omega)))|exact SubL.eq (congrArg Is (qda (by first|decide|omega)))|exact SubL.fact (by repeat (first|exact List.Mem.head _|apply List.Mem.tail))))):SubL L A B:=h
theorem qkh {L:List Item} {A B:List VP} (h:SubLs L A B:=by (refine SubLs.nrmd qbo ?_;(repeat' (first|exact SubL.rfl' | exact trivial|refine ⟨?_,?_⟩|exact SubL.nil|exact SubL.eq (congrArg Is (qcz (by decide)))|exact SubL.eq (congrArg Is (qda (by decide)))|refine SubL.aggN qbo ?_|refine SubL.tup ?_|exact SubL.top|exact SubL.fresh|((with_reducible show SubL _ (qew _ _ _) _);first|exact SubL.row2 rf rf rf rf qcl qcl|exact SubL.row3 rf rf rf rf rf qcl qcl qcl|refine SubL.row rf rf ?_)|((with_reducible show SubL _ (Is _) (IsAgg _));refine SubL.lit rfl ?_)|((with_reducible show SubL _ (qdn _ _ _) _);refine SubL.iteT (by first|assumption|(simp;done)|(simp;omega)|(simp_all;done)) ?_)|exact SubL.eq (congrArg Is (qcz (by first|decide|omega)))|exact SubL.eq (congrArg Is (qda (by first|decide|omega)))|exact SubL.fact (by repeat (first|exact List.Mem.head _|apply List.Mem.tail)))))):SubLs L A B:=h
theorem qdl {L:List Item} {E E':Env} (h:ESub L E E':=by ((repeat (refine ⟨⟨_,rfl,(by (repeat' (first|exact SubL.rfl' | exact trivial|refine ⟨?_,?_⟩|exact SubL.nil|exact SubL.eq (congrArg Is (qcz (by decide)))|exact SubL.eq (congrArg Is (qda (by decide)))|refine SubL.aggN qbo ?_|refine SubL.tup ?_|exact SubL.top|exact SubL.fresh|((with_reducible show SubL _ (qew _ _ _) _);first|exact SubL.row2 rf rf rf rf qcl qcl|exact SubL.row3 rf rf rf rf rf qcl qcl qcl|refine SubL.row rf rf ?_)|((with_reducible show SubL _ (Is _) (IsAgg _));refine SubL.lit rfl ?_)|((with_reducible show SubL _ (qdn _ _ _) _);refine SubL.iteT (by first|assumption|(simp;done)|(simp;omega)|(simp_all;done)) ?_)|exact SubL.eq (congrArg Is (qcz (by first|decide|omega)))|exact SubL.eq (congrArg Is (qda (by first|decide|omega)))|exact SubL.fact (by repeat (first|exact List.Mem.head _|apply List.Mem.tail)))))⟩,?_⟩));exact trivial)):ESub L E E':=h
theorem evX {A:Nat→Option VP} {L:List Item} {x:Operand} {B:VP} (h:Ev A L x B:=by (first|exact er rfl|exact Ev.sub rfl (by (repeat' (first|exact SubL.rfl' | exact trivial|refine ⟨?_,?_⟩|exact SubL.nil|exact SubL.eq (congrArg Is (qcz (by decide)))|exact SubL.eq (congrArg Is (qda (by decide)))|refine SubL.aggN qbo ?_|refine SubL.tup ?_|exact SubL.top|exact SubL.fresh|((with_reducible show SubL _ (qew _ _ _) _);first|exact SubL.row2 rf rf rf rf qcl qcl|exact SubL.row3 rf rf rf rf rf qcl qcl qcl|refine SubL.row rf rf ?_)|((with_reducible show SubL _ (Is _) (IsAgg _));refine SubL.lit rfl ?_)|((with_reducible show SubL _ (qdn _ _ _) _);refine SubL.iteT (by first|assumption|(simp;done)|(simp;omega)|(simp_all;done)) ?_)|exact SubL.eq (congrArg Is (qcz (by first|decide|omega)))|exact SubL.eq (congrArg Is (qda (by first|decide|omega)))|exact SubL.fact (by repeat (first|exact List.Mem.head _|apply List.Mem.tail))))))):Ev A L x B:=h
theorem qce {α:Sort _} {b:Bool} {x y W:α} (hE:(if b=true then x else y)=W) (h:b=true):x=W:=by rw [← hE,if_pos h]
theorem qdr {α:Sort _} {b:Bool} {x y W:α} (hE:(if b=true then x else y)=W) (h:b=false):y=W:=by rw [← hE,if_neg (by rw [h];exact Bool.false_ne_true)]
theorem qdc {c:Ctx} {A:Nat→Option VP} {L:List Item} {d:Option Tmp} {x y:Operand} {u ty:TypeId} {pos:String} {af:Array Edge} {g:Option (Nat×Bool)} {a b e f:Int} (hx:Ev A L x (IsAgg [Is (.int .i64 a),Is (.int .i64 b)])) (hy:Ev A L y (IsAgg [Is (.int .i64 e),Is (.int .i64 f)])) :
  OpP Tryz.prog c ⟨d,.binOp .eql 88 x y u,ty,pos,af,g⟩ A L (Is (.bool (decide ((⟨a,b⟩:Pt)=⟨e,f⟩)))):=
 qes (vs:=Pt.cells ⟨a,b⟩) (ws:=Pt.cells ⟨e,f⟩) hx hy (qkq _ _ _ _ _) (qtz _ _)
theorem qhc {c:Ctx} {A:Nat→Option VP} {L:List Item} {d:Option Tmp} {x y:Operand} {u ty:TypeId} {pos:String} {af:Array Edge} {g:Option (Nat×Bool)} {a b e f:Int} (hx:Ev A L x (IsAgg [Is (.int .i64 a),Is (.int .i64 b)])) (hy:Ev A L y (IsAgg [Is (.int .i64 e),Is (.int .i64 f)])) :
  OpP Tryz.prog c ⟨d,.binOp .neq 88 x y u,ty,pos,af,g⟩ A L (Is (.bool (!decide ((⟨a,b⟩:Pt)=⟨e,f⟩)))):=
 qes (vs:=Pt.cells ⟨a,b⟩) (ws:=Pt.cells ⟨e,f⟩) hx hy (qkq _ _ _ _ _) (zcg _ _)
structure I3 where
 a:Int
 b:Int
 c:Int
deriving DecidableEq
def I3.cells (p:I3):List Value:=[.int .i64 p.a,.int .i64 p.b,.int .i64 p.c]
theorem qxq:∃ i,Tryz.prog.info? 2=some i:=by
 have h:(Tryz.prog.info? 2).isSome=true:=by kernel_rfl
 exact Option.isSome_iff_exists.1 h
theorem eqI3_run (p q:I3) (w:World):(Op.equal 156 (.agg p.cells.toArray) (.agg q.cells.toArray)).run Tryz.prog w = .ok (decide (p=q)) w:=by
 obtain ⟨a,b,c⟩:=p
 obtain ⟨a',b',c'⟩:=q
 obtain ⟨i,hi⟩:=qxq
 have h:(Op.equalIn (9999+1) 156 (.agg #[.int .i64 a,.int .i64 b,.int .i64 c]) (.agg #[.int .i64 a',.int .i64 b',.int .i64 c'])).run Tryz.prog w = .ok (decide ((⟨a,b,c⟩:I3)=⟨a',b',c'⟩)) w:=by
  rw [show 9999+1=9999+1 from rfl,run_equalIn_array w 9999 _ _ Tryz.underlying156 hi]
  have hc:Tryz.prog.cellsOf 2=1:=by kernel_rfl
  rw [hc]
  have hu:(isAgg 2).run Tryz.prog w = .ok false w:=qfn Tryz.underlying2 w
  simp only [List.range_succ,List.range_zero,List.nil_append,List.cons_append,Op.eqItems,part,Sem.run_bind,hu,Result.andThen_ok,Bool.false_eq_true,if_false,↓reduceIte]
  go_simp
  by_cases h1:a=a' <;> by_cases h2:b=b' <;> by_cases h3:c=c' <;> simp [h1,h2,h3]
 exact h
theorem qyz (o:BinOp) (x y:Operand) (p q:I3) (w:World):(eqGuard o 156 x y (.agg p.cells.toArray) (.agg q.cells.toArray)).run Tryz.prog w = .ok () w:=by
 have h:Tryz.prog.eqGuardType Tryz.prog.depth 156=false:=by kernel_rfl
 cases o <;> simp [eqGuard,program,Sem.run,h]
theorem eqI3_eql (p q:I3) (w:World):(binOp .eql 156 (.agg p.cells.toArray) (.agg q.cells.toArray)).run Tryz.prog w = .ok (.bool (decide (p=q))) w:=by
 simp only [binOp,Sem.run_bind,eqI3_run,Result.andThen_ok,Sem.run_pure]
theorem op_eqI3 {k:Ctx} {A:Nat→Option VP} {L:List Item} {d:Option Tmp} {x y:Operand} {u ty:TypeId} {pos:String} {af:Array Edge} {g:Option (Nat×Bool)} {a b c a' b' c':Int} (hx:Ev A L x (IsAgg [Is (.int .i64 a),Is (.int .i64 b),Is (.int .i64 c)])) (hy:Ev A L y (IsAgg [Is (.int .i64 a'),Is (.int .i64 b'),Is (.int .i64 c')])) :
  OpP Tryz.prog k ⟨d,.binOp .eql 156 x y u,ty,pos,af,g⟩ A L (Is (.bool (decide ((⟨a,b,c⟩:I3)=⟨a',b',c'⟩)))):=
 qes (vs:=I3.cells ⟨a,b,c⟩) (ws:=I3.cells ⟨a',b',c'⟩) hx hy (qyz _ _ _ _ _) (eqI3_eql _ _)
def Ln (p:Pg):Prop:=-1≤p.l∧p.l≤255
theorem qmq:Ln Pg.nil:=⟨(by decide:(-1:Int)≤0),(by decide:(0:Int)≤255)⟩
theorem ln0 {a b c d e f g h:BitVec 64}:Ln ⟨0,a,b,c,d,e,f,g,h⟩:=⟨(by decide:(-1:Int)≤0),(by decide:(0:Int)≤255)⟩
theorem qvl {p q:Pg} (h:q.l=p.l):Ln p→Ln q:=fun k=>by unfold Ln;rw [h];exact k
theorem lat_l (ks:List Pg) (l:Int):qb6 ks l=Pg.nil∨(qb6 ks l).l=l:=by
 unfold qb6 qgh
 cases h:(ks.filter fun p=>decide (p.l=l)).getLast? with
 | none=>exact .inl rfl
 | some p =>
  have h1:=List.mem_of_getLast? h
  exact .inr (of_decide_eq_true (List.mem_filter.1 h1).2)
theorem qdd (ks:List Pg) {l:Int} (h:-1≤l∧l≤255):Ln (qb6 ks l):=by
 rcases lat_l ks l with e|e
 ·rw [e];exact qmq
 ·unfold Ln;rw [e];exact h
theorem valid_l {p:Pt} (h:qdz p=true):104≤p.line∧p.line≤255:=by
 unfold qdz qob at h
 simp only [Bool.and_eq_true,decide_eq_true_eq] at h
 omega
theorem qe7 (ks:List Pg) (p:Pt) (k:Int) (o:Bool):Ln (lkV ks p k o).1:=by
 unfold lkV
 split
 ·exact qmq
 ·rename_i h
  have hv:=valid_l (p:=p) (by simpa using h)
  repeat' split
  all_goals first|exact qmq|exact qdd ks ⟨by omega,by omega⟩
theorem zbn (p:Pg) (k:Int) (a:BitVec 32):Ln (allR p k a).1:=by
 unfold allR
 split
 ·exact qmq
 ·rename_i h
  have hv:Ln p:=by
   unfold Ln
   unfold qob at h
   simp at h
   omega
  repeat' split
  all_goals first|exact qmq|exact hv
theorem ln_rel (p:Pg):Ln (relR p).1:=by
 unfold relR
 split
 ·exact qmq
 ·rename_i h
  have hv:Ln p:=by
   unfold Ln
   unfold qob at h
   simp at h
   omega
  repeat' split
  all_goals first|exact qmq|exact hv
theorem qrg (s:Int):-1≤qas s∧qas s≤255:=by
 unfold qas
 split <;> omega
theorem ln_readN {p:Pg} (h:(qcu p).2=0):Ln p:=by
 cases ho:qmo p.l with
 | false=>unfold qcu at h;rw [if_neg (by rw [ho];exact Bool.false_ne_true)] at h;exact absurd (show (1:Int)=0 from h) (by decide)
 | true =>
  unfold qmo at ho
  simp at ho
  exact ⟨by omega,by omega⟩
theorem qf9 {p:Pg} (n:Nd) (h:Ln p):Ln (qdk p n).1:=by
 unfold qdk
 repeat' split
 all_goals first|exact qmq|exact h
def WL (n:Nat) (ws:List Pg):Prop:=ws.length≤n∧∀ p,p∈ws→Ln p
theorem wl0 {n:Nat}:WL n []:=⟨Nat.zero_le _,fun _ h=>absurd h List.not_mem_nil⟩
theorem wl1 {n:Nat} {p:Pg} (h:Ln p):WL (n+1) [p]:=⟨by simp,fun q hq=>by rw [List.mem_singleton] at hq;subst hq;exact h⟩
theorem wl2 {n:Nat} {p q:Pg} (h:Ln p) (k:Ln q):WL (n+2) [p,q]:=⟨by simp,fun x hx=>by
 rcases List.mem_cons.1 hx with rfl|hx
 ·exact h
 ·rw [List.mem_singleton] at hx;subst hx;exact k⟩
theorem wl3 {n:Nat} {p q r:Pg} (h:Ln p) (k:Ln q) (m:Ln r):WL (n+3) [p,q,r]:=⟨by simp,fun x hx=>by
 rcases List.mem_cons.1 hx with rfl|hx
 ·exact h
 ·exact (wl2 (n:=0) k m).2 x hx⟩
theorem WL.mono {n m:Nat} {ws:List Pg} (h:WL n ws) (k:n≤m):WL m ws:=⟨Nat.le_trans h.1 k,h.2⟩
theorem zbs:∀ {W:List Pg} {p x:Pg},x∈qfj W p→x=p∨x∈W
 | [],p,x,h=>.inl (List.mem_singleton.1 h)
 | q :: W,p,x,h=>by
  unfold qfj at h
  split at h
  ·rcases List.mem_cons.1 h with rfl|h
   ·exact .inr (List.mem_cons_self ..)
   ·rcases zbs h with h|h
    ·exact .inl h
    ·exact .inr (List.mem_cons_of_mem _ h)
  ·split at h
   ·rcases List.mem_cons.1 h with h|h
    ·exact .inl h
    ·exact .inr (List.mem_cons_of_mem _ h)
   ·rcases List.mem_cons.1 h with h|h
    ·exact .inl h
    ·exact .inr h
theorem qxo:∀ (l W:List Pg) (x:Pg),x∈l.foldl qfj W→x∈W∨x∈l
 | [],W,x,h=>.inl h
 | p :: l,W,x,h=>by
  rw [List.foldl_cons] at h
  rcases qxo l _ x h with h|h
  ·rcases zbs h with rfl|h
   ·exact .inr (List.mem_cons_self ..)
   ·exact .inl h
  ·exact .inr (List.mem_cons_of_mem _ h)
theorem qgf {n m k:Nat} {a b:List Pg} (ha:WL n a) (hb:WL m b) (h:n+m≤k):WL k (qcx a b):=by
 refine ⟨Nat.le_trans (qai _ _) (Nat.le_trans (Nat.add_le_add ha.1 hb.1) h),fun p hp=>?_⟩
 rcases qxo _ _ _ hp with hp|hp
 ·exact absurd hp List.not_mem_nil
 ·rcases List.mem_append.1 hp with hp|hp
  ·exact ha.2 p hp
  ·exact hb.2 p hp
theorem lns0:∀ p,p∈([]:List Pg)→Ln p:=fun _ h=>absurd h List.not_mem_nil
theorem qw7 {ws:List Pg} {p:Pg} (h:∀ q,q∈ws→Ln q) (k:Ln p):∀ q,q∈ws++[p]→Ln q:=fun q hq=>by
 rcases List.mem_append.1 hq with hq|hq
 ·exact h q hq
 ·rw [List.mem_singleton] at hq;subst hq;exact k
theorem kR {P:Program} {c:Ctx} {N:Nat} {E:Env} {L:List Item} {Q:Exit→Go.Act→World→Prop} {ops:Array Oper} {rest:List Oper} {ty:TypeId} {pos:String} {af:Array Edge} {tt:Tmp} {f:FuncId} {xs:List Operand} {ts:Array TypeId} {As:List VP} {R:VP} (hc:∀ (args:Array Value) (w:World),(callFunc f args).run P w = .ok (.enter f args) w) (hF:FnP P f As R) (h:JL P ops Q c N rest ((tt,R) :: E) L) (hd:Nat.blt tt N=true:=by exact rfl) (ha:ArgsE (look E) L xs As:=by repeat (first|exact trivial|refine ⟨evR,?_⟩)):JL P ops Q c N (⟨some tt,.call { callee:=.value (.func f),args:=xs.toArray,argTypes:=ts },ty,pos,af,none⟩ :: rest) E L:=qap hd (qac hc hF ha) h
theorem kX {P:Program} {c:Ctx} {N:Nat} {E:Env} {L:List Item} {Q:Exit→Go.Act→World→Prop} {ops:Array Oper} {rest:List Oper} {ty:TypeId} {pos:String} {af:Array Edge} {tt:Tmp} {f:FuncId} {xs:List Operand} {ts:Array TypeId} {As:List VP} {R:VP} (hc:∀ (args:Array Value) (w:World),(callFunc f args).run P w = .ok (.enter f args) w) (hF:FnP P f As R) (h:JL P ops Q c N rest ((tt,R) :: E) L) (hd:Nat.blt tt N=true:=by exact rfl) (ha:ArgsE (look E) L xs As:=by repeat (first|exact trivial|refine ⟨evX,?_⟩)):JL P ops Q c N (⟨some tt,.call { callee:=.value (.func f),args:=xs.toArray,argTypes:=ts },ty,pos,af,none⟩ :: rest) E L:=qap hd (qac hc hF ha) h
theorem eR {P:Program} {E:Env} {L:List Item} {rs:List ResultVar} {Bs:List VP} (h:qqe P E L rs Bs:=by repeat (first|exact trivial|refine ⟨⟨_,_,_,_,rfl,qbp,rfl,.inr ⟨rfl,_,rfl,rfl,subR⟩⟩,?_⟩|refine ⟨⟨_,rfl,subR⟩,?_⟩)):qqe P E L rs Bs:=h
theorem eX {P:Program} {E:Env} {L:List Item} {rs:List ResultVar} {Bs:List VP} (h:qqe P E L rs Bs:=by repeat (first|exact trivial|refine ⟨⟨_,_,_,_,rfl,qbp,rfl,.inr ⟨rfl,_,rfl,rfl,subX⟩⟩,?_⟩|refine ⟨⟨_,rfl,subX⟩,?_⟩)):qqe P E L rs Bs:=h
def qgs (e:Int):S19:={ S19.nil with code:=e,over:=true }
def qre (l:List Int):S19:={ S19.nil with need:=l }
def hE1 (ks:List Pg) (o l:Int):Option Int:=
 if qeo (qb6 ks l)=true then some 3 else
 if ((qcj (qb6 ks l)).2 != 0)=true then some 14 else
 if ((qcj (qb6 ks l)).1.owner != o)=true then some 11 else none
def qml (ks:List Pg) (l:Int):BitVec 32:=(qcj (qb6 ks l)).1.used
def bit0 (u:BitVec 32) (k:Nat):Bool:=UV (u>>>k&&&BitVec.ofInt 32 1)==0
def qiu (u:BitVec 32) (l:Int):Nat→List Int
 | 0=>[]
 | k+1=>if (decide (1≤k)&&bit0 u k)=true then qiu u l k++[l+(k:Int)] else qiu u l k
def qo8 (ks:List Pg) (s:Int):List Int:=qiu (qml ks (qas s)) (qas s) 16
def qzf (ks:List Pg) (cnt:Int) (own:List Int):List Int:=
 match own.find? fun s=>decide (((qo8 ks s).length:Int)≥cnt) with
 | some s=>qo8 ks s
 | none=>own.flatMap (qo8 ks)
def qg0 (ks:List Pg) (st:List Int×List Int) (l:Int):List Int×List Int:=
 if (!qe5 ks l)=true then (st.1++[l],st.2++[l]) else
 if decide (qm3 (qb6 ks l).d0<16777215)=true then (st.1,st.2++[l]) else st
def chF (ks:List Pg) (ls:List Int):List Int×List Int:=ls.foldl (qg0 ks) ([],[])
def chE (ks:List Pg) (l:Int):Option Int:=
 if (!qe5 ks l)=true then none else
 if qeo (qb6 ks l)=true then some 3 else
 if (qh1 (qb6 ks l).d0 != 0)=true then some 11 else none
def chR (ks:List Pg) (cnt:Int):List Int→List Int×List Int→Except Int (List Int×List Int)
 | [],st=>.ok st
 | l :: r,st=>if decide ((st.2.length:Int)<cnt)=true then (match chE ks l with|some e=>.error e|none=>chR ks cnt r (qg0 ks st l)) else .ok st
def setU (p:Pg) (i:Int):Pg:={ p with d1:=p.d1|||BitVec.ofInt 64 1<<<i.toNat }
def qvx (p:Pg) (i:Int):Pg:={ p with d1:=p.d1 &&& ~~~(BitVec.ofInt 64 1<<<i.toNat) }
def wrS (ks:List Pg) (lines:Int) (w:List Pg) (l:Int):List Pg:=qcx w [setU (qb6 (qcx ks w) (qas (qg9 lines l).1)) (qg9 lines l).2.1]
def lpA (ks:List Pg) (lines:Int):List Int→List Pg→List Pg→S19
 | [],fr,w=>{ S19.nil with fresh:=fr,writes:=w,over:=true }
 | l :: r,fr,w=>lpA ks lines r (fr++[qb6 ks l]) (wrS ks lines w l)
def alpF (ks:List Pg) (lines cnt:Int):Except Int (List Int×List Int)→S19
 | .error e=>qgs e
 | .ok st=>if decide ((st.2.length:Int)<cnt)=true then qgs 12 else
  if decide ((st.1.length:Int)>0)=true then qre st.1 else
  lpA ks lines st.2 [] []
def alpG (ks:List Pg) (lines cnt:Int) (own:List Int):Option Int→S19
 | some e=>qgs e
 | none=>alpF ks lines cnt (chR ks cnt (qzf ks cnt own) ([],[]))
def alpR (ks:List Pg) (o lines cnt:Int):S19:=
 if (!clB o lines||decide (cnt<1)||decide (cnt>12))=true then qgs 1 else
 if decide (((qdu ks [98+o]).length:Int)>0)=true then qre (qdu ks [98+o]) else
 if ((qfs ks o).2.2 != 0)=true then qgs (qfs ks o).2.2 else
 if decide (((qdu ks ((qf8 (qfs ks o).2.1.sg (qa7 lines)).map qas)).length:Int)>0)=true then qre (qdu ks ((qf8 (qfs ks o).2.1.sg (qa7 lines)).map qas)) else
 alpG ks lines cnt (qf8 (qfs ks o).2.1.sg (qa7 lines)) (((qf8 (qfs ks o).2.1.sg (qa7 lines)).map qas).findSome? (hE1 ks o))
theorem qod (u:BitVec 32) (l:Int):∀ k,(qiu u l k).length≤k
 | 0=>Nat.le_refl _
 | k+1=>by
  have:=qod u l k
  unfold qiu
  split
  ·rw [List.length_append,List.length_singleton];omega
  ·omega
theorem qja {α β:Type} {f:α→Option β} {xs:List α} {k:Nat} {x:α} {e:β} (h:xs[k]?=some x) (h0:(xs.take k).findSome? f=none) (he:f x=some e):xs.findSome? f=some e:=by
 obtain ⟨hlt,hx⟩:=List.getElem?_eq_some_iff.1 h
 rw [← List.take_append_drop k xs,List.findSome?_append,h0,List.drop_eq_getElem_cons hlt,hx]
 simp [he]
theorem qtw {α β:Type} {f:α→Option β} {xs:List α} {k:Nat} {x:α} (h:xs[k]?=some x) (h0:(xs.take k).findSome? f=none) (he:f x=none):(xs.take (k+1)).findSome? f=none:=by
 rw [List.take_add_one,h,List.findSome?_append,h0]
 simp [he]
theorem find_at {α:Type} {p:α→Bool} {xs:List α} {k:Nat} {x:α} (h:xs[k]?=some x) (h0:(xs.take k).find? p=none) (he:p x=true):xs.find? p=some x:=by
 obtain ⟨hlt,hx⟩:=List.getElem?_eq_some_iff.1 h
 rw [← List.take_append_drop k xs,List.find?_append,h0,List.drop_eq_getElem_cons hlt,hx]
 simp [he]
theorem find_no {α:Type} {p:α→Bool} {xs:List α} {k:Nat} {x:α} (h:xs[k]?=some x) (h0:(xs.take k).find? p=none) (he:p x=false):(xs.take (k+1)).find? p=none:=by
 rw [List.take_add_one,h,List.find?_append,h0]
 simp [he]
theorem qrn (ks:List Pg) (s:Int):(qo8 ks s).length≤16:=qod _ _ _
theorem zb9 (ks:List Pg):∀ ls:List Int,(ls.flatMap (qo8 ks)).length≤16*ls.length
 | []=>Nat.le_refl _
 | s :: ls=>by
  have h1:=qrn ks s
  have h2:=zb9 ks ls
  rw [List.flatMap_cons,List.length_append,List.length_cons]
  omega
theorem srcC_len (ks:List Pg) (cnt:Int) (own:List Int):(qzf ks cnt own).length≤16*own.length+16:=by
 unfold qzf
 split
 ·have:=qrn ks ‹_›;omega
 ·have:=zb9 ks own;omega
theorem zcl (ks:List Pg) (ls:List Int):(chF ks ls).1.length≤ls.length∧(chF ks ls).2.length≤ls.length:=by
 unfold chF
 suffices h:∀ (ls:List Int) (st:List Int×List Int),(ls.foldl (qg0 ks) st).1.length≤st.1.length+ls.length∧(ls.foldl (qg0 ks) st).2.length≤st.2.length+ls.length by simpa using h ls ([],[])
 intro ls
 induction ls with
 | nil=>intro st;exact ⟨Nat.le_refl _,Nat.le_refl _⟩
 | cons l r ih =>
  intro st
  have h1:=ih (qg0 ks st l)
  have h2:(qg0 ks st l).1.length≤st.1.length+1∧(qg0 ks st l).2.length≤st.2.length+1:=by
   unfold qg0
   split
   ·simp
   ·split <;> simp
  simp only [List.foldl_cons,List.length_cons]
  omega
theorem qqj (l:Int):FnP Tryz.prog 47 [Is (.int .i64 l)] (Is (.int .i64 (qa7 l:Nat))):=by
 have h:=qun l
 rwa [show qfu l=((qa7 l:Nat):Int) by unfold qa7;have:=qh5 l;omega] at h
theorem own_at {bm:BitVec 32} {n k:Nat} {s:Int} (h:(qf8 bm n)[k]?=some s):0≤s∧s<n:=qnz (List.mem_iff_getElem?.2 ⟨k,h⟩)
theorem quz {B B':Nat} {A:VP} (h:B'≤B):Sub (qbe B A) (qbe B' A):=fun φ v k=>A.mono (qts h) k
theorem SubL.low {L:List Item} {B B':Nat} {A A':VP} (h:B'≤B) (hs:∀ φ v,A.ok φ v→A'.ok φ v):SubL L (qbe B A) (qbe B' A'):=fun φ v _ k=>hs _ _ (A.mono (qts h) k)
def LowR (R:Nat→VP):Prop:=∀ B B',B'≤B→Sub (R B) (R B')
theorem low_exP {ι:Type} {p:ι→Prop} {R:Nat→ι→VP} (h:∀ i,LowR fun B=>R B i):LowR fun B=>qek p (R B):=fun B B' hb φ v ⟨i,hp,k⟩=>⟨i,hp,h i B B' hb φ v k⟩
theorem low_ex {ι:Type} {R:Nat→ι→VP} (h:∀ i,LowR fun B=>R B i):LowR fun B=>VEx (R B):=fun B B' hb φ v ⟨i,k⟩=>⟨i,h i B B' hb φ v k⟩
theorem zbm {R:Nat→List VP} (h:∀ B B',B'≤B→Subs (R B) (R B')):LowR fun B=>IsAgg (R B):=fun B B' hb φ v ⟨vs,e,k,o⟩=>⟨vs,e,(h B B' hb).alls k,o⟩
theorem low_v {A:VP}:LowR fun B=>qbe B A:=fun B B' hb=>quz hb
theorem FnF.sub {P:Program} {f:FuncId} {As:List VP} {R R':Nat→VP} (h:FnF P f As R) (hs:∀ B,Sub (R B) (R' B)):FnF P f As R':=fun φ w vs ha hm =>
 (h φ w vs ha hm).mono fun e w' ⟨v,φ',h1,h2,h3⟩=>⟨v,φ',h1,hs _ _ _ h2,h3⟩
section
variable {P:Program} {c:Ctx} {A:Nat→Option VP} {L:List Item} {d:Option Tmp} {ty:TypeId} {pos:String} {af:Array Edge} {g:Option (Nat×Bool)}
theorem FnF.enter {N:Nat} {f:FuncId} {fn:Func} {x:Code} {As:List VP} {R:Nat→VP} (hf:P.funcs[f]?=some fn) (hN:fn.ntmps=N) (hb:fn.body=some x) (hn:Nat.ble As.length N=true)
  (h:∀ c:Ctx,(c.X=[]∧c.ds=[])→JC P c N x (argE 0 As) [] (bodyPost P fn (qus c (fun _:Unit=>R c.w.heap.size) (fun _=>[])))):FnF P f As R:=by
 subst hN
 intro φ w vs hA hm
 have hlen:=hA.len
 have hn':As.length≤fn.ntmps:=Nat.le_of_ble_eq_true hn
 refine (calls_of_wp (R:=qus ⟨w,φ,[],[]⟩ (fun _:Unit=>R w.heap.size) (fun _=>[])) hf hb (h ⟨w,φ,[],[]⟩ ⟨rfl,rfl⟩ φ _ w ⟨rfl,?_,?_,HP.start hm⟩)).mono ?_
 ·simp only [Array.size_append,List.size_toArray,Array.size_replicate];omega
 ·refine qlr As vs 0 hA fun j hj=>?_
  simp only [Nat.zero_add]
  rw [Array.getD_eq_getD_getElem?,Array.getElem?_append_left (by simpa using hj),List.getD_eq_getElem?_getD]
  simp
 ·rintro e w' ⟨i,v,φ',h1,h2,h3⟩
  exact ⟨v,φ',h1,h2,h3⟩
theorem Fn.enterB {N:Nat} {f:FuncId} {fn:Func} {x:Code} {As:List VP} {L:List Item} {ι:Type} {R:ι→VP} {L':ι→List Item} (hf:P.funcs[f]?=some fn) (hN:fn.ntmps=N) (hb:fn.body=some x) (hn:Nat.ble As.length N=true)
  (h:∀ c:Ctx,(c.X=qb4 L∧c.ds=[])→(∀ b,b∈qb4 L→b<c.w.heap.size)→JC P c N x (argE 0 As) L (bodyPost P fn (qus c R L'))):Fn P f As L R L':=by
 subst hN
 intro φ w vs hA hm
 have hlen:=hA.len
 have hn':As.length≤fn.ntmps:=Nat.le_of_ble_eq_true hn
 refine calls_of_wp hf hb (h ⟨w,φ,qb4 L,[]⟩ ⟨rfl,rfl⟩ (fun b hb=>?_) φ _ w ⟨rfl,?_,?_,HP.start hm⟩)
 ·obtain ⟨it,h1,h2⟩:=mem_names.1 hb
  exact ((hm.items it h1).2 b h2).1
 ·simp only [Array.size_append,List.size_toArray,Array.size_replicate];omega
 ·refine qlr As vs 0 hA fun j hj=>?_
  simp only [Nat.zero_add]
  rw [Array.getD_eq_getD_getElem?,Array.getElem?_append_left (by simpa using hj),List.getD_eq_getElem?_getD]
  simp
theorem qaw {f:FuncId} {xs:List Operand} {ts:Array TypeId} {As:List VP} {R:Nat→VP} (hc:∀ (args:Array Value) (w:World),(callFunc f args).run P w = .ok (.enter f args) w)
  (hF:FnF P f As R) (ha:ArgsE A L xs As) (hR:LowR R:=by first|exact low_v|exact low_exP fun _=>zbm fun B B' h=>(by repeat' (first|exact trivial|exact Sub.rfl' | exact quz h|refine ⟨?_,?_⟩))|exact low_ex fun _=>zbm fun B B' h=>(by repeat' (first|exact trivial|exact Sub.rfl' | exact quz h|refine ⟨?_,?_⟩))):OpP P c ⟨d,.call { callee:=.value (.func f),args:=xs.toArray,argTypes:=ts },ty,pos,af,g⟩ A L (R c.w.heap.size):=by
 intro φ a w K Q hm he hk
 have hv:=ha.alls (φ:=φ) (a:=a) fun x hx=>he x (by simp [Op.operands,Call.operands,hx])
 unfold Oper.wp
 rw [qg1 hc]
 refine (hF φ w _ hv ⟨hm.mem.base,by simp,List.Pairwise.nil⟩).mono ?_
 rintro e w' ⟨v,φ',rfl,h1,h2⟩
 exact hk φ' v w' (by simpa [qb4] using h2) (hR _ _ hm.kept.size _ _ h1)
end
def PureI (it:Item):Prop:=∀ φ φ' o,it.ok φ o→it.ok φ' o
def PureIs:List Item→Prop
 | []=>True
 | it :: L=>PureI it∧PureIs L
theorem PureIs.at_:∀ {L:List Item} {it:Item},PureIs L→it∈L→PureI it
 | x :: L,it,⟨h1,h2⟩,h=>by
  rcases List.mem_cons.1 h with h|h
  ·subst h;exact h1
  ·exact PureIs.at_ h2 h
theorem qco:qlw Top:=fun _ _ _ _=>trivial
theorem HP.pure {φ φ1 φ':Fz} {M:List Item} {w w':World} (hb:∀ b i v,φ b i=some v→w.cell? ⟨b,i,none⟩=some v) (hle:Fle φ φ1) (h:HP ⟨w,φ1,[],[]⟩ φ' M w') (hM:PureIs M):HP ⟨w,φ,[],[]⟩ φ M w':=by
 refine ⟨⟨fun b i v e=>?_,fun it hi=>?_,h.mem.sep⟩,h.kept,h.mine,fun _ _ _=>rfl⟩
 ·exact h.mem.base b i v (by rw [h.old b i (qf0 (hb b i v e))];exact hle _ _ _ e)
 ·obtain ⟨h1,h2⟩:=h.mem.items it hi
  refine ⟨hM.at_ hi _ _ _ h1,fun b hat=>⟨(h2 b hat).1,fun i=>?_⟩⟩
  rcases h.mine b (mem_names.2 ⟨it,hi,hat⟩) with h3|h3
  ·cases hq:φ b i with
   | none=>rfl
   | some v=>exact absurd (qf0 (hb b i v hq)) (Nat.not_lt.2 h3)
  ·cases h3
section
variable {P:Program} {c:Ctx} {A:Nat→Option VP} {L:List Item} {d:Option Tmp} {ty:TypeId} {pos:String} {af:Array Edge} {g:Option (Nat×Bool)}
end
section
variable {P:Program} {c:Ctx} {A:Nat→Option VP} {L:List Item} {d:Option Tmp} {ty:TypeId} {pos:String} {af:Array Edge} {g:Option (Nat×Bool)} {α:Type} {T:Ty α} {xs ys:List α}
end
section
variable {P:Program} {c:Ctx} {L:List Item} {α:Type} {T:Ty α} {xs:List α}
variable {Q:Exit→Act→World→Prop} {N:Nat} {ops:Array Oper} {rest:List Oper} {E:Env}
end
section
variable {c:Ctx} {L L':List Item} {α:Type} {T:Ty α}
variable {P:Program} {Q:Exit→Act→World→Prop} {N:Nat} {ops:Array Oper} {rest:List Oper} {E:Env}
variable {β:Type} {f:β→Item}
theorem SubP.skip {M L:List Item} (x:Item) (h:SubP M L):SubP M (x :: L):=by
 induction h with
 | nil L=>exact SubP.nil _
 | cons hd _ ih=>exact SubP.cons (Drop1.next _ hd) ih
end
inductive Drops:List Item→List Item→List Item→Prop
 | nil (L:List Item):Drops L [] L
 | cons {it:Item} {L L1 L2 M:List Item} (h:Drop1 L it L1) (h2:Drops L1 M L2):Drops L (it :: M) L2
theorem Drops.sub {L M L2:List Item} (h:Drops L M L2):SubP (M++L2) L:=by
 induction h with
 | nil L=>exact SubP.refl' _
 | cons h _ ih=>exact SubP.cons h ih
section
variable {P:Program} {c:Ctx} {A:Nat→Option VP} {L:List Item} {d:Option Tmp} {ty:TypeId} {pos:String} {af:Array Edge} {g:Option (Nat×Bool)}
theorem OpP.sub {o:Oper} {F F':VP} (h:OpP P c o A L F) (hs:∀ φ v,F.ok φ v→F'.ok φ v):OpP P c o A L F':=
 fun φ a w K Q hm he hk=>h φ a w K Q hm he fun φ' v w' h1 h2=>hk φ' v w' h1 (hs _ _ h2)
end
section
variable {P:Program} {c:Ctx} {A:Nat→Option VP} {L:List Item} {d:Option Tmp} {ty:TypeId} {pos:String} {af:Array Edge} {g:Option (Nat×Bool)} {e:TypeId} {m:Nat} {a:Option Addr×Nat} {x y:Operand} {t:TypeId}
section
variable {α:Type} {T:Ty α} {xs:List α} {n:Nat} {i:Option Addr×Nat}
end
end
section
variable {P:Program} {c:Ctx} {N:Nat} {E:Env} {L:List Item} {Q:Exit→Act→World→Prop} {ops:Array Oper} {rest:List Oper} {α:Type} {T:Ty α} {xs:List α}
end
section
variable {P:Program} {c:Ctx} {N:Nat} {E:Env} {L:List Item} {Q:Exit→Act→World→Prop}
end
end Go.Proofs.YtmgoplaamlignaaGreat
