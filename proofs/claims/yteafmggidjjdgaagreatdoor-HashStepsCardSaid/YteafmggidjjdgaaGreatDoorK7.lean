/- Walks of functions and plain laws, laid together. Own work. -/
import Derived.Test.YteafmggidjjdgaaGreatDoorK6
namespace Go.Proofs.YteafmggidjjdgaaGreatDoor
open Go.RowKit Tryz
set_option linter.unusedVariables false
set_option linter.unusedSimpArgs false
set_option maxRecDepth 100000
set_option maxHeartbeats 4000000
@[reducible] def IsB:VP:=VEx fun b:Bool=>Ib b
@[reducible] def IsW64:VP:=VEx fun d:BitVec 64=>Iw d
theorem qqe (o s:Int):FnP prog 214 [Ii o,Ii s] IsW64:=by
 refine FnP.enter func214 ntmps214 rfl rfl ?_;intro c hX;refine t24 ?_;refine cN ?_ ?_<;>intro h1
 ·refine t7 ?_;exact qd4 (Bs:=[_]) _ rfl results214 eX (List.nil_sublist _)
 refine t15 ?_;exact qd4 (Bs:=[_]) _ rfl results214 eX (List.nil_sublist _)
theorem zbt (x:BitVec 64):FnP prog 245 [Iw x] (VEx fun r:Int×Int×Bool=>qbs [Ii r.1,Ii r.2.1,Ib r.2.2]):=by
 refine FnP.enter func245 ntmps245 rfl rfl ?_;intro c hX;refine t24 ?_;refine cN ?_ ?_<;>intro h2
 ·refine t9 ?_;exact qd4 (Bs:=[_,_,_]) (_,_,_) rfl results245 eX (List.nil_sublist _)
 refine t15 ?_;refine kR call214 (qqe _ _) ?_;(refine qh0 19 rfl ?_;intro x19);refine t3 ?_;refine cN ?_ ?_<;>intro h5
 ·refine t9 ?_;exact qd4 (Bs:=[_,_,_]) (_,_,_) rfl results245 eX (List.nil_sublist _)
 refine t12 ?_;exact qd4 (Bs:=[_,_,_]) (_,_,_) rfl results245 eX (List.nil_sublist _)
theorem qfl (v:Vs):FnP prog 237 [IsVs v] IsB:=by
 refine FnP.enter func237 ntmps237 rfl rfl ?_;intro c hX;refine t3 ?_;intro i1;refine t7 ?_;refine kR call245 (zbt _) ?_;(refine qh0 9 rfl ?_;intro x9);refine t30 ?_;(refine qcg rfl rfl rfl (fun hg=>(by have hg0:=hg;(try simp at hg);exact qh7 evG evG)) ?_);refine t3 ?_;(refine zgs rfl rfl rfl (fun hp hg=>(by have hpg:=Bool.and_eq_true_iff.2 ⟨hp,hg⟩;have hg0:=hg;(try simp at hg);exact qac call30 (qb5 _) ⟨evR,trivial⟩)) ?_);refine t5 ?_;refine cN ?_ ?_<;>intro h2
 ·refine t7 ?_;exact qd4 (Bs:=[_]) _ rfl results237 eX (List.nil_sublist _)
 refine t9 ?_;refine cN ?_ ?_<;>intro h4
 ·refine t5 ?_;refine Z87 ?_;refine qao rfl (op_eqI3 (er rfl) (er rfl)) ?_;refine t5 ?_;exact qd4 (Bs:=[_]) _ rfl results237 eX (List.nil_sublist _)
 refine t11 ?_;exact qd4 (Bs:=[_]) _ rfl results237 eX (List.nil_sublist _)
theorem qq1 (x:BitVec 32):FnP prog 236 [Is (.int .u32 (UV x))] (Ib (UV x==0||qbt (qbb x))):=by
 refine FnP.enter func236 ntmps236 rfl rfl ?_;intro c hX;refine t11 ?_;(refine qcg rfl rfl rfl (fun hg=>(by have hg0:=hg;(try simp at hg);exact qac call187 (qfv _) ⟨evR,trivial⟩)) ?_);(refine qcg rfl rfl rfl (fun hg=>(by have hg0:=hg;(try simp at hg);exact qac call30 (qb5 _) ⟨evR,trivial⟩)) ?_);refine t5 ?_;refine rB results236 rfl ?_;rfl
theorem qin (p:Pg):FnP prog 202 [qcv p] (VEx fun r:Vs×Int=>qbs [IsVs r.1,Ii r.2]):=by
 refine FnP.enter func202 ntmps202 rfl rfl ?_;intro c hX;refine t3 ?_;intro i1;refine s1 ?_;intro i2;refine Z38 ?_;refine qaj 14 kr ?_;refine t9 ?_;refine qbc (qac call138 (qqo _) ⟨evR,trivial⟩) ?_;refine t2 ?_;refine Z25 ?_;refine ⟨rfl,?_⟩;intro i4;refine qda ?_;refine t15 ?_;refine kR call92 (qel _) ?_;refine t3 ?_;(refine qcg rfl rfl rfl (fun hg=>(by have hg0:=hg;(try simp at hg);exact qac call138 (qqo _) ⟨evR,trivial⟩)) ?_);refine t10 ?_;(refine qcg rfl rfl rfl (fun hg=>(by have hg0:=hg;(try simp at hg);exact qac call236 (qq1 _) ⟨evR,trivial⟩)) ?_);refine t4 ?_;refine cN ?_ ?_<;>intro h3
 ·refine t9 ?_;exact Z29
 refine t9 ?_;refine qbw [(1,_),(2,_),(3,_),(4,_)] [blk i2 _ _,blk i1 _ _] (fun yc:Vs=>True) (fun yc=>[]) (fun yc=>[blk i4 309 (tVs.cells yc)]) qxr qab ?_ ?_
 rotate_left
 focus
  refine cN ?_ ?_<;>intro h5
  ·refine t2 ?_;refine kR call187 (qfv _) ?_;refine t3 ?_;refine qan (b:=i4) (As':=tVs.cells (⟨(⟨_,_,_,_⟩:Rw),_,_,_,(⟨_,_⟩:Pt)⟩:Vs)) qaf subsX ?_;exact qal (⟨(⟨_,_,_,_⟩:Rw),_,_,_,(⟨_,_⟩:Pt)⟩:Vs) (trivial) qxr qab
  refine s1 ?_;refine qan (b:=i4) (As':=tVs.cells (⟨(⟨_,_,_,_⟩:Rw),_,_,_,(⟨_,_⟩:Pt)⟩:Vs)) qaf subsX ?_;exact qal (⟨(⟨_,_,_,_⟩:Rw),_,_,_,(⟨_,_⟩:Pt)⟩:Vs) (trivial) qxr qab
 rintro v _;refine t7 ?_;refine cN ?_ ?_<;>intro h7
 ·refine t21 ?_;refine cN ?_ ?_<;>intro h8
  ·refine t10 ?_;exact Z29
  refine t15 ?_;refine kX call237 (qfl (⟨(⟨_,_,_,_⟩:Rw),_,_,_,(⟨_,_⟩:Pt)⟩:Vs)) ?_;(refine qh0 88 rfl ?_;intro x88);refine t3 ?_;refine cN ?_ ?_<;>intro h15
  ·refine t9 ?_;exact Z29
  refine t10 ?_;exact Z29
 refine t6 ?_;refine qbv (b:=i4) (As':=tVs.cells (⟨(⟨_,_,_,_⟩:Rw),_,_,_,(⟨_,_⟩:Pt)⟩:Vs)) qaf subsX ?_;refine qax [(1,_),(2,_),(3,_),(4,_)] [blk i2 _ _,blk i1 _ _] (fun y:Nat×Vs=>y.1<=3) (fun y=>[(6,Ii (y.1:Nat))]) (fun y=>[blk i4 309 (tVs.cells y.2)]) (fun y=>3-y.1) (0,(⟨(⟨_,_,_,_⟩:Rw),_,_,_,(⟨_,_⟩:Pt)⟩:Vs)) (nZ _) qxr qab ?_;rintro ⟨k,w⟩ hk;dsimp only at hk ⊢;refine t7 ?_;refine cN ?_ ?_<;>intro h12
 ·have hlt:k<3:=by have:=of_decide_eq_true h12;omega
  clear h12;rcases (show k=0∨k=1∨k=2 by omega) with rfl|rfl|rfl
  all_goals
   refine t9 ?_;refine Z52 ?_;refine t4 ?_;refine Z52 ?_;refine t9 ?_;refine qan (b:=i4) (As':=tVs.cells (⟨(⟨_,_,_,_⟩:Rw),_,_,_,(⟨_,_⟩:Pt)⟩:Vs)) qaf subsX ?_;first|((guard_hyp hlt:(0:Nat)<3);refine qaa (1,(⟨(⟨_,_,_,_⟩:Rw),_,_,_,(⟨_,_⟩:Pt)⟩:Vs)) ?_ ?_ qxr qab)|((guard_hyp hlt:(1:Nat)<3);refine qaa (2,(⟨(⟨_,_,_,_⟩:Rw),_,_,_,(⟨_,_⟩:Pt)⟩:Vs)) ?_ ?_ qxr qab)|((guard_hyp hlt:(2:Nat)<3);refine qaa (3,(⟨(⟨_,_,_,_⟩:Rw),_,_,_,(⟨_,_⟩:Pt)⟩:Vs)) ?_ ?_ qxr qab)
   ·omega
   ·omega
 have hke:k=3:=by have:=of_decide_eq_false h12;omega
 clear h12;subst hke;refine t9 ?_;refine kX call237 (qfl (⟨(⟨_,_,_,_⟩:Rw),_,_,_,(⟨_,_⟩:Pt)⟩:Vs)) ?_;(refine qh0 88 rfl ?_;intro x88);refine t3 ?_;refine cN ?_ ?_<;>intro h15
 ·refine t9 ?_;exact Z29
 refine t10 ?_;exact Z29
theorem qsg {B B':Nat} {A:VP} (h:B'<=B):Sub (qa9 B A) (qa9 B' A):=fun φ v k=>A.mono (qvf h) k
theorem SubL.low {L:List Item} {B B':Nat} {A A':VP} (h:B'<=B) (hs:∀ φ v,A.ok φ v->A'.ok φ v):SubL L (qa9 B A) (qa9 B' A'):=fun φ v _ k=>hs _ _ (A.mono (qvf h) k)
def LowR (R:Nat->VP):Prop:=∀ B B',B'<=B->Sub (R B) (R B')
theorem low_exP {ι:Type} {p:ι->Prop} {R:Nat->ι->VP} (h:∀ i,LowR fun B=>R B i):LowR fun B=>qfc p (R B):=fun B B' hb φ v ⟨i,hp,k⟩=>⟨i,hp,h i B B' hb φ v k⟩
theorem low_ex {ι:Type} {R:Nat->ι->VP} (h:∀ i,LowR fun B=>R B i):LowR fun B=>VEx (R B):=fun B B' hb φ v ⟨i,k⟩=>⟨i,h i B B' hb φ v k⟩
theorem qxh {R:Nat->List VP} (h:∀ B B',B'<=B->Subs (R B) (R B')):LowR fun B=>IsAgg (R B):=fun B B' hb φ v ⟨vs,e,k,o⟩=>⟨vs,e,(h B B' hb).alls k,o⟩
theorem low_v {A:VP}:LowR fun B=>qa9 B A:=fun B B' hb=>qsg hb
theorem FnF.sub {P:Program} {f:FuncId} {As:List VP} {R R':Nat->VP} (h:FnF P f As R) (hs:∀ B,Sub (R B) (R' B)):FnF P f As R':=fun φ w vs ha hm =>
 (h φ w vs ha hm).mono fun e w' ⟨v,φ',h1,h2,h3⟩=>⟨v,φ',h1,hs _ _ _ h2,h3⟩
section
variable {P:Program} {c:Ctx} {A:Nat->Option VP} {L:List Item} {d:Option Tmp} {ty:TypeId} {pos:String} {af:Array Edge} {g:Option (Nat×Bool)}
theorem FnF.enter {N:Nat} {f:FuncId} {fn:Func} {x:Code} {As:List VP} {R:Nat->VP} (hf:P.funcs[f]?=some fn) (hN:fn.ntmps=N) (hb:fn.body=some x) (hn:Nat.ble As.length N=true)
  (h:∀ c:Ctx,(c.X=[]∧c.ds=[])->JC P c N x (argE 0 As) [] (bodyPost P fn (qre c (fun _:Unit=>R c.w.heap.size) (fun _=>[])))):FnF P f As R:=by
 subst hN;intro φ w vs hA hm;have hlen:=hA.len;have hn':As.length<=fn.ntmps:=Nat.le_of_ble_eq_true hn;refine (calls_of_wp (R:=qre ⟨w,φ,[],[]⟩ (fun _:Unit=>R w.heap.size) (fun _=>[])) hf hb (h ⟨w,φ,[],[]⟩ ⟨rfl,rfl⟩ φ _ w ⟨rfl,?_,?_,HP.start hm⟩)).mono ?_
 ·simp only [Array.size_append,List.size_toArray,Array.size_replicate];omega
 ·refine qj9 As vs 0 hA fun j hj=>?_;simp only [Nat.zero_add];rw [Array.getD_eq_getD_getElem?,Array.getElem?_append_left (by simpa using hj),List.getD_eq_getElem?_getD];simp
 ·rintro e w' ⟨i,v,φ',h1,h2,h3⟩;exact ⟨v,φ',h1,h2,h3⟩
theorem Fn.enterB {N:Nat} {f:FuncId} {fn:Func} {x:Code} {As:List VP} {L:List Item} {ι:Type} {R:ι->VP} {L':ι->List Item} (hf:P.funcs[f]?=some fn) (hN:fn.ntmps=N) (hb:fn.body=some x) (hn:Nat.ble As.length N=true)
  (h:∀ c:Ctx,(c.X=qbr L∧c.ds=[])->(∀ b,b∈qbr L->b<c.w.heap.size)->JC P c N x (argE 0 As) L (bodyPost P fn (qre c R L'))):Fn P f As L R L':=by
 subst hN;intro φ w vs hA hm;have hlen:=hA.len;have hn':As.length<=fn.ntmps:=Nat.le_of_ble_eq_true hn;refine calls_of_wp hf hb (h ⟨w,φ,qbr L,[]⟩ ⟨rfl,rfl⟩ (fun b hb=>?_) φ _ w ⟨rfl,?_,?_,HP.start hm⟩)
 ·obtain ⟨it,h1,h2⟩:=mem_names.1 hb;exact ((hm.items it h1).2 b h2).1
 ·simp only [Array.size_append,List.size_toArray,Array.size_replicate];omega
 ·refine qj9 As vs 0 hA fun j hj=>?_;simp only [Nat.zero_add];rw [Array.getD_eq_getD_getElem?,Array.getElem?_append_left (by simpa using hj),List.getD_eq_getElem?_getD];simp
theorem qau {f:FuncId} {xs:List Operand} {ts:Array TypeId} {As:List VP} {R:Nat->VP} (hc:∀ (args:Array Value) (w:World),(callFunc f args).run P w = .ok (.enter f args) w)
  (hF:FnF P f As R) (ha:ArgsE A L xs As) (hR:LowR R:=by first|exact low_v|exact low_exP fun _=>qxh fun B B' h=>(by repeat' (first|exact trivial|exact Sub.rfl' | exact qsg h|refine ⟨?_,?_⟩))|exact low_ex fun _=>qxh fun B B' h=>(by repeat' (first|exact trivial|exact Sub.rfl' | exact qsg h|refine ⟨?_,?_⟩))):OpP P c ⟨d,.call { callee:=.value (.func f),args:=xs.toArray,argTypes:=ts },ty,pos,af,g⟩ A L (R c.w.heap.size):=by
 intro φ a w K Q hm he hk;have hv:=ha.alls (φ:=φ) (a:=a) fun x hx=>he x (by simp [Op.operands,Call.operands,hx]);unfold Oper.wp;rw [qeu hc];refine (hF φ w _ hv ⟨hm.mem.base,by simp,List.Pairwise.nil⟩).mono ?_;rintro e w' ⟨v,φ',rfl,h1,h2⟩;exact hk φ' v w' (by simpa [qbr] using h2) (hR _ _ hm.kept.size _ _ h1)
end
def PureI (it:Item):Prop:=∀ φ φ' o,it.ok φ o->it.ok φ' o
def PureIs:List Item->Prop
 | []=>True
 | it::L=>PureI it∧PureIs L
theorem PureIs.at_:∀ {L:List Item} {it:Item},PureIs L->it∈L->PureI it
 | x::L,it,⟨h1,h2⟩,h=>by
  rcases List.mem_cons.1 h with h|h
  ·subst h;exact h1
  ·exact PureIs.at_ h2 h
theorem qcm:qnd Top:=fun _ _ _ _=>trivial
theorem HP.pure {φ φ1 φ':Fz} {M:List Item} {w w':World} (hb:∀ b i v,φ b i=some v->w.cell? ⟨b,i,none⟩=some v) (hle:Fle φ φ1) (h:HP ⟨w,φ1,[],[]⟩ φ' M w') (hM:PureIs M):HP ⟨w,φ,[],[]⟩ φ M w':=by
 refine ⟨⟨fun b i v e=>?_,fun it hi=>?_,h.mem.sep⟩,h.kept,h.mine,fun _ _ _=>rfl⟩
 ·exact h.mem.base b i v (by rw [h.old b i (qfp (hb b i v e))];exact hle _ _ _ e)
 ·obtain ⟨h1,h2⟩:=h.mem.items it hi;refine ⟨hM.at_ hi _ _ _ h1,fun b hat=>⟨(h2 b hat).1,fun i=>?_⟩⟩;rcases h.mine b (mem_names.2 ⟨it,hi,hat⟩) with h3|h3
  ·cases hq:φ b i with
   | none=>rfl
   | some v=>exact absurd (qfp (hb b i v hq)) (Nat.not_lt.2 h3)
  ·cases h3
section
variable {P:Program} {c:Ctx} {A:Nat->Option VP} {L:List Item} {d:Option Tmp} {ty:TypeId} {pos:String} {af:Array Edge} {g:Option (Nat×Bool)}
end
section
variable {P:Program} {c:Ctx} {A:Nat->Option VP} {L:List Item} {d:Option Tmp} {ty:TypeId} {pos:String} {af:Array Edge} {g:Option (Nat×Bool)} {α:Type} {T:Ty α} {xs ys:List α}
end
section
variable {P:Program} {c:Ctx} {L:List Item} {α:Type} {T:Ty α} {xs:List α}
theorem HP.freezeX {φ:Fz} {w:World} {v:Value} {e:TypeId} {L':List Item} (hX:∀ b,b∈c.X->b∈qbr L') (hm:HP c φ L w) (hr:Repl L (buf v e T xs) (fact v (qad T xs)) L'):∃ φ',Fle φ φ'∧HP c φ' L' w:=by
 have hit:=hm.mem.items _ hr.mem;obtain ⟨flat,f1,f2,f3⟩:=qha hit;rcases f3.2 with ⟨rfl,h0⟩|⟨gg,cap,cur,rfl,_,e1,e2,e3,e4,e5⟩
 ·have hxs:xs=[]:=List.eq_nil_of_length_eq_zero h0;subst hxs;refine ⟨φ,Fle.rfl',hm.upd hr (Kpt.refl _ _) ⟨?_,fun b (hb:none=some b)=>(nomatch hb)⟩ fun b (hb:none=some b)=>(nomatch hb)⟩;exact ⟨none,0,0,rfl,rfl,Nat.le_refl _,nZ _,.inl rfl⟩
 ·have hown:∀ i,φ gg i=none:=fun i=>(hit.2 gg rfl).2 i
  let φ':Fz:=fun b i=>if b=gg then flat[i]? else φ b i
  have hsame:∀ i,φ' gg i=flat[i]?:=fun i=>if_pos rfl;have hoth:∀ b i,b≠gg->φ' b i=φ b i:=fun b i h=>if_neg h;have hle:Fle φ φ':=fun b i u hu=>by
   rw [hoth b i (fun e=>by subst e;rw [hown i] at hu;cases hu)];exact hu
  have hg0:c.w.heap.size<=gg:=(hm.mine gg (mem_names.2 ⟨_,hr.mem,rfl⟩)).resolve_right fun hx=>by
   obtain ⟨x,hx1,hx2⟩:=mem_names.1 (hX gg hx);rcases hr.mem' hx1 with rfl|⟨hx',hap⟩
   ·cases hx2
   ·exact (hap hm.mem.sep).1 gg hx2 rfl
  have hfl:flat.length=xs.length*T.size:=f3.1;refine ⟨φ',hle,⟨⟨fun b i u hu=>?_,fun x hx=>?_,hr.sep hm.mem.sep fun x hx _ _=>⟨fun b _ (hb:none=some b)=>(nomatch hb),fun b (hb:none=some b)=>(nomatch hb)⟩⟩,hm.kept,fun b hb=>?_,fun b i hb=>?_⟩⟩
  ·by_cases hbg:b=gg
   ·subst hbg;rw [hsame] at hu;rw [cell_of_row w b i cur e _ e1];rw [<- e5] at hu;have hi:i<xs.length*T.size:=by
     have:=(List.getElem?_eq_some_iff.1 hu).1;rw [List.length_take] at this;omega
    rw [List.getElem?_take_of_lt hi,Array.getElem?_toList] at hu;exact hu
   ·rw [hoth b i hbg] at hu;exact hm.mem.base b i u hu
  ·rcases hr.mem' hx with rfl|⟨hx',hap⟩
   ·refine ⟨⟨_,_,_,rfl,rfl,e2,e3,.inr ⟨gg,0,rfl,fun k x hk j B hB=>?_⟩⟩,fun b (hb:none=some b)=>(nomatch hb)⟩;obtain ⟨u,h1,h2⟩:=qny (flat:=flat) f1 hk hB;refine ⟨u,?_,B.mono hle h2,f2 u (List.mem_of_getElem? h1)⟩;rw [hsame,Nat.zero_add];exact h1
   ·obtain ⟨h1,h2⟩:=hm.mem.items x hx';refine ⟨x.mono hle h1,fun b hb=>⟨(h2 b hb).1,fun i=>?_⟩⟩;rw [hoth b i (fun e=>(hap hm.mem.sep).1 b hb (by rw [e];rfl))]
    exact (h2 b hb).2 i
  ·obtain ⟨x,hx,hxb⟩:=mem_names.1 hb;rcases hr.mem' hx with rfl|⟨hx',_⟩
   ·cases hxb
   ·exact hm.mine b (mem_names.2 ⟨x,hx',hxb⟩)
  ·rw [hoth b i om];exact hm.old b i hb
variable {Q:Exit->Act->World->Prop} {N:Nat} {ops:Array Oper} {rest:List Oper} {E:Env}
theorem qi4 {x:Code} {v:Value} {e:TypeId} {L':List Item} (hr:Repl L (buf v e T xs) (fact v (qad T xs)) L') (hX:∀ b,b∈c.X->b∈qbr L') (h:JC P c N x E L' Q):JC P c N x E L Q:=fun φ a w st =>
 let ⟨φ',h1,h2⟩:=HP.freezeX hX st.mem hr
 h φ' a w ⟨st.defers,st.size,fun t B hB=>B.mono h1 (st.env t B hB),h2⟩
end
section
variable {c:Ctx} {L L':List Item} {α:Type} {T:Ty α}
variable {P:Program} {Q:Exit->Act->World->Prop} {N:Nat} {ops:Array Oper} {rest:List Oper} {E:Env}
variable {β:Type} {f:β->Item}
theorem SubP.skip {M L:List Item} (x:Item) (h:SubP M L):SubP M (x::L):=by
 induction h with
 | nil L=>exact SubP.nil _
 | cons hd _ ih=>exact SubP.cons (Drop1.next _ hd) ih
end
inductive Drops:List Item->List Item->List Item->Prop
 | nil (L:List Item):Drops L [] L
 | cons {it:Item} {L L1 L2 M:List Item} (h:Drop1 L it L1) (h2:Drops L1 M L2):Drops L (it::M) L2
theorem Drops.sub {L M L2:List Item} (h:Drops L M L2):SubP (M++L2) L:=by
 induction h with
 | nil L=>exact SubP.refl' _
 | cons h _ ih=>exact SubP.cons h ih
section
variable {P:Program} {c:Ctx} {A:Nat->Option VP} {L:List Item} {d:Option Tmp} {ty:TypeId} {pos:String} {af:Array Edge} {g:Option (Nat×Bool)}
theorem OpP.sub {o:Oper} {F F':VP} (h:OpP P c o A L F) (hs:∀ φ v,F.ok φ v->F'.ok φ v):OpP P c o A L F':=
 fun φ a w K Q hm he hk=>h φ a w K Q hm he fun φ' v w' h1 h2=>hk φ' v w' h1 (hs _ _ h2)
end
section
variable {P:Program} {c:Ctx} {A:Nat->Option VP} {L:List Item} {d:Option Tmp} {ty:TypeId} {pos:String} {af:Array Edge} {g:Option (Nat×Bool)} {e:TypeId} {m:Nat} {a:Option Addr×Nat} {x y:Operand} {t:TypeId}
section
variable {α:Type} {T:Ty α} {xs:List α} {n:Nat} {i:Option Addr×Nat}
end
end
section
variable {P:Program} {c:Ctx} {N:Nat} {E:Env} {L:List Item} {Q:Exit->Act->World->Prop} {ops:Array Oper} {rest:List Oper} {α:Type} {T:Ty α} {xs:List α}
end
section
variable {P:Program} {c:Ctx} {N:Nat} {E:Env} {L:List Item} {Q:Exit->Act->World->Prop}
end
theorem qrn:∀ {As:List VP} {k:Nat} {B:VP},PureVs As->As[k]?=some B->qnd B
 | [],_,_,_,h=>by simp at h
 | A::As,0,B,h,e=>by simp at e;subst e;exact h.1
 | A::As,k+1,B,h,e=>qrn (k:=k) h.2 (by simpa using e)
def AtB (B:Nat) (A:VP):VP:=⟨fun φ v=>A.ok φ v∧∃ b o n cp,v = .slice (some ⟨b,o,none⟩) n cp∧B<=b,fun h k=>⟨A.mono h k.1,k.2⟩⟩
theorem zga {B:Nat} {F:VP} {α:Type} {T:Ty α} {xs:List α} (hs:SubL [] F (qad T xs)) (hp:∀ x,PureVs (T.cells x)) {φ:Fz} {v:Value} (h:(AtB B F).ok φ v):(qa9 B (qad T xs)).ok φ v:=by
 obtain ⟨h1,b,o,n,cp,e,hb⟩:=h;obtain ⟨a',n',c',e',k1,k2,k3,k4⟩:=hs φ v (fun _ hi=>absurd hi List.not_mem_nil) h1;rw [e] at e';cases e';refine ⟨_,_,_,e,k1,k2,k3,?_⟩;rcases k4 with k4|⟨b',o',e2,k4⟩
 ·exact .inl k4
 ·cases e2;refine .inr ⟨_,_,rfl,fun k x hx j D hD=>?_⟩;obtain ⟨u,q1,q2,q3⟩:=k4 k x hx j D hD;refine ⟨u,?_,qrn (hp x) hD _ _ _ q2,q3⟩;unfold fresh;rw [if_pos hb];exact q1
theorem qmk (p:Pg):PureVs (tPg.cells p):=⟨qcp,qcp,qcp,qcp,qcp,qcp,qcp,qcp,qcp,trivial⟩
theorem ovr_one {Z A:List VP} {s:Nat} (hA:A.length=s) (hZ:Z.length=1*s):ovr Z (0*s) A=A:=by
 have e1:=qlu A [] Z [] om;simp only [List.append_nil,List.nil_append,List.length_nil] at e1;rw [Nat.zero_mul,e1]
theorem SubL.row1 {L:List Item} {α:Type} {T:Ty α} {x:α} {A:List VP} {zs:List Value} {s m:Nat} (hs:s=T.size) (hA:A.length=s) (hm:m=1*s) (h1:SubLs L A (T.cells x)):SubL L (qem 1 s (ovr (List.map Is (qon zs m)) (0*s) A)) (qad T [x]):=by
 rw [ovr_one hA (by simp [qon,hm])];exact SubL.row rfl hs (by simpa using h1)
theorem SubL.freshNil {L:List Item} {α:Type} {T:Ty α} {B:Nat}:SubL L (Is (.slice none 0 0)) (qa9 B (qad T [])):=fun φ v _ h=>by
 have h':v = .slice none 0 0:=h;subst h';exact ⟨none,0,0,rfl,rfl,Nat.le_refl _,nZ _,.inl rfl⟩
theorem SubL.toT {L:List Item} {b:Bool} {X A B:VP} (hb:b=true) (h:SubL L X A):SubL L X (qdi b A B):=fun φ v f k=>by subst hb;exact h φ v f k
theorem SubL.toF {L:List Item} {b:Bool} {X A B:VP} (hb:b=false) (h:SubL L X B):SubL L X (qdi b A B):=fun φ v f k=>by subst hb;exact h φ v f k
def PgX:List VP:=[qfc (fun n:Int=>-1<=n∧n<=255) fun n=>Ii n,VEx fun d:BitVec 64=>Iw d,VEx fun d:BitVec 64=>Iw d,VEx fun d:BitVec 64=>Iw d,VEx fun d:BitVec 64=>Iw d,VEx fun d:BitVec 64=>Iw d,VEx fun d:BitVec 64=>Iw d,VEx fun d:BitVec 64=>Iw d,VEx fun d:BitVec 64=>Iw d]
@[reducible] def zg2:VP:=IsAgg PgX
@[reducible] def IsIX:VP:=VEx fun n:Int=>Ii n
theorem pgX_of (p:Pg) (hp:Ln p):Subs (tPg.cells p) PgX:=⟨fun _ _ h=>⟨_,hp,h⟩,fun _ _ h=>⟨_,h⟩,fun _ _ h=>⟨_,h⟩,fun _ _ h=>⟨_,h⟩,fun _ _ h=>⟨_,h⟩,fun _ _ h=>⟨_,h⟩,fun _ _ h=>⟨_,h⟩,fun _ _ h=>⟨_,h⟩,fun _ _ h=>⟨_,h⟩,trivial⟩
theorem pgX_to {φ:Fz} {vs:List Value} (h:Alls φ PgX vs):∃ p,Ln p∧Alls φ (tPg.cells p) vs:=by
 match vs,h with
 | [_,_,_,_,_,_,_,_,_],⟨⟨l,hl,h0⟩,⟨h',h1⟩,⟨d0,h2⟩,⟨d1,h3⟩,⟨d2,h4⟩,⟨d3,h5⟩,⟨d4,h6⟩,⟨d5,h7⟩,⟨d6,h8⟩,_⟩=>exact ⟨⟨l,h',d0,d1,d2,d3,d4,d5,d6⟩,hl,h0,h1,h2,h3,h4,h5,h6,h7,h8,trivial⟩
theorem FnP.px {P:Program} {f:FuncId} {As:List VP} {q:Pg} (hq:Ln q) (h:FnP P f As (qfc (fun r:Pg×Int=>Ln q->Ln r.1) fun r=>qbs [qcv r.1,Ii r.2])):FnP P f As (qbs [zg2,IsIX]):=fun φ w vs ha hm =>
 (h φ w vs ha hm).mono fun e w' ⟨i,v,φ',h1,⟨r,hr,us,h2,h3⟩,h4⟩=>⟨i,v,φ',h1,⟨us,h2,by
  match us,h3 with
  | [_,_],⟨⟨ws,e1,k1,k2⟩,e2,_⟩=>exact ⟨⟨ws,e1,(pgX_of r.1 (hr hq)).alls k1,k2⟩,⟨r.2,e2⟩,trivial⟩⟩,h4⟩
theorem qfe {P:Program} {c:Ctx} {N:Nat} {E:Env} {L:List Item} {Q:Exit->Go.Act->World->Prop} {x:Code} {b:Nat} {t:TypeId} {L':Pg->List Item} (hr:∀ p,Repl L (blk b t PgX) (blk b t (tPg.cells p)) (L' p)) (h:∀ p,Ln p->JC P c N x E (L' p) Q):JC P c N x E L Q:=fun φ a w st=>by
 obtain ⟨⟨vs,h1,h2,h3⟩,h4⟩:=st.mem.mem.items _ (hr Pg.nil).mem;obtain ⟨p,hl,hp⟩:=pgX_to h2;exact h p hl φ a w ⟨st.defers,st.size,st.env,st.mem.upd (hr p) (Kpt.refl _ _) ⟨⟨vs,h1,hp,h3⟩,h4⟩ fun b' hb'=>.inr hb'⟩
theorem qas {A:VP} {As:List VP} (h:qde A As:=by first|exact qp8|exact qth rfl|exact qtg|exact qvr|exact zab|exact qrz|exact qp6|exact qp7 rfl):qde A As:=h
section
variable {P:Program} {c:Ctx} {A:Nat->Option VP} {L:List Item} {d:Option Tmp} {ty:TypeId} {pos:String} {af:Array Edge} {g:Option (Nat×Bool)}
theorem qff {t e:TypeId} {n size:Nat} {z:Value} {ps:Array (Nat×Operand)} {qs:List (Nat×List VP)} {Rs:List VP} (hu:P.underlying t=some (.slice e)) (hs:(P.info? e).map (·.size)=some size) (hz:(P.info? e).map (·.zero)=some (some z))
  (hq:PartsE A L ps.toList qs) (hf:qlz (fun i=>some (i*size,size)) ((qon (qen z) (n*size)).map Is) qs=some Rs)
  (hn':(Nat.ble (n*size) 16777216&&Nat.blt 0 (n*size)&&Nat.ble n 1000000&&(qon (qen z) (n*size)).all Value.oneCell')=true) :
  OpP P c ⟨d,.buildSlice t n ps,ty,pos,af,g⟩ A L (AtB c.w.heap.size (qem n size Rs)):=
 opq fun φ a w hm he=>by
  have hn5:Rs.length=n*size:=by rw [qp0 hf,List.length_map,qon,List.length_map,List.length_range]
  simp only [Bool.and_eq_true] at hn';obtain ⟨⟨⟨n1,n2⟩,n3⟩,n4⟩:=hn';have m1:=Nat.le_of_ble_eq_true n1;have m2:0<n*size:=Nat.le_of_ble_eq_true n2;have m3:=Nat.le_of_ble_eq_true n3;have hp:=hq.at_ (φ:=φ) (a:=a) fun i x hx=>he x (by simp only [Op.operands];simp;exact ⟨i,by simpa using hx⟩);obtain ⟨rs,h1,h2,h3⟩:=qnz (qil (φ:=φ) (qon (qen z) (n*size))) (qgh n4) hp hf;obtain ⟨φ',g1,g2,g3⟩:=ze8 (e:=e) hm h2 h3;refine ⟨.slice (some ⟨w.heap.size,0,none⟩) n n,φ',_,?_,g2,⟨⟨w.heap.size,rfl,g3,hn5,by unfold maxLen;omega⟩,_,_,_,_,rfl,hm.kept.size⟩⟩;simp only [execOp];refine qcd ?_;have e1:(ps.map fun x=>(x.1,a.eval x.2)).toList=ps.toList.map fun p=>(p.1,a.eval p.2):=by simp
  have e2:((Array.range (n*size)).map fun x=>z.cells[x % z.cells.size]!)=(qon (qen z) (n*size)).toArray:=by
   unfold qon qen;rw [Array.toArray_toList]
   apply Array.ext'
   simp
  simp only [Instr.buildSlice,Sem.run_bind,run_underlying hu,Result.andThen_ok,qbd hs];rw [if_neg om];have e3:(List.map (fun x:Nat×Operand=>(x.1,a.eval x.2)) ps.toList)=ps.toList.map fun p=>(p.1,a.eval p.2):=rfl;have e4:¬ n*size=0:=om;simp only [if_neg e4,Sem.run_bind,qi8 hz,Result.andThen_ok,Sem.run_pure,e1,e2,h1,newRow,run_newObj_alloc]
theorem OpP.to {o:Oper} {F F':VP} (h:OpP P c o A L F) (hs:SubL [] F F'):OpP P c o A L F':=
 OpP.sub h fun φ v k=>hs _ _ (fun _ hi=>absurd hi List.not_mem_nil) k
theorem OpP.fr {o:Oper} {B:Nat} {F:VP} {α:Type} {T:Ty α} {xs:List α} (h:OpP P c o A L (AtB B F)) (hp:∀ x,PureVs (T.cells x)) (hs:SubL [] F (qad T xs)):OpP P c o A L (qa9 B (qad T xs)):=
 OpP.sub h fun φ v k=>zga hs hp k
end
theorem qav {L:List Item} {A B:List VP} (h:SubLs L A B:=by (repeat' (first|exact SubL.rfl' | exact trivial|refine ⟨?_,?_⟩|exact SubL.nil|((with_reducible show SubL _ _ (qa9 _ _));first|exact SubL.freshNil|exact SubL.low (by assumption) (fun _ _ h=>h))|((with_reducible show SubL _ _ (qdi _ _ _));first|(refine SubL.toT rfl ?_)|(refine SubL.toF (by first|exact rfl|assumption) ?_))|exact SubL.eq (congrArg Is (qc3 (by first|decide|omega)))|exact SubL.eq (congrArg Is (qc7 (by first|decide|omega)))))):SubLs L A B:=h
theorem qf1 {L:List Item} {A B:VP} (h:SubL L A B:=by (repeat' (first|exact SubL.rfl' | exact trivial|refine ⟨?_,?_⟩|exact SubL.nil|((with_reducible show SubL _ _ (qa9 _ _));first|exact SubL.freshNil|exact SubL.low (by assumption) (fun _ _ h=>h))|((with_reducible show SubL _ _ (qdi _ _ _));first|(refine SubL.toT rfl ?_)|(refine SubL.toF (by first|exact rfl|assumption) ?_))|refine SubL.agg ?_|refine SubL.tup ?_|exact SubL.top|exact SubL.fresh|((with_reducible show SubL _ (qem _ _ _) _);first|exact SubL.row1 rf rf rf qav|exact SubL.row2 rf rf rf rf qav qav|exact SubL.row3 rf rf rf rf rf qav qav qav|refine SubL.row rf rf ?_)|((with_reducible show SubL _ (Is _) (IsAgg _));refine SubL.lit rfl ?_)|((with_reducible show SubL _ (qdi _ _ _) _);refine SubL.iteT (by first|assumption|(simp;done)|(simp;omega)|(simp_all;done)) ?_)|exact SubL.eq (congrArg Is (qc3 (by first|decide|omega)))|exact SubL.eq (congrArg Is (qc7 (by first|decide|omega)))|exact SubL.fact (by repeat (first|exact List.Mem.head _|apply List.Mem.tail))))):SubL L A B:=h
theorem qyt {L:List Item} {A B:List VP} (h:SubLs L A B:=by (repeat' (first|exact SubL.rfl' | exact trivial|refine ⟨?_,?_⟩|exact SubL.nil|((with_reducible show SubL _ _ (qa9 _ _));first|exact SubL.freshNil|exact SubL.low (by assumption) (fun _ _ h=>h))|((with_reducible show SubL _ _ (qdi _ _ _));first|(refine SubL.toT rfl ?_)|(refine SubL.toF (by first|exact rfl|assumption) ?_))|refine SubL.agg ?_|refine SubL.tup ?_|exact SubL.top|exact SubL.fresh|((with_reducible show SubL _ (qem _ _ _) _);first|exact SubL.row1 rf rf rf qav|exact SubL.row2 rf rf rf rf qav qav|exact SubL.row3 rf rf rf rf rf qav qav qav|refine SubL.row rf rf ?_)|((with_reducible show SubL _ (Is _) (IsAgg _));refine SubL.lit rfl ?_)|((with_reducible show SubL _ (qdi _ _ _) _);refine SubL.iteT (by first|assumption|(simp;done)|(simp;omega)|(simp_all;done)) ?_)|exact SubL.eq (congrArg Is (qc3 (by first|decide|omega)))|exact SubL.eq (congrArg Is (qc7 (by first|decide|omega)))|exact SubL.fact (by repeat (first|exact List.Mem.head _|apply List.Mem.tail))))):SubLs L A B:=h
theorem qbu {L:List Item} {E E':Env} (h:ESub L E E':=by ((repeat (refine ⟨⟨_,rfl,(by (repeat' (first|exact SubL.rfl' | exact trivial|refine ⟨?_,?_⟩|exact SubL.nil|((with_reducible show SubL _ _ (qa9 _ _));first|exact SubL.freshNil|exact SubL.low (by assumption) (fun _ _ h=>h))|((with_reducible show SubL _ _ (qdi _ _ _));first|(refine SubL.toT rfl ?_)|(refine SubL.toF (by first|exact rfl|assumption) ?_))|refine SubL.agg ?_|refine SubL.tup ?_|exact SubL.top|exact SubL.fresh|((with_reducible show SubL _ (qem _ _ _) _);first|exact SubL.row1 rf rf rf qav|exact SubL.row2 rf rf rf rf qav qav|exact SubL.row3 rf rf rf rf rf qav qav qav|refine SubL.row rf rf ?_)|((with_reducible show SubL _ (Is _) (IsAgg _));refine SubL.lit rfl ?_)|((with_reducible show SubL _ (qdi _ _ _) _);refine SubL.iteT (by first|assumption|(simp;done)|(simp;omega)|(simp_all;done)) ?_)|exact SubL.eq (congrArg Is (qc3 (by first|decide|omega)))|exact SubL.eq (congrArg Is (qc7 (by first|decide|omega)))|exact SubL.fact (by repeat (first|exact List.Mem.head _|apply List.Mem.tail)))))⟩,?_⟩));exact trivial)):ESub L E E':=h
theorem qap {A:Nat->Option VP} {L:List Item} {x:Operand} {B:VP} (h:Ev A L x B:=by (exact Ev.sub rfl (by first|with_reducible exact SubL.rfl' | ((with_reducible show SubL _ (IsAgg _) _);exact SubL.rfl')|((with_reducible show SubL _ (qem _ _ _) _);first|exact SubL.row1 rf rf rf qav|exact SubL.row2 rf rf rf rf qav qav|exact SubL.row3 rf rf rf rf rf qav qav qav|exact SubL.row rf rf qyt)|(repeat' (first|exact SubL.rfl' | exact trivial|refine ⟨?_,?_⟩|exact SubL.nil|((with_reducible show SubL _ _ (qa9 _ _));first|exact SubL.freshNil|exact SubL.low (by assumption) (fun _ _ h=>h))|((with_reducible show SubL _ _ (qdi _ _ _));first|(refine SubL.toT rfl ?_)|(refine SubL.toF (by first|exact rfl|assumption) ?_))|refine SubL.agg ?_|refine SubL.tup ?_|exact SubL.top|exact SubL.fresh|((with_reducible show SubL _ (qem _ _ _) _);first|exact SubL.row1 rf rf rf qav|exact SubL.row2 rf rf rf rf qav qav|exact SubL.row3 rf rf rf rf rf qav qav qav|refine SubL.row rf rf ?_)|((with_reducible show SubL _ (Is _) (IsAgg _));refine SubL.lit rfl ?_)|((with_reducible show SubL _ (qdi _ _ _) _);refine SubL.iteT (by first|assumption|(simp;done)|(simp;omega)|(simp_all;done)) ?_)|exact SubL.eq (congrArg Is (qc3 (by first|decide|omega)))|exact SubL.eq (congrArg Is (qc7 (by first|decide|omega)))|exact SubL.fact (by repeat (first|exact List.Mem.head _|apply List.Mem.tail))))))):Ev A L x B:=h
theorem subXF {L:List Item} {A B:VP} (h:SubL L A B:=by (repeat' (first|exact SubL.rfl' | exact trivial|refine ⟨?_,?_⟩|exact SubL.nil|((with_reducible show SubL _ _ (qa9 _ _));first|exact SubL.freshNil|exact SubL.low (by assumption) (fun _ _ h=>h))|((with_reducible show SubL _ _ (qdi _ _ _));first|(refine SubL.toT rfl ?_)|(refine SubL.toF (by first|exact rfl|assumption) ?_))|exact SubL.eq (congrArg Is (qc3 de))|exact SubL.eq (congrArg Is (qc7 de))|refine SubL.aggN qbx ?_|refine SubL.tup ?_|exact SubL.top|exact SubL.fresh|((with_reducible show SubL _ (qem _ _ _) _);first|exact SubL.row1 rf rf rf qav|exact SubL.row2 rf rf rf rf qav qav|exact SubL.row3 rf rf rf rf rf qav qav qav|refine SubL.row rf rf ?_)|((with_reducible show SubL _ (Is _) (IsAgg _));refine SubL.lit rfl ?_)|((with_reducible show SubL _ (qdi _ _ _) _);refine SubL.iteT (by first|assumption|(simp;done)|(simp;omega)|(simp_all;done)) ?_)|exact SubL.eq (congrArg Is (qc3 (by first|decide|omega)))|exact SubL.eq (congrArg Is (qc7 (by first|decide|omega)))|exact SubL.fact (by repeat (first|exact List.Mem.head _|apply List.Mem.tail))))):SubL L A B:=h
theorem qbo {L:List Item} {A B:List VP} (h:SubLs L A B:=by (refine SubLs.nrmd qbx ?_;(repeat' (first|exact SubL.rfl' | exact trivial|refine ⟨?_,?_⟩|exact SubL.nil|((with_reducible show SubL _ _ (qa9 _ _));first|exact SubL.freshNil|exact SubL.low (by assumption) (fun _ _ h=>h))|((with_reducible show SubL _ _ (qdi _ _ _));first|(refine SubL.toT rfl ?_)|(refine SubL.toF (by first|exact rfl|assumption) ?_))|exact SubL.eq (congrArg Is (qc3 de))|exact SubL.eq (congrArg Is (qc7 de))|refine SubL.aggN qbx ?_|refine SubL.tup ?_|exact SubL.top|exact SubL.fresh|((with_reducible show SubL _ (qem _ _ _) _);first|exact SubL.row1 rf rf rf qav|exact SubL.row2 rf rf rf rf qav qav|exact SubL.row3 rf rf rf rf rf qav qav qav|refine SubL.row rf rf ?_)|((with_reducible show SubL _ (Is _) (IsAgg _));refine SubL.lit rfl ?_)|((with_reducible show SubL _ (qdi _ _ _) _);refine SubL.iteT (by first|assumption|(simp;done)|(simp;omega)|(simp_all;done)) ?_)|exact SubL.eq (congrArg Is (qc3 (by first|decide|omega)))|exact SubL.eq (congrArg Is (qc7 (by first|decide|omega)))|exact SubL.fact (by repeat (first|exact List.Mem.head _|apply List.Mem.tail)))))):SubLs L A B:=h
theorem qag {L:List Item} {E E':Env} (h:ESub L E E':=by ((repeat (refine ⟨⟨_,rfl,(by (repeat' (first|exact SubL.rfl' | exact trivial|refine ⟨?_,?_⟩|exact SubL.nil|((with_reducible show SubL _ _ (qa9 _ _));first|exact SubL.freshNil|exact SubL.low (by assumption) (fun _ _ h=>h))|((with_reducible show SubL _ _ (qdi _ _ _));first|(refine SubL.toT rfl ?_)|(refine SubL.toF (by first|exact rfl|assumption) ?_))|exact SubL.eq (congrArg Is (qc3 de))|exact SubL.eq (congrArg Is (qc7 de))|refine SubL.aggN qbx ?_|refine SubL.tup ?_|exact SubL.top|exact SubL.fresh|((with_reducible show SubL _ (qem _ _ _) _);first|exact SubL.row1 rf rf rf qav|exact SubL.row2 rf rf rf rf qav qav|exact SubL.row3 rf rf rf rf rf qav qav qav|refine SubL.row rf rf ?_)|((with_reducible show SubL _ (Is _) (IsAgg _));refine SubL.lit rfl ?_)|((with_reducible show SubL _ (qdi _ _ _) _);refine SubL.iteT (by first|assumption|(simp;done)|(simp;omega)|(simp_all;done)) ?_)|exact SubL.eq (congrArg Is (qc3 (by first|decide|omega)))|exact SubL.eq (congrArg Is (qc7 (by first|decide|omega)))|exact SubL.fact (by repeat (first|exact List.Mem.head _|apply List.Mem.tail)))))⟩,?_⟩));exact trivial)):ESub L E E':=h
theorem qbg {A:Nat->Option VP} {L:List Item} {x:Operand} {B:VP} (h:Ev A L x B:=by (first|exact er rfl|exact Ev.sub rfl (by (repeat' (first|exact SubL.rfl' | exact trivial|refine ⟨?_,?_⟩|exact SubL.nil|((with_reducible show SubL _ _ (qa9 _ _));first|exact SubL.freshNil|exact SubL.low (by assumption) (fun _ _ h=>h))|((with_reducible show SubL _ _ (qdi _ _ _));first|(refine SubL.toT rfl ?_)|(refine SubL.toF (by first|exact rfl|assumption) ?_))|exact SubL.eq (congrArg Is (qc3 de))|exact SubL.eq (congrArg Is (qc7 de))|refine SubL.aggN qbx ?_|refine SubL.tup ?_|exact SubL.top|exact SubL.fresh|((with_reducible show SubL _ (qem _ _ _) _);first|exact SubL.row1 rf rf rf qav|exact SubL.row2 rf rf rf rf qav qav|exact SubL.row3 rf rf rf rf rf qav qav qav|refine SubL.row rf rf ?_)|((with_reducible show SubL _ (Is _) (IsAgg _));refine SubL.lit rfl ?_)|((with_reducible show SubL _ (qdi _ _ _) _);refine SubL.iteT (by first|assumption|(simp;done)|(simp;omega)|(simp_all;done)) ?_)|exact SubL.eq (congrArg Is (qc3 (by first|decide|omega)))|exact SubL.eq (congrArg Is (qc7 (by first|decide|omega)))|exact SubL.fact (by repeat (first|exact List.Mem.head _|apply List.Mem.tail))))))):Ev A L x B:=h
theorem kRF {P:Program} {c:Ctx} {N:Nat} {E:Env} {L:List Item} {Q:Exit->Go.Act->World->Prop} {ops:Array Oper} {rest:List Oper} {ty:TypeId} {pos:String} {af:Array Edge} {tt:Tmp} {f:FuncId} {xs:List Operand} {ts:Array TypeId} {As:List VP} {R:VP} (hc:∀ (args:Array Value) (w:World),(callFunc f args).run P w = .ok (.enter f args) w) (hF:FnP P f As R) (h:JL P ops Q c N rest ((tt,R)::E) L) (hd:Nat.blt tt N=true:=by exact rfl) (ha:ArgsE (look E) L xs As:=by repeat (first|exact trivial|refine ⟨qap,?_⟩)):JL P ops Q c N (⟨some tt,.call { callee:=.value (.func f),args:=xs.toArray,argTypes:=ts },ty,pos,af,none⟩::rest) E L:=qao hd (qac hc hF ha) h
theorem kXF {P:Program} {c:Ctx} {N:Nat} {E:Env} {L:List Item} {Q:Exit->Go.Act->World->Prop} {ops:Array Oper} {rest:List Oper} {ty:TypeId} {pos:String} {af:Array Edge} {tt:Tmp} {f:FuncId} {xs:List Operand} {ts:Array TypeId} {As:List VP} {R:VP} (hc:∀ (args:Array Value) (w:World),(callFunc f args).run P w = .ok (.enter f args) w) (hF:FnP P f As R) (h:JL P ops Q c N rest ((tt,R)::E) L) (hd:Nat.blt tt N=true:=by exact rfl) (ha:ArgsE (look E) L xs As:=by repeat (first|exact trivial|refine ⟨qbg,?_⟩)):JL P ops Q c N (⟨some tt,.call { callee:=.value (.func f),args:=xs.toArray,argTypes:=ts },ty,pos,af,none⟩::rest) E L:=qao hd (qac hc hF ha) h
theorem eRF {P:Program} {E:Env} {L:List Item} {rs:List ResultVar} {Bs:List VP} (h:qqg P E L rs Bs:=by repeat (first|exact trivial|refine ⟨⟨_,_,_,_,rfl,qba,rfl,.inr ⟨rfl,_,rfl,rfl,qf1⟩⟩,?_⟩|refine ⟨⟨_,rfl,qf1⟩,?_⟩)):qqg P E L rs Bs:=h
theorem eXF {P:Program} {E:Env} {L:List Item} {rs:List ResultVar} {Bs:List VP} (h:qqg P E L rs Bs:=by repeat (first|exact trivial|refine ⟨⟨_,_,_,_,rfl,qba,rfl,.inr ⟨rfl,_,rfl,rfl,subXF⟩⟩,?_⟩|refine ⟨⟨_,rfl,subXF⟩,?_⟩)):qqg P E L rs Bs:=h
theorem rXF {P:Program} {c:Ctx} {N:Nat} {E:Env} {L:List Item} {fn:Func} {ι:Type} {p:ι->Prop} {R:ι->VP} {L':Unit->List Item} {rs:List ResultVar} {B:VP} (i:ι) (hr:fn.results=rs.toArray) (hB:qqx [B]=R i:=by exact rfl) (hE:qqg P E L rs [B]:=by exact eXF) (hL:(L' ()).Sublist L:=by exact List.nil_sublist _) (hp:p i) (hD0:c.ds=[]:=by first|assumption|exact And.right (by assumption)):JQ c N E L (bodyPost P fn (qre c (fun _:Unit=>qfc p R) L')) .ret:=qhd i hB hr hE hL hp hD0
theorem quf {P:Program} {c:Ctx} {N:Nat} {E:Env} {L:List Item} {fn:Func} {ι:Type} {p:ι->Prop} {R:ι->VP} {L':Unit->List Item} {rs:List ResultVar} {B B2:VP} (i:ι) (hr:fn.results=rs.toArray) (hB:qqx [B,B2]=R i:=by exact rfl) (hE:qqg P E L rs [B,B2]:=by exact eXF) (hL:(L' ()).Sublist L:=by exact List.nil_sublist _) (hp:p i) (hD0:c.ds=[]:=by first|assumption|exact And.right (by assumption)):JQ c N E L (bodyPost P fn (qre c (fun _:Unit=>qfc p R) L')) .ret:=qhd i hB hr hE hL hp hD0
theorem f1 {P:Program} {ops:Array Oper} {c:Ctx} {N:Nat} {L:List Item} {Q:Exit->Go.Act->World->Prop} {nd fr dn ks mi:List Nat} {EO:EnvO} {t:Tmp} {op:Go.Op} {ty:TypeId} {pos:String} {af:Array Edge} {F:VP} (i:Nat) (h:JF P ops Q c N nd fr dn ks (i::mi) ((t,.v F)::EO) L) (hi:ops[i]?=some ⟨some t,op,ty,pos,af,none⟩:=by exact rfl) (hB:qq2 nd fr mi i=true:=by kernel_rfl) (hs:OpP P c ⟨some t,op,ty,pos,af,none⟩ (vals EO) L F:=by exact opF):JF P ops Q c N nd fr dn ks mi EO L:=qes i hi hB hs h
theorem qcx {c:Ctx} {Q:Exit->Go.Act->World->Prop} {N:Nat} {E:Env} {L L':List Item} {b:Nat} {t:TypeId} {As:List VP} {ex:Exit} {B0:Nat} {i1 i2 i3 i4 i5 i6 i7:Int} {u1 u2 u3 u4 u5 u6:BitVec 64} {b1 b2 b3 b4 b5:Bool} {l1 l2 l3:List Int} {p1 p2:List Pg} {xs:List St29} {rs:List Rs29} (k:JQ c N E L' Q ex) (hr:Repl L (blk b t As) (blk b t [Ii i1,Ii i2,Ii i3,qad tSt29 xs,qad qaw l1,Ib b1,Iw u1,Iw u2,Iw u3,Iw u4,Iw u5,Iw u6,qad tPg p1,qa9 B0 (qad tPg p2),qad qaw l2,qad qaw l3,Ii i4,Ii i5,Ii i6,Ii i7,qad tRs29 rs,Is (.slice none 0 0),Ib b2,Ib b3,Ib b4,Ib b5]) L':=by exact qaf) (h:SubLs L As [Ii i1,Ii i2,Ii i3,qad tSt29 xs,qad qaw l1,Ib b1,Iw u1,Iw u2,Iw u3,Iw u4,Iw u5,Iw u6,qad tPg p1,qa9 B0 (qad tPg p2),qad qaw l2,qad qaw l3,Ii i4,Ii i5,Ii i6,Ii i7,qad tRs29 rs,Is (.slice none 0 0),Ib b2,Ib b3,Ib b4,Ib b5]:=by exact qbo):JQ c N E L Q ex:=qan hr h k
theorem Z1 {A B:Prop} (h:A) (f:Bx A→B:=by intro z;refine qao rfl (OpP.to (qa1 (size:=1) (qs:=[(0,_)]) rfl rfl rfl ⟨⟨rfl,_,(er rfl),qas⟩,trivial⟩ rf rf) (SubL.row1 (T:=qaw) (x:=_) rf rf rf qav)) ?_;exact z.out):B:=f ⟨h⟩
theorem Z2 {A B:Prop} (h:A) (f:Bx A→B:=by intro z;refine qao rfl (OpP.fr (qff (size:=9) (qs:=[(0,_)]) rfl rfl rfl ⟨⟨rfl,_,(er rfl),qas⟩,trivial⟩ rf rf) qmk (SubL.row1 (T:=tPg) (x:=(⟨_,_,_,_,_,_,_,_,_⟩:Pg)) rf rf rf qav)) ?_;exact z.out):B:=f ⟨h⟩
theorem Z3 {A B:Prop} (h:A) (f:Bx A→B:=by intro z;refine zbx kr rfl (qdf (er rfl) (er rfl) qas qaf qbx rf rf rf) ?_;refine qda ?_;exact z.out):B:=f ⟨h⟩
theorem Z4 {A B:Prop} (h:A) (f:Bx A→B:=by intro z;refine zbw (qcc rfl qbx rfl) ?_;refine qjk rfl rfl rfl kr (qhg qap qas rfl rfl rfl qbx) ?_;exact z.out):B:=f ⟨h⟩
theorem Z6 {A B:Prop} (h:A) (f:Bx A→B:=by intro z;refine Z5 ?_;refine JD_fl (its:=[]) ?_;refine f1 0 ?_;refine f1 1 ?_;refine f1 2 ?_;refine f1 3 ?_;exact z.out):B:=f ⟨h⟩
theorem Z7 {B:Prop} (h:B:=by exact rXF (⟨_,_,(⟨_,(⟨_,_,_⟩:Cu),_,_⟩:SO26),_⟩:SS26) results158 (hp:=by exact wl0)):B:=h
theorem Z9 {A B:Prop} (h:A) (f:Bx A→B:=by intro z;refine qbc (OpP.to (qa1 (size:=3) (qs:=[(0,_)]) rfl rfl rfl ⟨⟨rfl,_,(er rfl),qas⟩,trivial⟩ rf rf) (SubL.row1 (T:=tEn) (x:=(⟨_,(⟨_,_⟩:Pt)⟩:En)) rf rf rf qav)) ?_;exact z.out):B:=f ⟨h⟩
theorem Z10 {A B:Prop} (h:A) (f:Bx A→B:=by intro z;refine qn9 rfl rfl rfl rf kr (qnq qap (by exact qfz rfl rfl rfl) qcn) ?_;exact z.out):B:=f ⟨h⟩
theorem Z12 {B:Prop} (h:B:=by exact rXF (⟨_,_,(⟨_,(⟨_,_,_⟩:Cu),_,_⟩:SO26),_⟩:SS26) results159 (hp:=by exact wl0)):B:=h
theorem Z13 {A B:Prop} (h:A) (f:Bx A→B:=by intro z;refine t2 ?_;refine qbc (OpP.fr (qff (size:=9) (qs:=[(0,_),(1,_)]) rfl rfl rfl ⟨⟨rfl,_,(er rfl),qas⟩,⟨⟨rfl,_,(er rfl),qas⟩,trivial⟩⟩ rf rf) qmk (SubL.row2 (T:=tPg) (x:=(⟨_,_,_,_,_,_,_,_,_⟩:Pg)) (y:=(⟨_,_,_,_,_,_,_,_,_⟩:Pg)) rf rf rf rf qav qav)) ?_;exact z.out):B:=f ⟨h⟩
theorem Z15 {A B:Prop} (h:A) (f:Bx A→B:=by intro z;refine qao rfl (OpP.fr (qff (size:=9) (qs:=[(0,_),(1,_)]) rfl rfl rfl ⟨⟨rfl,_,(er rfl),qas⟩,⟨⟨rfl,_,(er rfl),qas⟩,trivial⟩⟩ rf rf) qmk (SubL.row2 (T:=tPg) (x:=(⟨_,_,_,_,_,_,_,_,_⟩:Pg)) (y:=(⟨_,_,_,_,_,_,_,_,_⟩:Pg)) rf rf rf rf qav qav)) ?_;exact z.out):B:=f ⟨h⟩
theorem Z16 {B:Prop} (h:B:=by refine s1 ?_;exact qal _ (trivial) qag qab):B:=h
theorem Z17 {B:Prop} (h:B:=by exact rXF (⟨_,_,(⟨_,_,_,_,_,_,_,(⟨_,_⟩:Pt),_,_,_,_,_⟩:O24),_⟩:S24) results226 (hp:=by exact ⟨wl0,by exact nZ _,nZ _⟩)):B:=h
theorem Z18 {A B:Prop} (h:A) (f:Bx A→B:=by intro z;refine f1 4 ?_;refine f1 5 ?_;refine f1 6 ?_;refine f1 7 ?_;exact z.out):B:=f ⟨h⟩
theorem Z21 {A B:Prop} (h:A) (f:Bx A→B:=by intro z;refine qwj (qdf (er rfl) (er rfl) qas qaf qbx rf rf rf) ?_;exact z.out):B:=f ⟨h⟩
theorem Z26 {A B:Prop} (h:A) (f:Bx A→B:=by intro z;refine qao rfl (OpP.to (qa1 (size:=1) (qs:=[(0,_),(1,_)]) rfl rfl rfl ⟨⟨rfl,_,(er rfl),qas⟩,⟨⟨rfl,_,(er rfl),qas⟩,trivial⟩⟩ rf rf) (SubL.row2 (T:=qaw) (x:=_) (y:=_) rf rf rf rf qav qav)) ?_;exact z.out):B:=f ⟨h⟩
theorem Z27 {A B:Prop} (h:A) (f:Bx A→B:=by intro z;refine kRF call41 (qhn _ _) ?_;refine t4 ?_;exact z.out):B:=f ⟨h⟩
theorem Z31 {B:Prop} (h:B:=by exact rXF (⟨_,_,(⟨_,_,_,_,_,_,_,(⟨_,_⟩:Pt),_,_,_,_,_⟩:O24),_⟩:S24) results201 (hp:=by exact ⟨wl0,by exact nZ _,by exact nZ _⟩)):B:=h
theorem Z37 {A B:Prop} (h:A) (f:Bx A→B:=by intro z;refine qbc (qe6 (er rfl) rfl rfl rfl ⟨_,_,(er rfl),rf⟩ om om) ?_;refine Z10 ?_;exact z.out):B:=f ⟨h⟩
theorem Z41 {A B:Prop} (h:A) (f:Bx A→B:=by intro z;refine t3 ?_;refine Z4 ?_;refine s1 ?_;exact z.out):B:=f ⟨h⟩
theorem Z43 {A B:Prop} (h:A) (f:Bx A→B:=by intro z;refine kRF call85 (qeb _) ?_;refine t2 ?_;exact z.out):B:=f ⟨h⟩
theorem Z45 {A B:Prop} (h:A) (f:Bx A→B:=by intro z;refine qbc (OpP.fr (qff (size:=9) (qs:=[(0,_)]) rfl rfl rfl ⟨⟨rfl,_,(er rfl),qas⟩,trivial⟩ rf rf) qmk (SubL.row1 (T:=tPg) (x:=(⟨_,_,_,_,_,_,_,_,_⟩:Pg)) rf rf rf qav)) ?_;exact z.out):B:=f ⟨h⟩
theorem Z46 {A B:Prop} (h:A) (f:Bx A→B:=by intro z;refine t5 ?_;refine qao rfl (OpP.to (qa1 (size:=2) (qs:=[(0,_)]) rfl rfl rfl ⟨⟨rfl,_,(er rfl),qas⟩,trivial⟩ rf rf) (SubL.row1 (T:=tRs29) (x:=(⟨_,_⟩:Rs29)) rf rf rf qav)) ?_;exact z.out):B:=f ⟨h⟩
theorem Z50 {B:Prop} (h:B:=by exact rXF (⟨_,_,(⟨_,_,_,_,_,_,_,(⟨_,_⟩:Pt),_,_,_,_,_⟩:O24),_⟩:S24) results230 (hp:=by exact ⟨wl0,by exact nZ _,nZ _⟩)):B:=h
theorem Z55 {A B:Prop} (h:A) (f:Bx A→B:=by intro z;refine qbc (qac call83 (qqp _) ⟨qap,trivial⟩) ?_;exact z.out):B:=f ⟨h⟩
theorem Z57 {A B:Prop} (h:A) (f:Bx A→B:=by intro z;refine qbc (OpP.to (qa1 (size:=1) (qs:=[(0,_)]) rfl rfl rfl ⟨⟨rfl,_,(er rfl),qas⟩,trivial⟩ rf rf) (SubL.row1 (T:=qaw) (x:=_) rf rf rf qav)) ?_;exact z.out):B:=f ⟨h⟩
theorem Z58 {A B:Prop} (h:A) (f:Bx A→B:=by intro z;refine qhc (by exact qbe (k:=2) (er rfl) rfl rfl rfl rfl) ?_;refine Z21 ?_;refine qhc (by exact qbe (k:=8) (er rfl) rfl rfl rfl rfl) ?_;refine Z21 ?_;exact z.out):B:=f ⟨h⟩
theorem Z59 {A B:Prop} (h:A) (f:Bx A→B:=by intro z;refine kRF call81 (zgo _ _ _ _) ?_;refine t5 ?_;exact z.out):B:=f ⟨h⟩
theorem Z63 {B:Prop} (h:B:=by exact rA (Bs:=[_]) results33 eRF):B:=h
theorem Z65 {A B:Prop} (h:A) (f:Bx A→B:=by intro z;refine Z6 ?_;refine Z18 ?_;refine f1 8 ?_;refine f1 9 ?_;exact z.out):B:=f ⟨h⟩
theorem Z67 {A B:Prop} (h:A) (f:Bx A→B:=by intro z;refine f1 12 ?_;refine f1 13 ?_;refine f1 14 ?_;refine f1 15 ?_;refine f1 16 ?_;refine f1 17 ?_;exact z.out):B:=f ⟨h⟩
theorem Z68 {A B:Prop} (h:A) (f:Bx A→B:=by intro z;refine f1 2 ?_;refine f1 3 ?_;exact z.out):B:=f ⟨h⟩
theorem Z73 {B:Prop} (h:B:=by exact rXF (⟨_,_,(⟨_,(⟨_,_,_⟩:Cu),_,_⟩:SO26),_⟩:SS26) results160 (hp:=by exact wl0)):B:=h
theorem Z75 {A B:Prop} (h:A) (f:Bx A→B:=by intro z;refine t3 ?_;refine qao rfl (qhr (er rfl) rfl rfl (qkp _)) ?_;refine t11 ?_;refine qao rfl (qa1 (size:=9) (qs:=[(0,_),(1,_)]) rfl rfl rfl ⟨⟨rfl,_,(er rfl),qas⟩,⟨⟨rfl,_,(er rfl),qas⟩,trivial⟩⟩ rf rf) ?_;exact z.out):B:=f ⟨h⟩
theorem Z76 {B:Prop} (h:B:=by exact rA (Bs:=[_]) results48 eRF):B:=h
theorem Z77 {B:Prop} (h:B:=by exact qd4 (Bs:=[_,_,_]) ((⟨_,_⟩:Pt),_,_) rfl results221 eXF (List.nil_sublist _)):B:=h
theorem Z79 {B:Prop} (h:B:=by exact qal (⟨(⟨_,_,_,_⟩:Rw),_,_,_,(⟨_,_⟩:Pt)⟩:Vs) (trivial) qag qab):B:=h
theorem Z86 {A B:Prop} (h:A) (f:Bx A→B:=by intro z;refine qao rfl (qa1 (size:=9) (qs:=[(0,_)]) rfl rfl rfl ⟨⟨rfl,_,(er rfl),qas⟩,trivial⟩ rf rf) ?_;exact z.out):B:=f ⟨h⟩
theorem Z89 {B:Prop} (h:B:=by exact rA (Bs:=[_]) results11 eRF):B:=h
theorem Z91 {B:Prop} (h:B:=by refine s1 ?_;exact qal () (trivial) qag qab):B:=h
theorem Z92 {A B:Prop} (h:A) (f:Bx A→B:=by intro z;refine qaj 13 kr ?_;refine zbw (qb4 tEn rfl rfl) ?_;refine t3 ?_;refine Z37 ?_;refine t4 ?_;exact z.out):B:=f ⟨h⟩
theorem Z95 {A B:Prop} (h:A) (f:Bx A→B:=by intro z;refine qn9 rfl rfl rfl rf kr (qnq (by exact er rfl) (by exact qfz rfl rfl rfl) qcn) ?_;refine t2 ?_;refine qbc (qe6 (er rfl) rfl rfl ⟨_,_,(er rfl),rf⟩ rfl om om) ?_;refine Z10 ?_;exact z.out):B:=f ⟨h⟩
theorem Z96 {A B:Prop} (h:A) (f:Bx A→B:=by intro z;refine t6 ?_;refine qao rfl (OpP.to (qa1 (size:=2) (qs:=[(0,_)]) rfl rfl rfl ⟨⟨rfl,_,(er rfl),qas⟩,trivial⟩ rf rf) (SubL.row1 (T:=tPt) (x:=(⟨_,_⟩:Pt)) rf rf rf qav)) ?_;exact z.out):B:=f ⟨h⟩
theorem Z102 {A B:Prop} (h:A) (f:Bx A→B:=by intro z;refine qda ?_;refine t4 ?_;refine Z2 ?_;refine t6 ?_;exact z.out):B:=f ⟨h⟩
theorem Z104 {B:Prop} (h:B:=by exact qd4 (Bs:=[_,_]) (_,_) rfl results165 eXF (List.nil_sublist _)):B:=h
theorem Z105 {B:Prop} (h:B:=by exact rA (Bs:=[_]) results32 eRF):B:=h
theorem Z113 {B:Prop} (h:B:=by exact qhd (Bs:=[_,_,_,_]) _ rfl results99 eXF (List.nil_sublist _) (by exact by omega)):B:=h
def FnX (P:Program) (f:FuncId) (As:List VP) (its:List Item) {ι:Type} (p:ι->Prop) (R:ι->VP) (its':ι->List Item):Prop:=Fn P f As its (fun i:{i:ι // p i}=>R i.1) (fun i=>its' i.1)
def OpSX (P:Program) (c:Ctx) (o:Oper) (A:Nat->Option VP) (L:List Item) {ι:Type} (p:ι->Prop) (F:ι->VP) (L':ι->List Item):Prop:=OpS P c o A L (fun i:{i:ι // p i}=>F i.1) (fun i=>L' i.1)
section
variable {P:Program} {c:Ctx} {A:Nat->Option VP} {L:List Item} {d:Option Tmp} {ty:TypeId} {pos:String} {af:Array Edge} {g:Option (Nat×Bool)}
theorem qcb {f:FuncId} {xs:List Operand} {ts:Array TypeId} {As:List VP} {it:Item} {L1:List Item} {ι:Type} {p:ι->Prop} {R:ι->VP} {it':ι->Item} (hd:Drop1 L it L1) (hc:∀ (args:Array Value) (w:World),(callFunc f args).run P w = .ok (.enter f args) w)
  (hF:FnX P f As [it] p R (fun i=>[it' i])) (ha:ArgsE A L xs As):OpSX P c ⟨d,.call { callee:=.value (.func f),args:=xs.toArray,argTypes:=ts },ty,pos,af,g⟩ A L p R (fun i=>it' i::L1):=qbn hd hc hF ha
theorem qds {f:FuncId} {xs:List Operand} {ts:Array TypeId} {As:List VP} {it it2:Item} {L1 L2:List Item} {ι:Type} {p:ι->Prop} {R:ι->VP} {it' it2':ι->Item} (hd:Drop1 L it L1) (hd2:Drop1 L1 it2 L2) (hc:∀ (args:Array Value) (w:World),(callFunc f args).run P w = .ok (.enter f args) w)
  (hF:FnX P f As [it,it2] p R (fun i=>[it' i,it2' i])) (ha:ArgsE A L xs As):OpSX P c ⟨d,.call { callee:=.value (.func f),args:=xs.toArray,argTypes:=ts },ty,pos,af,g⟩ A L p R (fun i=>it' i::it2' i::L2):=qb3 hd hd2 hc hF ha
theorem op_callTX0 {f:FuncId} {xs:List Operand} {ts:Array TypeId} {As:List VP} {ι:Type} {p:ι->Prop} {R:ι->VP} {it' it2':ι->Item} (hc:∀ (args:Array Value) (w:World),(callFunc f args).run P w = .ok (.enter f args) w)
  (hF:FnX P f As [] p R (fun i=>[it' i,it2' i])) (ha:ArgsE A L xs As):OpSX P c ⟨d,.call { callee:=.value (.func f),args:=xs.toArray,argTypes:=ts },ty,pos,af,g⟩ A L p R (fun i=>it' i::it2' i::L):=qsp hc hF ha
end
section
variable {P:Program} {ops:Array Oper} {rest:List Oper} {c:Ctx} {N:Nat} {E:Env} {L:List Item} {Q:Exit->Act->World->Prop} {t:Tmp} {op:Op} {ty:TypeId} {pos:String} {af:Array Edge} {nd:List Nat} {k:Nat} {ι:Type} {p:ι->Prop} {F:ι->VP} {L':ι->List Item}
theorem qd5 (hd:Nat.blt t N=true) (hs:OpSX P c ⟨some t,op,ty,pos,af,none⟩ (look E) L p F L') (h:∀ i,p i->JL P ops Q c N rest ((t,F i)::E) (L' i)):JL P ops Q c N (⟨some t,op,ty,pos,af,none⟩::rest) E L:=qc6 hd hs fun i=>h i.1 i.2
end
section
variable {P:Program} {c:Ctx} {N:Nat} {E:Env} {L:List Item}
theorem qai {fn:Func} {ι:Type} {p:ι->Prop} {R0:{i:ι // p i}->VP} {L0:{i:ι // p i}->List Item} {rs:List ResultVar} {Bs:List VP} (i:ι) (hp:p i) (hB:qqx Bs=R0 ⟨i,hp⟩) (hr:fn.results=rs.toArray) (hE:qqg P E L rs Bs) (hL:SubP (L0 ⟨i,hp⟩) L) (hD0:c.ds=[]:=by first|assumption|exact And.right (by assumption)) :
  JQ c N E L (bodyPost P fn (qre c R0 L0)) .ret:=qbp hr hE ⟨i,hp⟩ (by rw [hB];exact SubL.rfl') hL hD0
end
theorem qf0 {A:VP}:Sub A Top:=fun _ _ _=>trivial
theorem qk2 {ι:Type} {p:ι->Prop} {R:Nat->ι->VP} (h:∀ i,qkj fun B=>R B i):qkj fun B=>qfc p (R B):=fun B B' φ φ' v hB hl ⟨i,hi,k⟩=>⟨i,hi,h i B B' φ φ' v hB hl k⟩
section
variable {P:Program} {c:Ctx} {A:Nat->Option VP} {L:List Item}
theorem HP.freezeBX {φ:Fz} {w:World} {b:Nat} {t:TypeId} {As:List VP} {L':List Item} (hm:HP c φ L w) (hr:Repl L (blk b t As) (fact (.pointer (some ⟨b,0,none⟩)) (IsRef As)) L') (hX:∀ x,x∈c.X->x∈qbr L'):∃ φ',Fle φ φ'∧HP c φ' L' w:=by
 obtain ⟨vs,e1,f1,f2⟩:=qj2 hm hr.mem;have hit:=hm.mem.items _ hr.mem;have hown:∀ i,φ b i=none:=fun i=>(hit.2 b rfl).2 i
 let φ':Fz:=fun b' i=>if b'=b then vs[i]? else φ b' i
 have hsame:∀ i,φ' b i=vs[i]?:=fun i=>if_pos rfl;have hoth:∀ b' i,b'≠b->φ' b' i=φ b' i:=fun b' i h=>if_neg h;have hle:Fle φ φ':=fun b' i u hu=>by
  rw [hoth b' i (fun e=>by subst e;rw [hown i] at hu;cases hu)];exact hu
 have hg0:c.w.heap.size<=b:=(hm.mine b (mem_names.2 ⟨_,hr.mem,rfl⟩)).resolve_right fun hx=>by
  obtain ⟨x,hx1,hx2⟩:=mem_names.1 (hX b hx);rcases hr.mem' hx1 with rfl|⟨hx',hap⟩
  ·cases hx2
  ·exact (hap hm.mem.sep).1 b hx2 rfl
 refine ⟨φ',hle,⟨⟨fun b' i u hu=>?_,fun x hx=>?_,hr.sep hm.mem.sep fun x hx _ _=>⟨fun b _ (hb:none=some b)=>(nomatch hb),fun b (hb:none=some b)=>(nomatch hb)⟩⟩,hm.kept,fun b' hb=>?_,fun b' i hb=>?_⟩⟩
 ·by_cases hbg:b'=b
  ·subst hbg;rw [hsame] at hu;rw [qic e1];exact hu
  ·rw [hoth b' i hbg] at hu;exact hm.mem.base b' i u hu
 ·rcases hr.mem' hx with rfl|⟨hx',hap⟩
  ·refine ⟨⟨b,0,rfl,fun j B hB=>?_⟩,fun b (hb:none=some b)=>(nomatch hb)⟩;obtain ⟨u,h1,h2⟩:=f1.get hB;exact ⟨u,by rw [hsame,Nat.zero_add];exact h1,B.mono hle h2,f2 u (List.mem_of_getElem? h1)⟩
  ·obtain ⟨h1,h2⟩:=hm.mem.items x hx';refine ⟨x.mono hle h1,fun b' hb=>⟨(h2 b' hb).1,fun i=>?_⟩⟩;rw [hoth b' i (fun e=>(hap hm.mem.sep).1 b' hb (by rw [e];rfl))]
   exact (h2 b' hb).2 i
 ·obtain ⟨x,hx,hxb⟩:=mem_names.1 hb;rcases hr.mem' hx with rfl|⟨hx',_⟩
  ·cases hxb
  ·exact hm.mine b' (mem_names.2 ⟨x,hx',hxb⟩)
 ·rw [hoth b' i om];exact hm.old b' i hb
variable {Q:Exit->Act->World->Prop} {N:Nat} {E:Env} {b:Nat} {t:TypeId} {As:List VP} {L':List Item}
theorem qdd {x:Code} (hr:Repl L (blk b t As) (fact (.pointer (some ⟨b,0,none⟩)) (IsRef As)) L') (hX:∀ x,x∈c.X->x∈qbr L') (h:JC P c N x E L' Q):JC P c N x E L Q:=fun φ a w st =>
 let ⟨φ',h1,h2⟩:=HP.freezeBX st.mem hr hX
 h φ' a w ⟨st.defers,st.size,fun t B hB=>B.mono h1 (st.env t B hB),h2⟩
end
theorem zen {M:List Item}:∀ b,b∈qbr ([]:List Item)->b∈qbr M:=fun b hb=>by simp [qbr] at hb
theorem za9 {x:Item} {L M:List Item} (h:∃ z,z∈M∧z.at_=x.at_) (h2:∀ b,b∈qbr L->b∈qbr M):∀ b,b∈qbr (x::L)->b∈qbr M:=fun b hb=>by
 obtain ⟨it,h3,h4⟩:=mem_names.1 hb;rcases List.mem_cons.1 h3 with rfl|h3
 ·obtain ⟨z,h5,h6⟩:=h;exact mem_names.2 ⟨z,h5,h6.trans h4⟩
 ·exact h2 b (mem_names.2 ⟨it,h3,h4⟩)
theorem qgp {X:List Nat} {L M:List Item} {p:Prop} (hX:X=qbr L∧p) (h:∀ b,b∈qbr L->b∈qbr M:=by
  (repeat (refine za9 (by first
   | exact ⟨_,.head _,rfl⟩|exact ⟨_,.tail _ (.head _),rfl⟩|exact ⟨_,.tail _ (.tail _ (.head _)),rfl⟩|exact ⟨_,.tail _ (.tail _ (.tail _ (.head _))),rfl⟩
   | exact ⟨_,.tail _ (.tail _ (.tail _ (.tail _ (.head _)))),rfl⟩|exact ⟨_,.tail _ (.tail _ (.tail _ (.tail _ (.tail _ (.head _))))),rfl⟩|exact ⟨_,.tail _ (.tail _ (.tail _ (.tail _ (.tail _ (.tail _ (.head _)))))),rfl⟩
   | exact ⟨_,.tail _ (.tail _ (.tail _ (.tail _ (.tail _ (.tail _ (.tail _ (.head _))))))),rfl⟩
   | exact ⟨_,.tail _ (.tail _ (.tail _ (.tail _ (.tail _ (.tail _ (.tail _ (.tail _ (.head _)))))))),rfl⟩
   | exact ⟨_,.tail _ (.tail _ (.tail _ (.tail _ (.tail _ (.tail _ (.tail _ (.tail _ (.tail _ (.head _))))))))),rfl⟩
   | exact ⟨_,.tail _ (.tail _ (.tail _ (.tail _ (.tail _ (.tail _ (.tail _ (.tail _ (.tail _ (.tail _ (.head _)))))))))),rfl⟩
   | exact ⟨_,.tail _ (.tail _ (.tail _ (.tail _ (.tail _ (.tail _ (.tail _ (.tail _ (.tail _ (.tail _ (.tail _ (.head _))))))))))),rfl⟩) ?_));exact zen):∀ b,b∈X->b∈qbr M:=fun b hb=>h b (by rw [<- hX.1];exact hb)
def IsNS (xs:List Int):VP:=if xs=[] then Is (.slice none 0 0) else qad qaw xs
theorem isNS_nil:IsNS []=Is (.slice none 0 0):=if_pos rfl
theorem ze1 {xs:List Int} (h:xs=[]):IsNS xs=Is (.slice none 0 0):=if_pos h
theorem qu5 {xs:List Int} (h:xs≠[]):IsNS xs=qad qaw xs:=if_neg h
theorem subNS {L:List Item} (xs:List Int):SubL L (IsNS xs) (qad qaw xs):=by
 by_cases h:xs=[]
 ·subst h;rw [isNS_nil];exact SubL.nil
 ·rw [qu5 h];exact SubL.rfl'
theorem lines_ne (W:List Int) (x:Int):qfg W x≠[]:=by
 cases W with
 | nil=>simp [qfg]
 | cons y l =>
  unfold qfg;split
  ·simp
  ·split <;> simp
theorem qx9 (ks:List Pg) (ls:List Int) (hn:ls.length<=1000000):FnP prog 104 [qad tPg ks,qad qaw ls] (IsNS (qe8 ks ls)):=by
 refine FnP.enter func104 ntmps104 rfl rfl ?_;intro c hX;refine t17 ?_;refine qbl 5 (IsNS (qe8 ks (ls.take 0))) rfl (SubL.eq (ze1 rfl).symm) ?_;refine qax [(0,_),(1,_),(4,_)] [] (fun k:Nat=>k<=(ls).length) (fun k=>[(5,IsNS (qe8 ks (ls.take k))),(6,Ii (k:Nat))]) (fun k=>[]) (fun k=>(ls).length-k) 0 (nZ _) qa8 qab ?_;rintro k hk;refine t9 ?_;refine cN ?_ ?_<;>intro h3
 ·have hlt:k<(ls).length:=by have:=of_decide_eq_true h3;omega
  clear h3;obtain ⟨z,hz⟩:∃ q,(ls)[k]?=some q:=⟨_,gE hlt⟩
  have e:=qrs (ks:=ks) hz;have hl0:(qe8 ks (ls.take k)).length<=1000000:=by have:=qmu ks (ls.take k);have:=List.length_take_le k ls;omega
  refine t11 ?_;refine kS call41 (qhn _ _) ?_;refine t4 ?_;intro i7;refine t10 ?_;refine cN ?_ ?_<;>intro h6
  ·rw [ifT h6] at e;have e9:IsNS (qe8 ks (ls.take (k+1)))=qad qaw (qfg (qe8 ks (ls.take k)) z):=by rw [e,qu5 (lines_ne _ _)]
   refine t6 ?_;refine qln 26 (qad qaw (qe8 ks (ls.take k))) rfl (subNS _) ?_;refine qao rfl (by ((refine qac call169 (qjj (qe8 ks (ls.take k)) _ ?_) ⟨evS,⟨evS,trivial⟩⟩);all_goals (assumption))) ?_;refine t9 ?_;exact qaa (k+1) om om (by rw [e9];exact qa8) qab
  rw [ifF h6] at e;have e9:IsNS (qe8 ks (ls.take (k+1)))=IsNS (qe8 ks (ls.take k)):=by rw [e]
  refine t8 ?_;exact qaa (k+1) om om (by rw [e9];exact qa8) qab
 have hke:k=(ls).length:=by have:=of_decide_eq_false h3;omega
 clear h3;subst hke;(try rw [List.take_length]);refine t12 ?_;refine rB results104 rfl ?_;rfl
def qh4 (e:Int):S19:={ S19.nil with code:=e,over:=true }
def qst (l:List Int):S19:={ S19.nil with need:=l }
def hE1 (ks:List Pg) (o l:Int):Option Int:=
 if qet (qb9 ks l)=true then some 3 else
 if ((qii (qb9 ks l)).2 != 0)=true then some 14 else
 if ((qii (qb9 ks l)).1.owner != o)=true then some 11 else none
def qob (ks:List Pg) (l:Int):BitVec 32:=(qii (qb9 ks l)).1.used
def bit0 (u:BitVec 32) (k:Nat):Bool:=UV (u>>>k&&&BitVec.ofInt 32 1)==0
def qly (u:BitVec 32) (l:Int):Nat->List Int
 | 0=>[]
 | k+1=>if (decide (1<=k)&&bit0 u k)=true then qly u l k++[l+(k:Int)] else qly u l k
def qvh (ks:List Pg) (s:Int):List Int:=qly (qob ks (qbh s)) (qbh s) 16
def srcC (ks:List Pg) (cnt:Int) (own:List Int):List Int:=
 match own.find? fun s=>decide (((qvh ks s).length:Int)>=cnt) with
 | some s=>qvh ks s
 | none=>own.flatMap (qvh ks)
def qjy (ks:List Pg) (st:List Int×List Int) (l:Int):List Int×List Int:=
 if (!qjt ks l)=true then (st.1++[l],st.2++[l]) else
 if decide (qge (qb9 ks l).d0<16777215)=true then (st.1,st.2++[l]) else st
def chF (ks:List Pg) (ls:List Int):List Int×List Int:=ls.foldl (qjy ks) ([],[])
def chE (ks:List Pg) (l:Int):Option Int:=
 if (!qjt ks l)=true then none else
 if qet (qb9 ks l)=true then some 3 else
 if (qcw (qb9 ks l).d0 != 0)=true then some 11 else none
def chR (ks:List Pg) (cnt:Int):List Int->List Int×List Int->Except Int (List Int×List Int)
 | [],st=>.ok st
 | l::r,st=>if decide ((st.2.length:Int)<cnt)=true then (match chE ks l with|some e=>.error e|none=>chR ks cnt r (qjy ks st l)) else .ok st
def setU (p:Pg) (i:Int):Pg:={ p with d1:=p.d1|||BitVec.ofInt 64 1<<<i.toNat }
def clrU (p:Pg) (i:Int):Pg:={ p with d1:=p.d1 &&& ~~~(BitVec.ofInt 64 1<<<i.toNat) }
def wrS (ks:List Pg) (lines:Int) (w:List Pg) (l:Int):List Pg:=qck w [setU (qb9 (qck ks w) (qbh (qk0 lines l).1)) (qk0 lines l).2.1]
def lpA (ks:List Pg) (lines:Int):List Int->List Pg->List Pg->S19
 | [],fr,w=>{ S19.nil with fresh:=fr,writes:=w,over:=true }
 | l::r,fr,w=>lpA ks lines r (fr++[qb9 ks l]) (wrS ks lines w l)
def alpF (ks:List Pg) (lines cnt:Int):Except Int (List Int×List Int)->S19
 | .error e=>qh4 e
 | .ok st=>if decide ((st.2.length:Int)<cnt)=true then qh4 12 else
  if decide ((st.1.length:Int)>0)=true then qst st.1 else
  lpA ks lines st.2 [] []
def alpG (ks:List Pg) (lines cnt:Int) (own:List Int):Option Int->S19
 | some e=>qh4 e
 | none=>alpF ks lines cnt (chR ks cnt (srcC ks cnt own) ([],[]))
def alpR (ks:List Pg) (o lines cnt:Int):S19:=
 if (!clB o lines||decide (cnt<1)||decide (cnt>12))=true then qh4 1 else
 if decide (((qe8 ks [98+o]).length:Int)>0)=true then qst (qe8 ks [98+o]) else
 if ((qij ks o).2.2 != 0)=true then qh4 (qij ks o).2.2 else
 if decide (((qe8 ks ((ql7 (qij ks o).2.1.sg (qb1 lines)).map qbh)).length:Int)>0)=true then qst (qe8 ks ((ql7 (qij ks o).2.1.sg (qb1 lines)).map qbh)) else
 alpG ks lines cnt (ql7 (qij ks o).2.1.sg (qb1 lines)) (((ql7 (qij ks o).2.1.sg (qb1 lines)).map qbh).findSome? (hE1 ks o))
theorem qpz (u:BitVec 32) (l:Int):∀ k,(qly u l k).length<=k
 | 0=>Nat.le_refl _
 | k+1=>by
  have:=qpz u l k;unfold qly;split
  ·rw [List.length_append,List.length_singleton];omega
  ·omega
theorem qj6 {α β:Type} {f:α->Option β} {xs:List α} {k:Nat} {x:α} {e:β} (h:xs[k]?=some x) (h0:(xs.take k).findSome? f=none) (he:f x=some e):xs.findSome? f=some e:=by
 obtain ⟨hlt,hx⟩:=List.getElem?_eq_some_iff.1 h;rw [<- List.take_append_drop k xs,List.findSome?_append,h0,List.drop_eq_getElem_cons hlt,hx];simp [he]
theorem qvj {α β:Type} {f:α->Option β} {xs:List α} {k:Nat} {x:α} (h:xs[k]?=some x) (h0:(xs.take k).findSome? f=none) (he:f x=none):(xs.take (k+1)).findSome? f=none:=by
 rw [List.take_add_one,h,List.findSome?_append,h0];simp [he]
theorem find_at {α:Type} {p:α->Bool} {xs:List α} {k:Nat} {x:α} (h:xs[k]?=some x) (h0:(xs.take k).find? p=none) (he:p x=true):xs.find? p=some x:=by
 obtain ⟨hlt,hx⟩:=List.getElem?_eq_some_iff.1 h;rw [<- List.take_append_drop k xs,List.find?_append,h0,List.drop_eq_getElem_cons hlt,hx];simp [he]
theorem find_no {α:Type} {p:α->Bool} {xs:List α} {k:Nat} {x:α} (h:xs[k]?=some x) (h0:(xs.take k).find? p=none) (he:p x=false):(xs.take (k+1)).find? p=none:=by
 rw [List.take_add_one,h,List.find?_append,h0];simp [he]
theorem qs6 (ks:List Pg) (s:Int):(qvh ks s).length<=16:=qpz _ _ _
theorem zfm (ks:List Pg):∀ ls:List Int,(ls.flatMap (qvh ks)).length<=16*ls.length
 | []=>Nat.le_refl _
 | s::ls=>by
  have h1:=qs6 ks s;have h2:=zfm ks ls;rw [List.flatMap_cons,List.length_append,List.length_cons];omega
theorem srcC_len (ks:List Pg) (cnt:Int) (own:List Int):(srcC ks cnt own).length<=16*own.length+16:=by
 unfold srcC;split
 ·have:=qs6 ks ‹_›;omega
 ·have:=zfm ks own;omega
theorem zf3 (ks:List Pg) (ls:List Int):(chF ks ls).1.length<=ls.length∧(chF ks ls).2.length<=ls.length:=by
 unfold chF
 suffices h:∀ (ls:List Int) (st:List Int×List Int),(ls.foldl (qjy ks) st).1.length<=st.1.length+ls.length∧(ls.foldl (qjy ks) st).2.length<=st.2.length+ls.length by simpa using h ls ([],[])
 intro ls;induction ls with
 | nil=>intro st;exact ⟨Nat.le_refl _,Nat.le_refl _⟩
 | cons l r ih =>
  intro st;have h1:=ih (qjy ks st l);have h2:(qjy ks st l).1.length<=st.1.length+1∧(qjy ks st l).2.length<=st.2.length+1:=by
   unfold qjy;split
   ·simp
   ·split <;> simp
  simp only [List.foldl_cons,List.length_cons];omega
theorem qr9 (l:Int):FnP prog 106 [Ii l] (Ii (qb1 l:Nat)):=by
 have h:=qwb l
 rwa [show qi2 l=((qb1 l:Nat):Int) by unfold qb1;have:=qp3 l;omega] at h
theorem own_at {bm:BitVec 32} {n k:Nat} {s:Int} (h:(ql7 bm n)[k]?=some s):0<=s∧s<n:=qw2 (List.mem_iff_getElem?.2 ⟨k,h⟩)
def relS (ks:List Pg) (lines:Int):List Pt->List Pg->S19
 | [],w=>{ S19.nil with over:=true,writes:=w }
 | p::r,w =>
  if qet (qb9 ks p.line)=true then qh4 3 else
  if (qcw (qb9 ks p.line).d0==0||qge (qb9 ks p.line).d0 != p.gen)=true then qh4 11 else
  if qet (qb9 (qck ks w) (qbh (qk0 lines p.line).1))=true then qh4 3 else
  if ((qii (qb9 (qck ks w) (qbh (qk0 lines p.line).1))).2 != 0||UV ((qii (qb9 (qck ks w) (qbh (qk0 lines p.line).1))).1.used>>>(qk0 lines p.line).2.1.toNat&&&BitVec.ofInt 32 1)==0)=true then qh4 14 else
  relS ks lines r (qck w [(relR (qb9 ks p.line)).1,clrU (qb9 (qck ks w) (qbh (qk0 lines p.line).1)) (qk0 lines p.line).2.1])
def frC (ks:List Pg) (lines:Int) (all:List Pt) (ask:List Int):S19:=
 if decide (((qe8 ks ask).length:Int)>0)=true then qst (qe8 ks ask) else relS ks lines all []
def frD (ks:List Pg) (lines:Int) (all:List Pt):List Pt->List Pt->List Int->S19
 | _,[],ask=>frC ks lines all ask
 | pre,p::r,ask =>
  if (!(qk0 lines p.line).2.2 || !qbt p)=true then qh4 1 else
  if pre.any (fun q=>q.line==p.line)=true then qh4 1 else
  frD ks lines all (pre++[p]) r (ask++[p.line,qbh (qk0 lines p.line).1])
def freR (ks:List Pg) (lines:Int) (l:List Pt):S19:=
 if ((!clB 0 lines||decide ((l.length:Int)<1))||decide ((l.length:Int)>3))=true then qh4 1 else frD ks lines l [] l []
theorem any_at {α:Type} {p:α->Bool} {xs:List α} {k:Nat} {x:α} (h:xs[k]?=some x) (he:p x=true):xs.any p=true:=List.any_eq_true.2 ⟨x,List.mem_iff_getElem?.2 ⟨k,h⟩,he⟩
theorem any_no {α:Type} {p:α->Bool} {xs:List α} {k:Nat} {x:α} (h:xs[k]?=some x) (h0:(xs.take k).any p=false) (he:p x=false):(xs.take (k+1)).any p=false:=by
 rw [List.take_add_one,h,List.any_append,h0];simp [he]
theorem loc_rng (lines x:Int):0<=(qk0 lines x).2.1∧(qk0 lines x).2.1<=15:=by unfold qk0;split <;> (dsimp only;omega)
theorem FreeR_ok (ks:List Pg) (lines:Int) (l:List Pt) (hks:ks.length<=10000):FnP prog 206 [Ii lines,qad tPt l,qad tPg ks] (zg1 (freR ks lines l)):=by
 obtain ⟨W,hE⟩:=xE (freR ks lines l);rw [hE];unfold freR at hE;refine FnP.enter func206 ntmps206 rfl rfl ?_;intro c hX;refine t3 ?_;intro i6;refine t6 ?_;refine kR call102 (qgg _ _) ?_;refine t13 ?_;refine cN ?_ ?_<;>intro h1
 ·replace hE:=qaq hE h1;refine Z35 ?_;refine t5 ?_;subst hE;exact Z114
 rw [ifF h1] at hE;have hcl:(104<=lines∧lines<=256)∧1<=l.length∧l.length<=3:=by unfold clB at h1;simp at h1;omega
 obtain ⟨hli,hll⟩:=hcl;clear h1;refine t14 ?_;refine qdo 3 qaw ?_;refine qax [(0,_),(1,_),(2,_),(6,_)] [blk i6 _ _] (fun y:Nat×(List Int)×(Option Addr×Nat)=>y.1<=(l).length∧(y.2.1.length<=2*y.1)∧frD ks lines l (List.take y.1 l) (List.drop y.1 (l)) y.2.1=W) (fun y=>[(7,Is (slV (y.2.1).length y.2.2)),(8,Ii (y.1:Nat))]) (fun y=>[buf (slV (y.2.1).length y.2.2) 3 qaw (y.2.1)]) (fun y=>(l).length-y.1) (0,[],(none,0)) ⟨by exact nZ _,Nat.le_refl 0,hE⟩ qc5 qab ?_;clear hE;rintro ⟨k,ask,v_0⟩ ⟨hk,hI,hE⟩;dsimp only at hk hI hE ⊢;refine t9 ?_;refine cN ?_ ?_<;>intro h5
 ·have hlt:k<(l).length:=by have:=of_decide_eq_true h5;omega
  clear h5;obtain ⟨z,hz⟩:∃ q,(l)[k]?=some q:=⟨_,gE hlt⟩
  rw [qf7 hz,frD] at hE;(try dsimp only at hE);refine t12 ?_;refine kR call238 (qn8 _ _) ?_;refine t18 ?_;(refine qcg rfl rfl rfl (fun hg=>(by have hg0:=hg;(try simp at hg);exact qa6 (n:=2) evG rfl rfl rfl rf qbx)) ?_);(refine qcg rfl rfl rfl (fun hg=>(by have hg0:=hg;(try simp at hg);exact qac call30 (qb5 _) ⟨evR,trivial⟩)) ?_);refine t4 ?_;refine cN ?_ ?_<;>intro h8
  ·replace hE:=qaq hE h8;refine Z35 ?_;refine t10 ?_;subst hE;exact Z114
  replace hE:=qar hE h8;refine t9 ?_;obtain ⟨n,hn⟩:∃ n,n=k:=⟨_,rfl⟩
  refine qax [(0,_),(1,_),(2,_),(6,_),(7,_),(8,_),(9,_),(11,_),(41,_),(42,_),(43,_),(47,_),(48,_),(49,_),(50,_),(51,_),(52,_),(53,_),(54,_),(55,_),(56,_),(57,_),(58,_),(59,_),(60,_),(61,_),(62,_),(63,_),(64,_),(65,_),(66,_)] [blk i6 _ _,buf _ _ _ _] (fun ka:Nat=>ka<=n∧((List.take ka (List.take k l)).any (fun q=>q.line==z.line)=false)) (fun ka=>[(12,Ii (ka:Nat))]) (fun ka=>[]) (fun ka=>n-ka) 0 ⟨by exact nZ _,rfl⟩ qc5 qab ?_;rintro ka ⟨hka,hIa⟩;refine t8 ?_;refine cN ?_ ?_<;>intro h11
  ·have hlta:ka<n:=by have:=of_decide_eq_true h11;omega
   clear h11;have hza:l[ka]?=some (l[ka]'om):=gE om;obtain ⟨y,hy⟩:=xE (l[ka]'om);rw [hy] at hza;have hzt:(List.take k l)[ka]?=some y:=by rw [List.getElem?_take_of_lt om];exact hza
   refine Z70 ?_;refine qx3 ?_;refine t2 ?_;refine qbc (by exact qak (j:=_) (er rfl) (er rfl) rfl rfl rf hza) ?_;refine t8 ?_;refine ⟨rfl,?_⟩;refine Z20 ?_;refine cN ?_ ?_<;>intro h13
   ·rw [ifT (any_at hzt h13)] at hE;refine Z35 ?_;refine t14 ?_;subst hE;exact Z114
   have hr:=any_no hzt hIa h13;refine t8 ?_;exact qaa (ka+1) ⟨om,hr⟩ om qc5 qab
  have hkea:ka=n:=by have:=of_decide_eq_false h11;omega
  clear h11;subst hkea;(try rw [List.take_length]);(try rw [List.take_length] at hIa);rw [hn,List.take_take,Nat.min_self] at hIa;refine Z70 ?_;refine qaj 9 kr ?_;refine t7 ?_;refine qbc (qac call107 (qbz _) ⟨evR,trivial⟩) ?_;refine qbc (qa1 (size:=1) (qs:=[(0,_),(1,_)]) rfl rfl rfl ⟨⟨rfl,_,(er rfl),qa5⟩,⟨⟨rfl,_,(er rfl),qa5⟩,trivial⟩⟩ rf rf) ?_;refine ⟨rfl,?_⟩;(refine JD_s kr rfl rfl (qca (er rfl) (fun _=>qaf) (by exact Ev.sub rfl (by exact SubL.row (xs:=[z.line,qbh (qk0 lines z.line).1]) rf rf qiq)) (by exact qfz rfl rfl rfl) qcn) ?_;intro i95);refine Z80 ?_;refine Z74 ?_;rw [ifF hIa,show List.take k l++[z]=List.take (k+1) l by rw [List.take_add_one,hz];rfl] at hE;exact qaa (k+1,_,i95) ⟨om,by simp;omega,hE⟩ (by dsimp only;omega) qc5 qab
 have hke:k=(l).length:=by have:=of_decide_eq_false h5;omega
 clear h5;subst hke;rw [List.drop_length,frD] at hE;(try dsimp only at hE);unfold frC at hE;refine qa7 hX (v:=slV ask.length v_0) qaf ?_;refine qbl 7 (qad qaw ask) rfl subR ?_;refine t9 ?_;refine qao rfl (by ((refine qac call104 (qhl _ ask ?_) ⟨evR,⟨evR,trivial⟩⟩);all_goals (omega))) ?_;refine t11 ?_;refine cN ?_ ?_<;>intro h17
 ·replace hE:=qaq hE h17;refine t9 ?_;subst hE;exact Z114
 replace hE:=qar hE h17;refine t14 ?_;refine qax [(0,_),(1,_),(2,_),(6,_)] [blk i6 _ _] (fun y:Nat×(List Pg)=>y.1<=(l).length∧(y.2.length<=2*y.1)∧relS ks lines (List.drop y.1 (l)) y.2=W) (fun y=>[(14,qad tPg y.2),(15,Ii (y.1:Nat))]) (fun y=>[]) (fun y=>(l).length-y.1) (0,[]) ⟨by exact nZ _,Nat.le_refl 0,hE⟩ qc5 qab ?_;clear hE;rintro ⟨k,w⟩ ⟨hk,hI,hE⟩;dsimp only at hk hI hE ⊢;refine t9 ?_;refine cN ?_ ?_<;>intro h21
 ·have hlt:k<(l).length:=by have:=of_decide_eq_true h21;omega
  clear h21;obtain ⟨z,hz⟩:∃ q,(l)[k]?=some q:=⟨_,gE hlt⟩
  rw [qf7 hz,relS] at hE;(try dsimp only at hE);have hlr:=loc_rng lines z.line;refine t12 ?_;refine Z98 ?_;intro i16;refine t5 ?_;generalize qb9 ks z.line=p at hE ⊢;refine t7 ?_;refine kR call238 (qn8 _ _) ?_;refine t11 ?_;generalize qk0 lines z.line=lo at hE hlr ⊢;refine t2 ?_;refine kR call85 (qeb _) ?_;refine t2 ?_;refine cN ?_ ?_<;>intro h25
  ·replace hE:=qaq hE h25;refine Z35 ?_;refine t10 ?_;subst hE;exact Z114
  replace hE:=qar hE h25;refine Z38 ?_;refine zbq ?_;refine s1 ?_;refine qbc (qac call92 (qel _) ⟨evR,trivial⟩) ?_;refine t3 ?_;(refine qch rfl rfl (fun hg=>(by have hg0:=hg;(try simp at hg);exact qac call95 (qh1 _) ⟨evR,trivial⟩)) ?_);refine t7 ?_;refine ⟨rfl,?_⟩;refine Z20 ?_;refine cN ?_ ?_<;>intro h27
  ·replace hE:=qaq hE h27;refine Z35 ?_;refine t10 ?_;subst hE;exact Z114
  replace hE:=qar hE h27;refine t6 ?_;refine qao rfl (by ((refine qac call88 (qng ks w ?_) ⟨evR,⟨evR,trivial⟩⟩);all_goals (omega))) ?_;refine s1 ?_;refine kR call107 (qbz _) ?_;refine Z98 ?_;intro i21;refine t6 ?_;generalize qb9 (qck ks w) (qbh lo.1)=q at hE ⊢;refine t2 ?_;refine kR call85 (qeb _) ?_;refine t2 ?_;refine cN ?_ ?_<;>intro h30
  ·replace hE:=qaq hE h30;refine Z35 ?_;refine t10 ?_;subst hE;exact Z114
  replace hE:=qar hE h30;refine t5 ?_;refine kR call108 (qgj _) ?_;refine t4 ?_;intro i23;refine t6 ?_;generalize qii q=hh at hE ⊢;refine t8 ?_;(refine qcg rfl rfl rfl (fun hg=>(by have hg0:=hg;(try simp at hg);exact qgo (k:=lo.2.1.toNat) qlc evG om qdh)) ?_);refine t5 ?_;refine cN ?_ ?_<;>intro h33
  ·replace hE:=qaq hE h33;refine Z35 ?_;refine t10 ?_;subst hE;exact Z114
  replace hE:=qar hE h33;refine t9 ?_;refine qao rfl (by exact qeg (k:=lo.2.1.toNat) qhh (er rfl) om qdh) ?_;refine t9 ?_;refine kR call239 (qx6 _) ?_;refine t4 ?_;intro i25;refine t4 ?_;generalize relR p=rr at hE ⊢;refine t4 ?_;refine qao rfl (qa1 (size:=9) (qs:=[(0,_),(1,_)]) rfl rfl rfl ⟨⟨rfl,_,(er rfl),qa5⟩,⟨⟨rfl,_,(er rfl),qa5⟩,trivial⟩⟩ rf rf) ?_;refine qao rfl (by ((refine qac call88 (qng w [rr.1,clrU q lo.2.1] ?_) ⟨evR,⟨evR,trivial⟩⟩);all_goals (simp;omega))) ?_;refine t9 ?_;exact qaa (k+1,_) ⟨om,by have h:=qae w [rr.1,clrU q lo.2.1];simp only [List.length_cons,List.length_nil] at h;exact nT h om,hE⟩ om qc5 qab
 have hke:k=(l).length:=by have:=of_decide_eq_false h21;omega
 clear h21;subst hke;rw [List.drop_length,relS] at hE;(try dsimp only at hE);refine t13 ?_;subst hE;exact Z114
theorem qos (ks:List Pg) (o lines cnt:Int) (hks:ks.length<=10000):FnP prog 204 [Ii o,Ii lines,Ii cnt,qad tPg ks] (zg1 (alpR ks o lines cnt)):=by
 unfold alpR;refine FnP.enter func204 ntmps204 rfl rfl ?_;intro c hX;refine t3 ?_;intro i8;refine t7 ?_;refine kR call102 (qgg _ _) ?_;refine t11 ?_;refine cN ?_ ?_<;>intro h1
 ·rw [ifT h1];refine Z35 ?_;refine t5 ?_;exact Z90
 rw [ifF h1];have hcl:(0<=o∧o<6)∧(104<=lines∧lines<=256)∧1<=cnt∧cnt<=12:=by unfold clB at h1;simp at h1;omega
 obtain ⟨ho,hli,hcnt⟩:=hcl;clear h1;refine t7 ?_;refine Z22 ?_;refine qao rfl (by ((refine qac call104 (qhl _ [98+o] ?_) ⟨evR,⟨evR,trivial⟩⟩);all_goals (simp))) ?_;refine t11 ?_;refine cN ?_ ?_<;>intro h4
 ·rw [ifT h4];refine t9 ?_;exact Z90
 rw [ifF h4];refine t6 ?_;refine qao rfl (by ((refine qac call105 (qnn _ _ ?_) ⟨evR,⟨evR,trivial⟩⟩);all_goals (assumption))) ?_;refine t5 ?_;intro i10;refine s1 ?_;intro i11;refine t12 ?_;refine cN ?_ ?_<;>intro h7
 ·rw [ifT h7];refine t3 ?_;refine kR call103 (qp1 _) ?_;refine t5 ?_;exact Z90
 rw [ifF h7];refine t15 ?_;refine qdo 3 qaw ?_;refine qdo 3 qaw ?_;refine qax [(0,_),(1,_),(2,_),(3,_),(8,_),(9,_),(11,_)] [blk i11 _ _,blk i8 _ _] (fun y:Nat×(Option Addr×Nat)×(Option Addr×Nat)=>y.1<=qb1 lines) (fun y=>[(13,Is (slV (ql7 (qij ks o).2.1.sg y.1).length y.2.1)),(14,Is (slV ((ql7 (qij ks o).2.1.sg y.1).map qbh).length y.2.2)),(15,Ii (y.1:Nat))]) (fun y=>[buf (slV (ql7 (qij ks o).2.1.sg y.1).length y.2.1) 3 qaw (ql7 (qij ks o).2.1.sg y.1),buf (slV ((ql7 (qij ks o).2.1.sg y.1).map qbh).length y.2.2) 3 qaw ((ql7 (qij ks o).2.1.sg y.1).map qbh)]) (fun y=>qb1 lines-y.1) (0,(none,0),(none,0)) (nZ _) qc5 qab ?_;rintro ⟨k,v_0,v_1⟩ hk;dsimp only at hk ⊢;refine t5 ?_;refine kR call106 (qr9 _) ?_;refine t3 ?_;refine cN ?_ ?_<;>intro h11
 ·have hlt:k<qb1 lines:=by have:=of_decide_eq_true h11;omega
  clear h11;have hol:=qso (qij ks o).2.1.sg k;have hcn:=qp4 lines;refine t15 ?_;refine cN ?_ ?_<;>intro h13
  ·have g:bitB (qij ks o).2.1.sg k=true:=h13;have hmt:ql7 (qij ks o).2.1.sg (k+1)=ql7 (qij ks o).2.1.sg k++[(k:Int)]:=by conv=>lhs;unfold ql7;rw [if_pos g]
   have hm2:(ql7 (qij ks o).2.1.sg (k+1)).map qbh=(ql7 (qij ks o).2.1.sg k).map qbh++[qbh (k:Int)]:=by rw [hmt,List.map_append];rfl
   have hl2:((ql7 (qij ks o).2.1.sg k).map qbh).length<=k:=by rw [List.length_map];exact hol
   clear h13;refine t4 ?_;refine Z22 ?_;(refine qc6 rfl (qca (er rfl) (fun _=>qaf) (by exact Ev.sub rfl (by exact SubL.row (xs:=[(k:Int)]) rf rf qiq)) (by exact qfz rfl rfl rfl) qcn) ?_;intro i89);refine t6 ?_;refine kR call107 (qbz _) ?_;refine Z22 ?_;(refine qc6 rfl (qca (er rfl) (fun _=>qaf) (by exact Ev.sub rfl (by exact SubL.row (xs:=[qbh (k:Int)]) rf rf qiq)) (by exact qfz rfl rfl rfl) qcn) ?_;intro i94);refine t9 ?_;rw [<- hm2,<- hmt];exact qaa (k+1,i89,i94) (by dsimp only;omega) (by dsimp only;omega) qc5 qab
  have g:¬ bitB (qij ks o).2.1.sg k=true:=fun e=>Bool.noConfusion (show false=true from h13.symm.trans e);have hmt:ql7 (qij ks o).2.1.sg (k+1)=ql7 (qij ks o).2.1.sg k:=by conv=>lhs;unfold ql7;rw [if_neg g]
  have hm2:(ql7 (qij ks o).2.1.sg (k+1)).map qbh=(ql7 (qij ks o).2.1.sg k).map qbh:=by rw [hmt]
  clear h13;refine t8 ?_;rw [<- hm2,<- hmt];exact qaa (k+1,v_0,v_1) (by dsimp only;omega) (by dsimp only;omega) qc5 qab
 have hke:k=qb1 lines:=by have:=of_decide_eq_false h11;omega
 clear h11;subst hke;have hol:=qso (qij ks o).2.1.sg (qb1 lines);have hcn:=qp4 lines;have hown:∀ (k:Nat) s,(ql7 (qij ks o).2.1.sg (qb1 lines))[k]?=some s->0<=s∧s<=8:=fun k s h=>by have:=own_at h;omega
 obtain ⟨own,he⟩:=xE (ql7 (qij ks o).2.1.sg (qb1 lines));rw [he] at hol hown ⊢;clear he;have hal:(own.map qbh).length<=1000000:=by rw [List.length_map];omega
 refine qa7 hX (v:=slV own.length v_0) qaf ?_;refine qa7 hX (v:=slV (own.map qbh).length v_1) qaf ?_;refine qbl 13 (qad qaw own) rfl subR ?_;refine qbl 14 (qad qaw (own.map qbh)) rfl subR ?_;refine t9 ?_;refine qao rfl (by ((refine qac call104 (qx9 _ _ ?_) ⟨evR,⟨evR,trivial⟩⟩);all_goals (assumption))) ?_;refine t7 ?_;refine qln 98 (qad qaw (qe8 ks (own.map qbh))) rfl (subNS _) ?_;refine t4 ?_;refine cN ?_ ?_<;>intro h17
 ·rw [ifT h17];refine qbl 9 (qad qaw (qe8 ks (own.map qbh))) rfl (subNS _) ?_;refine t9 ?_;exact Z90
 rw [ifF h17];have hmn:qe8 ks (own.map qbh)=[]:=by
  have:=of_decide_eq_false h17;exact List.eq_nil_of_length_eq_zero om
 refine qbl 9 (Is (.slice none 0 0)) rfl (SubL.eq (ze1 hmn)) ?_;refine t14 ?_;refine qdo 37 tU32 ?_;refine qax [(0,_),(1,_),(2,_),(3,_),(8,_),(9,_),(13,_),(14,_)] [blk i8 _ _] (fun y:Nat×(Option Addr×Nat)=>y.1<=(own).length∧(((own.map qbh).take y.1).findSome? (hE1 ks o)=none)) (fun y=>[(16,Is (slV ((own.take y.1).map fun s=>qob ks (qbh s)).length y.2)),(17,Ii (y.1:Nat))]) (fun y=>[buf (slV ((own.take y.1).map fun s=>qob ks (qbh s)).length y.2) 37 tU32 ((own.take y.1).map fun s=>qob ks (qbh s))]) (fun y=>(own).length-y.1) (0,(none,0)) ⟨by exact nZ _,rfl⟩ qc5 qab ?_;rintro ⟨k,v_0⟩ ⟨hk,hI⟩;dsimp only at hk hI ⊢;refine t9 ?_;refine cN ?_ ?_<;>intro h21
 ·have hlt:k<(own).length:=by have:=of_decide_eq_true h21;omega
  clear h21;obtain ⟨z,hz⟩:∃ q,(own)[k]?=some q:=⟨_,gE hlt⟩
  have hza:(own.map qbh)[k]?=some (qbh z):=by rw [List.getElem?_map,hz];rfl
  have hm3:((own.take (k+1)).map fun s=>qob ks (qbh s))=((own.take k).map fun s=>qob ks (qbh s))++[qob ks (qbh z)]:=by rw [List.take_add_one,hz];simp
  have hl3:((own.take k).map fun s=>qob ks (qbh s)).length<=9:=by rw [List.length_map,List.length_take];omega
  refine t9 ?_;refine qao rfl (by exact qak (j:=_) (er rfl) (er rfl) rfl rfl rf hza) ?_;refine s1 ?_;refine Z98 ?_;intro i18;refine t8 ?_;refine kR call85 (qeb _) ?_;refine t2 ?_;refine cN ?_ ?_<;>intro h24
  ·rw [qj6 hza hI (show hE1 ks o (qbh z)=some 3 by unfold hE1;rw [ifT h24])];refine Z35 ?_;refine t10 ?_;exact Z90
  skip
  refine t5 ?_;refine kR call108 (qgj _) ?_;refine t4 ?_;intro i20;refine t11 ?_;refine cN ?_ ?_<;>intro h27
  ·rw [qj6 hza hI (show hE1 ks o (qbh z)=some 14 by unfold hE1;rw [ifF h24,ifT h27])];refine Z35 ?_;refine t10 ?_;exact Z90
  skip
  refine t11 ?_;refine cN ?_ ?_<;>intro h29
  ·rw [qj6 hza hI (show hE1 ks o (qbh z)=some 11 by unfold hE1;rw [ifF h24,ifF h27,ifT h29])];refine Z35 ?_;refine t10 ?_;exact Z90
  have hr:((own.map qbh).take (k+1)).findSome? (hE1 ks o)=none:=qvj hza hI (by unfold hE1;rw [ifF h24,ifF h27,ifF h29]);refine t6 ?_;refine Z22 ?_;(refine qc6 rfl (qca (er rfl) (fun _=>qaf) (by exact Ev.sub rfl (by exact SubL.row (xs:=[qob ks (qbh z)]) rf rf qiq)) (by exact qfz rfl rfl rfl) qcn) ?_;intro i138);refine t9 ?_;rw [<- hm3];exact qaa (k+1,i138) ⟨by dsimp only;omega,hr⟩ (by dsimp only;omega) qc5 qab
 have hke:k=(own).length:=by have:=of_decide_eq_false h21;omega
 clear h21;subst hke;(try rw [List.take_length]);(try rw [List.take_length] at hI);have hN:(own.map qbh).findSome? (hE1 ks o)=none:=by have:=hI;rwa [List.take_of_length_le (by simp)] at this
 rw [hN,show alpG ks lines cnt own none=alpF ks lines cnt (chR ks cnt (srcC ks cnt own) ([],[])) from rfl];refine qa7 hX (v:=slV (own.map fun s=>qob ks (qbh s)).length v_0) qaf ?_;refine qbl 16 (qad tU32 (own.map fun s=>qob ks (qbh s))) rfl subR ?_;refine t16 ?_;refine qbw [(1,_),(2,_),(3,_),(8,_),(9,_)] [blk i8 _ _] (fun z:Unit=>True) (fun z=>[(22,qad qaw (srcC ks cnt own))]) (fun z=>[]) qc5 qab ?_ ?_
 rotate_left
 focus
  refine s1 ?_;refine qdo 3 qaw ?_;refine qax [(1,_),(2,_),(3,_),(8,_),(9,_),(13,_),(14,_),(16,_)] [blk i8 _ _] (fun y:Nat×(Option Addr×Nat)=>y.1<=(own).length∧(((own.take y.1).find? fun s=>decide (((qvh ks s).length:Int)>=cnt))=none)) (fun y=>[(22,Is (slV ((own.take y.1).flatMap (qvh ks)).length y.2)),(23,Ii (y.1:Nat))]) (fun y=>[buf (slV ((own.take y.1).flatMap (qvh ks)).length y.2) 3 qaw ((own.take y.1).flatMap (qvh ks))]) (fun y=>(own).length-y.1) (0,(none,0)) ⟨by exact nZ _,rfl⟩ qc5 qab ?_;rintro ⟨k,v_0⟩ ⟨hk,hI⟩;dsimp only at hk hI ⊢;refine t9 ?_;refine cN ?_ ?_<;>intro h34
  ·have hlt:k<(own).length:=by have:=of_decide_eq_true h34;omega
   clear h34;obtain ⟨z,hz⟩:∃ q,(own)[k]?=some q:=⟨_,gE hlt⟩
   have hza:(own.map qbh)[k]?=some (qbh z):=by rw [List.getElem?_map,hz];rfl
   have hzu:(own.map fun s=>qob ks (qbh s))[k]?=some (qob ks (qbh z)):=by rw [List.getElem?_map,hz];rfl
   have hzs:=hown k z hz;have hlz:=line_rng z;refine t16 ?_;refine qdo 3 qaw ?_;refine qax [(1,_),(2,_),(3,_),(8,_),(9,_),(13,_),(14,_),(16,_),(22,_),(23,_),(139,_),(140,_),(141,_)] [blk i8 _ _,buf _ _ _ _] (fun ya:Nat×(Option Addr×Nat)=>ya.1<=16∧(1<=ya.1)) (fun ya=>[(24,Is (slV (qly (qob ks (qbh z)) (qbh z) ya.1).length ya.2)),(25,Ii (ya.1:Nat))]) (fun ya=>[buf (slV (qly (qob ks (qbh z)) (qbh z) ya.1).length ya.2) 3 qaw (qly (qob ks (qbh z)) (qbh z) ya.1)]) (fun ya=>16-ya.1) (1,(none,0)) ⟨om,Nat.le_refl 1⟩ qc5 qab ?_;rintro ⟨ka,va_0⟩ ⟨hka,hIa⟩;dsimp only at hka hIa ⊢;refine t7 ?_;refine cN ?_ ?_<;>intro h38
   ·have hlta:ka<16:=by have:=of_decide_eq_true h38;omega
    clear h38;have hfl:=qpz (qob ks (qbh z)) (qbh z) ka;refine t8 ?_;refine qao rfl (by exact qak (j:=_) (er rfl) (er rfl) rfl rfl rf hzu) ?_;refine t8 ?_;refine cN ?_ ?_<;>intro h40
    ·have hmt:qly (qob ks (qbh z)) (qbh z) (ka+1)=qly (qob ks (qbh z)) (qbh z) ka++[qbh z+(ka:Int)]:=by conv=>lhs;unfold qly;rw [ifT (show (decide (1<=ka)&&bit0 (qob ks (qbh z)) ka)=true by rw [show bit0 (qob ks (qbh z)) ka=true from h40,decide_eq_true hIa];rfl)]
     clear h40;refine t4 ?_;refine qao rfl (by exact qak (j:=_) (er rfl) (er rfl) rfl rfl rf hza) ?_;refine t3 ?_;refine Z22 ?_;(refine qc6 rfl (qca (er rfl) (fun _=>qaf) (by exact Ev.sub rfl (by exact SubL.row (xs:=[qbh z+(ka:Int)]) rf rf qiq)) (by exact qfz rfl rfl rfl) qcn) ?_;intro i166);refine t9 ?_;rw [<- hmt];exact qaa (ka+1,i166) ⟨by dsimp only;omega,by dsimp only;omega⟩ (by dsimp only;omega) qc5 qab
    have hmt:qly (qob ks (qbh z)) (qbh z) (ka+1)=qly (qob ks (qbh z)) (qbh z) ka:=by conv=>lhs;unfold qly;rw [ifF (show (decide (1<=ka)&&bit0 (qob ks (qbh z)) ka)=false by rw [show bit0 (qob ks (qbh z)) ka=false from h40,Bool.and_false])]
    clear h40;refine t8 ?_;rw [<- hmt];exact qaa (ka+1,va_0) ⟨by dsimp only;omega,by dsimp only;omega⟩ (by dsimp only;omega) qc5 qab
   have hkea:ka=16:=by have:=of_decide_eq_false h38;omega
   clear h38;subst hkea;refine qa7 hX (v:=slV (qly (qob ks (qbh z)) (qbh z) 16).length va_0) qaf ?_;refine qbl 24 (qad qaw (qvh ks z)) rfl subR ?_;refine t14 ?_;refine cN ?_ ?_<;>intro h42
   ·have e:srcC ks cnt own=qvh ks z:=by unfold srcC;rw [find_at hz hI h42]
    refine t12 ?_;exact qal () trivial (by rw [e];exact qc5) qab
   have hr:((own.take (k+1)).find? fun s=>decide (((qvh ks s).length:Int)>=cnt))=none:=find_no hz hI h42;have hm4:(own.take (k+1)).flatMap (qvh ks)=(own.take k).flatMap (qvh ks)++qvh ks z:=by rw [List.take_add_one,hz,List.flatMap_append];simp
   have hfz:=qs6 ks z;have hfm:=zfm ks (own.take k);have htl:(own.take k).length<=9:=by rw [List.length_take];omega
   clear h42;refine t5 ?_;(refine qc6 rfl (qca (er rfl) (fun _=>qaf) evR (by exact qfz rfl rfl rfl) qcn) ?_;intro i174);refine t9 ?_;rw [<- hm4];exact qaa (k+1,i174) ⟨by dsimp only;omega,hr⟩ (by dsimp only;omega) qc5 qab
  have hke:k=(own).length:=by have:=of_decide_eq_false h34;omega
  clear h34;subst hke;(try rw [List.take_length]);(try rw [List.take_length] at hI);refine qa7 hX (v:=slV (own.flatMap (qvh ks)).length v_0) qaf ?_;refine qbl 22 (qad qaw (own.flatMap (qvh ks))) rfl subR ?_;refine qbl 22 (qad qaw (srcC ks cnt own)) rfl (SubL.eq (by unfold srcC;rw [hI])) ?_;refine t4 ?_;exact qal () trivial qc5 qab
 rintro ⟨⟩ _;have hsl:=srcC_len ks cnt own;obtain ⟨all,hall⟩:=xE (srcC ks cnt own);rw [hall] at hsl ⊢;clear hall;refine t12 ?_;refine qdo 3 qaw ?_;refine qdo 3 qaw ?_;refine qax [(1,_),(2,_),(3,_),(8,_),(22,_)] [blk i8 _ _] (fun y:Nat×(Option Addr×Nat)×(Option Addr×Nat)=>y.1<=(all).length∧(chR ks cnt all ([],[])=chR ks cnt (all.drop y.1) (chF ks (all.take y.1)))) (fun y=>[(26,Is (slV ((chF ks (all.take y.1)).2).length y.2.1)),(9,Is (slV ((chF ks (all.take y.1)).1).length y.2.2)),(27,Ii (y.1:Nat))]) (fun y=>[buf (slV ((chF ks (all.take y.1)).2).length y.2.1) 3 qaw ((chF ks (all.take y.1)).2),buf (slV ((chF ks (all.take y.1)).1).length y.2.2) 3 qaw ((chF ks (all.take y.1)).1)]) (fun y=>(all).length-y.1) (0,(none,0),(none,0)) ⟨by exact nZ _,rfl⟩ qc5 qab ?_;rintro ⟨k,v_0,v_1⟩ ⟨hk,hI⟩;dsimp only at hk hI ⊢;refine t15 ?_;refine cN ?_ ?_<;>intro h47
 ·rw [Bool.and_eq_true] at h47;obtain ⟨ha,hb⟩:=h47;have hlt:k<all.length:=by have:=of_decide_eq_true ha;omega
  clear ha;obtain ⟨z,hz⟩:∃ q,all[k]?=some q:=⟨_,gE hlt⟩
  have hc:chF ks (all.take (k+1))=qjy ks (chF ks (all.take k)) z:=by unfold chF;rw [List.take_add_one,hz,List.foldl_append];rfl
  have hE:chR ks cnt all ([],[])=(match chE ks z with|some e=>.error e|none=>chR ks cnt (all.drop (k+1)) (qjy ks (chF ks (all.take k)) z)):=by rw [hI,qf7 hz,chR];exact ifT hb
  have hl1:=zf3 ks (all.take k);have hl2:=List.length_take_le k all;have hkl:k<=200:=om;clear hb;refine t11 ?_;refine Z98 ?_;intro i28;refine t11 ?_;refine cN ?_ ?_<;>intro h50
  ·have e1:qjy ks (chF ks (all.take k)) z=((chF ks (all.take k)).1++[z],(chF ks (all.take k)).2++[z]):=by unfold qjy;rw [ifT h50]
   have hq:=hc.trans e1;have e2:chE ks z=none:=by unfold chE;rw [ifT h50]
   have hr:chR ks cnt all ([],[])=chR ks cnt (all.drop (k+1)) (chF ks (all.take (k+1))):=by rw [hE,hc];simp only [e2]
   refine t7 ?_;refine Z22 ?_;(refine qc6 rfl (qca (er rfl) (fun _=>qaf) (by exact Ev.sub rfl (by exact SubL.row (xs:=[z]) rf rf qiq)) (by exact qfz rfl rfl rfl) qcn) ?_;intro i204);refine t10 ?_;refine Z22 ?_;(refine qc6 rfl (qca (er rfl) (fun _=>qaf) (by exact Ev.sub rfl (by exact SubL.row (xs:=[z]) rf rf qiq)) (by exact qfz rfl rfl rfl) qcn) ?_;intro i211);refine t12 ?_;exact qaa (k+1,i211,i204) ⟨by dsimp only;omega,hr⟩ (by dsimp only;omega) (by rw [hq];exact qc5) (by rw [hq];exact qab)
  skip
  refine t6 ?_;refine kR call85 (qeb _) ?_;refine t2 ?_;refine cN ?_ ?_<;>intro h53
  ·have e2:chE ks z=some 3:=by unfold chE;rw [ifF h50,ifT h53]
   rw [hE,e2];dsimp only;refine Z35 ?_;refine t10 ?_;exact Z90
  skip
  refine t6 ?_;refine kR call92 (qel _) ?_;refine t3 ?_;refine cN ?_ ?_<;>intro h55
  ·have e2:chE ks z=some 11:=by unfold chE;rw [ifF h50,ifF h53,ifT h55]
   rw [hE,e2];dsimp only;refine Z35 ?_;refine t10 ?_;exact Z90
  have e2:chE ks z=none:=by unfold chE;rw [ifF h50,ifF h53,ifF h55]
  have hr:chR ks cnt all ([],[])=chR ks cnt (all.drop (k+1)) (chF ks (all.take (k+1))):=by rw [hE,hc];simp only [e2]
  refine t5 ?_;refine kR call95 (qh1 _) ?_;refine t3 ?_;refine cN ?_ ?_<;>intro h57
  ·have e1:qjy ks (chF ks (all.take k)) z=((chF ks (all.take k)).1,(chF ks (all.take k)).2++[z]):=by unfold qjy;rw [ifF h50,ifT h57]
   have hq:=hc.trans e1;refine t6 ?_;refine Z22 ?_;(refine qc6 rfl (qca (er rfl) (fun _=>qaf) (by exact Ev.sub rfl (by exact SubL.row (xs:=[z]) rf rf qiq)) (by exact qfz rfl rfl rfl) qcn) ?_;intro i228);refine t9 ?_;exact qaa (k+1,i228,v_1) ⟨by dsimp only;omega,hr⟩ (by dsimp only;omega) (by rw [hq];exact qc5) (by rw [hq];exact qab)
  have e1:qjy ks (chF ks (all.take k)) z=((chF ks (all.take k)).1,(chF ks (all.take k)).2):=by unfold qjy;rw [ifF h50,ifF h57]
  have hq:=hc.trans e1;refine t8 ?_;exact qaa (k+1,v_0,v_1) ⟨by dsimp only;omega,hr⟩ (by dsimp only;omega) (by rw [hq];exact qc5) (by rw [hq];exact qab)
 have hfin:chR ks cnt all ([],[]) = .ok (chF ks (all.take k)):=by
  rw [hI];by_cases hke:k=all.length
  ·subst hke;rw [List.drop_length];rfl
  ·have e9:decide (((chF ks (all.take k)).2.length:Int)<cnt)=false:=by
    rw [decide_eq_true (show (k:Int)<(all.length:Int) by omega),Bool.true_and] at h47;exact h47
   rw [qf7 (gE (by omega:k<all.length))];rw [chR];exact ifF e9
 clear h47;have hl1:=zf3 ks (all.take k);have hl2:=List.length_take_le k all;have hkl:k<=200:=om;rw [hfin];obtain ⟨st,hst⟩:=xE (chF ks (all.take k));rw [hst] at hl1 ⊢;clear hst hfin;refine qa7 hX (v:=slV st.2.length v_0) qaf ?_;refine qa7 hX (v:=slV st.1.length v_1) qaf ?_;refine qbl 26 (qad qaw st.2) rfl subR ?_;refine qbl 9 (qad qaw st.1) rfl subR ?_;rw [show alpF ks lines cnt (.ok st)=if decide ((st.2.length:Int)<cnt)=true then qh4 12 else if decide ((st.1.length:Int)>0)=true then qst st.1 else lpA ks lines st.2 [] [] from rfl];refine t14 ?_;refine cN ?_ ?_<;>intro h59
 ·rw [ifT h59];refine Z35 ?_;refine t5 ?_;exact Z90
 rw [ifF h59];refine t10 ?_;refine cN ?_ ?_<;>intro h61
 ·rw [ifT h61];refine t9 ?_;exact Z90
 rw [ifF h61];refine t6 ?_;intro i30;refine t10 ?_;refine qbv (b:=i30) (As':=[Is (.slice none 0 0),Is (.slice none 0 0),qad tPg [],Ii 0,Ii 0,Ib true]) qaf qiq ?_;obtain ⟨W,hE⟩:=xE (lpA ks lines st.2 [] []);rw [hE];refine Z62 ?_;refine qax [(1,_),(3,_),(8,_),(26,_),(30,_)] [blk i8 _ _] (fun y:Nat×(List Pg)×(List Pg)×(Option Addr×Nat)=>y.1<=(st.2).length∧(y.2.1.length<=y.1∧y.2.2.1.length<=y.1)∧lpA ks lines (List.drop y.1 (st.2)) y.2.1 y.2.2.1=W) (fun y=>[(31,Ii (y.1:Nat))]) (fun y=>[blk i30 120 [Is (.slice none 0 0),Is (slV (y.2.1).length y.2.2.2),qad tPg y.2.2.1,Ii 0,Ii 0,Ib true],buf (slV (y.2.1).length y.2.2.2) 50 tPg (y.2.1)]) (fun y=>(st.2).length-y.1) (0,[],[],(none,0)) ⟨by exact nZ _,⟨Nat.le_refl 0,Nat.le_refl 0⟩,hE⟩ qc5 qab ?_;clear hE;rintro ⟨k,fr,w,v_0⟩ ⟨hk,hI,hE⟩;dsimp only at hk hI hE ⊢;refine t9 ?_;refine cN ?_ ?_<;>intro h65
 ·have hlt:k<(st.2).length:=by have:=of_decide_eq_true h65;omega
  clear h65;obtain ⟨z,hz⟩:∃ q,(st.2)[k]?=some q:=⟨_,gE hlt⟩
  rw [qf7 hz,lpA] at hE;(try dsimp only at hE);have hlc:(qk0 lines z).2.1.toNat<64:=by unfold qk0;split <;> (dsimp only;omega)
  have hlc0:0<=(qk0 lines z).2.1:=by unfold qk0;split <;> (dsimp only;omega)
  refine t11 ?_;refine Z98 ?_;intro i32;refine t9 ?_;refine Z85 ?_;(refine qc6 rfl (qca (er rfl) (fun _=>qaf) (by exact Ev.sub rfl (by exact SubL.row (xs:=[qb9 ks z]) rf rf qiq)) (by exact qfz rfl rfl rfl) qcn) ?_;intro i259);refine t11 ?_;refine kR call238 (qn8 _ _) ?_;refine t14 ?_;refine qao rfl (by ((refine qac call88 (qng ks w ?_) ⟨evR,⟨evR,trivial⟩⟩);all_goals (omega))) ?_;refine s1 ?_;refine kR call107 (qbz _) ?_;refine Z98 ?_;intro i37;refine t11 ?_;refine qao rfl (by exact qeg (k:=(qk0 lines z).2.1.toNat) qhh (er rfl) om qdh) ?_;refine t10 ?_;refine Z85 ?_;refine qao rfl (by ((refine qac call88 (qng w [setU (qb9 (qck ks w) (qbh (qk0 lines z).1)) (qk0 lines z).2.1] ?_) ⟨evR,⟨evR,trivial⟩⟩);all_goals (simp;omega))) ?_;refine t10 ?_;exact qaa (k+1,_,_,_) ⟨om,⟨by simp;omega,by have h:=qae w [setU (qb9 (qck ks w) (qbh (qk0 lines z).1)) (qk0 lines z).2.1];simp only [List.length_cons,List.length_nil] at h;exact nT h (by dsimp only;omega)⟩,hE⟩ om qc5 qab
 have hke:k=(st.2).length:=by have:=of_decide_eq_false h65;omega
 clear h65;subst hke;rw [List.drop_length,lpA] at hE;(try dsimp only at hE);refine qa7 hX (v:=slV fr.length v_0) qaf ?_;refine qbv (b:=i30) (As':=tS19.cells { S19.nil with fresh:=fr,writes:=w,over:=true }) qaf qiq ?_;refine t12 ?_;subst hE;exact Z90
section
variable {P:Program} {ops:Array Oper} {c:Ctx} {N:Nat} {L:List Item}
variable {Q:Exit->Act->World->Prop} {nd:List Nat} {fr dn ks mi:List Nat} {EO:EnvO}
theorem zgt {i:Nat} {o:Oper} {ι:Type} {p:ι->Prop} {F:ι->VP} (dn':List Nat) (hi:ops[i]?=some o) (hgd:o.guard=none) (hB:barB ops nd fr dn dn' mi i=true) (hs:OpP P c o (vals EO) L (qfc p F))
  (h:∀ z,p z->JF P ops Q c N nd fr dn' ks (i::mi) (qk9 EO o.dst (.v (F z))) L):JF P ops Q c N nd fr dn ks mi EO L:=by
 intro hg hN m A0 hv hmi hacc φ a w listed hfs st;unfold barB at hB;simp only [Bool.and_eq_true] at hB;obtain ⟨⟨⟨⟨⟨⟨hB1,hB2⟩,hB3⟩,hB4⟩,hB5⟩,hB6⟩,hB7⟩:=hB;have hilt:i<ops.size:=(Array.getElem?_eq_some_iff.1 hi).1;have hnew:∀ x,x∈m->x.i≠i:=fun x hx e=>by
  have:=(hmi x.i).2 ⟨x,hx,rfl⟩;rw [e] at this;rw [this] at hB1;cases hB1
 have hnn:∀ x,x∈m->(qg7 nd x.i).testBit i=false:=fun x hx=>by
  have:=List.all_eq_true.1 hB2 x.i (inB_iff.1 ((hmi x.i).2 ⟨x,hx,rfl⟩))
  simpa using this
 refine frun hg hN hv (fun φ a w listed hfs st=>.inr ⟨fun hr=>?_,fun j hj hjm=>?_⟩) _ φ a w listed rfl hfs st
 ·have hun:listed.getD i true=false:=by
   cases hv':listed.getD i true with
   | false=>rfl
   | true =>
    have h1:listed.getD i false=true:=by
     have:i<listed.size:=by rw [hfs.cl.size];exact hilt
     simp [this] at hv' ⊢;exact hv'
    obtain ⟨x,h2,h3⟩:=hfs.only i h1;exact absurd h3 (hnew x h2)
  obtain ⟨i0,h1,h2,h3⟩:=qdc (listed:=listed) ops.size ⟨i,hilt,hun⟩;have:=qfm hg hfs.cl.size h1 h2 h3;rw [hr] at this;cases this
 ·have hun:listed.getD i false=false:=by
   cases hv':listed.getD i false with
   | false=>rfl
   | true =>
    obtain ⟨x,h2,h3⟩:=hfs.only i hv';exact absurd h3 (hnew x h2)
  have hji:j=i:=by
   obtain ⟨_,oj,hoj,_⟩:=mem_ready.1 hj;have h1:=List.all_eq_true.1 hB3 j (List.mem_range.2 (Array.getElem?_eq_some_iff.1 hoj).1);simp only [Bool.or_eq_true] at h1;rcases h1 with (h1|h1)|h1
   ·obtain ⟨x,h2,h3⟩:=(hmi j).1 h1;exact absurd h3 (hjm x h2)
   ·exact Nat.eq_of_beq_eq_true h1
   ·have:=qcy hg hfs.cl hj h1;rw [hun] at this;cases this
  subst hji;unfold wpOp;simp only [hi];rw [if_pos (by simp [Region.wanted,hgd])];refine .inl (hs φ a w _ Q st.mem (evs (ops:=ops) st.mem.mem.facts fun t ht B hB=>?_) fun φ' v w' hp0 hF0=>?_)
  ·have h1:acc (lst listed) m A0 t=qci EO t:=by
    rw [<- hacc];refine qea rfl fun y hy hyt=>?_;show listed.getD y.i false=true;have hyo:=hv.at_ y hy;have hne:=hnew y hy;have h2:(y.i<j->(qg7 nd j).testBit y.i=true)∧(j<y.i->(qg7 nd y.i).testBit j=true):=by
     rcases hyt with hyt|hyt
     ·exact hg.ord y.i y.o t j o hyo hyt hi (List.mem_append_left _ ht) hne
     ·obtain ⟨p1,p2,hp12⟩:=List.append_of_mem hy;have h3:=((hv.op p1 y p2 hp12).2 t hyt).2 j o hi (.inl (List.mem_append_left _ ht)) (Ne.symm hne);exact h3
    rcases Nat.lt_or_gt_of_ne hne with h3|h3
    ·exact qcy hg hfs.cl hj (h2.1 h3)
    ·have:=h2.2 h3;rw [hnn y hy] at this;cases this
   cases hA:qci EO t with
   | none=>rw [hA] at hB;cases hB
   | some D =>
    rw [hA] at hB h1;cases D with
    | v D => obtain rfl : D = B := by simpa [Out.toV] using hB
             exact st.env t D h1
    | own val I=>cases hB
  ·obtain ⟨z,hpz,hF⟩:=hF0;have hp:HP ⟨w,φ,qbr L,[]⟩ φ' L w':=by simpa using (HP.start st.mem.mem).new hp0
   have hcl:=hfs.cl.set hg hj;have hjl:j<listed.size:=by rw [hfs.cl.size];exact hilt
   have hjT:(listed.setIfInBounds j true).getD j false=true:=by simp [hjl]
   have hget:∀ q,q≠j->(listed.setIfInBounds j true).getD q false=listed.getD q false:=fun q hq=>getD_set_ne false (Ne.symm hq);have hdst:∀ t,o.dst=some t->t<N:=by
    have:=qdb hN j o (by simpa using hi);exact qe2 this
   refine h z hpz hg hN (m++[⟨j,o,.v (F z),none⟩]) A0 (hv.snoc hi hnew (fun x hx _=>hnn x hx) (fun x hx m1 hd=>?_) (fun hd=>?_) qd2 (fun s hs=>hs) (fun s hs=>by cases hs)) (qxf (e:=⟨j,o,.v (F z),none⟩) hmi) ?_ φ' _ w' _ ⟨hcl,fun q hq=>?_,fun q hq=>?_⟩ ((st.bar hdst hp hF).congr fun t=>?_)
   ·have hdx:inB dn x.i=false:=by
     cases hv':inB dn x.i with
     | false=>rfl
     | true=>have:=List.all_eq_true.1 hB7 x.i (inB_iff.1 hv');rw [hd] at this;cases this
    refine ⟨hdx,fun h1=>?_⟩;have h2:=List.all_eq_true.1 hB5 x.i (inB_iff.1 ((hmi x.i).2 ⟨x,hx,rfl⟩));rw [hd,Bool.false_or] at h2;exact ⟨h1.2 h2 _,h1.2⟩
   ·have hd':inB dn' j=false:=hd;rw [hB6] at hd';cases hd'
   ·rw [qdt,hacc,qj5];show Ent.app _ _=_;unfold Ent.app qgr;dsimp only;rw [qkq];simp
   ·by_cases hqj:q=j
    ·subst hqj;exact hjT
    ·rw [hget q hqj];have h1:=List.all_eq_true.1 hB4 q (inB_iff.1 hq);simp only [Bool.or_eq_true] at h1;rcases h1 with (h1|h1)|h1
     ·exact absurd (Nat.eq_of_beq_eq_true h1) hqj
     ·exact hfs.done q h1
     ·exact qcy hg hfs.cl hj h1
   ·by_cases hqj:q=j
    ·subst hqj;exact ⟨_,List.mem_append_right _ (List.mem_singleton.2 rfl),rfl⟩
    ·rw [hget q hqj] at hq;obtain ⟨x,h1,h2⟩:=hfs.only q hq;exact ⟨x,List.mem_append_left _ h1,h2⟩
   ·rw [qdt];have h1:acc (lst (listed.setIfInBounds j true)) [⟨j,o,.v (F z),none⟩] (acc (lst (listed.setIfInBounds j true)) m A0)=(⟨j,o,.v (F z),none⟩:Ent).app (acc (lst (listed.setIfInBounds j true)) m A0):=by
     show (bif lst (listed.setIfInBounds j true) j then _ else _)=_;rw [show lst (listed.setIfInBounds j true) j=true from hjT];rfl
    rw [h1];have h2:∀ t,acc (lst (listed.setIfInBounds j true)) m A0 t=acc (lst listed) m A0 t:=fun t=>qea rfl fun x hx _=>hget x.i (hnew x hx);unfold Ent.app;dsimp only;rw [qkq];by_cases hdt:o.dst=some t
    ·rw [hdt,qgc,qgc]
    ·rw [qef hdt,qef hdt,<- h2 t];unfold qgr;simp
variable {i:Nat} {t:Tmp} {op:Op} {ty:TypeId} {pos:String} {af:Array Edge}
theorem zb8 {ι:Type} {p:ι->Prop} {F:ι->VP} (i:Nat) (dn':List Nat) (hi:ops[i]?=some ⟨some t,op,ty,pos,af,none⟩) (hB:barB ops nd fr dn dn' mi i=true) (hs:OpP P c ⟨some t,op,ty,pos,af,none⟩ (vals EO) L (qfc p F))
  (h:∀ z,p z->JF P ops Q c N nd fr dn' ks (i::mi) ((t,.v (F z))::EO) L):JF P ops Q c N nd fr dn ks mi EO L:=zgt dn' hi rfl hB hs h
theorem JF_xe {ι:Type} {F:ι->VP} (i:Nat) (dn':List Nat) (hi:ops[i]?=some ⟨some t,op,ty,pos,af,none⟩) (hB:barB ops nd fr dn dn' mi i=true) (hs:OpP P c ⟨some t,op,ty,pos,af,none⟩ (vals EO) L (VEx F))
  (h:∀ z,JF P ops Q c N nd fr dn' ks (i::mi) ((t,.v (F z))::EO) L):JF P ops Q c N nd fr dn ks mi EO L:=
 zgt (p:=fun _=>True) dn' hi rfl hB (fun φ a w K Q hm he hk=>hs φ a w K Q hm he fun φ' v w' hp ⟨z,k⟩=>hk φ' v w' hp ⟨z,trivial,k⟩) fun z _=>h z
end
section
variable {P:Program} {ops:Array Oper} {c:Ctx} {N:Nat} {L:List Item}
variable {Q:Exit->Act->World->Prop} {nd:List Nat} {fr dn ks mi:List Nat} {EO:EnvO}
variable {t:Tmp} {op:Op} {ty:TypeId} {pos:String} {af:Array Edge}
theorem JF_tx {ι:Type} {p:ι->Prop} {F:ι->VP} {L':ι->List Item} (i:Nat) (dn':List Nat) (hi:ops[i]?=some ⟨some t,op,ty,pos,af,none⟩) (hB:barB ops nd fr dn dn' mi i=true) (hs:∀ c':Ctx,OpSX P c' ⟨some t,op,ty,pos,af,none⟩ (vals EO) L p F L')
  (h:∀ z,p z->JF P ops Q c N nd fr dn' ks (i::mi) ((t,.v (F z))::EO) (L' z)):JF P ops Q c N nd fr dn ks mi EO L:=qwk i dn' hi hB hs fun z=>h z.1 z.2
theorem loc_i0 {o:Oper} {j:Nat} {want b:Bool} {g:Tmp} {F:VP} (hg:o.guard=some (j,want)) (hj:(ops[j]?).bind (·.dst)=some g) (hl:vals EO g=some (Ib b))
  (hs:(b==want)=true->OpP P c o (vals EO) L F):LocOp P ops c L o (qci EO) (.v (qdi (b==want) F (Is undef))) none:=fun φ a w K Q M hm ht hlk hk=>by
 obtain rfl:M=[]:=ht;have hw:=qhp (o:=o) (a:=a) hg hj (gval hg hj hlk hl);cases hbw:(b==want) with
 | false =>
  rw [if_neg (by rw [hw,hbw];simp)];exact ⟨rfl,(rfl:undef=undef)⟩
 | true =>
  rw [if_pos (by rw [hw,hbw])];refine hs hbw φ a w K Q hm (evs hm.mem.facts hlk) fun φ' v w' hpp hf=>hk φ' v w' ⟨hpp,?_⟩;rw [qf3,hbw];exact hf
theorem qjo {j:Nat} {want b:Bool} {g:Tmp} {F:VP} (i:Nat) (hi:ops[i]?=some ⟨some t,op,ty,pos,af,some (j,want)⟩) (hB:qq2 nd fr mi i=true) (hj:(ops[j]?).bind (·.dst)=some g) (hl:vals EO g=some (Ib b))
  (hs:∀ L,(b==want)=true->OpP P c ⟨some t,op,ty,pos,af,some (j,want)⟩ (vals EO) L F) (h:JF P ops Q c N nd (i::fr) dn ks (i::mi) ((t,.v (qdi (b==want) F (Is undef)))::EO) L):JF P ops Q c N nd fr dn ks mi EO L:=
 qqi (i::fr) hi (qd9 hB).1 qd2 (loc_i0 rfl hj hl (hs L)) (.inr ⟨rfl,fun L'=>loc_i0 rfl hj hl (hs L')⟩) h
end
section
variable {P:Program} {c:Ctx} {A:Nat->Option VP} {L:List Item} {d:Option Tmp} {ty:TypeId} {pos:String} {af:Array Edge} {g:Option (Nat×Bool)}
theorem qc0 {α:Type} {T:Ty α} {xs:List α} {i:Option Addr×Nat} {n:Nat} {e e0:TypeId} {x y:Operand} {t:TypeId} {o len sz k:Nat} {j:Int} {q:IntKind} (hx:Ev A L x (Is (bpt i o))) (hL:buf (slV n i) e0 T xs∈L) (h0:0<xs.length) (hy:Ev A L y (Is (.int q j))) (hu:P.underlying t=some (.array len e)) (hs:(P.info? e).map (·.size)=some sz) (hj:j=k) (hk:k<len) :
  OpP P c ⟨d,.indexAddr t x y,ty,pos,af,g⟩ A L (Is (bpt i (o+k*sz))):=
 opp fun φ a w hm he=>by
  have h1:a.eval x=bpt i o:=he x (by simp [Op.operands]) _ hx;have h6:a.eval y = .int q j:=he y (by simp [Op.operands]) _ hy;obtain ⟨gg,cap,cur,rfl,_⟩:=qlt hm hL h0;refine ⟨_,?_,rfl⟩;have h7:(0:Int)<=j∧j<(len:Int):=om;have h8:j.toNat=k:=om;simp only [execOp,h1,h6,bpt];refine qcd ?_;simp only [Instr.indexAt,asIntOf,Sem.run_bind,Sem.run_pure,Result.andThen_ok,run_underlying hu,Instr.sureAddr,h7,and_self,if_true,qbd hs,h8,qcl]
end
end Go.Proofs.YteafmggidjjdgaaGreatDoor
