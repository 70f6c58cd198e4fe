/- Walks of functions and plain laws, laid together. Own work. -/
import Derived.Test.YteafmggidjjdgaaGreatDoorK1
namespace Go.Proofs.YteafmggidjjdgaaGreatDoor
open Go.RowKit Tryz
set_option linter.unusedVariables false
set_option linter.unusedSimpArgs false
set_option maxRecDepth 100000
set_option maxHeartbeats 4000000
section
variable {P:Program} {ops:Array Oper} {c:Ctx} {N:Nat} {L:List Item}
def gtmp (ops:Array Oper) (o:Oper):Option Tmp:=o.guard.bind fun g=>(ops[g.1]?).bind (·.dst)
theorem qu0 {o:Oper} {t:Tmp} (h:Operand.tmp t∈o.op.operands):t∈o.looksAt ops:=by
 unfold Oper.looksAt;refine List.mem_append_left _ (List.mem_filterMap.2 ⟨.tmp t,by simpa using h,rfl⟩)
theorem zbg {o:Oper} {t:Tmp} (h:gtmp ops o=some t):t∈o.looksAt ops:=by
 unfold Oper.looksAt;refine List.mem_append_right _ ?_;unfold gtmp at h;cases hg:o.guard with
 | none=>rw [hg] at h;cases h
 | some g=>rw [hg] at h;simp only [Option.bind_some] at h;simp [h]
inductive Out where
 | v (F:VP)
 | own {ι:Type} (val:ι->Value) (I:ι->Item)
def Out.toV:Out->Option VP
 | .v F=>some F
 | .own _ _=>none
def Out.post (M:List Item) (φ:Fz) (w:World) (φ':Fz) (v:Value) (w':World):Out->Prop
 | .v F=>HP ⟨w,φ,qbr M,[]⟩ φ' [] w'∧F.ok φ' v
 | .own val I=>∃ i,v=val i∧HP ⟨w,φ,qbr M,[]⟩ φ' [I i] w'
def Out.idle (φ:Fz):Out->Prop
 | .v F=>F.ok φ undef
 | .own _ _=>False
def qug (A:Nat->Option Out) (d:Option Tmp) (B:Out):Nat->Option Out:=fun t=>if d=some t then some B else A t
def qgr (A:Nat->Option Out) (d:Option Tmp):Nat->Option Out:=fun t=>if d=some t then none else A t
theorem qef {A:Nat->Option Out} {d:Option Tmp} {B:Out} {t:Nat} (h:d≠some t):qug A d B t=A t:=by unfold qug;rw [if_neg h]
theorem qgc {A:Nat->Option Out} {t:Nat} {B:Out}:qug A (some t) B t=some B:=by unfold qug;rw [if_pos rfl]
theorem qjf {A:Nat->Option Out} {d:Option Tmp} {t:Nat} (h:d≠some t):qgr A d t=A t:=by unfold qgr;rw [if_neg h]
theorem qmy {A:Nat->Option Out} {t:Nat}:qgr A (some t) t=none:=by unfold qgr;rw [if_pos rfl]
def wrB (o:Oper):Bool:=o.dst.isNone||(match o.op with
 | .call { callee:=.builtin .append,.. }=>true
 | _=>false)
def Takes (A:Nat->Option Out) (o:Oper) (ops:Array Oper) (a:Act) (M:List Item):Option Tmp->Prop
 | none=>M=[]
 | some s=>(s∈o.looksAt ops∨wrB o=true)∧∃ (ι:Type) (val:ι->Value) (I:ι->Item) (i:ι),A s=some (.own val I)∧a.tmps.getD s undef=val i∧M=[I i]
def tgt (o:Oper) (kl:Option Tmp):Option Tmp:=match o.dst with
 | some t=>some t
 | none=>kl
def res (o:Oper) (kl:Option Tmp) (a:Act) (v:Value):Value:=match o.dst with
 | some _=>v
 | none=>match kl with
  | some s=>a.tmps.getD s undef
  | none=>v
theorem qkq (o:Oper):tgt o none=o.dst:=by unfold tgt;split <;> simp_all
theorem qg3 {o:Oper} {d:Tmp} (h:o.dst=some d) (kl:Option Tmp):tgt o kl=some d:=by unfold tgt;rw [h]
theorem qt0 {o:Oper} (h:o.dst=none) (kl:Option Tmp):tgt o kl=kl:=by unfold tgt;rw [h]
theorem qf3 (o:Oper) (a:Act) (v:Value):res o none a v=v:=by unfold res;split <;> rfl
theorem qsi {o:Oper} {d:Tmp} (h:o.dst=some d) (kl:Option Tmp) (a:Act) (v:Value):res o kl a v=v:=by unfold res;rw [h]
theorem qyy {o:Oper} (h:o.dst=none) (s:Tmp) (a:Act) (v:Value):res o (some s) a v=a.tmps.getD s undef:=by unfold res;rw [h]
theorem qy3 (a:Act) (s:Tmp):a.put (some s) (a.tmps.getD s undef)=a:=by
 have h:a.tmps.setIfInBounds s (a.tmps.getD s undef)=a.tmps:=by
  apply Array.ext
  ·simp
  ·intro i h1 h2;rw [Array.getElem_setIfInBounds];split
   ·rename_i e;subst e;simp [h2]
   ·rfl
 unfold Act.put;simp only [h]
theorem zdq (o:Oper) (kl:Option Tmp) (a:Act) (v:Value):a.put (tgt o kl) (res o kl a v)=a.put o.dst v:=by
 cases hd:o.dst with
 | some d=>rw [qg3 hd,qsi hd]
 | none =>
  cases kl with
  | none=>rw [qkq,qf3,hd]
  | some s=>rw [qt0 hd,qyy hd,qy3];rfl
def LocOp (P:Program) (ops:Array Oper) (c:Ctx) (L:List Item) (o:Oper) (A:Nat->Option Out) (F:Out) (kl:Option Tmp):Prop:=
 ∀ φ a w K Q M,HP c φ (M++L) w->Takes A o ops a M kl->(∀ t,t∈o.looksAt ops->∀ B,(A t).bind Out.toV=some B->B.ok φ (a.tmps.getD t undef)) ->
  (∀ φ' v w',F.post M φ w φ' (res o kl a v) w'->K (a.put o.dst v) w') ->
  if Region.wanted o (yielded ops a.tmps) then o.wp P a w K Q else (kl=none∧F.idle φ)
theorem LocOp.congr {o:Oper} {A A':Nat->Option Out} {F:Out} {kl:Option Tmp} (h:LocOp P ops c L o A F kl) (he:∀ t,t∈o.looksAt ops∨kl=some t->A' t=A t):LocOp P ops c L o A' F kl:=by
 intro φ a w K Q M hm ht hl hk;refine h φ a w K Q M hm ?_ (fun t ht B hB=>hl t ht B (by rw [he t (.inl ht)];exact hB)) hk;cases kl with
 | none=>exact ht
 | some s =>
  obtain ⟨h1,ι,val,I,i,h2,h3⟩:=ht;exact ⟨h1,ι,val,I,i,by rw [<- he s (.inr rfl)];exact h2,h3⟩
structure SS (c:Ctx) (N:Nat) (A:Nat->Option Out) (L:List Item) (φ:Fz) (a:Act) (w:World):Prop where
 defers:a.defers=c.ds
 size:a.tmps.size=N
 env:∀ t B,A t=some (.v B)->B.ok φ (a.tmps.getD t undef)
 mem:HP c φ L w
 own:∃ β:Tmp->Item,(∀ (t:Tmp) (ι:Type) (val:ι->Value) (I:ι->Item),A t=some (.own val I)->(∃ i,a.tmps.getD t undef=val i∧β t=I i)∧(β t).here φ w∧∀ b,(β t).at_=some b->(c.w.heap.size<=b∨b∈c.X)∧b ∉ qbr L) ∧
  ∀ (t t':Tmp) (ι ι':Type) (val:ι->Value) (I:ι->Item) (val':ι'->Value) (I':ι'->Item),t≠t'->A t=some (.own val I)->A t'=some (.own val' I')->Apart (β t) (β t')
theorem SS.congr {A B:Nat->Option Out} {φ:Fz} {a:Act} {w:World} (h:SS c N A L φ a w) (e:∀ t,A t=B t):SS c N B L φ a w:=by
 have:A=B:=funext e;subst this;exact h
theorem qj1 {a:Act} {t:Tmp} {v:Value} (h:t<a.tmps.size∨v=a.tmps.getD t undef):(a.put (some t) v).tmps.getD t undef=v:=by
 rcases h with h|h
 ·simp [Act.put,h]
 ·subst h;rw [qy3]
theorem qit {a:Act} {d:Option Tmp} {t:Nat} {v:Value} (h:d≠some t):(a.put d v).tmps.getD t undef=a.tmps.getD t undef:=by
 cases d with
 | none=>rfl
 | some d =>
  have hne:d≠t:=fun e=>h (by rw [e]);simp [Act.put,Array.getElem?_setIfInBounds_ne hne]
def zdu (d:Option Tmp) (x:Item) (β:Tmp->Item):Tmp->Item:=fun t=>if d=some t then x else β t
theorem qmn {t:Tmp} {x:Item} {β:Tmp->Item}:zdu (some t) x β t=x:=by unfold zdu;rw [if_pos rfl]
theorem qmm {d:Option Tmp} {t:Tmp} {x:Item} {β:Tmp->Item} (h:d≠some t):zdu d x β t=β t:=by unfold zdu;rw [if_neg h]
theorem SS.takes {A:Nat->Option Out} {φ:Fz} {a:Act} {w:World} (h:SS c N A L φ a w) {o:Oper} {kl:Option Tmp} (hk:∀ s,kl=some s->(s∈o.looksAt ops∨wrB o=true)∧∃ (ι:Type) (val:ι->Value) (I:ι->Item),A s=some (.own val I)) :
  ∃ M,HP c φ (M++L) w∧Takes A o ops a M kl∧∀ (d:Option Tmp) (F:Out) (φ':Fz) (v:Value) (w':World),(∀ t,d=some t->t<N∨v=a.tmps.getD t undef)->F.post M φ w φ' v w'->SS c N (qug (qgr A kl) d F) L φ' (a.put d v) w':=by
 obtain ⟨β,hβ,hap⟩:=h.own;have key:∀ M:List Item,HP c φ (M++L) w->(∀ b,b∈qbr M->(c.w.heap.size<=b∨b∈c.X)∧b ∉ qbr L)->(∀ (t:Tmp) (ι:Type) (val:ι->Value) (I:ι->Item),qgr A kl t=some (.own val I)->A t=some (.own val I)∧∀ b,(β t).at_=some b->b ∉ qbr M)->(∀ t B,qgr A kl t=some (.v B)->A t=some (.v B)) ->
   ∀ (d:Option Tmp) (F:Out) (φ':Fz) (v:Value) (w':World),(∀ t,d=some t->t<N∨v=a.tmps.getD t undef)->F.post M φ w φ' v w'->SS c N (qug (qgr A kl) d F) L φ' (a.put d v) w':=by
  intro M hM hMb hkl hklv d F φ' v w' hd hp;have hk:Kpt (qbr M) w w':=by cases F with
   | v F=>exact hp.1.kept
   | own val I=>obtain ⟨i,_,h2⟩:=hp;exact h2.kept
  have hold:∀ b i,b<w.heap.size->φ' b i=φ b i:=by cases F with
   | v F=>exact hp.1.old
   | own val I=>obtain ⟨i,_,h2⟩:=hp;exact h2.old
  have hm:HP c φ' L w':=by cases F with
   | v F=>simpa using hM.call hp.1
   | own val I =>
    obtain ⟨i,_,h2⟩:=hp;exact (hM.call h2).less (by simp)
  have hle:Fle φ φ':=fun b i u e=>by rw [hold b i (qfp (h.mem.mem.base b i u e))];exact e
  refine ⟨by rw [Act.put_defs];exact h.defers,by rw [Act.put_size];exact h.size,fun t B ht=>?_,hm,?_⟩
  ·by_cases hdt:d=some t
   ·subst hdt;rw [qgc] at ht;injection ht with ht
    subst ht;rw [qj1 (by rw [h.size];exact hd t rfl)];exact hp.2
   ·rw [qef hdt] at ht;rw [qit hdt];exact B.mono hle (h.env t B (hklv t B ht))
  ·have hold2:∀ (t:Tmp) (ι:Type) (val:ι->Value) (I:ι->Item),qgr A kl t=some (.own val I)->(β t).here φ' w'∧∀ b,(β t).at_=some b->b<w.heap.size∧b ∉ qbr M:=fun t ι val I ht=>by
    obtain ⟨h1,h2⟩:=hkl t ι val I ht;obtain ⟨_,h3,h4⟩:=hβ t ι val I h1;refine ⟨⟨?_,fun b hb=>⟨Nat.lt_of_lt_of_le (h3.2 b hb).1 hk.size,fun i=>by rw [hold b i (h3.2 b hb).1];exact (h3.2 b hb).2 i⟩⟩,fun b hb=>⟨(h3.2 b hb).1,h2 b hb⟩⟩;have h5:=h3.1;cases hat:(β t).at_ with
    | none=>rw [hat] at h5;exact (β t).mono hle h5
    | some b =>
     rw [hat] at h5;simp only [Option.bind_some] at h5 ⊢;rw [hk.block b (h3.2 b hat).1 (h2 b hat)];exact (β t).mono hle h5
   cases F with
   | v F =>
    refine ⟨β,fun t ι val I ht=>?_,fun t t' ι ι' val I val' I' hne ht ht'=>?_⟩
    ·by_cases hdt:d=some t
     ·subst hdt;rw [qgc] at ht;injection ht with ht;cases ht
     ·rw [qef hdt] at ht;obtain ⟨h1,h2⟩:=hkl t ι val I ht;obtain ⟨h3,_,h4⟩:=hβ t ι val I h1;rw [qit hdt];exact ⟨h3,(hold2 t ι val I ht).1,h4⟩
    ·by_cases hdt:d=some t
     ·subst hdt;rw [qgc] at ht;injection ht with ht;cases ht
     ·by_cases hdt':d=some t'
      ·subst hdt';rw [qgc] at ht';injection ht' with ht';cases ht'
      ·rw [qef hdt] at ht;rw [qef hdt'] at ht';exact hap t t' ι ι' val I val' I' hne (hkl t ι val I ht).1 (hkl t' ι' val' I' ht').1
   | own val0 I0 =>
    obtain ⟨i0,hv,hp2⟩:=hp;have hnew:∀ b,(I0 i0).at_=some b->w.heap.size<=b∨b∈qbr M:=fun b hb=>hp2.mine b (mem_names.2 ⟨_,List.mem_singleton.2 rfl,hb⟩);refine ⟨zdu d (I0 i0) β,fun t ι val I ht=>?_,fun t t' ι ι' val I val' I' hne ht ht'=>?_⟩
    ·by_cases hdt:d=some t
     ·subst hdt;rw [qgc] at ht;injection ht with ht
      cases ht;refine ⟨⟨i0,by rw [qj1 (by rw [h.size];exact hd t rfl)];exact hv,by rw [qmn]⟩,by rw [qmn];exact hp2.mem.items _ (List.mem_singleton.2 rfl),fun b hb=>?_⟩;rw [qmn] at hb;rcases hnew b hb with h1|h1
      ·refine ⟨.inl (nT h.mem.kept.size h1),fun hbl=>?_⟩;obtain ⟨it,hi,hib⟩:=mem_names.1 hbl;exact absurd ((h.mem.mem.items it hi).2 b hib).1 (Nat.not_lt.2 h1)
      ·exact hMb b h1
     ·rw [qef hdt] at ht;obtain ⟨h1,h2⟩:=hkl t ι val I ht;obtain ⟨h3,_,h4⟩:=hβ t ι val I h1;rw [qmm hdt,qit hdt];exact ⟨h3,(hold2 t ι val I ht).1,h4⟩
    ·have cross:∀ (u:Tmp) (κ:Type) (valu:κ->Value) (Iu:κ->Item),qgr A kl u=some (.own valu Iu)->∀ b,(I0 i0).at_=some b->(β u).at_≠some b:=fun u κ valu Iu hu b hb hbu=>by
      obtain ⟨h1,h2⟩:=(hold2 u κ valu Iu hu).2 b hbu;rcases hnew b hb with h3|h3
      ·omega
      ·exact h2 h3
     by_cases hdt:d=some t
     ·have hdt':d≠some t':=fun h'=>hne (by rw [hdt] at h';injection h');rw [qef hdt'] at ht';subst hdt;rw [qmn,qmm hdt'];exact cross t' ι' val' I' ht'
     ·by_cases hdt':d=some t'
      ·rw [qef hdt] at ht;subst hdt';rw [qmm hdt,qmn];exact fun b hb hb'=>cross t ι val I ht b hb' hb
      ·rw [qef hdt] at ht;rw [qef hdt'] at ht';rw [qmm hdt,qmm hdt'];exact hap t t' ι ι' val I val' I' hne (hkl t ι val I ht).1 (hkl t' ι' val' I' ht').1
 cases kl with
 | none =>
  have hn:qgr A none=A:=by funext t;simp [qgr]
  refine ⟨[],by simpa using h.mem,rfl,key [] (by simpa using h.mem) (by simp [qbr]) (fun t ι val I ht=>?_) (fun t B ht=>?_)⟩
  ·rw [hn] at ht;exact ⟨ht,by simp [qbr]⟩
  ·rw [hn] at ht;exact ht
 | some s =>
  obtain ⟨hs1,ι,val,I,hs2⟩:=hk s rfl;obtain ⟨⟨i,h1,h2⟩,h3,h4⟩:=hβ s ι val I hs2;have hM:HP c φ ([I i]++L) w:=by
   rw [h2] at h3 h4;refine ⟨⟨h.mem.mem.base,fun it hi=>?_,?_⟩,h.mem.kept,fun b hb=>?_,h.mem.old⟩
   ·rcases List.mem_append.1 hi with hi|hi
    ·rw [List.mem_singleton] at hi;subst hi;exact h3
    ·exact h.mem.mem.items it hi
   ·refine List.pairwise_append.2 ⟨List.pairwise_singleton _ _,h.mem.mem.sep,fun x hx y hy b hxb hyb=>?_⟩;rw [List.mem_singleton] at hx;subst hx;exact (h4 b hxb).2 (mem_names.2 ⟨y,hy,hyb⟩)
   ·rw [qez] at hb;rcases List.mem_append.1 hb with hb|hb
    ·obtain ⟨x,hx,hxb⟩:=mem_names.1 hb;rw [List.mem_singleton] at hx;subst hx;exact (h4 b hxb).1
    ·exact h.mem.mine b hb
  refine ⟨[I i],hM,⟨hs1,ι,val,I,i,hs2,h1,rfl⟩,key _ hM (fun b hb=>?_) (fun t ι' val' I' ht=>?_) (fun t B ht=>?_)⟩
  ·obtain ⟨x,hx,hxb⟩:=mem_names.1 hb;rw [List.mem_singleton] at hx;subst hx;rw [<- h2] at hxb;exact h4 b hxb
  ·by_cases hst:(some s:Option Tmp)=some t
   ·injection hst with hst;subst hst;rw [qmy] at ht;cases ht
   ·rw [qjf hst] at ht;refine ⟨ht,fun b hb hbm=>?_⟩;obtain ⟨x,hx,hxb⟩:=mem_names.1 hbm;rw [List.mem_singleton] at hx;subst hx;rw [<- h2] at hxb;exact hap s t ι ι' val I val' I' (fun e=>hst (by rw [e])) hs2 ht b hxb hb
  ·by_cases hst:(some s:Option Tmp)=some t
   ·injection hst with hst;subst hst;rw [qmy] at ht;cases ht
   ·rw [qjf hst] at ht;exact ht
theorem qr0 {i k:Nat} (h:k<=i):Nat.blt i k=false:=by
 cases hb:Nat.blt i k with
 | false=>rfl
 | true=>exact absurd (Nat.le_of_ble_eq_true hb) om
def ql0 (nd:Nat->Nat) (es:List Edge):Nat:=es.foldr (fun e s=>bif Region.binds .any e then (1<<<e.on)|||(nd e.on|||s) else s) 0
theorem qj8 {nd:Nat->Nat} {j:Nat}:∀ {es:List Edge},(ql0 nd es).testBit j=true->∃ e,e∈es∧Region.binds .any e=true∧(e.on=j∨(nd e.on).testBit j=true)
 | [],h=>by simp [ql0] at h
 | e::es,h=>by
  have hcase:ql0 nd (e::es)=bif Region.binds .any e then (1<<<e.on)|||(nd e.on|||ql0 nd es) else ql0 nd es:=rfl
  rw [hcase] at h;cases hb:Region.binds .any e with
  | false =>
   rw [hb] at h;obtain ⟨e',h1,h2⟩:=qj8 (es:=es) h;exact ⟨e',List.mem_cons_of_mem _ h1,h2⟩
  | true =>
   rw [hb] at h;simp only [cond_true,Nat.testBit_or,Bool.or_eq_true] at h;rcases h with h|h|h
   ·refine ⟨e,List.mem_cons_self ..,hb,.inl ?_⟩;rw [Nat.one_shiftLeft,Nat.testBit_two_pow] at h
    simpa using h
   ·exact ⟨e,List.mem_cons_self ..,hb,.inr h⟩
   ·obtain ⟨e',h1,h2⟩:=qj8 (es:=es) h;exact ⟨e',List.mem_cons_of_mem _ h1,h2⟩
def qg7 (nd:List Nat) (i:Nat):Nat:=nd.getD i 0
def needs:List Oper->List Nat->List Nat
 | [],acc=>acc
 | o::rest,acc=>needs rest (acc++[ql0 (qg7 acc) o.after.toList])
def qg0 (p:Nat->Oper->Bool):List Oper->Nat->Bool
 | [],_=>true
 | o::rest,k=>p k o&&qg0 p rest (k+1)
theorem qdb {p:Nat->Oper->Bool}:∀ {l:List Oper} {k:Nat},qg0 p l k=true->∀ i o,l[i]?=some o->p (k+i) o=true
 | [],_,_,i,o,h=>by simp at h
 | x::l,k,h,i,o,hi=>by
  simp only [qg0,Bool.and_eq_true] at h;cases i with
  | zero=>simp at hi;subst hi;exact h.1
  | succ i =>
   have:=qdb h.2 i o (by simpa using hi);rw [show k+(i+1)=k+1+i by omega];exact this
def goodB (ops:Array Oper) (nd:List Nat):Bool:=
 qg0 (fun i o=>Nat.beq (qg7 nd i&&&ql0 (qg7 nd) o.after.toList) (qg7 nd i)&&o.after.toList.all (fun e=>!Region.binds .any e||Nat.blt e.on i)) ops.toList 0
def qce (ops:Array Oper) (o:Oper):List Tmp:=o.looksAt ops++o.dst.toList
def ordB (ops:Array Oper) (nd:List Nat):Bool:=
 qg0 (fun i o=>match o.dst with
  | none=>true
  | some d=>qg0 (fun j x=>Nat.beq i j || !((qce ops x).any fun t=>Nat.beq t d)||(bif Nat.blt i j then (qg7 nd j).testBit i else (qg7 nd i).testBit j)) ops.toList 0) ops.toList 0
def qqa (nd:List Nat) (size k i:Nat):Bool:=(List.range size).all fun j=>Nat.blt j k||(qg7 nd j).testBit i
def qmf (nd:List Nat) (size k n:Nat):Bool:=(List.range n).all fun i=>qqa nd size (k+n) (k+i)
structure Good (ops:Array Oper) (nd:List Nat):Prop where
 mask:∀ (i:Nat) (o:Oper) (j:Nat),ops[i]?=some o->(qg7 nd i).testBit j=true->∃ e,e∈o.after∧Region.binds .any e=true∧(e.on=j∨(qg7 nd e.on).testBit j=true)
 back:∀ (i:Nat) (o:Oper) (e:Edge),ops[i]?=some o->e∈o.after->Region.binds .any e=true->e.on<i
 ord:∀ (i:Nat) (o:Oper) (d:Tmp) (j:Nat) (x:Oper),ops[i]?=some o->o.dst=some d->ops[j]?=some x->d∈qce ops x->i≠j->(i<j->(qg7 nd j).testBit i=true)∧(j<i->(qg7 nd i).testBit j=true)
theorem good_of {nd:List Nat} (h1:goodB ops nd=true) (h2:ordB ops nd=true):Good ops nd:=by
 refine ⟨fun i o j hi hj=>?_,fun i o e hi he hb=>?_,fun i o d j x hi hd hj hx hne=>?_⟩
 ·have:=qdb h1 i o (by simpa using hi);simp only [Nat.zero_add,Bool.and_eq_true] at this;have h3:=Nat.eq_of_beq_eq_true this.1;rw [<- h3,Nat.testBit_and,Bool.and_eq_true] at hj;obtain ⟨e,h4,h5⟩:=qj8 hj.2;exact ⟨e,by simpa using h4,h5⟩
 ·have:=qdb h1 i o (by simpa using hi);simp only [Nat.zero_add,Bool.and_eq_true,List.all_eq_true,Bool.or_eq_true] at this;have h3:=this.2 e (by simpa using he);rw [hb] at h3
  simpa using h3
 ·have:=qdb h2 i o (by simpa using hi);simp only [hd,Nat.zero_add] at this;have h3:=qdb this j x (by simpa using hj);simp only [Nat.zero_add,Bool.or_eq_true] at h3;have hij:Nat.beq i j=false:=qjm hne;have hany:((qce ops x).any fun t=>Nat.beq t d)=true:=List.any_eq_true.2 ⟨d,hx,by simp⟩;rw [hij,hany] at h3;simp only [Bool.false_eq_true,Bool.not_true,false_or] at h3;constructor
  ·intro hlt;have:Nat.blt i j=true:=by simpa using hlt
   rw [this] at h3;exact h3
  ·intro hlt;have:Nat.blt i j=false:=qr0 om;rw [this] at h3;exact h3
structure Cl (ops:Array Oper) (nd:List Nat) (listed:Array Bool):Prop where
 size:listed.size=ops.size
 cl:∀ i,listed.getD i false=true->∀ j,(qg7 nd i).testBit j=true->listed.getD j false=true
theorem qcy {nd:List Nat} (hg:Good ops nd) {listed:Array Bool} (hc:Cl ops nd listed) {i:Nat} (hr:i∈Region.ready .any ops listed) {j:Nat} (hj:(qg7 nd i).testBit j=true):listed.getD j false=true:=by
 obtain ⟨_,o,ho,hall⟩:=mem_ready.1 hr;obtain ⟨e,he,hb,h3⟩:=hg.mask i o j ho hj;have h4:=hall e he hb;rcases h3 with rfl|h3
 ·exact h4
 ·exact hc.cl _ h4 j h3
theorem Cl.set {nd:List Nat} (hg:Good ops nd) {listed:Array Bool} (hc:Cl ops nd listed) {i:Nat} (hr:i∈Region.ready .any ops listed):Cl ops nd (listed.setIfInBounds i true):=by
 refine ⟨by simp [hc.size],fun k hk j hj=>?_⟩;by_cases hik:i=k
 ·subst hik;exact getD_set_true (qcy hg hc hr hj)
 ·rw [getD_set_ne false hik] at hk;exact getD_set_true (hc.cl k hk j hj)
def unl (n:Nat) (listed:Array Bool):Nat:=(List.range n).countP fun i=>!listed.getD i true
theorem qpb {listed:Array Bool} {i:Nat} (hi:i<listed.size) (hf:listed.getD i true=false):∀ {n:Nat},i<n->unl n (listed.setIfInBounds i true)+1=unl n listed
 | 0,h=>by omega
 | n+1,h=>by
  unfold unl;rw [List.range_succ,List.countP_append,List.countP_append];by_cases hin:i=n
  ·subst hin;have h1:(List.range i).countP (fun k=>!(listed.setIfInBounds i true).getD k true)=(List.range i).countP (fun k=>!listed.getD k true):=by
    refine List.countP_congr fun k hk=>?_;have:i≠k:=by have:=List.mem_range.1 hk;omega
    rw [getD_set_ne true this]
   rw [h1];have h2:(listed.setIfInBounds i true).getD i true=true:=by simp [hi]
   rw [List.countP_cons,List.countP_cons,h2,hf];simp
  ·have:=qpb hi hf (n:=n) om;unfold unl at this;have h1:(List.countP (fun i=>!listed.getD i true) [n])=List.countP (fun k=>!(listed.setIfInBounds i true).getD k true) [n]:=by
    rw [List.countP_cons,List.countP_cons,getD_set_ne true hin];rfl
   omega
theorem qsd {listed:Array Bool} {n:Nat} (h:unl n listed=0):∀ i,i<n->listed.getD i true=true:=by
 intro i hi;unfold unl at h;rw [List.countP_eq_zero] at h;have:=h i (List.mem_range.2 hi)
 simpa using this
structure Pre (ops:Array Oper) (nd:List Nat) (k:Nat) (listed:Array Bool):Prop where
 cl:Cl ops nd listed
 pre:∀ i,i<ops.size->(listed.getD i true=true↔i<k)
structure Ent where
 i:Nat
 o:Oper
 F:Out
 kl:Option Tmp
def Ent.tch (x:Ent) (t:Tmp):Prop:=x.o.dst=some t∨x.kl=some t
def Ent.app (x:Ent) (A:Nat->Option Out):Nat->Option Out:=qug (qgr A x.kl) (tgt x.o x.kl) x.F
theorem Ent.app_ne {x:Ent} {A:Nat->Option Out} {t:Tmp} (h:¬ x.tch t):x.app A t=A t:=by
 unfold Ent.app;have h2:tgt x.o x.kl≠some t:=fun e=>by
  cases hd:x.o.dst with
  | some d=>rw [qg3 hd] at e;exact h (.inl (by rw [hd,e]))
  | none=>rw [qt0 hd] at e;exact h (.inr e)
 rw [qef h2,qjf (fun e=>h (.inr e))]
theorem Ent.app_same {x:Ent} {A B:Nat->Option Out} {t:Tmp} (h:x.tch t∨A t=B t):x.app A t=x.app B t:=by
 unfold Ent.app;by_cases h1:tgt x.o x.kl=some t
 ·rw [h1,qgc,qgc]
 ·rw [qef h1,qef h1];by_cases h2:x.kl=some t
  ·rw [h2,qmy,qmy]
  ·rw [qjf h2,qjf h2];rcases h with (h|h)|h
   ·exact absurd (qg3 h x.kl) h1
   ·exact absurd h h2
   ·exact h
def acc (listed:Nat->Bool):List Ent->(Nat->Option Out)->Nat->Option Out
 | [],A=>A
 | x::l,A=>acc listed l (bif listed x.i then x.app A else A)
theorem qea {p q:Nat->Bool} {t:Nat} {l:List Ent}:∀ {A B:Nat->Option Out},A t=B t->(∀ x,x∈l->x.tch t->p x.i=q x.i)->acc p l A t=acc q l B t:=by
 induction l with
 | nil=>intro A B h _;exact h
 | cons y l ih =>
  intro A B h hl;have hl':∀ x,x∈l->x.tch t->p x.i=q x.i:=fun x hx=>hl x (List.mem_cons_of_mem _ hx);show acc p l (bif p y.i then y.app A else A) t=acc q l (bif q y.i then y.app B else B) t;refine ih ?_ hl';by_cases hd:y.tch t
  ·have hp:p y.i=q y.i:=hl y (List.mem_cons_self ..) hd;rw [hp];cases q y.i
   ·exact h
   ·exact Ent.app_same (.inl hd)
  ·have e1:(bif p y.i then y.app A else A) t=A t:=by cases p y.i <;> simp [Ent.app_ne hd]
   have e2:(bif q y.i then y.app B else B) t=B t:=by cases q y.i <;> simp [Ent.app_ne hd]
   rw [e1,e2];exact h
theorem qdt (p:Nat->Bool):∀ (l l':List Ent) (A:Nat->Option Out),acc p (l++l') A=acc p l' (acc p l A)
 | [],_,_=>rfl
 | x::l,l',A=>by simp only [List.cons_append,acc,qdt p l l']
theorem qjg {p:Nat->Bool} {t:Nat} {l:List Ent} {A:Nat->Option Out} (h:∀ x,x∈l->x.tch t->p x.i=false):acc p l A t=A t:=by
 have:=qea (p:=p) (q:=fun _=>false) (l:=l) (A:=A) (B:=A) (t:=t) rfl h;rw [this];clear this h;induction l generalizing A with
 | nil=>rfl
 | cons x l ih=>exact ih
def qlm (ops:Array Oper) (nd:List Nat) (k:Nat) (o:Oper) (A:Nat->Option Out) (kl:Option Tmp):Prop:=
 ∀ s,kl=some s->((s∈o.looksAt ops∨wrB o=true)∧∃ (ι:Type) (val:ι->Value) (I:ι->Item),A s=some (.own val I)) ∧
  ∀ j x,ops[j]?=some x->s∈qce ops x∨(s ∉ o.looksAt ops∧wrB o=true∧wrB x=true)->j≠k->(k<j->(qg7 nd j).testBit k=true)∧(j<k->(qg7 nd k).testBit j=true)
def LocW (P:Program) (ops:Array Oper) (c:Ctx) (L:List Item) (nd:List Nat) (K:(Nat->Option Out)->Prop):List Oper->Nat->(Nat->Option Out)->Prop
 | [],_,A=>K A
 | o::rest,k,A=>∃ F kl,qlm ops nd k o A kl∧LocOp P ops c L o A F kl∧LocW P ops c L nd K rest (k+1) (qug (qgr A kl) (tgt o kl) F)
theorem LocW.out {nd:List Nat} {K:(Nat->Option Out)->Prop}:∀ {l:List Oper} {A:Nat->Option Out} {k:Nat},LocW P ops c L nd K l k A ->
  ∃ m:List Ent,m.length=l.length∧(∀ i x,m[i]?=some x->x.i=k+i∧l[i]?=some x.o) ∧
   (∀ m1 x m2,m=m1++x::m2->LocOp P ops c L x.o (acc (fun _=>true) m1 A) x.F x.kl∧qlm ops nd x.i x.o (acc (fun _=>true) m1 A) x.kl)∧K (acc (fun _=>true) m A)
 | [],A,k,h=>⟨[],rfl,fun i x hx=>by simp at hx,fun m1 x m2 hm=>by simp at hm,h⟩
 | o::l,A,k,⟨F,kl,h0,h1,h2⟩=>by
  obtain ⟨m,e1,e2,e3,e4⟩:=LocW.out h2;refine ⟨⟨k,o,F,kl⟩::m,by simp [e1],fun i x hx=>?_,fun m1 x m2 hm=>?_,e4⟩
  ·cases i with
   | zero=>simp at hx;subst hx;exact ⟨rfl,rfl⟩
   | succ i =>
    obtain ⟨h3,h4⟩:=e2 i x (by simpa using hx);exact ⟨om,by simpa using h4⟩
  ·cases m1 with
   | nil =>
    simp only [List.nil_append,List.cons.injEq] at hm;obtain ⟨rfl,rfl⟩:=hm;exact ⟨h1,h0⟩
   | cons y m1 =>
    simp only [List.cons_append,List.cons.injEq] at hm;obtain ⟨rfl,hm⟩:=hm;exact e3 m1 x m2 hm
theorem qf5 {listed:Array Bool} {i:Nat} (h:listed.getD i true=false):listed.getD i false=false:=getD_both h
theorem qfm {nd:List Nat} (hg:Good ops nd) {listed:Array Bool} (hs:listed.size=ops.size) {i:Nat} (hi:i<ops.size) (hu:listed.getD i true=false) (hl:∀ j,j<i->listed.getD j true=true):i∈Region.ready .any ops listed:=by
 refine mem_ready.2 ⟨hu,ops[i],by simp [hi],fun e he hb=>?_⟩;have h1:=hg.back i ops[i] e (by simp [hi]) he hb;have h2:=hl _ h1;have h3:e.on<listed.size:=om;simp [h3] at h2 ⊢;exact h2
theorem qdc {listed:Array Bool}:∀ (n:Nat),(∃ i,i<n∧listed.getD i true=false)->∃ i,i<n∧listed.getD i true=false∧∀ j,j<i->listed.getD j true=true
 | 0,⟨i,h,_⟩=>by omega
 | n+1,h=>by
  by_cases h':∃ i,i<n∧listed.getD i true=false
  ·obtain ⟨i,h1,h2,h3⟩:=qdc n h';exact ⟨i,om,h2,h3⟩
  ·obtain ⟨i,h1,h2⟩:=h;have hin:i=n:=by
    rcases Nat.lt_or_ge i n with h3|h3
    ·exact absurd ⟨i,h3,h2⟩ h'
    ·omega
   subst hin;refine ⟨i,h1,h2,fun j hj=>?_⟩;cases hv:listed.getD j true with
   | true=>rfl
   | false=>exact absurd ⟨j,hj,hv⟩ h'
theorem zc6 {Q:Exit->Act->World->Prop} {nd:List Nat} (hg:Good ops nd) (hN:qg0 (fun _ o=>qtd N o.dst) ops.toList 0=true) {k n:Nat} (hS:qmf nd ops.size k n=true) (hkn:k+n<=ops.size)
  {m:List Ent} {A0:Nat->Option Out} (hm:m.length=n) (hmi:∀ i x,m[i]?=some x->x.i=k+i∧ops[k+i]?=some x.o)
  (hop:∀ m1 x m2,m=m1++x::m2->LocOp P ops c L x.o (acc (fun _=>true) m1 A0) x.F x.kl∧qlm ops nd x.i x.o (acc (fun _=>true) m1 A0) x.kl)
  (next:∀ φ a w listed,Pre ops nd (k+n) listed->SS c N (acc (fun _=>true) m A0) L φ a w->wpAny P .any ops Q (unl ops.size listed) listed a w) :
  ∀ (u:Nat) (φ:Fz) (a:Act) (w:World) (listed:Array Bool),unl ops.size listed=u->Cl ops nd listed->(∀ i,i<k->listed.getD i true=true)->(∀ i,k+n<=i->i<ops.size->listed.getD i true=false) ->
   SS c N (acc (fun i=>listed.getD i false) m A0) L φ a w->wpAny P .any ops Q u listed a w:=by
 intro u;induction u with
 | zero =>
  intro φ a w listed hu hc hlo hhi st;have hall:=qsd hu;have hk:k+n=ops.size:=by
   rcases Nat.lt_or_ge (k+n) ops.size with h|h
   ·have h1:=hall _ h;have h2:=hhi (k+n) (Nat.le_refl _) h;rw [h1] at h2;cases h2
   ·omega
  rw [<- hu];refine next φ a w listed ⟨hc,fun i hi=>⟨fun _=>by omega,fun _=>hall i hi⟩⟩ (st.congr fun t=>qea rfl fun x hx _=>?_)
  obtain ⟨i,hi⟩:=List.mem_iff_getElem?.1 hx;obtain ⟨e1,e2⟩:=hmi i x hi;have hlt:k+i<ops.size:=(Array.getElem?_eq_some_iff.1 e2).1;have h1:=hall _ hlt;have h2:k+i<listed.size:=by rw [hc.size];exact hlt
  rw [e1];simp [h2] at h1 ⊢;exact h1
 | succ u ih =>
  intro φ a w listed hu hc hlo hhi st;by_cases hdone:∃ i,i<k+n∧listed.getD i true=false
  ·obtain ⟨i0,hi0,hu0,hl0⟩:=qdc _ hdone;have hr0:=qfm hg hc.size om hu0 hl0;refine ⟨fun h=>(by rw [h] at hr0;cases hr0),fun i hi=>?_⟩;obtain ⟨hiu,oi,hoi,hiall⟩:=mem_ready.1 hi;have hilt:i<ops.size:=(Array.getElem?_eq_some_iff.1 hoi).1;have hik:k<=i:=by
    rcases Nat.lt_or_ge i k with h|h
    ·have:=hlo i h;rw [hiu] at this;cases this
    ·exact h
   have hin:i<k+n:=by
    rcases Nat.lt_or_ge i (k+n) with h|h
    ·exact h
    ·exfalso;have hi0k:k<=i0:=by
      rcases Nat.lt_or_ge i0 k with h' | h'
      ·have:=hlo i0 h';rw [hu0] at this;cases this
      ·exact h'
     have h1:=List.all_eq_true.1 hS (i0-k) (List.mem_range.2 om);have h2:=List.all_eq_true.1 h1 i (List.mem_range.2 hilt);have h3:Nat.blt i (k+n)=false:=qr0 om;rw [h3,Bool.false_or,show k+(i0-k)=i0 by omega] at h2;have h4:=qcy hg hc hi h2;rw [qf5 hu0] at h4;cases h4
   have hp:(i-k)<m.length:=om;obtain ⟨x,hx⟩:∃ x,m[i-k]?=some x:=⟨m[i-k],by simp [hp]⟩
   obtain ⟨ex1,ex2⟩:=hmi (i-k) x hx;rw [show k+(i-k)=i by omega] at ex1 ex2;have hox:x.o=oi:=Option.some.inj (ex2.symm.trans hoi);obtain ⟨m1,m2,hsplit,hm1⟩:∃ m1 m2,m=m1++x::m2∧m1.length=i-k:=by
    refine ⟨m.take (i-k),m.drop (i-k+1),?_,by simp;omega⟩;have h1:m.drop (i-k)=x::m.drop (i-k+1):=by
     rw [List.drop_eq_getElem_cons hp]
     congr 1
     rw [gE hp] at hx;exact Option.some.inj hx
    rw [<- h1,List.take_append_drop]
   have idx1:∀ y,y∈m1->y.i<i∧ops[y.i]?=some y.o:=fun y hy=>by
    obtain ⟨q,hq⟩:=List.mem_iff_getElem?.1 hy;have hql:q<m1.length:=(List.getElem?_eq_some_iff.1 hq).1;have hq':m[q]?=some y:=by rw [hsplit,List.getElem?_append_left hql];exact hq
    obtain ⟨e1,e2⟩:=hmi q y hq';exact ⟨om,by rw [e1];exact e2⟩
   have idx2:∀ y,y∈m2->i<y.i∧ops[y.i]?=some y.o:=fun y hy=>by
    obtain ⟨q,hq⟩:=List.mem_iff_getElem?.1 hy;have hq':m[m1.length+1+q]?=some y:=by
     rw [hsplit,List.getElem?_append_right om,show m1.length+1+q-m1.length=q+1 by omega]
     simpa using hq
    obtain ⟨e1,e2⟩:=hmi _ y hq';exact ⟨om,by rw [e1];exact e2⟩
   have hiL:i<listed.size:=by rw [hc.size];exact hilt
   have hkm:∀ y,y∈m->∀ s,y.kl=some s->(s∈y.o.looksAt ops∨wrB y.o=true)∧∀ j x,ops[j]?=some x->s∈qce ops x∨(s ∉ y.o.looksAt ops∧wrB y.o=true∧wrB x=true)->j≠y.i->(y.i<j->(qg7 nd j).testBit y.i=true)∧(j<y.i->(qg7 nd y.i).testBit j=true):=fun y hy s hs=>by
    obtain ⟨p1,p2,hp12⟩:=List.append_of_mem hy;have:=(hop p1 y p2 hp12).2 s hs;exact ⟨this.1.1,this.2⟩
   have hxm:x∈m:=by rw [hsplit];exact List.mem_append_right _ (List.mem_cons_self ..)
   have ordd:∀ y,y∈m->y.i≠i->ops[y.i]?=some y.o->(∃ t,y.tch t∧(t∈qce ops oi∨x.kl=some t))->(i<y.i->(qg7 nd y.i).testBit i=true)∧(y.i<i->(qg7 nd i).testBit y.i=true):=fun y hym hne h2 ⟨t,ht,htn⟩=>by
    rcases htn with htn|htn
    ·rcases ht with ht|ht
     ·have:=hg.ord y.i y.o t i oi h2 ht hoi htn (fun e=>hne e);exact ⟨this.2,this.1⟩
     ·have:=(hkm y hym t ht).2 i oi hoi (.inl htn) (fun e=>hne e.symm);exact ⟨this.2,this.1⟩
    ·have hx1:=hkm x hxm t htn;rw [hox,ex1] at hx1;rcases ht with ht|ht
     ·have:=hx1.2 y.i y.o h2 (.inl (List.mem_append_right _ (by rw [ht];simp))) hne;exact this
     ·by_cases htl:t∈qce ops y.o
      ·exact hx1.2 y.i y.o h2 (.inl htl) hne
      ·have hyd:wrB y.o=true:=(hkm y hym t ht).1.resolve_left fun e=>htl (List.mem_append_left _ e);by_cases htx:t∈qce ops oi
       ·have:=(hkm y hym t ht).2 i oi hoi (.inl htx) (fun e=>hne e.symm);exact ⟨this.2,this.1⟩
       ·have hxl:t ∉ oi.looksAt ops:=fun e=>htx (List.mem_append_left _ e);have hxd:wrB oi=true:=hx1.1.resolve_left hxl;exact hx1.2 y.i y.o h2 (.inr ⟨hxl,hxd,hyd⟩) hne
   have later:∀ y,y∈m2->(∃ t,y.tch t∧(t∈qce ops oi∨x.kl=some t))->listed.getD y.i false=false:=fun y hy ht=>by
    obtain ⟨h1,h2⟩:=idx2 y hy;have hym:y∈m:=by rw [hsplit];exact List.mem_append_right _ (List.mem_cons_of_mem _ hy)
    cases hv:listed.getD y.i false with
    | false=>rfl
    | true =>
     have h3:=(ordd y hym om h2 ht).1 h1;have h4:=hc.cl _ hv i h3;rw [qf5 hiu] at h4;cases h4
   have earlier:∀ y,y∈m1->(∃ t,y.tch t∧(t∈qce ops oi∨x.kl=some t))->listed.getD y.i false=true:=fun y hy ht=>by
    obtain ⟨h1,h2⟩:=idx1 y hy;have hym:y∈m:=by rw [hsplit];exact List.mem_append_left _ hy
    have h3:=(ordd y hym om h2 ht).2 h1;exact qcy hg hc hi h3
   have hsame:∀ t,t∈oi.looksAt ops∨x.kl=some t->acc (fun i=>listed.getD i false) m A0 t=acc (fun _=>true) m1 A0 t:=fun t ht=>by
    have htn:t∈qce ops oi∨x.kl=some t:=ht.imp (List.mem_append_left _) id;rw [hsplit,qdt];have h1:acc (fun i=>listed.getD i false) (x::m2) (acc (fun i=>listed.getD i false) m1 A0) t=acc (fun i=>listed.getD i false) m1 A0 t:=by
     refine qjg fun y hy hyt=>?_;rcases List.mem_cons.1 hy with rfl|hy
     ·show listed.getD y.i false=false;rw [ex1];exact qf5 hiu
     ·exact later y hy ⟨t,hyt,htn⟩
    rw [h1];exact qea rfl fun y hy hyt=>earlier y hy ⟨t,hyt,htn⟩
   have hloc:LocOp P ops c L oi (acc (fun i=>listed.getD i false) m A0) x.F x.kl:=by
    have h0:=(hop m1 x m2 hsplit).1;rw [hox] at h0;exact h0.congr hsame
   have hkok:∀ s,x.kl=some s->(s∈oi.looksAt ops∨wrB oi=true)∧∃ (ι:Type) (val:ι->Value) (I:ι->Item),acc (fun i=>listed.getD i false) m A0 s=some (.own val I):=fun s hs=>by
    obtain ⟨⟨h1,ι,val,I,h2⟩,_⟩:=(hop m1 x m2 hsplit).2 s hs;rw [hox] at h1;exact ⟨h1,ι,val,I,by rw [hsame s (.inr hs)];exact h2⟩
   have hget:∀ j,j≠i->(listed.setIfInBounds i true).getD j false=listed.getD j false:=fun j hj=>getD_set_ne false (Ne.symm hj);have hacc:∀ t,qug (qgr (acc (fun i=>listed.getD i false) m A0) x.kl) (tgt oi x.kl) x.F t=acc (fun j=>(listed.setIfInBounds i true).getD j false) m A0 t:=fun t=>by
    have hiT:(listed.setIfInBounds i true).getD i false=true:=by simp [hiL]
    have happ:qug (qgr (acc (fun i=>listed.getD i false) m A0) x.kl) (tgt oi x.kl) x.F=x.app (acc (fun i=>listed.getD i false) m A0):=by unfold Ent.app;rw [hox]
    rw [happ];by_cases hd:x.tch t
    ·rw [hsplit,qdt,qdt];simp only [acc];rw [ex1,hiT];simp only [cond_true];have hnm:t∈qce ops oi∨x.kl=some t:=by
      rcases hd with hd|hd
      ·rw [hox] at hd;exact .inl (by unfold qce;rw [hd];simp)
      ·exact .inr hd
     have h2:acc (fun j=>(listed.setIfInBounds i true).getD j false) m2 (x.app (acc (fun j=>(listed.setIfInBounds i true).getD j false) m1 A0)) t=x.app (acc (fun j=>(listed.setIfInBounds i true).getD j false) m1 A0) t:=by
      refine qjg fun y hy hyt=>?_;obtain ⟨h1,_⟩:=idx2 y hy;rw [hget y.i om];exact later y hy ⟨t,hyt,hnm⟩
     rw [h2];exact Ent.app_same (.inl hd)
    ·rw [Ent.app_ne hd];refine qea rfl fun y hy hyt=>(hget y.i fun hyi=>?_).symm;have hyx:y=x:=by
      obtain ⟨q,hq⟩:=List.mem_iff_getElem?.1 hy;obtain ⟨e1,e2⟩:=hmi q y hq;have hqi:q=i-k:=om;rw [hqi,hx] at hq;exact (Option.some.inj hq).symm
     rw [hyx] at hyt;exact hd hyt
   have hunl:unl ops.size (listed.setIfInBounds i true)=u:=by
    have:=qpb hiL hiu hilt;omega
   obtain ⟨M,hM1,hM2,hM3⟩:=SS.takes (ops:=ops) (o:=oi) (kl:=x.kl) st hkok;have hnext:∀ φ' v w',x.F.post M φ w φ' (res oi x.kl a v) w'->wpAny P .any ops Q u (listed.setIfInBounds i true) (a.put oi.dst v) w':=fun φ' v w' hpost=>by
    have h9:=(hM3 (tgt oi x.kl) x.F φ' (res oi x.kl a v) w' (fun t ht=>?_) hpost).congr hacc
    ·rw [zdq] at h9;refine ih φ' _ w' _ hunl (hc.set hg hi) (fun j hj=>?_) (fun j hj hj'=>?_) h9
     ·rw [getD_set_ne true om];exact hlo j hj
     ·rw [getD_set_ne true om];exact hhi j hj hj'
    ·cases hd:oi.dst with
     | some d =>
      rw [qg3 hd] at ht;injection ht with ht
      subst ht;have:=qdb hN i oi (by simpa using hoi);exact .inl (qe2 this _ hd)
     | none =>
      rw [qt0 hd] at ht;rw [ht,qyy hd];exact .inr rfl
   have hfin:=hloc φ a w _ Q M hM1 hM2 (fun t ht B hB=>by
    cases hA:acc (fun i=>listed.getD i false) m A0 t with
    | none=>rw [hA] at hB;cases hB
    | some D =>
     rw [hA] at hB;cases D with
     | v D => obtain rfl : D = B := by simpa [Out.toV] using hB
              exact st.env t D hA
     | own val I=>cases hB) hnext
   unfold wpOp;simp only [hoi];split
   ·rename_i hw;rw [hw] at hfin;exact .inl (by simpa using hfin)
   ·rename_i hw;have hw':Region.wanted oi (yielded ops a.tmps)=false:=by simpa using hw
    rw [hw'] at hfin;have hidle:x.kl=none∧x.F.idle φ:=by simpa using hfin
    have hM0:M=[]:=by rw [hidle.1] at hM2;exact hM2
    subst hM0;refine hnext φ undef w ?_;rw [hidle.1,qf3];cases hF:x.F with
    | v F=>rw [hF] at hidle;exact ⟨HP.start (L:=[]) ⟨st.mem.mem.base,by simp,List.Pairwise.nil⟩,hidle.2⟩
    | own val I=>rw [hF] at hidle;exact hidle.2.elim
  ·have hall:∀ i,i<k+n->listed.getD i true=true:=fun i hi=>by
    cases hv:listed.getD i true with
    | true=>rfl
    | false=>exact absurd ⟨i,hi,hv⟩ hdone
   rw [<- hu];refine next φ a w listed ⟨hc,fun i hi=>⟨fun h=>?_,fun h=>hall i h⟩⟩ (st.congr fun t=>qea rfl fun x hx _=>?_)
   ·rcases Nat.lt_or_ge i (k+n) with h' | h'
    ·exact h'
    ·have:=hhi i h' hi;rw [h] at this;cases this
   ·obtain ⟨i,hi⟩:=List.mem_iff_getElem?.1 hx;obtain ⟨e1,e2⟩:=hmi i x hi;have hlt:k+i<ops.size:=(Array.getElem?_eq_some_iff.1 e2).1;have hil:i<m.length:=(List.getElem?_eq_some_iff.1 hi).1;have h1:=hall (k+i) om;have h2:k+i<listed.size:=by rw [hc.size];exact hlt
    rw [e1];simp [h2] at h1 ⊢;exact h1
abbrev EnvO:=List (Nat×Out)
def qci:EnvO->Nat->Option Out
 | [],_=>none
 | (k,A)::E,t=>bif Nat.beq k t then some A else qci E t
def qk9 (E:EnvO):Option Tmp->Out->EnvO
 | some d,A=>(d,A)::E
 | none,_=>E
theorem qj5 (E:EnvO) (d:Option Tmp) (B:Out):qci (qk9 E d B)=qug (qci E) d B:=by
 funext t;cases d with
 | none=>simp [qk9,qug]
 | some d =>
  simp only [qk9,qci,qug,Option.some.injEq];by_cases h:d=t
  ·simp [h]
  ·have:Nat.beq d t=false:=qjm h;simp [this,h]
def qop:Env->EnvO
 | []=>[]
 | (k,A)::E=>(k,.v A)::qop E
theorem qky:∀ (E:Env) (t:Nat),qci (qop E) t=(look E t).map Out.v
 | [],_=>rfl
 | (k,A)::E,t=>by
  simp only [qop,qci,look];cases Nat.beq k t
  ·simpa using qky E t
  ·rfl
def vals (E:EnvO):Nat->Option VP:=fun t=>(qci E t).bind Out.toV
def opn:EnvO->(Env->List Item->Prop)->Prop
 | [],K=>K [] []
 | (t,.v F)::l,K=>opn l fun E M=>K ((t,F)::E) M
 | (t,.own val I)::l,K=>∀ i,opn l fun E M=>K ((t,Is (val i))::E) (I i::M)
def qtk:EnvO->List Nat->Bool
 | [],_=>true
 | (t,.v _)::l,seen=>qtk l (t::seen)
 | (t,.own _ _)::l,seen=>(seen.all fun u=>!Nat.beq u t)&&qtk l (t::seen)
def Out.isOwn:Out->Prop
 | .v _=>False
 | .own _ _=>True
theorem qvt:∀ {EO:EnvO} {seen:List Nat},qtk EO seen=true->(∀ t o,(t,o)∈EO->o.isOwn->t ∉ seen∧qci EO t=some o)∧EO.Pairwise (fun x y=>y.2.isOwn->x.1≠y.1)
 | [],_,_=>⟨fun _ _ h _=>absurd h (by simp),List.Pairwise.nil⟩
 | (k,F)::l,seen,h=>by
  have h':qtk l (k::seen)=true∧(F.isOwn->k ∉ seen):=by
   cases F with
   | v F=>exact ⟨h,fun h=>h.elim⟩
   | own val I =>
    simp only [qtk,Bool.and_eq_true] at h;refine ⟨h.2,fun _ hm=>?_⟩;have:=List.all_eq_true.1 h.1 k hm;simp at this
  obtain ⟨h1,h2⟩:=qvt (EO:=l) (seen:=k::seen) h'.1;refine ⟨fun t o ht ho=>?_,List.pairwise_cons.2 ⟨fun y hy he=>?_,h2⟩⟩
  ·rcases List.mem_cons.1 ht with ht|ht
   ·injection ht with e1 e2
    subst e1 e2;refine ⟨h'.2 ho,?_⟩;have:Nat.beq t t=true:=by simp
    simp only [qci,this,cond_true]
   ·obtain ⟨h3,h4⟩:=h1 t o ht ho;have hne:k≠t:=fun e=>h3 (by rw [e];exact List.mem_cons_self ..);refine ⟨fun h5=>h3 (List.mem_cons_of_mem _ h5),?_⟩;simp only [qci,qjm hne,cond_false];exact h4
  ·have:=(h1 y.1 y.2 hy he).1;exact fun e=>this (by rw [<- e];exact List.mem_cons_self ..)
def ownOf (β:Tmp->Item) (x:Nat×Out):Option Item:=match x.2 with|.v _=>none|.own _ _=>some (β x.1)
def qw4 (β:Tmp->Item) (EO:EnvO):List Item:=EO.filterMap (ownOf β)
def outV (tm:Value):Out->VP
 | .v F=>F
 | .own _ _=>Is tm
theorem zd2 (β:Tmp->Item) (tm:Tmp->Value):∀ {EO:EnvO} {K:Env->List Item->Prop},opn EO K->(∀ (t:Tmp) (ι:Type) (val:ι->Value) (I:ι->Item),(t,Out.own val I)∈EO->∃ i,tm t=val i∧β t=I i) ->
  ∃ E,K E (qw4 β EO)∧∀ t,look E t=(qci EO t).map (outV (tm t))
 | [],K,h,_=>⟨[],h,fun _=>rfl⟩
 | (k,.v F)::l,K,h,hb=>by
  obtain ⟨E,e1,e2⟩:=zd2 β tm (EO:=l) h (fun t ι val I ht=>hb t ι val I (List.mem_cons_of_mem _ ht));refine ⟨(k,F)::E,e1,fun t=>?_⟩;simp only [look,qci];cases hk:Nat.beq k t
  ·exact e2 t
  ·rfl
 | (k,.own val I)::l,K,h,hb=>by
  obtain ⟨i,h1,h2⟩:=hb k _ val I (List.mem_cons_self ..);obtain ⟨E,e1,e2⟩:=zd2 β tm (EO:=l) (h i) (fun t ι val I ht=>hb t ι val I (List.mem_cons_of_mem _ ht));refine ⟨(k,Is (val i))::E,?_,fun t=>?_⟩
  ·have:qw4 β ((k,.own val I)::l)=I i::qw4 β l:=by
    unfold qw4;rw [List.filterMap_cons];show _=I i::_;simp only [ownOf,h2]
   rw [this];exact e1
  ·simp only [look,qci];cases hk:Nat.beq k t
   ·exact e2 t
   ·simp only [cond_true,Option.map_some,outV];rw [<- Nat.eq_of_beq_eq_true hk,h1]
theorem SS.open_ {EO:EnvO} {φ:Fz} {a:Act} {w:World} (h:SS c N (qci EO) L φ a w) (hb:qtk EO []=true) {K:Env->List Item->Prop} (hk:opn EO K):∃ E M,K E M∧St c N (look E) (M++L) φ a w:=by
 obtain ⟨b1,b2⟩:=qvt hb;obtain ⟨β,hβ,hap⟩:=h.own;obtain ⟨E,e1,e2⟩:=zd2 β (fun t=>a.tmps.getD t undef) hk (fun t ι val I ht=>(hβ t ι val I (b1 t _ ht trivial).2).1);have hit:∀ it,it∈qw4 β EO->∃ (t:Tmp) (ι:Type) (val:ι->Value) (I:ι->Item),qci EO t=some (.own val I)∧it=β t:=fun it hi=>by
  obtain ⟨⟨t,o⟩,hx,hxo⟩:=List.mem_filterMap.1 hi;cases o with
  | v F=>cases hxo
  | own val I =>
   refine ⟨t,_,val,I,(b1 t _ hx trivial).2,?_⟩;injection hxo with hxo
   exact hxo.symm
 refine ⟨E,qw4 β EO,e1,h.defers,h.size,fun t B ht=>?_,⟨⟨h.mem.mem.base,fun it hi=>?_,List.pairwise_append.2 ⟨?_,h.mem.mem.sep,fun x hx y hy b hxb hyb=>?_⟩⟩,h.mem.kept,fun b hb=>?_,h.mem.old⟩⟩
 ·rw [e2] at ht;cases ho:qci EO t with
  | none=>rw [ho] at ht;cases ht
  | some o =>
   rw [ho] at ht;simp only [Option.map_some,Option.some.injEq] at ht;cases o with
   | v F=>dsimp only [outV] at ht;subst ht;exact h.env t F ho
   | own val I=>dsimp only [outV] at ht;subst ht;exact rfl
 ·rcases List.mem_append.1 hi with hi|hi
  ·obtain ⟨t,ι,val,I,h1,rfl⟩:=hit it hi;exact (hβ t ι val I h1).2.1
  ·exact h.mem.mem.items it hi
 ·unfold qw4;rw [List.pairwise_filterMap];refine List.Pairwise.imp_of_mem ?_ b2;intro x y hx hy hxy it1 h1 it2 h2;obtain ⟨t,o⟩:=x;obtain ⟨t',o'⟩:=y;cases o with
  | v F=>cases h1
  | own val I =>
   cases o' with
   | v F=>cases h2
   | own val' I' =>
    injection h1 with h1;injection h2 with h2
    subst h1 h2;exact hap t t' _ _ val I val' I' (hxy trivial) (b1 t _ hx trivial).2 (b1 t' _ hy trivial).2
 ·obtain ⟨t,ι,val,I,h1,rfl⟩:=hit x hx;exact ((hβ t ι val I h1).2.2 b hxb).2 (mem_names.2 ⟨y,hy,hyb⟩)
 ·rw [qez] at hb;rcases List.mem_append.1 hb with hb|hb
  ·obtain ⟨x,hx,hxb⟩:=mem_names.1 hb;obtain ⟨t,ι,val,I,h1,rfl⟩:=hit x hx;exact ((hβ t ι val I h1).2.2 b hxb).1
  ·exact h.mem.mine b hb
def JD (P:Program) (ops:Array Oper) (Q:Exit->Act->World->Prop) (c:Ctx) (N:Nat) (nd:List Nat) (k:Nat) (rest:List Oper) (E:Env) (L:List Item):Prop:=
 Good ops nd->qg0 (fun _ o=>qtd N o.dst) ops.toList 0=true->k+rest.length=ops.size->(∀ i,rest[i]?=ops[k+i]?)->∀ φ a w listed,Pre ops nd k listed->St c N (look E) L φ a w->wpAny P .any ops Q (unl ops.size listed) listed a w
def qpx (E:EnvO):Option Tmp->EnvO
 | none=>E
 | some s=>E.filter fun x=>!Nat.beq x.1 s
theorem qkz:∀ (E:EnvO) (d:Option Tmp),qci (qpx E d)=qgr (qci E) d
 | E,none=>by funext t;simp [qpx,qgr]
 | E,some s=>by
  funext t;show qci (E.filter fun x=>!Nat.beq x.1 s) t=_
  induction E with
  | nil=>unfold qgr;split <;> rfl
  | cons x E ih =>
   obtain ⟨k,A⟩:=x;by_cases hst:(some s:Option Tmp)=some t
   ·injection hst with hst
    subst hst;rw [qmy] at ih ⊢;simp only [List.filter_cons];by_cases hks:Nat.beq k s=true
    ·rw [hks];exact ih
    ·rw [Bool.eq_false_iff.mpr hks];simp only [Bool.not_false,if_true,qci,Bool.eq_false_iff.mpr hks,cond_false];exact ih
   ·rw [qjf hst] at ih ⊢;simp only [List.filter_cons,qci];by_cases hks:Nat.beq k s=true
    ·rw [hks];have hkt:Nat.beq k t=false:=qjm fun e=>hst (by rw [<- Nat.eq_of_beq_eq_true hks,e]);rw [hkt];simpa using ih
    ·rw [Bool.eq_false_iff.mpr hks];simp only [Bool.not_false,if_true,qci];cases Nat.beq k t
     ·exact ih
     ·rfl
def zex (ops:Array Oper) (nd:List Nat) (k:Nat) (s:Tmp):Bool:=
 qg0 (fun j x=>Nat.beq k j || !((qce ops x).any fun t=>Nat.beq t s)||(bif Nat.blt k j then (qg7 nd j).testBit k else (qg7 nd k).testBit j)) ops.toList 0
theorem qnt {nd:List Nat} {k:Nat} {s:Tmp} (h:zex ops nd k s=true):∀ j x,ops[j]?=some x->s∈qce ops x->j≠k->(k<j->(qg7 nd j).testBit k=true)∧(j<k->(qg7 nd k).testBit j=true):=by
 intro j x hj hx hne;have h3:=qdb h j x (by simpa using hj);simp only [Nat.zero_add,Bool.or_eq_true] at h3;have hkj:Nat.beq k j=false:=qjm (Ne.symm hne);have hany:((qce ops x).any fun t=>Nat.beq t s)=true:=List.any_eq_true.2 ⟨s,hx,by simp⟩;rw [hkj,hany] at h3;simp only [Bool.false_eq_true,Bool.not_true,false_or] at h3;constructor
 ·intro hlt;have:Nat.blt k j=true:=by simpa using hlt
  rw [this] at h3;exact h3
 ·intro hlt;have:Nat.blt k j=false:=qr0 om;rw [this] at h3;exact h3
def qt5 (ops:Array Oper) (nd:List Nat) (k:Nat) (o:Oper) (s:Tmp):Bool:=
 ((o.looksAt ops).any fun t=>Nat.beq t s)||qg0 (fun j x=>Nat.beq k j || !wrB x||(bif Nat.blt k j then (qg7 nd j).testBit k else (qg7 nd k).testBit j)) ops.toList 0
theorem qpe {nd:List Nat} {k:Nat} {s:Tmp} {o:Oper} (h:qt5 ops nd k o s=true) (hs:s ∉ o.looksAt ops):∀ j x,ops[j]?=some x->wrB x=true->j≠k->(k<j->(qg7 nd j).testBit k=true)∧(j<k->(qg7 nd k).testBit j=true):=by
 intro j x hj hx hne;unfold qt5 at h;have h0:((o.looksAt ops).any fun t=>Nat.beq t s)=false:=by
  cases hv:((o.looksAt ops).any fun t=>Nat.beq t s) with
  | false=>rfl
  | true =>
   exfalso;obtain ⟨t,h1,h2⟩:=List.any_eq_true.1 hv;exact hs (by rw [<- Nat.eq_of_beq_eq_true h2];exact h1)
 rw [h0,Bool.false_or] at h;have h3:=qdb h j x (by simpa using hj);simp only [Nat.zero_add,Bool.or_eq_true] at h3;have hkj:Nat.beq k j=false:=qjm (Ne.symm hne);rw [hkj,hx] at h3;simp only [Bool.false_eq_true,Bool.not_true,false_or] at h3;constructor
 ·intro hlt;have:Nat.blt k j=true:=by simpa using hlt
  rw [this] at h3;exact h3
 ·intro hlt;have:Nat.blt k j=false:=qr0 om;rw [this] at h3;exact h3
def JW (P:Program) (ops:Array Oper) (Q:Exit->Act->World->Prop) (c:Ctx) (N:Nat) (nd:List Nat) (k:Nat):Nat->List Oper->EnvO->List Item->Prop
 | 0,rest,EO,L=>qtk EO []=true∧opn EO fun E M=>JD P ops Q c N nd k rest E (M++L)
 | _+1,[],_,_=>False
 | n+1,o::rest,EO,L=>∃ F kl,qlm ops nd k o (qci EO) kl∧LocOp P ops c L o (qci EO) F kl∧JW P ops Q c N nd (k+1) n rest (qk9 (qpx EO kl) (tgt o kl) F) L
theorem JW.locW {Q:Exit->Act->World->Prop} {nd:List Nat}:∀ {n k:Nat} {rest:List Oper} {E:EnvO},JW P ops Q c N nd k n rest E L ->
  n<=rest.length∧LocW P ops c L nd (fun A=>∃ E',qci E'=A∧qtk E' []=true∧opn E' fun E M=>JD P ops Q c N nd (k+n) (rest.drop n) E (M++L)) (rest.take n) k (qci E)
 | 0,k,rest,E,h=>⟨nZ _,by simp only [List.take_zero,LocW];exact ⟨E,rfl,h⟩⟩
 | n+1,k,[],E,h=>h.elim
 | n+1,k,o::rest,E,⟨F,kl,h0,h1,h2⟩=>by
  obtain ⟨h3,h4⟩:=JW.locW h2;refine ⟨by simp;omega,?_⟩;rw [List.take_succ_cons];refine ⟨F,kl,h0,h1,?_⟩;rw [qj5,qkz] at h4;rw [show k+(n+1)=k+1+n by omega,List.drop_succ_cons];exact h4
theorem SS.start {E:Env} {φ:Fz} {a:Act} {w:World} (h:St c N (look E) L φ a w):SS c N (qci (qop E)) L φ a w:=by
 have hn:∀ (t:Tmp) (ι:Type) (val:ι->Value) (I:ι->Item),qci (qop E) t≠some (.own val I):=fun t ι val I ht=>by
  rw [qky] at ht;cases hl:look E t with
  | none=>rw [hl] at ht;cases ht
  | some B=>rw [hl] at ht;cases ht
 refine ⟨h.defers,h.size,fun t B ht=>?_,h.mem,fun _=>fact undef Top,fun t ι val I ht=>absurd ht (hn t ι val I),fun t t' ι ι' val I val' I' _ ht=>absurd ht (hn t ι val I)⟩;rw [qky] at ht;cases hl:look E t with
 | none=>rw [hl] at ht;cases ht
 | some D =>
  rw [hl] at ht;simp only [Option.map_some,Option.some.injEq,Out.v.injEq] at ht;subst ht;exact h.env t D hl
theorem qaj {Q:Exit->Act->World->Prop} {nd:List Nat} {k:Nat} (n:Nat) {rest:List Oper} {E:Env} (hS:qmf nd ops.size k n=true) (h:JW P ops Q c N nd k n rest (qop E) L):JD P ops Q c N nd k rest E L:=by
 intro hg hN hk hrest φ a w listed hp st;obtain ⟨hn,hw⟩:=JW.locW h;obtain ⟨m,e1,e2,e3,E',e4,e5,e6⟩:=LocW.out hw;have hlen:k+n<=ops.size:=om;have hml:m.length=n:=by rw [e1,List.length_take];omega
 refine zc6 (Q:=Q) hg hN hS hlen hml (fun i x hx=>?_) e3 ?_ _ φ a w listed rfl hp.cl (fun i hi=>?_) (fun i hi hi'=>?_) ((SS.start st).congr fun t=>?_)
 ·obtain ⟨h1,h2⟩:=e2 i x hx;have hil:i<m.length:=(List.getElem?_eq_some_iff.1 hx).1;rw [List.getElem?_take_of_lt om,hrest i] at h2;exact ⟨h1,h2⟩
 ·intro φ' a' w' listed' hp' st';rw [<- e4] at st';obtain ⟨E2,M,h1,h2⟩:=st'.open_ e5 e6;refine h1 hg hN (by rw [List.length_drop];omega) (fun i=>?_) φ' a' w' listed' hp' h2;rw [List.getElem?_drop,hrest,Nat.add_assoc]
 ·exact (hp.pre i om).2 hi
 ·cases hv:listed.getD i true with
  | false=>rfl
  | true=>have:=(hp.pre i hi').1 hv;omega
 ·refine (qjg fun x hx _=>?_).symm;obtain ⟨i,hi⟩:=List.mem_iff_getElem?.1 hx;have hil:i<m.length:=(List.getElem?_eq_some_iff.1 hi).1;obtain ⟨h1,_⟩:=e2 i x hi;rw [h1];have hlt:k+i<ops.size:=om;refine qf5 ?_;cases hv:listed.getD (k+i) true with
  | false=>rfl
  | true=>have:=(hp.pre (k+i) hlt).1 hv;omega
def qof:Nat->List Item->EnvO
 | _,[]=>[]
 | t,it::its=>(t,.own (fun _:Unit=>undef) (fun _=>it))::qof (t+1) its
theorem qnw:∀ {its:List Item} {t0 t:Nat} {o:Out} {E:EnvO},qci (qof t0 its++E) t=some o->(∃ j it,t=t0+j∧its[j]?=some it∧o = .own (fun _:Unit=>undef) (fun _=>it))∨qci E t=some o
 | [],_,_,_,_,h=>.inr h
 | it::its,t0,t,o,E,h=>by
  simp only [qof,List.cons_append,qci] at h;cases hk:Nat.beq t0 t with
  | true =>
   rw [hk] at h;simp only [cond_true,Option.some.injEq] at h;exact .inl ⟨0,it,by rw [<- Nat.eq_of_beq_eq_true hk];rfl,rfl,h.symm⟩
  | false =>
   rw [hk] at h;rcases qnw (its:=its) (E:=E) h with ⟨j,x,h1,h2,h3⟩|h1
   ·exact .inl ⟨j+1,x,om,by simpa using h2,h3⟩
   ·exact .inr h1
theorem SS.startG {E:Env} {φ:Fz} {a:Act} {w:World} {its:List Item} (h:St c N (look E) (its++L) φ a w):SS c N (qci (qof N its++qop E)) L φ a w:=by
 have hlift:∀ (t:Tmp) (o:Out),qci (qop E) t=some o->∃ B,look E t=some B∧o = .v B:=fun t o ht=>by
  rw [qky] at ht;cases hl:look E t with
  | none=>rw [hl] at ht;cases ht
  | some B=>rw [hl] at ht;simp only [Option.map_some,Option.some.injEq] at ht;exact ⟨B,rfl,ht.symm⟩
 have hown:∀ (t:Tmp) (ι:Type) (val:ι->Value) (I:ι->Item),qci (qof N its++qop E) t=some (.own val I)->∃ j it,t=N+j∧its[j]?=some it∧(∃ i,undef=val i∧it=I i):=fun t ι val I ht=>by
  rcases qnw ht with ⟨j,it,h1,h2,h3⟩|h1
  ·cases h3;exact ⟨j,it,h1,h2,(),rfl,rfl⟩
  ·obtain ⟨B,_,h2⟩:=hlift _ _ h1;cases h2
 have hsep:=List.pairwise_append.1 h.mem.mem.sep;refine ⟨h.defers,h.size,fun t B ht=>?_,⟨⟨h.mem.mem.base,fun it hi=>h.mem.mem.items it (List.mem_append_right _ hi),hsep.2.1⟩,h.mem.kept,fun b hb=>h.mem.mine b (by rw [qez];exact List.mem_append_right _ hb),h.mem.old⟩,
  fun t=>(its[t-N]?).getD (fact undef Top),fun t ι val I ht=>?_,fun t t' ι ι' val I val' I' hne ht ht'=>?_⟩
 ·rcases qnw ht with ⟨j,it,h1,h2,h3⟩|h1
  ·cases h3
  ·obtain ⟨D,h2,h3⟩:=hlift _ _ h1;injection h3 with h3
   subst h3;exact h.env t _ h2
 ·obtain ⟨j,it,rfl,h2,i,h3,h4⟩:=hown t ι val I ht;have e:its[N+j-N]?=some it:=by rw [Nat.add_sub_cancel_left];exact h2
  have hmem:it∈its:=List.mem_of_getElem? h2;simp only [e,Option.getD_some];refine ⟨⟨i,?_,h4⟩,h.mem.mem.items it (List.mem_append_left _ hmem),fun b hb=>⟨h.mem.mine b (by rw [qez];exact List.mem_append_left _ (mem_names.2 ⟨it,hmem,hb⟩)),fun hbl=>?_⟩⟩
  ·rw [<- h3];have hs:=h.size;simp only [Array.getD,hs];rw [dif_neg om]
  ·obtain ⟨y,hy,hyb⟩:=mem_names.1 hbl;exact hsep.2.2 it hmem y hy b hb hyb
 ·obtain ⟨j,it,rfl,h2,_⟩:=hown t ι val I ht;obtain ⟨j',it',rfl,h2',_⟩:=hown t' ι' val' I' ht';have e:its[N+j-N]?=some it:=by rw [Nat.add_sub_cancel_left];exact h2
  have e':its[N+j'-N]?=some it':=by rw [Nat.add_sub_cancel_left];exact h2'
  simp only [e,e',Option.getD_some];obtain ⟨l1,g1⟩:=List.getElem?_eq_some_iff.1 h2;obtain ⟨l2,g2⟩:=List.getElem?_eq_some_iff.1 h2';have hp:=List.pairwise_iff_getElem.1 hsep.1;rcases Nat.lt_trichotomy j j' with hlt|heq|hgt
  ·have:=hp j j' l1 l2 hlt;rw [g1,g2] at this;exact this
  ·exact absurd (by rw [heq]) hne
  ·have:=hp j' j l2 l1 hgt;rw [g1,g2] at this;exact fun b hb hb'=>this b hb' hb
theorem qcz {its:List Item} {Q:Exit->Act->World->Prop} {nd:List Nat} {k:Nat} (n:Nat) {rest:List Oper} {E:Env} (hS:qmf nd ops.size k n=true) (h:JW P ops Q c N nd k n rest (qof N its++qop E) L):JD P ops Q c N nd k rest E (its++L):=by
 intro hg hN hk hrest φ a w listed hp st;obtain ⟨hn,hw⟩:=JW.locW h;obtain ⟨m,e1,e2,e3,E',e4,e5,e6⟩:=LocW.out hw;have hlen:k+n<=ops.size:=om;have hml:m.length=n:=by rw [e1,List.length_take];omega
 refine zc6 (Q:=Q) hg hN hS hlen hml (fun i x hx=>?_) e3 ?_ _ φ a w listed rfl hp.cl (fun i hi=>?_) (fun i hi hi'=>?_) ((SS.startG st).congr fun t=>?_)
 ·obtain ⟨h1,h2⟩:=e2 i x hx;have hil:i<m.length:=(List.getElem?_eq_some_iff.1 hx).1;rw [List.getElem?_take_of_lt om,hrest i] at h2;exact ⟨h1,h2⟩
 ·intro φ' a' w' listed' hp' st';rw [<- e4] at st';obtain ⟨E2,M,h1,h2⟩:=st'.open_ e5 e6;refine h1 hg hN (by rw [List.length_drop];omega) (fun i=>?_) φ' a' w' listed' hp' h2;rw [List.getElem?_drop,hrest,Nat.add_assoc]
 ·exact (hp.pre i om).2 hi
 ·cases hv:listed.getD i true with
  | false=>rfl
  | true=>have:=(hp.pre i hi').1 hv;omega
 ·refine (qjg fun x hx _=>?_).symm;obtain ⟨i,hi⟩:=List.mem_iff_getElem?.1 hx;have hil:i<m.length:=(List.getElem?_eq_some_iff.1 hi).1;obtain ⟨h1,_⟩:=e2 i x hi;rw [h1];have hlt:k+i<ops.size:=om;refine qf5 ?_;cases hv:listed.getD (k+i) true with
  | false=>rfl
  | true=>have:=(hp.pre (k+i) hlt).1 hv;omega
theorem qda {Q:Exit->Act->World->Prop} {nd:List Nat} {k:Nat} {E:Env} (h:JQ c N E L Q .normal):JD P ops Q c N nd k [] E L:=by
 intro hg hN hk hrest φ a w listed hp st;have hall:∀ i,i<ops.size->listed.getD i true=true:=fun i hi=>(hp.pre i hi).2 (by simp at hk;omega);refine wpAny_done ?_ (h φ a w st) _;cases hr:Region.ready .any ops listed with
 | nil=>rfl
 | cons i l =>
  exfalso;have hm:i∈Region.ready .any ops listed:=by rw [hr];exact List.mem_cons_self ..
  obtain ⟨h1,o,ho,_⟩:=mem_ready.1 hm;rw [hall i (Array.getElem?_eq_some_iff.1 ho).1] at h1;cases h1
theorem JD_step {Q:Exit->Act->World->Prop} {nd:List Nat} {k:Nat} {o:Oper} {rest:List Oper} {E:Env} (ha:qqa nd ops.size (k+1) k=true)
  (hs:∀ φ a w,St c N (look E) L φ a w->∀ K:Act->World->Prop,(∀ a' w',(∃ E' L' φ',JD P ops Q c N nd (k+1) rest E' L'∧St c N (look E') L' φ' a' w')->K a' w')->wpOp P ops Q k K a w):JD P ops Q c N nd k (o::rest) E L:=by
 intro hg hN hk hrest φ a w listed hp st;simp only [List.length_cons] at hk;have hkl:k<ops.size:=om;have hku:listed.getD k true=false:=by
  cases hv:listed.getD k true with
  | false=>rfl
  | true=>have:=(hp.pre k hkl).1 hv;omega
 have hks:k<listed.size:=by rw [hp.cl.size];exact hkl
 have hr:k∈Region.ready .any ops listed:=qfm hg hp.cl.size hkl hku fun j hj=>(hp.pre j om).2 hj;have hone:∀ i,i∈Region.ready .any ops listed->i=k:=fun i hi=>by
  obtain ⟨h1,oi,hoi,_⟩:=mem_ready.1 hi;have hil:i<ops.size:=(Array.getElem?_eq_some_iff.1 hoi).1;rcases Nat.lt_trichotomy i k with hlt|heq|hgt
  ·rw [(hp.pre i hil).2 hlt] at h1;cases h1
  ·exact heq
  ·exfalso;have h2:=List.all_eq_true.1 ha i (List.mem_range.2 hil);rw [qr0 om,Bool.false_or] at h2;have h3:=qcy hg hp.cl hi h2;rw [qf5 hku] at h3;cases h3
 have hu:=qpb hks hku hkl;rw [<- hu];refine ⟨fun h0=>(by rw [h0] at hr;cases hr),fun i hi=>?_⟩;obtain rfl:=hone i hi;refine hs φ a w st _ ?_;rintro a' w' ⟨E',L',φ',h1,h2⟩;refine h1 hg hN om (fun j=>?_) φ' a' w' _ ⟨hp.cl.set hg hr,fun j hj=>?_⟩ h2
 ·have:=hrest (j+1);rw [List.getElem?_cons_succ] at this;rw [this];congr 1;omega
 ·by_cases hji:i=j
  ·subst hji;simp [hks]
  ·rw [getD_set_ne true hji,hp.pre j hj];omega
theorem JD_op {Q:Exit->Act->World->Prop} {nd:List Nat} {k:Nat} {o:Oper} {rest:List Oper} {E:Env} {ι:Type} {F:ι->VP} {L':ι->List Item} (ha:qqa nd ops.size (k+1) k=true) (hko:ops[k]?=some o) (hg:o.guard=none) (hd:qtd N o.dst=true)
  (hs:OpS P c o (look E) L F L') (h:∀ i,JD P ops Q c N nd (k+1) rest (za1 E o.dst (F i)) (L' i)):JD P ops Q c N nd k (o::rest) E L:=by
 refine JD_step ha fun φ a w st K hK=>?_;unfold wpOp;simp only [hko];rw [if_pos (by simp [Region.wanted,hg])];refine .inl (hs φ a w K Q st.mem (fun x _ B hx=>st.ev hx) fun i φ' v w' hle hv hm=>hK _ _ ⟨_,_,φ',h i,?_⟩);rw [qe0];exact st.put (qe2 hd) hle hv hm
theorem JD_op1 {Q:Exit->Act->World->Prop} {nd:List Nat} {k:Nat} {o:Oper} {rest:List Oper} {E:Env} {F:VP} (ha:qqa nd ops.size (k+1) k=true) (hko:ops[k]?=some o) (hg:o.guard=none) (hd:qtd N o.dst=true)
  (hs:OpP P c o (look E) L F) (h:JD P ops Q c N nd (k+1) rest (za1 E o.dst F) L):JD P ops Q c N nd k (o::rest) E L:=JD_op ha hko hg hd hs.toS fun _=>h
theorem JC_draw {Q:Exit->Act->World->Prop} {id:Nat} {l:List Oper} {E:Env} (nd:List Nat) (hm:P.follows .mixedOrders=true) (hB:(goodB l.toArray nd&&ordB l.toArray nd&&qg0 (fun _ o=>qtd N o.dst) l 0)=true)
  (h:JD P l.toArray Q c N nd 0 l E L):JC P c N (Code.region id l.toArray true) E L Q:=by
 intro φ a w st;simp only [Bool.and_eq_true] at hB;refine wp_region_any hm ?_;have h1:=h (good_of hB.1.1 hB.1.2) (by simpa using hB.2) (by simp) (fun i=>by simp) φ a { w with drawn:=w.drawn+1 } (Array.replicate l.toArray.size false)
  ⟨⟨by simp,fun i hi=>(by rw [getD_replicate_false] at hi;cases hi)⟩,fun i hi=>⟨fun h=>(by rw [getD_in (by simpa using hi) (getD_replicate_false _ _)] at h;cases h),fun h=>by omega⟩⟩
  ⟨st.defers,st.size,st.env,st.mem.drew⟩
 have hu:unl l.toArray.size (Array.replicate l.toArray.size false)=l.toArray.size:=by
  unfold unl;have:∀ n,n<=l.toArray.size->(List.range n).countP (fun i=>!(Array.replicate l.toArray.size false).getD i true)=n:=fun n=>by
   intro hn;rw [List.countP_eq_length.2 (fun i hi=>by
    have:i<n:=List.mem_range.1 hi;rw [getD_in (by simp at hn ⊢;omega) (getD_replicate_false _ _)];rfl),List.length_range]
  exact this _ (Nat.le_refl _)
 rw [hu] at h1;exact h1
section
variable {Q:Exit->Act->World->Prop} {nd:List Nat} {k n:Nat} {o:Oper} {rest:List Oper} {E:EnvO}
theorem evs {o:Oper} {A:Nat->Option Out} {φ:Fz} {a:Act} (f:zbz φ L) (hl:∀ t,t∈o.looksAt ops->∀ B,(A t).bind Out.toV=some B->B.ok φ (a.tmps.getD t undef)) :
  ∀ x,x∈o.op.operands->∀ B,Ev (fun t=>(A t).bind Out.toV) L x B->B.ok φ (a.eval x):=fun x hx B hB =>
 ev_of f (fun t ht D hD=>hl t (qu0 (by rw [<- ht];exact hx)) D hD) hB
theorem qd2 {A:Nat->Option Out}:qlm ops nd k o A none:=fun s hs=>by cases hs
theorem JW_0 {F:Out} (h0:LocOp P ops c L o (qci E) F none) (h:JW P ops Q c N nd (k+1) n rest (qk9 E o.dst F) L):JW P ops Q c N nd k (n+1) (o::rest) E L:=⟨F,none,qd2,h0,by rw [qkq];exact h⟩
theorem JW_op {F:VP} (hg:o.guard=none) (hs:OpP P c o (vals E) L F) (h:JW P ops Q c N nd (k+1) n rest (qk9 E o.dst (.v F)) L):JW P ops Q c N nd k (n+1) (o::rest) E L:=by
 refine JW_0 (F:=.v F) (fun φ a w K Q M hm ht hl hk=>?_) h;rw [if_pos (by simp [Region.wanted,hg])];obtain rfl:M=[]:=ht;exact hs φ a w K Q hm (evs hm.mem.facts hl) fun φ' v w' hp hf=>hk φ' v w' (by rw [qf3];exact ⟨hp,hf⟩)
def OpN (P:Program) (c:Ctx) (o:Oper) (A:Nat->Option VP) (L:List Item) {ι:Type} (val:ι->Value) (I:ι->Item):Prop:=
 ∀ φ a w K Q,HP c φ L w->(∀ x,x∈o.op.operands->∀ B,Ev A L x B->B.ok φ (a.eval x)) ->
  (∀ i φ' w',HP ⟨w,φ,[],[]⟩ φ' [I i] w'->K (a.put o.dst (val i)) w')->o.wp P a w K Q
theorem OpN.toS {o:Oper} {A:Nat->Option VP} {ι:Type} {val:ι->Value} {I:ι->Item} (h:OpN P c o A L val I):OpS P c o A L (fun i=>Is (val i)) (fun i=>I i::L):=
 fun φ a w K Q hm he hk=>h φ a w K Q hm he fun i φ' w' hp=>hk i φ' _ w' (hp.fle hm.mem.base) rfl (hm.new hp)
theorem JW_new {ι:Type} {val:ι->Value} {I:ι->Item} (hg:o.guard=none) (hs:OpN P c o (vals E) L val I) (h:JW P ops Q c N nd (k+1) n rest (qk9 E o.dst (.own val I)) L):JW P ops Q c N nd k (n+1) (o::rest) E L:=by
 refine JW_0 (F:=.own val I) (fun φ a w K Q M hm ht hl hk=>?_) h;rw [if_pos (by simp [Region.wanted,hg])];obtain rfl:M=[]:=ht;exact hs φ a w K Q hm (evs hm.mem.facts hl) fun i φ' w' hp=>hk φ' _ w' ⟨i,qf3 _ _ _,hp⟩
def OpT (P:Program) (c:Ctx) (o:Oper) (A:Nat->Option VP) (L:List Item) (s:Tmp) {κ:Type} (val:κ->Value) (I:κ->Item) {ι:Type} (val':ι->Value) (I':ι->Item):Prop:=
 ∀ φ a w K Q i,HP c φ (I i::L) w->a.tmps.getD s undef=val i->(∀ x,x∈o.op.operands->∀ B,Ev A L x B->B.ok φ (a.eval x)) ->
  (∀ i' φ' w',HP ⟨w,φ,qbr [I i],[]⟩ φ' [I' i'] w'->K (a.put o.dst (val' i')) w')->o.wp P a w K Q
theorem qn9 {s:Tmp} {κ:Type} {val:κ->Value} {I:κ->Item} {ι:Type} {val':ι->Value} {I':ι->Item} (hg:o.guard=none) {d:Tmp} (hd:o.dst=some d) (hl:qci E s=some (.own val I)) (hm:((o.looksAt ops).any fun t=>Nat.beq t s)=true) (hB:zex ops nd k s=true)
  (hs:OpT P c o (vals E) L s val I val' I') (h:JW P ops Q c N nd (k+1) n rest (qk9 (qpx E (some s)) o.dst (.own val' I')) L):JW P ops Q c N nd k (n+1) (o::rest) E L:=by
 have hmem:s∈o.looksAt ops:=by
  obtain ⟨t,h1,h2⟩:=List.any_eq_true.1 hm;rw [<- Nat.eq_of_beq_eq_true h2];exact h1
 refine ⟨.own val' I',some s,fun s' hs'=>?_,fun φ a w K Q M hm ht hlk hk=>?_,by rw [qg3 hd];rw [hd] at h;exact h⟩
 ·injection hs' with hs'
  subst hs';exact ⟨⟨.inl hmem,_,val,I,hl⟩,fun j x h1 h2 h3=>qnt hB j x h1 (h2.resolve_right fun e=>e.1 hmem) h3⟩
 ·rw [if_pos (by simp [Region.wanted,hg])];obtain ⟨_,κ',val0,I0,i,h1,h2,rfl⟩:=ht;rw [hl] at h1;injection h1 with h1
  cases h1;exact hs φ a w K Q i hm h2 (evs (fun it hi=>hm.mem.facts it (List.mem_cons_of_mem _ hi)) hlk) fun i' φ' w' hp=>hk φ' _ w' ⟨i',qsi hd _ _ _,hp⟩
def OpW (P:Program) (c:Ctx) (o:Oper) (A:Nat->Option VP) (L:List Item) (s:Tmp) {κ:Type} (val:κ->Value) (I I':κ->Item):Prop:=
 ∀ φ a w K Q i,HP c φ (I i::L) w->a.tmps.getD s undef=val i->(∀ x,x∈o.op.operands->∀ B,Ev A L x B->B.ok φ (a.eval x)) ->
  (∀ φ' v w',HP ⟨w,φ,qbr [I i],[]⟩ φ' [I' i] w'->K (a.put o.dst v) w')->o.wp P a w K Q
theorem qjk {s:Tmp} {κ:Type} {val:κ->Value} {I I':κ->Item} (hg:o.guard=none) (hd:o.dst=none) (hl:qci E s=some (.own val I)) (hB:(zex ops nd k s&&qt5 ops nd k o s)=true)
  (hs:OpW P c o (vals E) L s val I I') (h:JW P ops Q c N nd (k+1) n rest ((s,.own val I')::qpx E (some s)) L):JW P ops Q c N nd k (n+1) (o::rest) E L:=by
 simp only [Bool.and_eq_true] at hB;refine ⟨.own val I',some s,fun s' hs'=>?_,fun φ a w K Q M hm ht hlk hk=>?_,by rw [qt0 hd];exact h⟩
 ·injection hs' with hs'
  subst hs';exact ⟨⟨.inr (by unfold wrB;rw [hd];rfl),_,val,I,hl⟩,fun j x h1 h2 h3=>h2.elim (fun h2=>qnt hB.1 j x h1 h2 h3) (fun h2=>qpe hB.2 h2.1 j x h1 h2.2.2 h3)⟩
 ·rw [if_pos (by simp [Region.wanted,hg])];obtain ⟨_,κ',val0,I0,i,h1,h2,rfl⟩:=ht;rw [hl] at h1;injection h1 with h1
  cases h1;exact hs φ a w K Q i hm h2 (evs (fun it hi=>hm.mem.facts it (List.mem_cons_of_mem _ hi)) hlk) fun φ' v w' hp=>hk φ' v w' ⟨i,by rw [qyy hd];exact h2,hp⟩
theorem qdm {s:Tmp} {it it':Item} {F:Unit->VP} (hg:o.guard=none) (hd:o.dst=none) (hl:qci E s=some (.own (fun _:Unit=>undef) (fun _=>it))) (hB:(zex ops nd k s&&qt5 ops nd k o s)=true)
  (hs:∀ c':Ctx,OpS P c' o (vals E) [it] F (fun _=>[it'])) (h:JW P ops Q c N nd (k+1) n rest ((s,.own (fun _:Unit=>undef) (fun _=>it'))::qpx E (some s)) L):JW P ops Q c N nd k (n+1) (o::rest) E L:=by
 refine qjk (κ:=Unit) (val:=fun _=>undef) (I:=fun _=>it) (I':=fun _=>it') hg hd hl hB (fun φ a w K Q i hm h0 he hk=>?_) h;have hm1:HP ⟨w,φ,qbr [it],[]⟩ φ [it] w:=HP.start ⟨hm.mem.base,fun x hx=>by rw [List.mem_singleton] at hx;subst hx;exact hm.mem.items _ (List.mem_cons_self ..),List.pairwise_singleton _ _⟩;refine hs ⟨w,φ,qbr [it],[]⟩ φ a w K Q hm1 (fun x hx B hB=>?_) fun _ φ' v w' _ _ hm'=>hk φ' v w' hm';obtain ⟨D,h1,h2⟩:=hB;exact h2 _ _ hm1.mem.facts (he x hx D (.rfl' h1))
theorem qv6 {s:Tmp} {it:Item} {ι:Type} {val':ι->Value} {I':ι->Item} (hg:o.guard=none) {d:Tmp} (hd:o.dst=some d) (hw:wrB o=true) (hl:qci E s=some (.own (fun _:Unit=>undef) (fun _=>it))) (hB:(zex ops nd k s&&qt5 ops nd k o s)=true)
  (hs:∀ φ a w K Q,HP c φ (it::L) w->(∀ x,x∈o.op.operands->∀ B,Ev (vals E) L x B->B.ok φ (a.eval x))->(∀ i' φ' w',HP ⟨w,φ,qbr [it],[]⟩ φ' [I' i'] w'->K (a.put o.dst (val' i')) w')->o.wp P a w K Q)
  (h:JW P ops Q c N nd (k+1) n rest (qk9 (qpx E (some s)) o.dst (.own val' I')) L):JW P ops Q c N nd k (n+1) (o::rest) E L:=by
 simp only [Bool.and_eq_true] at hB;refine ⟨.own val' I',some s,fun s' hs'=>?_,fun φ a w K Q M hm ht hlk hk=>?_,by rw [qg3 hd];rw [hd] at h;exact h⟩
 ·injection hs' with hs'
  subst hs';exact ⟨⟨.inr hw,_,_,_,hl⟩,fun j x h1 h2 h3=>h2.elim (fun h2=>qnt hB.1 j x h1 h2 h3) (fun h2=>qpe hB.2 h2.1 j x h1 h2.2.2 h3)⟩
 ·rw [if_pos (by simp [Region.wanted,hg])];obtain ⟨_,κ',val0,I0,i,h1,h2,rfl⟩:=ht;rw [hl] at h1;injection h1 with h1
  cases h1;exact hs φ a w K Q hm (evs (fun it hi=>hm.mem.facts it (List.mem_cons_of_mem _ hi)) hlk) fun i' φ' w' hp=>hk φ' _ w' ⟨i',qsi hd _ _ _,hp⟩
theorem gval {A:Nat->Option Out} {φ:Fz} {a:Act} {j:Nat} {want:Bool} {g:Tmp} (hg:o.guard=some (j,want)) (hj:(ops[j]?).bind (·.dst)=some g)
  (hl:∀ t,t∈o.looksAt ops->∀ B,(A t).bind Out.toV=some B->B.ok φ (a.tmps.getD t undef)) {B:VP} (hB:(A g).bind Out.toV=some B):B.ok φ (a.tmps.getD g undef):=
 hl g (zbg (by unfold gtmp;rw [hg];exact hj)) B hB
theorem JW_if {j:Nat} {want p b:Bool} {g:Tmp} {F:VP} (hg:o.guard=some (j,want)) (hj:(ops[j]?).bind (·.dst)=some g) (hl:vals E g=some (qdi p (Ib b) (Is undef)))
  (hs:p=true->(b==want)=true->OpP P c o (vals E) L F) (h:JW P ops Q c N nd (k+1) n rest (qk9 E o.dst (.v (qdi (p&&(b==want)) F (Is undef)))) L):JW P ops Q c N nd k (n+1) (o::rest) E L:=by
 refine JW_0 (fun φ a w K Q M hm ht hlk hk=>?_) h;obtain rfl:M=[]:=ht;have h0:(qdi p (Ib b) (Is undef)).ok φ (a.tmps.getD g undef):=gval hg hj hlk hl;cases hp:p with
 | false =>
  rw [hp] at h0;rw [if_neg (by rw [ql9 hg hj h0];simp)];exact ⟨rfl,(rfl:undef=undef)⟩
 | true =>
  rw [hp] at h0;have hw:=qhp (a:=a) hg hj h0;cases hbw:(b==want) with
  | false =>
   rw [if_neg (by rw [hw,hbw];simp)];exact ⟨rfl,(rfl:undef=undef)⟩
  | true =>
   rw [if_pos (by rw [hw,hbw])];refine hs hp hbw φ a w K Q hm (evs hm.mem.facts hlk) fun φ' v w' hpp hf=>hk φ' v w' ⟨hpp,?_⟩;rw [qf3,hp,hbw];exact hf
theorem JW_if0 {j:Nat} {want b:Bool} {g:Tmp} {F:VP} (hg:o.guard=some (j,want)) (hj:(ops[j]?).bind (·.dst)=some g) (hl:vals E g=some (Ib b))
  (hs:(b==want)=true->OpP P c o (vals E) L F) (h:JW P ops Q c N nd (k+1) n rest (qk9 E o.dst (.v (qdi (b==want) F (Is undef)))) L):JW P ops Q c N nd k (n+1) (o::rest) E L:=by
 refine JW_0 (fun φ a w K Q M hm ht hlk hk=>?_) h;obtain rfl:M=[]:=ht;have hw:=qhp (a:=a) hg hj (gval hg hj hlk hl);cases hbw:(b==want) with
 | false =>
  rw [if_neg (by rw [hw,hbw];simp)];exact ⟨rfl,(rfl:undef=undef)⟩
 | true =>
  rw [if_pos (by rw [hw,hbw])];refine hs hbw φ a w K Q hm (evs hm.mem.facts hlk) fun φ' v w' hpp hf=>hk φ' v w' ⟨hpp,?_⟩;rw [qf3,hbw];exact hf
end
end
section
variable {P:Program} {c:Ctx} {A:Nat->Option VP} {L:List Item} {d:Option Tmp} {ty:TypeId} {pos:String} {af:Array Edge} {g:Option (Nat×Bool)}
theorem HP.idle {φ:Fz} {w:World} (h:HP c φ L w):HP ⟨w,φ,[],[]⟩ φ [] w:=HP.start (L:=[]) ⟨h.mem.base,by simp,List.Pairwise.nil⟩
theorem opp {o:Oper} {F:VP} (h:∀ (φ:Fz) (a:Act) (w:World),HP c φ L w->(∀ x,x∈o.op.operands->∀ B,Ev A L x B->B.ok φ (a.eval x))->∃ v,(execOp a.eval o).run P w = .ok (.value v) w∧F.ok φ v):OpP P c o A L F:=by
 intro φ a w K Q hm he hk;obtain ⟨v,h1,h2⟩:=h φ a w hm he;unfold Oper.wp;rw [h1];exact hk φ v w hm.idle h2
theorem opq {o:Oper} {F:VP} (h:∀ (φ:Fz) (a:Act) (w:World),HP c φ L w->(∀ x,x∈o.op.operands->∀ B,Ev A L x B->B.ok φ (a.eval x))->∃ v φ' w',(execOp a.eval o).run P w = .ok (.value v) w'∧HP ⟨w,φ,[],[]⟩ φ' [] w'∧F.ok φ' v):OpP P c o A L F:=by
 intro φ a w K Q hm he hk;obtain ⟨v,φ',w',h1,h2,h3⟩:=h φ a w hm he;unfold Oper.wp;rw [h1];exact hk φ' v w' h2 h3
theorem qeq {x:Operand} {D:VP} (h:evA A x=some D):OpP P c ⟨d,.move x,ty,pos,af,g⟩ A L D:=
 opp fun φ a w hm he=>⟨_,rfl,he x (by simp [Op.operands]) D (.rfl' h)⟩
theorem quu {x:Operand} {D:VP} (h:evA A x=some D):OpP P c ⟨d,.assign x,ty,pos,af,g⟩ A L D:=
 opp fun φ a w hm he=>⟨_,rfl,he x (by simp [Op.operands]) D (.rfl' h)⟩
theorem qqy {x y:Operand} {p q:Bool} {Y:VP} (hx:Ev A L x (Ib p)) (hy:evA A y=some Y) (hs:p=false->SubL L Y (Ib q)):OpP P c ⟨d,.pick x (.const (.bool true)) y,ty,pos,af,g⟩ A L (Ib (p||q)):=
 opp fun φ a w hm he=>by
  have h1:a.eval x = .bool p:=he x (by simp [Op.operands]) _ hx;refine ⟨.bool (p||q),?_,rfl⟩;cases p with
  | true =>
   have hc:a.eval (.const (.bool true)) = .bool true:=rfl;simp [execOp,h1,hc,asBool]
  | false =>
   have h2:a.eval y = .bool q:=he y (by simp [Op.operands]) _ (.sub hy (hs rfl));simp [execOp,h1,h2,asBool]
theorem qrq {x y:Operand} {p q:Bool} {Y:VP} (hx:Ev A L x (Ib p)) (hy:evA A y=some Y) (hs:p=true->SubL L Y (Ib q)):OpP P c ⟨d,.pick x y (.const (.bool false)),ty,pos,af,g⟩ A L (Ib (p&&q)):=
 opp fun φ a w hm he=>by
  have h1:a.eval x = .bool p:=he x (by simp [Op.operands]) _ hx;refine ⟨.bool (p&&q),?_,rfl⟩;cases p with
  | false =>
   have hc:a.eval (.const (.bool false)) = .bool false:=rfl;simp [execOp,h1,hc,asBool]
  | true =>
   have h2:a.eval y = .bool q:=he y (by simp [Op.operands]) _ (.sub hy (hs rfl));simp [execOp,h1,h2,asBool]
theorem qhs {op:BinOp} {t u:TypeId} {x y:Operand} {k j:IntKind} {n m:Int} {r:Value} (hx:Ev A L x (Is (.int k n))) (hy:Ev A L y (Is (.int j m))) (hr:∀ w,(binOp op t (.int k n) (.int j m)).run P w = .ok r w) :
  OpP P c ⟨d,.binOp op t x y u,ty,pos,af,g⟩ A L (Is r):=
 opp fun φ a w hm he=>by
  have h1:a.eval x = .int k n:=he x (by simp [Op.operands]) _ hx;have h2:a.eval y = .int j m:=he y (by simp [Op.operands]) _ hy;refine ⟨r,?_,rfl⟩;have h3:(eqGuard op t x y (.int k n) (.int j m)).run P w = .ok () w:=by
   unfold eqGuard;cases op <;> rfl
  simp only [execOp,h1,h2,Sem.run_bind,h3,Result.andThen_ok,hr w,Sem.run_pure]
section ints
variable {t u:TypeId} {x y:Operand} {k:IntKind} {n m r:Int}
theorem qms (hx:Ev A L x (Is (.int k n))) (hy:Ev A L y (Is (.int k m))) (hr:k.wrap (n+m)=r):OpP P c ⟨d,.binOp .add t x y u,ty,pos,af,g⟩ A L (Is (.int k r)):=
 qhs hx hy fun w=>by simp [binOp,Op.intArith,hr]
theorem qlk (hx:Ev A L x (Is (.int k n))) (hy:Ev A L y (Is (.int k m))) (hr:k.wrap (n-m)=r):OpP P c ⟨d,.binOp .sub t x y u,ty,pos,af,g⟩ A L (Is (.int k r)):=
 qhs hx hy fun w=>by simp [binOp,Op.intArith,hr]
theorem qun (hx:Ev A L x (Is (.int k n))) (hy:Ev A L y (Is (.int k m))) (hr:k.wrap (n*m)=r):OpP P c ⟨d,.binOp .mul t x y u,ty,pos,af,g⟩ A L (Is (.int k r)):=
 qhs hx hy fun w=>by simp [binOp,Op.intArith,hr]
theorem qiw (hx:Ev A L x (Is (.int k n))) (hy:Ev A L y (Is (.int k m))) (h0:m≠0) (hr:k.wrap (n.tdiv m)=r):OpP P c ⟨d,.binOp .quo t x y u,ty,pos,af,g⟩ A L (Is (.int k r)):=
 qhs hx hy fun w=>by simp [binOp,Op.intDiv,h0,hr]
theorem qiv (hx:Ev A L x (Is (.int k n))) (hy:Ev A L y (Is (.int k m))) (h0:m≠0) (hr:n.tmod m=r):OpP P c ⟨d,.binOp .rem t x y u,ty,pos,af,g⟩ A L (Is (.int k r)):=
 qhs hx hy fun w=>by simp [binOp,Op.intDiv,h0,hr]
theorem qy7 (hx:Ev A L x (Is (.int k n))) (hy:Ev A L y (Is (.int k m))):OpP P c ⟨d,.binOp .lss t x y u,ty,pos,af,g⟩ A L (Ib (decide (n<m))):=
 qhs hx hy fun w=>by simp [binOp,Op.intCmp]
theorem qy8 (hx:Ev A L x (Is (.int k n))) (hy:Ev A L y (Is (.int k m))):OpP P c ⟨d,.binOp .leq t x y u,ty,pos,af,g⟩ A L (Ib (decide (n<=m))):=
 qhs hx hy fun w=>by simp [binOp,Op.intCmp]
theorem qy9 (hx:Ev A L x (Is (.int k n))) (hy:Ev A L y (Is (.int k m))):OpP P c ⟨d,.binOp .gtr t x y u,ty,pos,af,g⟩ A L (Ib (decide (n>m))):=
 qhs hx hy fun w=>by simp [binOp,Op.intCmp]
theorem op_geq (hx:Ev A L x (Is (.int k n))) (hy:Ev A L y (Is (.int k m))):OpP P c ⟨d,.binOp .geq t x y u,ty,pos,af,g⟩ A L (Ib (decide (n>=m))):=
 qhs hx hy fun w=>by simp [binOp,Op.intCmp]
theorem op_eql (hx:Ev A L x (Is (.int k n))) (hy:Ev A L y (Is (.int k m))):OpP P c ⟨d,.binOp .eql t x y u,ty,pos,af,g⟩ A L (Ib (n==m)):=
 qhs hx hy fun w=>by simp [binOp,Op.intCmp]
theorem qy6 (hx:Ev A L x (Is (.int k n))) (hy:Ev A L y (Is (.int k m))):OpP P c ⟨d,.binOp .neq t x y u,ty,pos,af,g⟩ A L (Ib (n != m)):=
 qhs hx hy fun w=>by simp [binOp,Op.intCmp]
theorem qex {op:BinOp} {v:Value} (hx:Ev A L x (Is (.int k n))) (hy:Ev A L y (Is (.int k m))) (hop:op = .and∨op = .or∨op = .xor∨op = .andNot) (hr:Op.intBits op k n m=pure v):OpP P c ⟨d,.binOp op t x y u,ty,pos,af,g⟩ A L (Is v):=
 qhs hx hy fun w=>by
  rcases hop with rfl|rfl|rfl|rfl <;> simp [binOp,hr]
theorem qmp {j:IntKind} (hx:Ev A L x (Is (.int k n))) (hy:Ev A L y (Is (.int j m))) (h0:0<=m) (hr:k.wrap (n*2 ^ (min m.toNat k.bits))=r):OpP P c ⟨d,.binOp .shl t x y u,ty,pos,af,g⟩ A L (Is (.int k r)):=
 qhs hx hy fun w=>by
  have:¬ m<0:=om;simp [binOp,Op.shift,this,hr]
theorem qps {j:IntKind} (hx:Ev A L x (Is (.int k n))) (hy:Ev A L y (Is (.int j m))) (h0:0<=m) (hr:n.fdiv (2 ^ (min m.toNat k.bits))=r):OpP P c ⟨d,.binOp .shr t x y u,ty,pos,af,g⟩ A L (Is (.int k r)):=
 qhs hx hy fun w=>by
  have:¬ m<0:=om;simp [binOp,Op.shift,this,hr]
theorem op_not {p:Bool} (hx:Ev A L x (Ib p)):OpP P c ⟨d,.unOp .not t x,ty,pos,af,g⟩ A L (Ib (!p)):=
 opp fun φ a w hm he=>by
  have h1:a.eval x = .bool p:=he x (by simp [Op.operands]) _ hx;exact ⟨_,by simp [execOp,h1,Op.unary],rfl⟩
theorem op_neg (hx:Ev A L x (Is (.int k n))) (hr:k.wrap (0-n)=r):OpP P c ⟨d,.unOp .neg t x,ty,pos,af,g⟩ A L (Is (.int k r)):=
 opp fun φ a w hm he=>by
  have h1:a.eval x = .int k n:=he x (by simp [Op.operands]) _ hx;exact ⟨.int k r,by rw [<- hr];simp [execOp,h1,Op.unary,Op.intArith],rfl⟩
theorem qzb {v:Value} (hx:Ev A L x (Is (.int k n))) (hr:Op.intBits .xor k (if k.signed then -1 else k.max) n=pure v):OpP P c ⟨d,.unOp .xor t x,ty,pos,af,g⟩ A L (Is v):=
 opp fun φ a w hm he=>by
  have h1:a.eval x = .int k n:=he x (by simp [Op.operands]) _ hx;exact ⟨v,by simp [execOp,h1,Op.unary,hr],rfl⟩
theorem qhr {src dst:TypeId} {j:IntKind} {s0:TypeDesc} (hx:Ev A L x (Is (.int k n))) (hs:P.underlying src=some s0) (hd:P.underlying dst=some (.int j)) (hr:j.wrap n=r):OpP P c ⟨d,.convert src dst x,ty,pos,af,g⟩ A L (Is (.int j r)):=
 opp fun φ a w hm he=>by
  have h1:a.eval x = .int k n:=he x (by simp [Op.operands]) _ hx;refine ⟨.int j r,?_,rfl⟩;rw [<- hr];simp [execOp,h1,convert,run_underlying hs,run_underlying hd,Conv.intToInt]
end ints
theorem qcd {s:Sem Value} {v:Value} {w w':World} (h:s.run P w = .ok v w'):(do pure (Next.value (<- s)):Sem Next).run P w = .ok (.value v) w':=by
 simp only [Sem.run_bind,h,Result.andThen_ok,Sem.run_pure]
theorem qsh {t:TypeId} {p q:Bool} (hu:P.underlying t=some .bool) (n:Nat) (w:World):(Op.equalIn (n+1) t (.bool p) (.bool q)).run P w = .ok (p==q) w:=by
 simp only [Op.equalIn,Sem.run_bind,run_underlying hu,Result.andThen_ok,Sem.run_pure]
theorem qpk {t:TypeId} {p q:Bool} (hu:P.underlying t=some .bool) (w:World):(Op.equal t (.bool p) (.bool q)).run P w = .ok (p==q) w:=qsh hu 9999 w
theorem op_beq {t u:TypeId} {x y:Operand} {p q:Bool} (hu:P.underlying t=some .bool) (hx:Ev A L x (Ib p)) (hy:Ev A L y (Ib q)):OpP P c ⟨d,.binOp .eql t x y u,ty,pos,af,g⟩ A L (Ib (p==q)):=
 opp fun φ a w hm he=>by
  have h1:a.eval x = .bool p:=he x (by simp [Op.operands]) _ hx;have h2:a.eval y = .bool q:=he y (by simp [Op.operands]) _ hy;have h3:(eqGuard .eql t x y (.bool p) (.bool q)).run P w = .ok () w:=rfl;have h4:(binOp .eql t (.bool p) (.bool q)).run P w = .ok (.bool (p==q)) w:=by
   simp only [binOp,Sem.run_bind,qpk hu,Result.andThen_ok,Sem.run_pure]
  exact ⟨_,by simp only [execOp,h1,h2,Sem.run_bind,h3,Result.andThen_ok,h4,Sem.run_pure],rfl⟩
theorem op_bne {t u:TypeId} {x y:Operand} {p q:Bool} (hu:P.underlying t=some .bool) (hx:Ev A L x (Ib p)) (hy:Ev A L y (Ib q)):OpP P c ⟨d,.binOp .neq t x y u,ty,pos,af,g⟩ A L (Ib (p != q)):=
 opp fun φ a w hm he=>by
  have h1:a.eval x = .bool p:=he x (by simp [Op.operands]) _ hx;have h2:a.eval y = .bool q:=he y (by simp [Op.operands]) _ hy;have h3:(eqGuard .neq t x y (.bool p) (.bool q)).run P w = .ok () w:=rfl;have h4:(binOp .neq t (.bool p) (.bool q)).run P w = .ok (.bool (p != q)) w:=by
   simp only [binOp,Sem.run_bind,qpk hu,Result.andThen_ok,Sem.run_pure];rfl
  exact ⟨_,by simp only [execOp,h1,h2,Sem.run_bind,h3,Result.andThen_ok,h4,Sem.run_pure],rfl⟩
theorem zah {φ:Fz} {As:List VP} {vs:List Value} (h:Alls φ As vs) {i:Nat} {B:VP} (hi:As[i]?=some B):∃ v,vs.toArray[i]?=some v∧B.ok φ v:=by
 obtain ⟨v,h1,h2⟩:=h.get hi;exact ⟨v,by simpa using h1,h2⟩
theorem qdr {x:Operand} {i:Nat} {As:List VP} {B:VP} (hx:Ev A L x (qbs As)) (hi:As[i]?=some B):OpP P c ⟨d,.extract x i,ty,pos,af,g⟩ A L B:=
 opp fun φ a w hm he=>by
  obtain ⟨vs,h1,h2⟩:(qbs As).ok φ (a.eval x):=he x (by simp [Op.operands]) _ hx;obtain ⟨v,h3,h4⟩:=zah h2 hi;exact ⟨v,by simp only [execOp,h1,Instr.extract,h3];rfl,h4⟩
theorem qeh {x:Operand} {p:Addr} (hx:Ev A L x (Is (.pointer (some p)))):OpP P c ⟨d,.nilCheck x,ty,pos,af,g⟩ A L (Is (.pointer (some p))):=
 opp fun φ a w hm he=>by
  have h1:a.eval x = .pointer (some p):=he x (by simp [Op.operands]) _ hx;exact ⟨_,by simp only [execOp,h1];rfl,rfl⟩
theorem qum {x:Operand} {As:List VP} (hx:Ev A L x (IsRef As)):OpP P c ⟨d,.nilCheck x,ty,pos,af,g⟩ A L (IsRef As):=
 opp fun φ a w hm he=>by
  have h0:(IsRef As).ok φ (a.eval x):=he x (by simp [Op.operands]) _ hx;obtain ⟨b,o,h1,h2⟩:=h0;exact ⟨_,by simp only [execOp,h1];rfl,⟨b,o,rfl,h2⟩⟩
theorem qbd {t:TypeId} {n:Nat} (h:(P.info? t).map (·.size)=some n) (w:World):(sizeOf t).run P w = .ok n w:=by
 obtain ⟨i,h1,h2⟩:=Option.map_eq_some_iff.1 h;simp [sizeOf,typeInfo,h1,h2]
theorem qpj {s:TypeId} {fs:Array Field} {i n:Nat} {f:Field} (hu:P.underlying s=some (.struct fs)) (hf:fs[i]?=some f) (hn:(P.info? f.type).map (·.size)=some (n+1)) (p:Addr) (w:World) :
  (Instr.fieldAt s (.pointer (some p)) i).run P w = .ok (.pointer (some (p.add f.offset))) w:=by
 simp [Instr.fieldAt,run_underlying hu,hf,Instr.sureAddr,fieldPlace,qbd hn]
theorem qcl (b i k:Nat):(⟨b,i,none⟩:Addr).add k=⟨b,i+k,none⟩:=Addr.add_lit b i k
theorem qbe {s:TypeId} {x:Operand} {i n b o k:Nat} {fs:Array Field} {f:Field} (hx:Ev A L x (Is (.pointer (some ⟨b,o,none⟩)))) (hu:P.underlying s=some (.struct fs)) (hf:fs[i]?=some f) (hn:(P.info? f.type).map (·.size)=some (n+1)) (hk:f.offset=k) :
  OpP P c ⟨d,.fieldAddr s x i,ty,pos,af,g⟩ A L (Is (.pointer (some ⟨b,o+k,none⟩))):=by
 subst hk;exact
 opp fun φ a w hm he=>by
  have h1:a.eval x = .pointer (some ⟨b,o,none⟩):=he x (by simp [Op.operands]) _ hx;exact ⟨_,by simp only [execOp,h1,Sem.run_bind,qpj hu hf hn,Result.andThen_ok,Sem.run_pure,qcl],rfl⟩
theorem RefAt.drop {φ:Fz} {b o:Nat} {As:List VP} (h:RefAt φ b o As) (k:Nat):RefAt φ b (o+k) (As.drop k):=fun j B hj=>by
 rw [List.getElem?_drop] at hj;obtain ⟨u,h1,h2⟩:=h _ B hj;exact ⟨u,by rw [Nat.add_assoc];exact h1,h2⟩
theorem qxa {s:TypeId} {x:Operand} {i n k:Nat} {As:List VP} {fs:Array Field} {f:Field} (hx:Ev A L x (IsRef As)) (hu:P.underlying s=some (.struct fs)) (hf:fs[i]?=some f) (hn:(P.info? f.type).map (·.size)=some (n+1)) (hk:f.offset=k) :
  OpP P c ⟨d,.fieldAddr s x i,ty,pos,af,g⟩ A L (IsRef (As.drop k)):=by
 subst hk;exact
 opp fun φ a w hm he=>by
  obtain ⟨b,o,h1,h2⟩:(IsRef As).ok φ (a.eval x):=he x (by simp [Op.operands]) _ hx;exact ⟨.pointer (some ⟨b,o+f.offset,none⟩),by simp only [execOp,h1,Sem.run_bind,qpj hu hf hn,Result.andThen_ok,Sem.run_pure,qcl],⟨b,_,rfl,h2.drop _⟩⟩
def qqs:TypeDesc->Bool
 | .struct _=>true
 | .array _ _=>true
 | _=>false
theorem qf2 {t:TypeId} {D:TypeDesc} (h:P.underlying t=some D) (w:World):(isAgg t).run P w = .ok (qqs D) w:=by
 simp only [isAgg,Sem.run_bind,run_underlying h,Result.andThen_ok];cases D <;> rfl
theorem qua {w:World} {p:Addr} {v:Value} (h:w.cell? p=some v):(load p).run P w = .ok v w:=by
 simp [load,Sem.run,h]
theorem qga {w:World} {b o:Nat}:∀ (vs:List Value) (i:Nat) (acc:Array Value),(∀ j v,vs[j]?=some v->w.cell? ⟨b,o+(i+j),none⟩=some v)->(loadCellsFrom ⟨b,o,none⟩ i vs.length acc).run P w = .ok (acc++vs.toArray) w
 | [],i,acc,_=>by simp [loadCellsFrom]
 | v::vs,i,acc,h=>by
  have h0:w.cell? ((⟨b,o,none⟩:Addr).add i)=some v:=by rw [qcl];exact h 0 v rfl
  have ih:=qga (b:=b) (o:=o) vs (i+1) (acc.push v) (fun j u hj=>by rw [show i+1+j=i+(j+1) by omega];exact h (j+1) u (by simpa using hj));simp only [List.length_cons,loadCellsFrom,Sem.run_bind,qua h0,Result.andThen_ok,ih];simp
theorem qgb {t:TypeId} {D:TypeDesc} {n:Nat} {w:World} {b o:Nat} {vs:List Value} (hu:P.underlying t=some D) (hD:qqs D=true) (hn:(P.info? t).map (·.size)=some n) (hl:vs.length=n) (h:∀ j v,vs[j]?=some v->w.cell? ⟨b,o+j,none⟩=some v) :
  (loadVar t ⟨b,o,none⟩).run P w = .ok (.agg vs.toArray) w:=by
 subst hl;simp only [loadVar,Sem.run_bind,qf2 hu,Result.andThen_ok,hD,if_true,qbd hn,loadCells];rw [qga vs 0 #[] (fun j v hj=>by rw [Nat.zero_add];exact h j v hj)]
 simp
theorem qja {t:TypeId} {D:TypeDesc} {w:World} {p:Addr} {v:Value} (hu:P.underlying t=some D) (hD:qqs D=false) (h:w.cell? p=some v):(loadVar t p).run P w = .ok v w:=by
 simp only [loadVar,Sem.run_bind,qf2 hu,Result.andThen_ok,hD,Bool.false_eq_true,if_false];exact qua h
theorem qcj {t:TypeId} {x:Operand} {As:List VP} {B:VP} {D:TypeDesc} (hx:Ev A L x (IsRef As)) (hu:P.underlying t=some D) (hD:qqs D=false) (h0:As[0]?=some B):OpP P c ⟨d,.load t x,ty,pos,af,g⟩ A L B:=
 opp fun φ a w hm he=>by
  obtain ⟨b,o,h1,h2⟩:(IsRef As).ok φ (a.eval x):=he x (by simp [Op.operands]) _ hx;obtain ⟨u,h3,h4,_⟩:=h2 0 B h0;have h5:=hm.mem.base b _ u h3;exact ⟨u,by simp only [execOp,h1];exact qcd (qja hu hD h5),h4⟩
theorem qis {φ:Fz} {b:Nat}:∀ {As:List VP} {o:Nat},RefAt φ b o As->∃ vs,Alls φ As vs∧vs.length=As.length∧ones vs∧∀ j v,vs[j]?=some v->φ b (o+j)=some v
 | [],o,_=>⟨[],trivial,rfl,qg6,fun j v h=>by simp at h⟩
 | B::As,o,h=>by
  obtain ⟨u,h1,h2,hu⟩:=h 0 B rfl;obtain ⟨vs,h3,h4,h6,h5⟩:=qis (As:=As) (o:=o+1) fun j D hj=>by
   obtain ⟨u,e1,e2⟩:=h (j+1) D (by simpa using hj);exact ⟨u,by rw [show o+1+j=o+(j+1) by omega];exact e1,e2⟩
  refine ⟨u::vs,⟨h2,h3⟩,by simp [h4],qpu hu h6,fun j v hj=>?_⟩;cases j with
  | zero=>simp at hj;subst hj;exact h1
  | succ j=>rw [show o+(j+1)=o+1+j by omega];exact h5 j v (by simpa using hj)
theorem qw8 {t:TypeId} {x:Operand} {As:List VP} {n:Nat} {D:TypeDesc} (hx:Ev A L x (IsRef As)) (hu:P.underlying t=some D) (hD:qqs D=true) (hn:(P.info? t).map (·.size)=some n) (hl:Nat.ble n As.length=true):OpP P c ⟨d,.load t x,ty,pos,af,g⟩ A L (IsAgg (As.take n)):=
 opp fun φ a w hm he=>by
  obtain ⟨b,o,h1,h2⟩:(IsRef As).ok φ (a.eval x):=he x (by simp [Op.operands]) _ hx;obtain ⟨vs,h3,h4,h7,h5⟩:=qis h2;have hn':=Nat.le_of_ble_eq_true hl;have h6:=qgb (w:=w) (b:=b) (o:=o) (vs:=vs.take n) hu hD hn (by rw [List.length_take];omega) fun j v hj=>by
   rw [List.getElem?_take] at hj;split at hj
   ·exact hm.mem.base _ _ _ (h5 j v hj)
   ·cases hj
  exact ⟨_,by simp only [execOp,h1];exact qcd h6,⟨_,rfl,h3.take n,h7.sub fun u hu=>List.mem_of_mem_take hu⟩⟩
theorem qj2 {φ:Fz} {w:World} {b:Nat} {t:TypeId} {As:List VP} (hm:HP c φ L w) (h:blk b t As∈L):∃ vs,w.heap[b]?=some (.cells vs.toArray t (0,0))∧Alls φ As vs∧ones vs:=by
 obtain ⟨vs,h1,h2,h3⟩:=(hm.mem.items _ h).1;exact ⟨vs,by simpa [blk] using h1,h2,h3⟩
theorem qic {w:World} {b:Nat} {t:TypeId} {vs:List Value} (h:w.heap[b]?=some (.cells vs.toArray t (0,0))) (i:Nat):w.cell? ⟨b,i,none⟩=vs[i]?:=by
 simp [World.cell?,h]
theorem qc8 {t t0:TypeId} {x:Operand} {b o:Nat} {As:List VP} {B:VP} {D:TypeDesc} (hx:Ev A L x (Is (.pointer (some ⟨b,o,none⟩)))) (hL:blk b t0 As∈L) (hu:P.underlying t=some D) (hD:qqs D=false) (h0:As[o]?=some B):OpP P c ⟨d,.load t x,ty,pos,af,g⟩ A L B:=
 opp fun φ a w hm he=>by
  have h1:a.eval x = .pointer (some ⟨b,o,none⟩):=he x (by simp [Op.operands]) _ hx;obtain ⟨vs,h2,h3,h7⟩:=qj2 hm hL;obtain ⟨u,h4,h5⟩:=h3.get h0;have h6:=(qic h2 o).trans h4;exact ⟨u,by simp only [execOp,h1];exact qcd (qja hu hD h6),h5⟩
theorem qw9 {t t0:TypeId} {x:Operand} {b o n:Nat} {As:List VP} {D:TypeDesc} (hx:Ev A L x (Is (.pointer (some ⟨b,o,none⟩)))) (hL:blk b t0 As∈L) (hu:P.underlying t=some D) (hD:qqs D=true) (hn:(P.info? t).map (·.size)=some n) (hl:Nat.ble (o+n) As.length=true) :
  OpP P c ⟨d,.load t x,ty,pos,af,g⟩ A L (IsAgg ((As.drop o).take n)):=
 opp fun φ a w hm he=>by
  have h1:a.eval x = .pointer (some ⟨b,o,none⟩):=he x (by simp [Op.operands]) _ hx;obtain ⟨vs,h2,h3,h7⟩:=qj2 hm hL;have hn':=Nat.le_of_ble_eq_true hl;have hlen:=h3.len;have h6:=qgb (w:=w) (b:=b) (o:=o) (vs:=(vs.drop o).take n) hu hD hn (by rw [List.length_take,List.length_drop];omega) fun j v hj=>by
   rw [List.getElem?_take] at hj;split at hj
   ·rw [List.getElem?_drop] at hj;rw [qic h2];exact hj
   ·cases hj
  exact ⟨_,by simp only [execOp,h1];exact qcd h6,⟨_,rfl,(h3.drop o).take n,h7.sub fun u hu=>List.mem_of_mem_drop (List.mem_of_mem_take hu)⟩⟩
end
section
variable {P:Program} {c:Ctx} {A:Nat->Option VP} {L:List Item} {d:Option Tmp} {ty:TypeId} {pos:String} {af:Array Edge} {g:Option (Nat×Bool)}
section
variable {α:Type} {T:Ty α} {xs:List α}
theorem zdc {t:TypeId} {e:TypeId} (hu:P.underlying t=some (.slice e)) (ts:Array TypeId) (hts:ts[0]?=some t) (rt:TypeId) (a:Option Addr) (n cp:Nat) (w:World):(Builtin.len_ ts rt #[.slice a n cp]).run P w = .ok (.int .i64 n) w:=by
 simp [Builtin.len_,hts,run_underlying hu,goInt]
theorem zd8 {x:Operand} {t e:TypeId} (hx:Ev A L x (qad T xs)) (hu:P.underlying t=some (.slice e)) :
  OpP P c ⟨d,.call { callee:=.builtin .len,args:=#[x],argTypes:=#[t] },ty,pos,af,g⟩ A L (Ii xs.length):=
 opp fun φ a w hm he=>by
  obtain ⟨ad,n,cp,h1,h2,_⟩:(qad T xs).ok φ (a.eval x):=he x (by simp [Op.operands,Call.operands]) _ hx;refine ⟨.int .i64 n,?_,by rw [h2];exact (rfl:Value.int .i64 (xs.length:Int)=_)⟩;have h3:(#[x].map a.eval)=#[.slice ad n cp]:=by simp [h1]
  simp only [execOp,resolve,h3,Sem.run_bind,Sem.run_pure,Result.andThen_ok,invoke,builtin];simp only [zdc hu #[t] rfl,Result.andThen_ok]
theorem quq {x:Operand} {t e:TypeId} {ad:Option Addr} {n cp:Nat} (hx:Ev A L x (Is (.slice ad n cp))) (hu:P.underlying t=some (.slice e)) :
  OpP P c ⟨d,.call { callee:=.builtin .len,args:=#[x],argTypes:=#[t] },ty,pos,af,g⟩ A L (Ii n):=
 opp fun φ a w hm he=>by
  have h1:a.eval x = .slice ad n cp:=he x (by simp [Op.operands,Call.operands]) _ hx;refine ⟨.int .i64 n,?_,rfl⟩;have h3:(#[x].map a.eval)=#[.slice ad n cp]:=by simp [h1]
  simp only [execOp,resolve,h3,Sem.run_bind,Sem.run_pure,Result.andThen_ok,invoke,builtin];simp only [zdc hu #[t] rfl,Result.andThen_ok]
theorem qak {x y:Operand} {t e:TypeId} {i:Int} {j:Nat} {k:IntKind} {z:α} (hx:Ev A L x (qad T xs)) (hy:Ev A L y (Is (.int k i))) (hu:P.underlying t=some (.slice e)) (hs:(P.info? e).map (·.size)=some T.size) (hi:i=j) (hz:xs[j]?=some z) :
  OpP P c ⟨d,.indexAddr t x y,ty,pos,af,g⟩ A L (IsRef (T.cells z)):=
 opp fun φ a w hm he=>by
  obtain ⟨ad,n,cp,h1,h2,h3,h4,h5⟩:(qad T xs).ok φ (a.eval x):=he x (by simp [Op.operands]) _ hx;have h6:a.eval y = .int k i:=he y (by simp [Op.operands]) _ hy;have hlt:j<xs.length:=(List.getElem?_eq_some_iff.1 hz).1;rcases h5 with h5|⟨b,o,rfl,h5⟩
  ·omega
  ·refine ⟨.pointer (some ⟨b,o+j*T.size,none⟩),?_,⟨b,_,rfl,h5 j z hz⟩⟩;have h7:(0:Int)<=i∧i<(n:Int):=om;have h8:i.toNat=j:=om;simp only [execOp,h1,h6];refine qcd ?_;simp only [Instr.indexAt,asIntOf,Sem.run_bind,Sem.run_pure,Result.andThen_ok,run_underlying hu,h7,and_self,if_true,qbd hs,h8,qcl]
theorem SlAt.cut {φ:Fz} {a:Option Addr} {n cp lo hi:Nat} (h:SlAt T φ a n cp xs) (h1:lo<=hi) (h2:hi<=n):SlAt T φ (if cp=lo then a else a.map (·.add (lo*T.size))) (hi-lo) (cp-lo) ((xs.take hi).drop lo):=by
 obtain ⟨e1,e2,e3,e4⟩:=h;refine ⟨by simp;omega,om,om,?_⟩;by_cases h0:hi-lo=0
 ·exact .inl h0
 ·rcases e4 with e4|⟨b,o,rfl,e4⟩
  ·omega
  ·refine .inr ⟨b,o+lo*T.size,?_,fun k x hx=>?_⟩
   ·rw [if_neg om,Option.map_some,qcl]
   ·rw [List.getElem?_drop] at hx;have hlt:lo+k<hi:=by
     have:=(List.getElem?_eq_some_iff.1 hx).1;rw [List.length_take] at this;omega
    rw [List.getElem?_take_of_lt hlt] at hx;have:=e4 (lo+k) x hx;rw [Nat.add_assoc,<- Nat.add_mul];exact this
theorem qdy {y k:IntKind} {i:Int} {m n:Nat} (hi:i=n) (h:n<=m) (cd:BoundsCode) (w:World):(Instr.sliceBound (.int k i) m cd).run P w = .ok n w:=by
 subst hi;have:(0:Int)<=(n:Int)∧(n:Int)<=(m:Int):=om;simp [Instr.sliceBound,asIntOf,this]
def opN (A:Nat->Option VP) (L:List Item) (dflt:Nat):Option Operand->Nat->Prop
 | none,n=>n=dflt
 | some x,n=>∃ k i,Ev A L x (Is (.int k i))∧i=(n:Int)
theorem qhf {a:Act} {lo hi:Option Operand} {l h n cp:Nat} (hl:∀ x,lo=some x->∃ k,a.eval x = .int k (l:Int)) (hl0:lo=none->l=0) (hh:∀ x,hi=some x->∃ k,a.eval x = .int k (h:Int)) (hh0:hi=none->h=n) (h1:l<=h) (h2:h<=n) (h3:n<=cp) (w:World) :
  (Instr.sliceBounds true n cp (lo.map a.eval) (hi.map a.eval) none).run P w = .ok (l,h,cp) w:=by
 have e1 : ∀ cd, (match (hi.map a.eval : Option Value), (none : Option Value) with | some v, some _ => Instr.sliceBound v cp cd | some v, none => Instr.sliceBound v cp (if true then .sliceAcap else .sliceAlen) | none, none => pure n | none, some _ => stuck "Slice: max without high" : Sem Nat).run P w = .ok h w := by
  intro cd;cases hi with
  | none=>rw [hh0 rfl];rfl
  | some x =>
   obtain ⟨k,e⟩:=hh x rfl;simp only [Option.map_some,e];exact qdy (y:=k) rfl om _ w
 cases lo with
 | none =>
  obtain rfl:=hl0 rfl;cases hi with
  | none =>
   obtain rfl:=hh0 rfl;simp [Instr.sliceBounds]
  | some x =>
   obtain ⟨k,e⟩:=hh x rfl;simp [Instr.sliceBounds,e,qdy (P:=P) (y:=k) (k:=k) rfl (show h<=cp by omega)]
 | some y =>
  obtain ⟨k',e'⟩:=hl y rfl;cases hi with
  | none =>
   obtain rfl:=hh0 rfl;simp [Instr.sliceBounds,e',qdy (P:=P) (y:=k') (k:=k') rfl h1]
  | some x =>
   obtain ⟨k,e⟩:=hh x rfl;simp [Instr.sliceBounds,e,e',qdy (P:=P) (y:=k) (k:=k) rfl (show h<=cp by omega),qdy (P:=P) (y:=k') (k:=k') rfl h1]
theorem qe6 {x:Operand} {t e:TypeId} {lo hi:Option Operand} {l h:Nat} (hx:Ev A L x (qad T xs)) (hu:P.underlying t=some (.slice e)) (hs:(P.info? e).map (·.size)=some T.size) (hl:opN A L 0 lo l) (hh:opN A L xs.length hi h) (h1:l<=h) (h2:h<=xs.length) :
  OpP P c ⟨d,.slice t x lo hi none,ty,pos,af,g⟩ A L (qad T ((xs.take h).drop l)):=
 opp fun φ a w hm he=>by
  obtain ⟨ad,n,cp,e1,e2⟩:(qad T xs).ok φ (a.eval x):=he x (by simp [Op.operands]) _ hx;have hn:=e2.1;have hcp:=e2.2.1;have hlo:∀ y,lo=some y->∃ k,a.eval y = .int k (l:Int):=fun y hy=>by
   subst hy;obtain ⟨k,i,h3,h4⟩:=hl;have h5:a.eval y = .int k i:=he y (by simp [Op.operands]) _ h3;exact ⟨k,by rw [h5,h4]⟩
  have hhi:∀ y,hi=some y->∃ k,a.eval y = .int k (h:Int):=fun y hy=>by
   subst hy;obtain ⟨k,i,h3,h4⟩:=hh;have h5:a.eval y = .int k i:=he y (by simp [Op.operands]) _ h3;exact ⟨k,by rw [h5,h4]⟩
  have hb:=qhf (P:=P) (a:=a) (lo:=lo) (hi:=hi) (l:=l) (h:=h) (n:=n) (cp:=cp) hlo (fun e=>by subst e;exact hl) hhi (fun e=>by subst e;rw [hn];exact hh) h1 om hcp w;refine ⟨_,?_,⟨_,_,_,rfl,e2.cut h1 om⟩⟩;simp only [execOp,e1];refine qcd ?_;simp only [Instr.sliceAt,Sem.run_bind,run_underlying hu,Result.andThen_ok,Instr.slice];simp only [Option.map_none] at hb ⊢;simp only [hb,Result.andThen_ok,qbd hs,Sem.run_pure]
end
def qde (A:VP) (As:List VP):Prop:=∀ φ v,A.ok φ v->∃ vs:List Value,v.cells=vs.toArray∧Alls φ As vs∧ones vs
theorem qje {v:Value} (h:v.oneCell'=true):ones [v]:=qpu h qg6
theorem qp8 {As:List VP}:qde (IsAgg As) As:=fun φ v ⟨vs,e,k⟩=>⟨vs,by rw [e];rfl,k⟩
theorem qth {u:Value} (h1:u.oneCell'=true):qde (Is u) [Is u]:=fun φ v e=>by
 have e':v=u:=e;subst e';refine ⟨[v],?_,⟨rfl,trivial⟩,qje h1⟩;cases v <;> first|rfl|cases h1
theorem qp6 {As:List VP}:qde (IsRef As) [IsRef As]:=fun φ v ⟨b,o,e,k⟩=>⟨[v],by rw [e];rfl,⟨⟨b,o,e,k⟩,trivial⟩,by rw [e];exact qje rfl⟩
theorem qtg {α:Type} {T:Ty α} {xs:List α}:qde (qad T xs) [qad T xs]:=fun φ v ⟨a,n,cp,e,k⟩=>⟨[v],by rw [e];rfl,⟨⟨a,n,cp,e,k⟩,trivial⟩,by rw [e];exact qje rfl⟩
theorem qp7 {vs:List Value} (h:(vs.all Value.oneCell')=true):qde (Is (.agg vs.toArray)) (vs.map Is):=fun φ v e=>⟨vs,by rw [show v = .agg vs.toArray from e];rfl,qil vs,qgh h⟩
def ovr:List VP->Nat->List VP->List VP
 | As,_,[]=>As
 | As,o,B::Bs=>ovr (As.set o B) (o+1) Bs
theorem zd1:∀ (Bs As:List VP) (o:Nat),(ovr As o Bs).length=As.length
 | [],_,_=>rfl
 | B::Bs,As,o=>by rw [ovr,zd1 Bs];simp
def qlz (place:Nat->Option (Nat×Nat)):List VP->List (Nat×List VP)->Option (List VP)
 | As,[]=>some As
 | As,(i,Bs)::rest =>
  match place i with
  | none=>none
  | some (off,size)=>bif Nat.beq Bs.length size&&Nat.ble (off+Bs.length) As.length then qlz place (ovr As off Bs) rest else none
def Parts (φ:Fz):List (Nat×List VP)->List (Nat×Value)->Prop
 | [],[]=>True
 | (i,Bs)::l,(j,v)::m=>(i=j∧∃ vs:List Value,v.cells=vs.toArray∧Alls φ Bs vs∧ones vs)∧Parts φ l m
 | _,_=>False
theorem qz0 {φ:Fz}:∀ (us:List Value) (Bs:List VP) (As:List VP) (vs:List Value) (o k:Nat),Alls φ As vs->ones vs->Alls φ Bs us->ones us ->
  ∃ rs:List Value,(us.zipIdx k).foldl (fun (cs:Array Value) (p:Value×Nat)=>cs.setIfInBounds (o+p.2) p.1) vs.toArray=rs.toArray∧Alls φ (ovr As (o+k) Bs) rs∧ones rs
 | [],[],As,vs,o,k,h,g,_,_=>⟨vs,rfl,h,g⟩
 | u::us,B::Bs,As,vs,o,k,h,g,⟨h1,h2⟩,g2=>by
  simp only [List.zipIdx_cons,List.foldl_cons,List.setIfInBounds_toArray,ovr];have g3:ones (vs.set (o+k) u):=fun x hx=>by
   rcases List.mem_or_eq_of_mem_set hx with hx|rfl
   ·exact g x hx
   ·exact g2 _ (List.mem_cons_self ..)
  obtain ⟨rs,e1,e2⟩:=qz0 us Bs (As.set (o+k) B) (vs.set (o+k) u) o (k+1) (h.set _ h1) g3 h2 (g2.sub fun x hx=>List.mem_cons_of_mem _ hx);exact ⟨rs,e1,by rw [Nat.add_assoc];exact e2⟩
 | [],_::_,_,_,_,_,_,_,h,_=>h.elim
 | _::_,[],_,_,_,_,_,_,h,_=>h.elim
theorem qnz {φ:Fz} {place:Nat->Option (Nat×Nat)}:∀ {ps:List (Nat×List VP)} {qs:List (Nat×Value)} {As Rs:List VP} {vs:List Value},Alls φ As vs->ones vs->Parts φ ps qs->qlz place As ps=some Rs->∃ rs:List Value,Instr.fill place vs.toArray qs=some rs.toArray∧Alls φ Rs rs∧ones rs
 | [],[],As,Rs,vs,h,g,_,e=>by
  simp only [qlz,Option.some.injEq] at e;subst e;exact ⟨vs,rfl,h,g⟩
 | (i,Bs)::ps,(j,v)::qs,As,Rs,vs,h,g,⟨⟨hij,us,hus,hB,gB⟩,hr⟩,e=>by
  subst hij;simp only [qlz] at e;cases hp:place i with
  | none=>rw [hp] at e;cases e
  | some os =>
   obtain ⟨off,size⟩:=os;rw [hp] at e;dsimp only at e;cases hc:(Nat.beq Bs.length size&&Nat.ble (off+Bs.length) As.length) with
   | false=>rw [hc] at e;cases e
   | true =>
    rw [hc] at e;simp only [cond_true] at e;simp only [Bool.and_eq_true] at hc;have h1:=Nat.eq_of_beq_eq_true hc.1;have h2:=Nat.le_of_ble_eq_true hc.2;have h3:=hB.len;have h4:=h.len;obtain ⟨rs,f1,f2,f3⟩:=qz0 us Bs As vs off 0 h g hB gB;obtain ⟨ts,g1,g2⟩:=qnz (vs:=rs) f2 f3 hr e;refine ⟨ts,?_,g2⟩;simp only [Instr.fill,hp,hus,List.size_toArray];rw [if_neg (by simp;omega)];have:us.toArray.zipIdx.foldl (fun (cs:Array Value) (p:Value×Nat)=>cs.setIfInBounds (off+p.2) p.1) vs.toArray=rs.toArray:=by
     rw [<- f1];simp
    rw [this];exact g1
 | [],_::_,_,_,_,_,_,h,_=>h.elim
 | _::_,[],_,_,_,_,_,h,_=>h.elim
def PartsE (A:Nat->Option VP) (L:List Item):List (Nat×Operand)->List (Nat×List VP)->Prop
 | [],[]=>True
 | (i,x)::l,(j,Bs)::m=>(i=j∧∃ D,Ev A L x D∧qde D Bs)∧PartsE A L l m
 | _,_=>False
theorem PartsE.at_ {φ:Fz} {a:Act}:∀ {l:List (Nat×Operand)} {m:List (Nat×List VP)},PartsE A L l m->(∀ i x,(i,x)∈l->∀ B,Ev A L x B->B.ok φ (a.eval x))->Parts φ m (l.map fun p=>(p.1,a.eval p.2))
 | [],[],_,_=>trivial
 | (i,x)::l,(j,Bs)::m,⟨⟨hij,D,h1,h2⟩,h3⟩,h=>⟨⟨hij.symm,h2 φ _ (h i x (List.mem_cons_self ..) D h1)⟩,h3.at_ fun i x hx=>h i x (List.mem_cons_of_mem _ hx)⟩
 | [],_::_,h,_=>h.elim
 | _::_,[],h,_=>h.elim
theorem qi8 {t:TypeId} {z:Value} (h:(P.info? t).map (·.zero)=some (some z)) (w:World):(zeroValue t).run P w = .ok z w:=by
 obtain ⟨i,h1,h2⟩:=Option.map_eq_some_iff.1 h;simp [zeroValue,typeInfo,h1,h2]
def qjz (P:Program):List Field->Option (List (Nat×Nat))
 | []=>some []
 | f::fs=>match (P.info? f.type).map (·.size),qjz P fs with
  | some n,some l=>some ((f.offset,n)::l)
  | _,_=>none
theorem zav {w:World}:∀ {fs:List Field} {l:List (Nat×Nat)},qjz P fs=some l->(fs.toArray.mapM fun f=>do pure (f.offset,<- sizeOf f.type):Sem (Array (Nat×Nat))).run P w = .ok l.toArray w:=by
 intro fs l h;rw [List.mapM_toArray];have:∀ {fs:List Field} {l:List (Nat×Nat)},qjz P fs=some l->(fs.mapM fun f=>do pure (f.offset,<- sizeOf f.type):Sem (List (Nat×Nat))).run P w = .ok l w:=by
  intro fs;induction fs with
  | nil=>intro l h;simp only [qjz,Option.some.injEq] at h;subst h;rfl
  | cons f fs ih =>
   intro l h;simp only [qjz] at h;split at h
   ·rename_i n l' h1 h2;injection h with h
    subst h;rw [List.mapM_cons];simp only [Sem.run_bind,qbd h1,Result.andThen_ok,Sem.run_pure,ih h2]
   ·cases h
 simp only [Sem.run_map,this h];rfl
theorem op_build {t:TypeId} {ps:Array (Nat×Operand)} {fs:List Field} {zs:List Value} {pl:List (Nat×Nat)} {qs:List (Nat×List VP)} {Rs:List VP} (hu:P.underlying t=some (.struct fs.toArray)) (hz:(P.info? t).map (·.zero)=some (some (.agg zs.toArray))) (h1:(zs.all Value.oneCell')=true)
  (hpl:qjz P fs=some pl) (hq:PartsE A L ps.toList qs) (hf:qlz (fun i=>pl[i]?) (zs.map Is) qs=some Rs):OpP P c ⟨d,.build t ps,ty,pos,af,g⟩ A L (IsAgg Rs):=
 opp fun φ a w hm he=>by
  have hp:=hq.at_ (φ:=φ) (a:=a) fun i x hx=>he x (by simp only [Op.operands];simp;exact ⟨i,by simpa using hx⟩);obtain ⟨rs,h1,h2⟩:=qnz (qil (φ:=φ) zs) (qgh h1) hp hf;refine ⟨.agg rs.toArray,?_,⟨rs,rfl,h2⟩⟩;simp only [execOp];refine qcd ?_;have h3:(ps.map fun x=>(x.1,a.eval x.2)).toList=ps.toList.map fun p=>(p.1,a.eval p.2):=by simp
  simp only [Instr.build,Sem.run_bind,qi8 hz,Result.andThen_ok,run_underlying hu,zav hpl];have h4:(fun (x:Nat)=>pl.toArray[x]?)=(fun (i:Nat)=>pl[i]?):=by funext x;simp
  rw [h3,h4];show (match Instr.fill (fun i=>pl[i]?) zs.toArray (ps.toList.map fun p=>(p.1,a.eval p.2)) with|some cells=>pure (.agg cells)|_=>stuck _:Sem Value).run P w=_
  rw [h1];rfl
end
end Go.Proofs.YteafmggidjjdgaaGreatDoor
