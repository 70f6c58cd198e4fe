/- Texts laid together: walks of functions, what they compute, and plain laws of it. Own work. -/
import Derived.Test.YtmgoplaamlignaaGreatK2
import Derived.Test.YtmgoplaamlignaaGreatK1
namespace Go.Proofs.YtmgoplaamlignaaGreat
open Go.RowKit Tryz
set_option linter.unusedVariables false
set_option linter.unusedSimpArgs false
set_option maxRecDepth 100000
set_option maxHeartbeats 4000000
section
variable {P:Program} {ops:Array Oper} {c:Ctx} {N:Nat} {L:List Item}
def gtmp (ops:Array Oper) (o:Oper):Option Tmp:=o.guard.bind fun g=>(ops[g.1]?).bind (·.dst)
theorem qtk {o:Oper} {t:Tmp} (h:Operand.tmp t∈o.op.operands):t∈o.looksAt ops:=by
 unfold Oper.looksAt
 refine List.mem_append_left _ (List.mem_filterMap.2 ⟨.tmp t,by simpa using h,rfl⟩)
theorem qyw {o:Oper} {t:Tmp} (h:gtmp ops o=some t):t∈o.looksAt ops:=by
 unfold Oper.looksAt
 refine List.mem_append_right _ ?_
 unfold gtmp at h
 cases hg:o.guard with
 | none=>rw [hg] at h;cases h
 | some g=>rw [hg] at h;simp only [Option.bind_some] at h;simp [h]
inductive Out where
 | v (F:VP)
 | own {ι:Type} (val:ι→Value) (I:ι→Item)
def Out.toV:Out→Option VP
 | .v F=>some F
 | .own _ _=>none
def Out.post (M:List Item) (φ:Fz) (w:World) (φ':Fz) (v:Value) (w':World):Out→Prop
 | .v F=>HP ⟨w,φ,qb4 M,[]⟩ φ' [] w'∧F.ok φ' v
 | .own val I=>∃ i,v=val i∧HP ⟨w,φ,qb4 M,[]⟩ φ' [I i] w'
def Out.idle (φ:Fz):Out→Prop
 | .v F=>F.ok φ undef
 | .own _ _=>False
def qs2 (A:Nat→Option Out) (d:Option Tmp) (B:Out):Nat→Option Out:=fun t=>if d=some t then some B else A t
def qgb (A:Nat→Option Out) (d:Option Tmp):Nat→Option Out:=fun t=>if d=some t then none else A t
theorem qei {A:Nat→Option Out} {d:Option Tmp} {B:Out} {t:Nat} (h:d≠some t):qs2 A d B t=A t:=by unfold qs2;rw [if_neg h]
theorem qfw {A:Nat→Option Out} {t:Nat} {B:Out}:qs2 A (some t) B t=some B:=by unfold qs2;rw [if_pos rfl]
theorem qii {A:Nat→Option Out} {d:Option Tmp} {t:Nat} (h:d≠some t):qgb A d t=A t:=by unfold qgb;rw [if_neg h]
theorem qli {A:Nat→Option Out} {t:Nat}:qgb A (some t) t=none:=by unfold qgb;rw [if_pos rfl]
def wrB (o:Oper):Bool:=o.dst.isNone||(match o.op with
 | .call { callee:=.builtin .append,.. }=>true
 | _=>false)
def Takes (A:Nat→Option Out) (o:Oper) (ops:Array Oper) (a:Act) (M:List Item):Option Tmp→Prop
 | none=>M=[]
 | some s=>(s∈o.looksAt ops∨wrB o=true)∧∃ (ι:Type) (val:ι→Value) (I:ι→Item) (i:ι),A s=some (.own val I)∧a.tmps.getD s undef=val i∧M=[I i]
def tgt (o:Oper) (kl:Option Tmp):Option Tmp:=match o.dst with
 | some t=>some t
 | none=>kl
def res (o:Oper) (kl:Option Tmp) (a:Act) (v:Value):Value:=match o.dst with
 | some _=>v
 | none=>match kl with
  | some s=>a.tmps.getD s undef
  | none=>v
theorem qjr (o:Oper):tgt o none=o.dst:=by unfold tgt;split <;> simp_all
theorem qhb {o:Oper} {d:Tmp} (h:o.dst=some d) (kl:Option Tmp):tgt o kl=some d:=by unfold tgt;rw [h]
theorem qsq {o:Oper} (h:o.dst=none) (kl:Option Tmp):tgt o kl=kl:=by unfold tgt;rw [h]
theorem qfo (o:Oper) (a:Act) (v:Value):res o none a v=v:=by unfold res;split <;> rfl
theorem qwe {o:Oper} {d:Tmp} (h:o.dst=some d) (kl:Option Tmp) (a:Act) (v:Value):res o kl a v=v:=by unfold res;rw [h]
theorem qwf {o:Oper} (h:o.dst=none) (s:Tmp) (a:Act) (v:Value):res o (some s) a v=a.tmps.getD s undef:=by unfold res;rw [h]
theorem qwj (a:Act) (s:Tmp):a.put (some s) (a.tmps.getD s undef)=a:=by
 have h:a.tmps.setIfInBounds s (a.tmps.getD s undef)=a.tmps:=by
  apply Array.ext
  ·simp
  ·intro i h1 h2
   rw [Array.getElem_setIfInBounds]
   split
   ·rename_i e;subst e;simp [h2]
   ·rfl
 unfold Act.put
 simp only [h]
theorem zai (o:Oper) (kl:Option Tmp) (a:Act) (v:Value):a.put (tgt o kl) (res o kl a v)=a.put o.dst v:=by
 cases hd:o.dst with
 | some d=>rw [qhb hd,qwe hd]
 | none =>
  cases kl with
  | none=>rw [qjr,qfo,hd]
  | some s=>rw [qsq hd,qwf hd,qwj];rfl
def LocOp (P:Program) (ops:Array Oper) (c:Ctx) (L:List Item) (o:Oper) (A:Nat→Option Out) (F:Out) (kl:Option Tmp):Prop:=
 ∀ φ a w K Q M,HP c φ (M++L) w→Takes A o ops a M kl→(∀ t,t∈o.looksAt ops→∀ B,(A t).bind Out.toV=some B→B.ok φ (a.tmps.getD t undef)) →
  (∀ φ' v w',F.post M φ w φ' (res o kl a v) w'→K (a.put o.dst v) w') →
  if Region.wanted o (yielded ops a.tmps) then o.wp P a w K Q else (kl=none∧F.idle φ)
theorem LocOp.congr {o:Oper} {A A':Nat→Option Out} {F:Out} {kl:Option Tmp} (h:LocOp P ops c L o A F kl) (he:∀ t,t∈o.looksAt ops∨kl=some t→A' t=A t):LocOp P ops c L o A' F kl:=by
 intro φ a w K Q M hm ht hl hk
 refine h φ a w K Q M hm ?_ (fun t ht B hB=>hl t ht B (by rw [he t (.inl ht)];exact hB)) hk
 cases kl with
 | none=>exact ht
 | some s =>
  obtain ⟨h1,ι,val,I,i,h2,h3⟩:=ht
  exact ⟨h1,ι,val,I,i,by rw [← he s (.inr rfl)];exact h2,h3⟩
structure SS (c:Ctx) (N:Nat) (A:Nat→Option Out) (L:List Item) (φ:Fz) (a:Act) (w:World):Prop where
 defers:a.defers=c.ds
 size:a.tmps.size=N
 env:∀ t B,A t=some (.v B)→B.ok φ (a.tmps.getD t undef)
 mem:HP c φ L w
 own:∃ β:Tmp→Item,(∀ (t:Tmp) (ι:Type) (val:ι→Value) (I:ι→Item),A t=some (.own val I)→(∃ i,a.tmps.getD t undef=val i∧β t=I i)∧(β t).here φ w∧∀ b,(β t).at_=some b→(c.w.heap.size≤b∨b∈c.X)∧b ∉ qb4 L) ∧
  ∀ (t t':Tmp) (ι ι':Type) (val:ι→Value) (I:ι→Item) (val':ι'→Value) (I':ι'→Item),t≠t'→A t=some (.own val I)→A t'=some (.own val' I')→Apart (β t) (β t')
theorem SS.congr {A B:Nat→Option Out} {φ:Fz} {a:Act} {w:World} (h:SS c N A L φ a w) (e:∀ t,A t=B t):SS c N B L φ a w:=by
 have:A=B:=funext e
 subst this;exact h
theorem qi1 {a:Act} {t:Tmp} {v:Value} (h:t<a.tmps.size∨v=a.tmps.getD t undef):(a.put (some t) v).tmps.getD t undef=v:=by
 rcases h with h|h
 ·simp [Act.put,h]
 ·subst h;rw [qwj]
theorem qhw {a:Act} {d:Option Tmp} {t:Nat} {v:Value} (h:d≠some t):(a.put d v).tmps.getD t undef=a.tmps.getD t undef:=by
 cases d with
 | none=>rfl
 | some d =>
  have hne:d≠t:=fun e=>h (by rw [e])
  simp [Act.put,Array.getElem?_setIfInBounds_ne hne]
def zan (d:Option Tmp) (x:Item) (β:Tmp→Item):Tmp→Item:=fun t=>if d=some t then x else β t
theorem qle {t:Tmp} {x:Item} {β:Tmp→Item}:zan (some t) x β t=x:=by unfold zan;rw [if_pos rfl]
theorem qld {d:Option Tmp} {t:Tmp} {x:Item} {β:Tmp→Item} (h:d≠some t):zan d x β t=β t:=by unfold zan;rw [if_neg h]
theorem SS.takes {A:Nat→Option Out} {φ:Fz} {a:Act} {w:World} (h:SS c N A L φ a w) {o:Oper} {kl:Option Tmp} (hk:∀ s,kl=some s→(s∈o.looksAt ops∨wrB o=true)∧∃ (ι:Type) (val:ι→Value) (I:ι→Item),A s=some (.own val I)) :
  ∃ M,HP c φ (M++L) w∧Takes A o ops a M kl∧∀ (d:Option Tmp) (F:Out) (φ':Fz) (v:Value) (w':World),(∀ t,d=some t→t<N∨v=a.tmps.getD t undef)→F.post M φ w φ' v w'→SS c N (qs2 (qgb A kl) d F) L φ' (a.put d v) w':=by
 obtain ⟨β,hβ,hap⟩:=h.own
 have key:∀ M:List Item,HP c φ (M++L) w→(∀ b,b∈qb4 M→(c.w.heap.size≤b∨b∈c.X)∧b ∉ qb4 L)→(∀ (t:Tmp) (ι:Type) (val:ι→Value) (I:ι→Item),qgb A kl t=some (.own val I)→A t=some (.own val I)∧∀ b,(β t).at_=some b→b ∉ qb4 M)→(∀ t B,qgb A kl t=some (.v B)→A t=some (.v B)) →
   ∀ (d:Option Tmp) (F:Out) (φ':Fz) (v:Value) (w':World),(∀ t,d=some t→t<N∨v=a.tmps.getD t undef)→F.post M φ w φ' v w'→SS c N (qs2 (qgb A kl) d F) L φ' (a.put d v) w':=by
  intro M hM hMb hkl hklv d F φ' v w' hd hp
  have hk:Kpt (qb4 M) w w':=by cases F with
   | v F=>exact hp.1.kept
   | own val I=>obtain ⟨i,_,h2⟩:=hp;exact h2.kept
  have hold:∀ b i,b<w.heap.size→φ' b i=φ b i:=by cases F with
   | v F=>exact hp.1.old
   | own val I=>obtain ⟨i,_,h2⟩:=hp;exact h2.old
  have hm:HP c φ' L w':=by cases F with
   | v F=>simpa using hM.call hp.1
   | own val I =>
    obtain ⟨i,_,h2⟩:=hp
    exact (hM.call h2).less (by simp)
  have hle:Fle φ φ':=fun b i u e=>by rw [hold b i (qf0 (h.mem.mem.base b i u e))];exact e
  refine ⟨by rw [Act.put_defs];exact h.defers,by rw [Act.put_size];exact h.size,fun t B ht=>?_,hm,?_⟩
  ·by_cases hdt:d=some t
   ·subst hdt
    rw [qfw] at ht
    injection ht with ht
    subst ht
    rw [qi1 (by rw [h.size];exact hd t rfl)];exact hp.2
   ·rw [qei hdt] at ht
    rw [qhw hdt]
    exact B.mono hle (h.env t B (hklv t B ht))
  ·have hold2:∀ (t:Tmp) (ι:Type) (val:ι→Value) (I:ι→Item),qgb A kl t=some (.own val I)→(β t).here φ' w'∧∀ b,(β t).at_=some b→b<w.heap.size∧b ∉ qb4 M:=fun t ι val I ht=>by
    obtain ⟨h1,h2⟩:=hkl t ι val I ht
    obtain ⟨_,h3,h4⟩:=hβ t ι val I h1
    refine ⟨⟨?_,fun b hb=>⟨Nat.lt_of_lt_of_le (h3.2 b hb).1 hk.size,fun i=>by rw [hold b i (h3.2 b hb).1];exact (h3.2 b hb).2 i⟩⟩,fun b hb=>⟨(h3.2 b hb).1,h2 b hb⟩⟩
    have h5:=h3.1
    cases hat:(β t).at_ with
    | none=>rw [hat] at h5;exact (β t).mono hle h5
    | some b =>
     rw [hat] at h5
     simp only [Option.bind_some] at h5 ⊢
     rw [hk.block b (h3.2 b hat).1 (h2 b hat)]
     exact (β t).mono hle h5
   cases F with
   | v F =>
    refine ⟨β,fun t ι val I ht=>?_,fun t t' ι ι' val I val' I' hne ht ht'=>?_⟩
    ·by_cases hdt:d=some t
     ·subst hdt;rw [qfw] at ht;injection ht with ht;cases ht
     ·rw [qei hdt] at ht
      obtain ⟨h1,h2⟩:=hkl t ι val I ht
      obtain ⟨h3,_,h4⟩:=hβ t ι val I h1
      rw [qhw hdt]
      exact ⟨h3,(hold2 t ι val I ht).1,h4⟩
    ·by_cases hdt:d=some t
     ·subst hdt;rw [qfw] at ht;injection ht with ht;cases ht
     ·by_cases hdt':d=some t'
      ·subst hdt';rw [qfw] at ht';injection ht' with ht';cases ht'
      ·rw [qei hdt] at ht;rw [qei hdt'] at ht'
       exact hap t t' ι ι' val I val' I' hne (hkl t ι val I ht).1 (hkl t' ι' val' I' ht').1
   | own val0 I0 =>
    obtain ⟨i0,hv,hp2⟩:=hp
    have hnew:∀ b,(I0 i0).at_=some b→w.heap.size≤b∨b∈qb4 M:=fun b hb=>hp2.mine b (mem_names.2 ⟨_,List.mem_singleton.2 rfl,hb⟩)
    refine ⟨zan d (I0 i0) β,fun t ι val I ht=>?_,fun t t' ι ι' val I val' I' hne ht ht'=>?_⟩
    ·by_cases hdt:d=some t
     ·subst hdt
      rw [qfw] at ht
      injection ht with ht
      cases ht
      refine ⟨⟨i0,by rw [qi1 (by rw [h.size];exact hd t rfl)];exact hv,by rw [qle]⟩,by rw [qle];exact hp2.mem.items _ (List.mem_singleton.2 rfl),fun b hb=>?_⟩
      rw [qle] at hb
      rcases hnew b hb with h1|h1
      ·refine ⟨.inl (Nat.le_trans h.mem.kept.size h1),fun hbl=>?_⟩
       obtain ⟨it,hi,hib⟩:=mem_names.1 hbl
       exact absurd ((h.mem.mem.items it hi).2 b hib).1 (Nat.not_lt.2 h1)
      ·exact hMb b h1
     ·rw [qei hdt] at ht
      obtain ⟨h1,h2⟩:=hkl t ι val I ht
      obtain ⟨h3,_,h4⟩:=hβ t ι val I h1
      rw [qld hdt,qhw hdt]
      exact ⟨h3,(hold2 t ι val I ht).1,h4⟩
    ·have cross:∀ (u:Tmp) (κ:Type) (valu:κ→Value) (Iu:κ→Item),qgb A kl u=some (.own valu Iu)→∀ b,(I0 i0).at_=some b→(β u).at_≠some b:=fun u κ valu Iu hu b hb hbu=>by
      obtain ⟨h1,h2⟩:=(hold2 u κ valu Iu hu).2 b hbu
      rcases hnew b hb with h3|h3
      ·omega
      ·exact h2 h3
     by_cases hdt:d=some t
     ·have hdt':d≠some t':=fun h'=>hne (by rw [hdt] at h';injection h')
      rw [qei hdt'] at ht'
      subst hdt
      rw [qle,qld hdt']
      exact cross t' ι' val' I' ht'
     ·by_cases hdt':d=some t'
      ·rw [qei hdt] at ht
       subst hdt'
       rw [qld hdt,qle]
       exact fun b hb hb'=>cross t ι val I ht b hb' hb
      ·rw [qei hdt] at ht;rw [qei hdt'] at ht'
       rw [qld hdt,qld hdt']
       exact hap t t' ι ι' val I val' I' hne (hkl t ι val I ht).1 (hkl t' ι' val' I' ht').1
 cases kl with
 | none =>
  have hn:qgb A none=A:=by funext t;simp [qgb]
  refine ⟨[],by simpa using h.mem,rfl,key [] (by simpa using h.mem) (by simp [qb4]) (fun t ι val I ht=>?_) (fun t B ht=>?_)⟩
  ·rw [hn] at ht;exact ⟨ht,by simp [qb4]⟩
  ·rw [hn] at ht;exact ht
 | some s =>
  obtain ⟨hs1,ι,val,I,hs2⟩:=hk s rfl
  obtain ⟨⟨i,h1,h2⟩,h3,h4⟩:=hβ s ι val I hs2
  have hM:HP c φ ([I i]++L) w:=by
   rw [h2] at h3 h4
   refine ⟨⟨h.mem.mem.base,fun it hi=>?_,?_⟩,h.mem.kept,fun b hb=>?_,h.mem.old⟩
   ·rcases List.mem_append.1 hi with hi|hi
    ·rw [List.mem_singleton] at hi;subst hi;exact h3
    ·exact h.mem.mem.items it hi
   ·refine List.pairwise_append.2 ⟨List.pairwise_singleton _ _,h.mem.mem.sep,fun x hx y hy b hxb hyb=>?_⟩
    rw [List.mem_singleton] at hx;subst hx
    exact (h4 b hxb).2 (mem_names.2 ⟨y,hy,hyb⟩)
   ·rw [qey] at hb
    rcases List.mem_append.1 hb with hb|hb
    ·obtain ⟨x,hx,hxb⟩:=mem_names.1 hb
     rw [List.mem_singleton] at hx;subst hx
     exact (h4 b hxb).1
    ·exact h.mem.mine b hb
  refine ⟨[I i],hM,⟨hs1,ι,val,I,i,hs2,h1,rfl⟩,key _ hM (fun b hb=>?_) (fun t ι' val' I' ht=>?_) (fun t B ht=>?_)⟩
  ·obtain ⟨x,hx,hxb⟩:=mem_names.1 hb
   rw [List.mem_singleton] at hx;subst hx
   rw [← h2] at hxb
   exact h4 b hxb
  ·by_cases hst:(some s:Option Tmp)=some t
   ·injection hst with hst;subst hst;rw [qli] at ht;cases ht
   ·rw [qii hst] at ht
    refine ⟨ht,fun b hb hbm=>?_⟩
    obtain ⟨x,hx,hxb⟩:=mem_names.1 hbm
    rw [List.mem_singleton] at hx;subst hx
    rw [← h2] at hxb
    exact hap s t ι ι' val I val' I' (fun e=>hst (by rw [e])) hs2 ht b hxb hb
  ·by_cases hst:(some s:Option Tmp)=some t
   ·injection hst with hst;subst hst;rw [qli] at ht;cases ht
   ·rw [qii hst] at ht;exact ht
theorem qp7 {i k:Nat} (h:k≤i):Nat.blt i k=false:=by
 cases hb:Nat.blt i k with
 | false=>rfl
 | true=>exact absurd (Nat.le_of_ble_eq_true hb) (by omega)
def qkr (nd:Nat→Nat) (es:List Edge):Nat:=es.foldr (fun e s=>bif Region.binds .any e then (1<<<e.on)|||(nd e.on|||s) else s) 0
theorem qjd {nd:Nat→Nat} {j:Nat}:∀ {es:List Edge},(qkr nd es).testBit j=true→∃ e,e∈es∧Region.binds .any e=true∧(e.on=j∨(nd e.on).testBit j=true)
 | [],h=>by simp [qkr] at h
 | e :: es,h=>by
  have hcase:qkr nd (e :: es)=bif Region.binds .any e then (1<<<e.on)|||(nd e.on|||qkr nd es) else qkr nd es:=rfl
  rw [hcase] at h
  cases hb:Region.binds .any e with
  | false =>
   rw [hb] at h
   obtain ⟨e',h1,h2⟩:=qjd (es:=es) h
   exact ⟨e',List.mem_cons_of_mem _ h1,h2⟩
  | true =>
   rw [hb] at h
   simp only [cond_true,Nat.testBit_or,Bool.or_eq_true] at h
   rcases h with h|h|h
   ·refine ⟨e,List.mem_cons_self ..,hb,.inl ?_⟩
    rw [Nat.one_shiftLeft,Nat.testBit_two_pow] at h
    simpa using h
   ·exact ⟨e,List.mem_cons_self ..,hb,.inr h⟩
   ·obtain ⟨e',h1,h2⟩:=qjd (es:=es) h
    exact ⟨e',List.mem_cons_of_mem _ h1,h2⟩
def qgr (nd:List Nat) (i:Nat):Nat:=nd.getD i 0
def needs:List Oper→List Nat→List Nat
 | [],acc=>acc
 | o :: rest,acc=>needs rest (acc++[qkr (qgr acc) o.after.toList])
def qgm (p:Nat→Oper→Bool):List Oper→Nat→Bool
 | [],_=>true
 | o :: rest,k=>p k o&&qgm p rest (k+1)
theorem qdg {p:Nat→Oper→Bool}:∀ {l:List Oper} {k:Nat},qgm p l k=true→∀ i o,l[i]?=some o→p (k+i) o=true
 | [],_,_,i,o,h=>by simp at h
 | x :: l,k,h,i,o,hi=>by
  simp only [qgm,Bool.and_eq_true] at h
  cases i with
  | zero=>simp at hi;subst hi;exact h.1
  | succ i =>
   have:=qdg h.2 i o (by simpa using hi)
   rw [show k+(i+1)=k+1+i by omega];exact this
def goodB (ops:Array Oper) (nd:List Nat):Bool:=
 qgm (fun i o=>Nat.beq (qgr nd i&&&qkr (qgr nd) o.after.toList) (qgr nd i)&&o.after.toList.all (fun e=>!Region.binds .any e||Nat.blt e.on i)) ops.toList 0
def qck (ops:Array Oper) (o:Oper):List Tmp:=o.looksAt ops++o.dst.toList
def ordB (ops:Array Oper) (nd:List Nat):Bool:=
 qgm (fun i o=>match o.dst with
  | none=>true
  | some d=>qgm (fun j x=>Nat.beq i j || !((qck ops x).any fun t=>Nat.beq t d)||(bif Nat.blt i j then (qgr nd j).testBit i else (qgr nd i).testBit j)) ops.toList 0) ops.toList 0
def qoo (nd:List Nat) (size k i:Nat):Bool:=(List.range size).all fun j=>Nat.blt j k||(qgr nd j).testBit i
def qk8 (nd:List Nat) (size k n:Nat):Bool:=(List.range n).all fun i=>qoo nd size (k+n) (k+i)
structure Good (ops:Array Oper) (nd:List Nat):Prop where
 mask:∀ (i:Nat) (o:Oper) (j:Nat),ops[i]?=some o→(qgr nd i).testBit j=true→∃ e,e∈o.after∧Region.binds .any e=true∧(e.on=j∨(qgr nd e.on).testBit j=true)
 back:∀ (i:Nat) (o:Oper) (e:Edge),ops[i]?=some o→e∈o.after→Region.binds .any e=true→e.on<i
 ord:∀ (i:Nat) (o:Oper) (d:Tmp) (j:Nat) (x:Oper),ops[i]?=some o→o.dst=some d→ops[j]?=some x→d∈qck ops x→i≠j→(i<j→(qgr nd j).testBit i=true)∧(j<i→(qgr nd i).testBit j=true)
theorem good_of {nd:List Nat} (h1:goodB ops nd=true) (h2:ordB ops nd=true):Good ops nd:=by
 refine ⟨fun i o j hi hj=>?_,fun i o e hi he hb=>?_,fun i o d j x hi hd hj hx hne=>?_⟩
 ·have:=qdg h1 i o (by simpa using hi)
  simp only [Nat.zero_add,Bool.and_eq_true] at this
  have h3:=Nat.eq_of_beq_eq_true this.1
  rw [← h3,Nat.testBit_and,Bool.and_eq_true] at hj
  obtain ⟨e,h4,h5⟩:=qjd hj.2
  exact ⟨e,by simpa using h4,h5⟩
 ·have:=qdg h1 i o (by simpa using hi)
  simp only [Nat.zero_add,Bool.and_eq_true,List.all_eq_true,Bool.or_eq_true] at this
  have h3:=this.2 e (by simpa using he)
  rw [hb] at h3
  simpa using h3
 ·have:=qdg h2 i o (by simpa using hi)
  simp only [hd,Nat.zero_add] at this
  have h3:=qdg this j x (by simpa using hj)
  simp only [Nat.zero_add,Bool.or_eq_true] at h3
  have hij:Nat.beq i j=false:=qiq hne
  have hany:((qck ops x).any fun t=>Nat.beq t d)=true:=List.any_eq_true.2 ⟨d,hx,by simp⟩
  rw [hij,hany] at h3
  simp only [Bool.false_eq_true,Bool.not_true,false_or] at h3
  constructor
  ·intro hlt
   have:Nat.blt i j=true:=by simpa using hlt
   rw [this] at h3;exact h3
  ·intro hlt
   have:Nat.blt i j=false:=qp7 (by omega)
   rw [this] at h3;exact h3
structure Cl (ops:Array Oper) (nd:List Nat) (listed:Array Bool):Prop where
 size:listed.size=ops.size
 cl:∀ i,listed.getD i false=true→∀ j,(qgr nd i).testBit j=true→listed.getD j false=true
theorem qc2 {nd:List Nat} (hg:Good ops nd) {listed:Array Bool} (hc:Cl ops nd listed) {i:Nat} (hr:i∈Region.ready .any ops listed) {j:Nat} (hj:(qgr nd i).testBit j=true):listed.getD j false=true:=by
 obtain ⟨_,o,ho,hall⟩:=mem_ready.1 hr
 obtain ⟨e,he,hb,h3⟩:=hg.mask i o j ho hj
 have h4:=hall e he hb
 rcases h3 with rfl|h3
 ·exact h4
 ·exact hc.cl _ h4 j h3
theorem Cl.set {nd:List Nat} (hg:Good ops nd) {listed:Array Bool} (hc:Cl ops nd listed) {i:Nat} (hr:i∈Region.ready .any ops listed):Cl ops nd (listed.setIfInBounds i true):=by
 refine ⟨by simp [hc.size],fun k hk j hj=>?_⟩
 by_cases hik:i=k
 ·subst hik
  exact getD_set_true (qc2 hg hc hr hj)
 ·rw [getD_set_ne false hik] at hk
  exact getD_set_true (hc.cl k hk j hj)
def unl (n:Nat) (listed:Array Bool):Nat:=(List.range n).countP fun i=>!listed.getD i true
theorem qnq {listed:Array Bool} {i:Nat} (hi:i<listed.size) (hf:listed.getD i true=false):∀ {n:Nat},i<n→unl n (listed.setIfInBounds i true)+1=unl n listed
 | 0,h=>by omega
 | n+1,h=>by
  unfold unl
  rw [List.range_succ,List.countP_append,List.countP_append]
  by_cases hin:i=n
  ·subst hin
   have h1:(List.range i).countP (fun k=>!(listed.setIfInBounds i true).getD k true)=(List.range i).countP (fun k=>!listed.getD k true):=by
    refine List.countP_congr fun k hk=>?_
    have:i≠k:=by have:=List.mem_range.1 hk;omega
    rw [getD_set_ne true this]
   rw [h1]
   have h2:(listed.setIfInBounds i true).getD i true=true:=by simp [hi]
   rw [List.countP_cons,List.countP_cons,h2,hf]
   simp
  ·have:=qnq hi hf (n:=n) (by omega)
   unfold unl at this
   have h1:(List.countP (fun i=>!listed.getD i true) [n])=List.countP (fun k=>!(listed.setIfInBounds i true).getD k true) [n]:=by
    rw [List.countP_cons,List.countP_cons,getD_set_ne true hin];rfl
   omega
theorem qqn {listed:Array Bool} {n:Nat} (h:unl n listed=0):∀ i,i<n→listed.getD i true=true:=by
 intro i hi
 unfold unl at h
 rw [List.countP_eq_zero] at h
 have:=h i (List.mem_range.2 hi)
 simpa using this
structure Pre (ops:Array Oper) (nd:List Nat) (k:Nat) (listed:Array Bool):Prop where
 cl:Cl ops nd listed
 pre:∀ i,i<ops.size→(listed.getD i true=true↔i<k)
structure Ent where
 i:Nat
 o:Oper
 F:Out
 kl:Option Tmp
def Ent.tch (x:Ent) (t:Tmp):Prop:=x.o.dst=some t∨x.kl=some t
def Ent.app (x:Ent) (A:Nat→Option Out):Nat→Option Out:=qs2 (qgb A x.kl) (tgt x.o x.kl) x.F
theorem Ent.app_ne {x:Ent} {A:Nat→Option Out} {t:Tmp} (h:¬ x.tch t):x.app A t=A t:=by
 unfold Ent.app
 have h2:tgt x.o x.kl≠some t:=fun e=>by
  cases hd:x.o.dst with
  | some d=>rw [qhb hd] at e;exact h (.inl (by rw [hd,e]))
  | none=>rw [qsq hd] at e;exact h (.inr e)
 rw [qei h2,qii (fun e=>h (.inr e))]
theorem Ent.app_same {x:Ent} {A B:Nat→Option Out} {t:Tmp} (h:x.tch t∨A t=B t):x.app A t=x.app B t:=by
 unfold Ent.app
 by_cases h1:tgt x.o x.kl=some t
 ·rw [h1,qfw,qfw]
 ·rw [qei h1,qei h1]
  by_cases h2:x.kl=some t
  ·rw [h2,qli,qli]
  ·rw [qii h2,qii h2]
   rcases h with (h|h)|h
   ·exact absurd (qhb h x.kl) h1
   ·exact absurd h h2
   ·exact h
def acc (listed:Nat→Bool):List Ent→(Nat→Option Out)→Nat→Option Out
 | [],A=>A
 | x :: l,A=>acc listed l (bif listed x.i then x.app A else A)
theorem qec {p q:Nat→Bool} {t:Nat} {l:List Ent}:∀ {A B:Nat→Option Out},A t=B t→(∀ x,x∈l→x.tch t→p x.i=q x.i)→acc p l A t=acc q l B t:=by
 induction l with
 | nil=>intro A B h _;exact h
 | cons y l ih =>
  intro A B h hl
  have hl':∀ x,x∈l→x.tch t→p x.i=q x.i:=fun x hx=>hl x (List.mem_cons_of_mem _ hx)
  show acc p l (bif p y.i then y.app A else A) t=acc q l (bif q y.i then y.app B else B) t
  refine ih ?_ hl'
  by_cases hd:y.tch t
  ·have hp:p y.i=q y.i:=hl y (List.mem_cons_self ..) hd
   rw [hp]
   cases q y.i
   ·exact h
   ·exact Ent.app_same (.inl hd)
  ·have e1:(bif p y.i then y.app A else A) t=A t:=by cases p y.i <;> simp [Ent.app_ne hd]
   have e2:(bif q y.i then y.app B else B) t=B t:=by cases q y.i <;> simp [Ent.app_ne hd]
   rw [e1,e2];exact h
theorem qdv (p:Nat→Bool):∀ (l l':List Ent) (A:Nat→Option Out),acc p (l++l') A=acc p l' (acc p l A)
 | [],_,_=>rfl
 | x :: l,l',A=>by simp only [List.cons_append,acc,qdv p l l']
theorem qik {p:Nat→Bool} {t:Nat} {l:List Ent} {A:Nat→Option Out} (h:∀ x,x∈l→x.tch t→p x.i=false):acc p l A t=A t:=by
 have:=qec (p:=p) (q:=fun _=>false) (l:=l) (A:=A) (B:=A) (t:=t) rfl h
 rw [this]
 clear this h
 induction l generalizing A with
 | nil=>rfl
 | cons x l ih=>exact ih
def qke (ops:Array Oper) (nd:List Nat) (k:Nat) (o:Oper) (A:Nat→Option Out) (kl:Option Tmp):Prop:=
 ∀ s,kl=some s→((s∈o.looksAt ops∨wrB o=true)∧∃ (ι:Type) (val:ι→Value) (I:ι→Item),A s=some (.own val I)) ∧
  ∀ j x,ops[j]?=some x→s∈qck ops x∨(s ∉ o.looksAt ops∧wrB o=true∧wrB x=true)→j≠k→(k<j→(qgr nd j).testBit k=true)∧(j<k→(qgr nd k).testBit j=true)
def LocW (P:Program) (ops:Array Oper) (c:Ctx) (L:List Item) (nd:List Nat) (K:(Nat→Option Out)→Prop):List Oper→Nat→(Nat→Option Out)→Prop
 | [],_,A=>K A
 | o :: rest,k,A=>∃ F kl,qke ops nd k o A kl∧LocOp P ops c L o A F kl∧LocW P ops c L nd K rest (k+1) (qs2 (qgb A kl) (tgt o kl) F)
theorem LocW.out {nd:List Nat} {K:(Nat→Option Out)→Prop}:∀ {l:List Oper} {A:Nat→Option Out} {k:Nat},LocW P ops c L nd K l k A →
  ∃ m:List Ent,m.length=l.length∧(∀ i x,m[i]?=some x→x.i=k+i∧l[i]?=some x.o) ∧
   (∀ m1 x m2,m=m1++x :: m2→LocOp P ops c L x.o (acc (fun _=>true) m1 A) x.F x.kl∧qke ops nd x.i x.o (acc (fun _=>true) m1 A) x.kl)∧K (acc (fun _=>true) m A)
 | [],A,k,h=>⟨[],rfl,fun i x hx=>by simp at hx,fun m1 x m2 hm=>by simp at hm,h⟩
 | o :: l,A,k,⟨F,kl,h0,h1,h2⟩=>by
  obtain ⟨m,e1,e2,e3,e4⟩:=LocW.out h2
  refine ⟨⟨k,o,F,kl⟩ :: m,by simp [e1],fun i x hx=>?_,fun m1 x m2 hm=>?_,e4⟩
  ·cases i with
   | zero=>simp at hx;subst hx;exact ⟨rfl,rfl⟩
   | succ i =>
    obtain ⟨h3,h4⟩:=e2 i x (by simpa using hx)
    exact ⟨by omega,by simpa using h4⟩
  ·cases m1 with
   | nil =>
    simp only [List.nil_append,List.cons.injEq] at hm
    obtain ⟨rfl,rfl⟩:=hm
    exact ⟨h1,h0⟩
   | cons y m1 =>
    simp only [List.cons_append,List.cons.injEq] at hm
    obtain ⟨rfl,hm⟩:=hm
    exact e3 m1 x m2 hm
theorem qfp {listed:Array Bool} {i:Nat} (h:listed.getD i true=false):listed.getD i false=false:=getD_both h
theorem qfc {nd:List Nat} (hg:Good ops nd) {listed:Array Bool} (hs:listed.size=ops.size) {i:Nat} (hi:i<ops.size) (hu:listed.getD i true=false) (hl:∀ j,j<i→listed.getD j true=true):i∈Region.ready .any ops listed:=by
 refine mem_ready.2 ⟨hu,ops[i],by simp [hi],fun e he hb=>?_⟩
 have h1:=hg.back i ops[i] e (by simp [hi]) he hb
 have h2:=hl _ h1
 have h3:e.on<listed.size:=by omega
 simp [h3] at h2 ⊢;exact h2
theorem qdi {listed:Array Bool}:∀ (n:Nat),(∃ i,i<n∧listed.getD i true=false)→∃ i,i<n∧listed.getD i true=false∧∀ j,j<i→listed.getD j true=true
 | 0,⟨i,h,_⟩=>by omega
 | n+1,h=>by
  by_cases h':∃ i,i<n∧listed.getD i true=false
  ·obtain ⟨i,h1,h2,h3⟩:=qdi n h'
   exact ⟨i,by omega,h2,h3⟩
  ·obtain ⟨i,h1,h2⟩:=h
   have hin:i=n:=by
    rcases Nat.lt_or_ge i n with h3|h3
    ·exact absurd ⟨i,h3,h2⟩ h'
    ·omega
   subst hin
   refine ⟨i,h1,h2,fun j hj=>?_⟩
   cases hv:listed.getD j true with
   | true=>rfl
   | false=>exact absurd ⟨j,hj,hv⟩ h'
theorem qz6 {Q:Exit→Act→World→Prop} {nd:List Nat} (hg:Good ops nd) (hN:qgm (fun _ o=>qrs N o.dst) ops.toList 0=true) {k n:Nat} (hS:qk8 nd ops.size k n=true) (hkn:k+n≤ops.size)
  {m:List Ent} {A0:Nat→Option Out} (hm:m.length=n) (hmi:∀ i x,m[i]?=some x→x.i=k+i∧ops[k+i]?=some x.o)
  (hop:∀ m1 x m2,m=m1++x :: m2→LocOp P ops c L x.o (acc (fun _=>true) m1 A0) x.F x.kl∧qke ops nd x.i x.o (acc (fun _=>true) m1 A0) x.kl)
  (next:∀ φ a w listed,Pre ops nd (k+n) listed→SS c N (acc (fun _=>true) m A0) L φ a w→wpAny P .any ops Q (unl ops.size listed) listed a w) :
  ∀ (u:Nat) (φ:Fz) (a:Act) (w:World) (listed:Array Bool),unl ops.size listed=u→Cl ops nd listed→(∀ i,i<k→listed.getD i true=true)→(∀ i,k+n≤i→i<ops.size→listed.getD i true=false) →
   SS c N (acc (fun i=>listed.getD i false) m A0) L φ a w→wpAny P .any ops Q u listed a w:=by
 intro u
 induction u with
 | zero =>
  intro φ a w listed hu hc hlo hhi st
  have hall:=qqn hu
  have hk:k+n=ops.size:=by
   rcases Nat.lt_or_ge (k+n) ops.size with h|h
   ·have h1:=hall _ h;have h2:=hhi (k+n) (Nat.le_refl _) h;rw [h1] at h2;cases h2
   ·omega
  rw [← hu]
  refine next φ a w listed ⟨hc,fun i hi=>⟨fun _=>by omega,fun _=>hall i hi⟩⟩ (st.congr fun t=>qec rfl fun x hx _=>?_)
  obtain ⟨i,hi⟩:=List.mem_iff_getElem?.1 hx
  obtain ⟨e1,e2⟩:=hmi i x hi
  have hlt:k+i<ops.size:=(Array.getElem?_eq_some_iff.1 e2).1
  have h1:=hall _ hlt
  have h2:k+i<listed.size:=by rw [hc.size];exact hlt
  rw [e1]
  simp [h2] at h1 ⊢;exact h1
 | succ u ih =>
  intro φ a w listed hu hc hlo hhi st
  by_cases hdone:∃ i,i<k+n∧listed.getD i true=false
  ·obtain ⟨i0,hi0,hu0,hl0⟩:=qdi _ hdone
   have hr0:=qfc hg hc.size (by omega) hu0 hl0
   refine ⟨fun h=>(by rw [h] at hr0;cases hr0),fun i hi=>?_⟩
   obtain ⟨hiu,oi,hoi,hiall⟩:=mem_ready.1 hi
   have hilt:i<ops.size:=(Array.getElem?_eq_some_iff.1 hoi).1
   have hik:k≤i:=by
    rcases Nat.lt_or_ge i k with h|h
    ·have:=hlo i h;rw [hiu] at this;cases this
    ·exact h
   have hin:i<k+n:=by
    rcases Nat.lt_or_ge i (k+n) with h|h
    ·exact h
    ·exfalso
     have hi0k:k≤i0:=by
      rcases Nat.lt_or_ge i0 k with h' | h'
      ·have:=hlo i0 h';rw [hu0] at this;cases this
      ·exact h'
     have h1:=List.all_eq_true.1 hS (i0-k) (List.mem_range.2 (by omega))
     have h2:=List.all_eq_true.1 h1 i (List.mem_range.2 hilt)
     have h3:Nat.blt i (k+n)=false:=qp7 (by omega)
     rw [h3,Bool.false_or,show k+(i0-k)=i0 by omega] at h2
     have h4:=qc2 hg hc hi h2
     rw [qfp hu0] at h4;cases h4
   have hp:(i-k)<m.length:=by omega
   obtain ⟨x,hx⟩:∃ x,m[i-k]?=some x:=⟨m[i-k],by simp [hp]⟩
   obtain ⟨ex1,ex2⟩:=hmi (i-k) x hx
   rw [show k+(i-k)=i by omega] at ex1 ex2
   have hox:x.o=oi:=Option.some.inj (ex2.symm.trans hoi)
   obtain ⟨m1,m2,hsplit,hm1⟩:∃ m1 m2,m=m1++x :: m2∧m1.length=i-k:=by
    refine ⟨m.take (i-k),m.drop (i-k+1),?_,by simp;omega⟩
    have h1:m.drop (i-k)=x :: m.drop (i-k+1):=by
     rw [List.drop_eq_getElem_cons hp]
     congr 1
     rw [List.getElem?_eq_getElem hp] at hx
     exact Option.some.inj hx
    rw [← h1,List.take_append_drop]
   have idx1:∀ y,y∈m1→y.i<i∧ops[y.i]?=some y.o:=fun y hy=>by
    obtain ⟨q,hq⟩:=List.mem_iff_getElem?.1 hy
    have hql:q<m1.length:=(List.getElem?_eq_some_iff.1 hq).1
    have hq':m[q]?=some y:=by rw [hsplit,List.getElem?_append_left hql];exact hq
    obtain ⟨e1,e2⟩:=hmi q y hq'
    exact ⟨by omega,by rw [e1];exact e2⟩
   have idx2:∀ y,y∈m2→i<y.i∧ops[y.i]?=some y.o:=fun y hy=>by
    obtain ⟨q,hq⟩:=List.mem_iff_getElem?.1 hy
    have hq':m[m1.length+1+q]?=some y:=by
     rw [hsplit,List.getElem?_append_right (by omega),show m1.length+1+q-m1.length=q+1 by omega]
     simpa using hq
    obtain ⟨e1,e2⟩:=hmi _ y hq'
    exact ⟨by omega,by rw [e1];exact e2⟩
   have hiL:i<listed.size:=by rw [hc.size];exact hilt
   have hkm:∀ y,y∈m→∀ s,y.kl=some s→(s∈y.o.looksAt ops∨wrB y.o=true)∧∀ j x,ops[j]?=some x→s∈qck ops x∨(s ∉ y.o.looksAt ops∧wrB y.o=true∧wrB x=true)→j≠y.i→(y.i<j→(qgr nd j).testBit y.i=true)∧(j<y.i→(qgr nd y.i).testBit j=true):=fun y hy s hs=>by
    obtain ⟨p1,p2,hp12⟩:=List.append_of_mem hy
    have:=(hop p1 y p2 hp12).2 s hs
    exact ⟨this.1.1,this.2⟩
   have hxm:x∈m:=by rw [hsplit];exact List.mem_append_right _ (List.mem_cons_self ..)
   have ordd:∀ y,y∈m→y.i≠i→ops[y.i]?=some y.o→(∃ t,y.tch t∧(t∈qck ops oi∨x.kl=some t))→(i<y.i→(qgr nd y.i).testBit i=true)∧(y.i<i→(qgr nd i).testBit y.i=true):=fun y hym hne h2 ⟨t,ht,htn⟩=>by
    rcases htn with htn|htn
    ·rcases ht with ht|ht
     ·have:=hg.ord y.i y.o t i oi h2 ht hoi htn (fun e=>hne e)
      exact ⟨this.2,this.1⟩
     ·have:=(hkm y hym t ht).2 i oi hoi (.inl htn) (fun e=>hne e.symm)
      exact ⟨this.2,this.1⟩
    ·have hx1:=hkm x hxm t htn
     rw [hox,ex1] at hx1
     rcases ht with ht|ht
     ·have:=hx1.2 y.i y.o h2 (.inl (List.mem_append_right _ (by rw [ht];simp))) hne
      exact this
     ·by_cases htl:t∈qck ops y.o
      ·exact hx1.2 y.i y.o h2 (.inl htl) hne
      ·have hyd:wrB y.o=true:=(hkm y hym t ht).1.resolve_left fun e=>htl (List.mem_append_left _ e)
       by_cases htx:t∈qck ops oi
       ·have:=(hkm y hym t ht).2 i oi hoi (.inl htx) (fun e=>hne e.symm)
        exact ⟨this.2,this.1⟩
       ·have hxl:t ∉ oi.looksAt ops:=fun e=>htx (List.mem_append_left _ e)
        have hxd:wrB oi=true:=hx1.1.resolve_left hxl
        exact hx1.2 y.i y.o h2 (.inr ⟨hxl,hxd,hyd⟩) hne
   have later:∀ y,y∈m2→(∃ t,y.tch t∧(t∈qck ops oi∨x.kl=some t))→listed.getD y.i false=false:=fun y hy ht=>by
    obtain ⟨h1,h2⟩:=idx2 y hy
    have hym:y∈m:=by rw [hsplit];exact List.mem_append_right _ (List.mem_cons_of_mem _ hy)
    cases hv:listed.getD y.i false with
    | false=>rfl
    | true =>
     have h3:=(ordd y hym (by omega) h2 ht).1 h1
     have h4:=hc.cl _ hv i h3
     rw [qfp hiu] at h4;cases h4
   have earlier:∀ y,y∈m1→(∃ t,y.tch t∧(t∈qck ops oi∨x.kl=some t))→listed.getD y.i false=true:=fun y hy ht=>by
    obtain ⟨h1,h2⟩:=idx1 y hy
    have hym:y∈m:=by rw [hsplit];exact List.mem_append_left _ hy
    have h3:=(ordd y hym (by omega) h2 ht).2 h1
    exact qc2 hg hc hi h3
   have hsame:∀ t,t∈oi.looksAt ops∨x.kl=some t→acc (fun i=>listed.getD i false) m A0 t=acc (fun _=>true) m1 A0 t:=fun t ht=>by
    have htn:t∈qck ops oi∨x.kl=some t:=ht.imp (List.mem_append_left _) id
    rw [hsplit,qdv]
    have h1:acc (fun i=>listed.getD i false) (x :: m2) (acc (fun i=>listed.getD i false) m1 A0) t=acc (fun i=>listed.getD i false) m1 A0 t:=by
     refine qik fun y hy hyt=>?_
     rcases List.mem_cons.1 hy with rfl|hy
     ·show listed.getD y.i false=false
      rw [ex1];exact qfp hiu
     ·exact later y hy ⟨t,hyt,htn⟩
    rw [h1]
    exact qec rfl fun y hy hyt=>earlier y hy ⟨t,hyt,htn⟩
   have hloc:LocOp P ops c L oi (acc (fun i=>listed.getD i false) m A0) x.F x.kl:=by
    have h0:=(hop m1 x m2 hsplit).1
    rw [hox] at h0
    exact h0.congr hsame
   have hkok:∀ s,x.kl=some s→(s∈oi.looksAt ops∨wrB oi=true)∧∃ (ι:Type) (val:ι→Value) (I:ι→Item),acc (fun i=>listed.getD i false) m A0 s=some (.own val I):=fun s hs=>by
    obtain ⟨⟨h1,ι,val,I,h2⟩,_⟩:=(hop m1 x m2 hsplit).2 s hs
    rw [hox] at h1
    exact ⟨h1,ι,val,I,by rw [hsame s (.inr hs)];exact h2⟩
   have hget:∀ j,j≠i→(listed.setIfInBounds i true).getD j false=listed.getD j false:=fun j hj=>getD_set_ne false (Ne.symm hj)
   have hacc:∀ t,qs2 (qgb (acc (fun i=>listed.getD i false) m A0) x.kl) (tgt oi x.kl) x.F t=acc (fun j=>(listed.setIfInBounds i true).getD j false) m A0 t:=fun t=>by
    have hiT:(listed.setIfInBounds i true).getD i false=true:=by simp [hiL]
    have happ:qs2 (qgb (acc (fun i=>listed.getD i false) m A0) x.kl) (tgt oi x.kl) x.F=x.app (acc (fun i=>listed.getD i false) m A0):=by unfold Ent.app;rw [hox]
    rw [happ]
    by_cases hd:x.tch t
    ·rw [hsplit,qdv,qdv]
     simp only [acc]
     rw [ex1,hiT]
     simp only [cond_true]
     have hnm:t∈qck ops oi∨x.kl=some t:=by
      rcases hd with hd|hd
      ·rw [hox] at hd;exact .inl (by unfold qck;rw [hd];simp)
      ·exact .inr hd
     have h2:acc (fun j=>(listed.setIfInBounds i true).getD j false) m2 (x.app (acc (fun j=>(listed.setIfInBounds i true).getD j false) m1 A0)) t=x.app (acc (fun j=>(listed.setIfInBounds i true).getD j false) m1 A0) t:=by
      refine qik fun y hy hyt=>?_
      obtain ⟨h1,_⟩:=idx2 y hy
      rw [hget y.i (by omega)]
      exact later y hy ⟨t,hyt,hnm⟩
     rw [h2]
     exact Ent.app_same (.inl hd)
    ·rw [Ent.app_ne hd]
     refine qec rfl fun y hy hyt=>(hget y.i fun hyi=>?_).symm
     have hyx:y=x:=by
      obtain ⟨q,hq⟩:=List.mem_iff_getElem?.1 hy
      obtain ⟨e1,e2⟩:=hmi q y hq
      have hqi:q=i-k:=by omega
      rw [hqi,hx] at hq
      exact (Option.some.inj hq).symm
     rw [hyx] at hyt
     exact hd hyt
   have hunl:unl ops.size (listed.setIfInBounds i true)=u:=by
    have:=qnq hiL hiu hilt;omega
   obtain ⟨M,hM1,hM2,hM3⟩:=SS.takes (ops:=ops) (o:=oi) (kl:=x.kl) st hkok
   have hnext:∀ φ' v w',x.F.post M φ w φ' (res oi x.kl a v) w'→wpAny P .any ops Q u (listed.setIfInBounds i true) (a.put oi.dst v) w':=fun φ' v w' hpost=>by
    have h9:=(hM3 (tgt oi x.kl) x.F φ' (res oi x.kl a v) w' (fun t ht=>?_) hpost).congr hacc
    ·rw [zai] at h9
     refine ih φ' _ w' _ hunl (hc.set hg hi) (fun j hj=>?_) (fun j hj hj'=>?_) h9
     ·rw [getD_set_ne true (by omega)];exact hlo j hj
     ·rw [getD_set_ne true (by omega)];exact hhi j hj hj'
    ·cases hd:oi.dst with
     | some d =>
      rw [qhb hd] at ht
      injection ht with ht
      subst ht
      have:=qdg hN i oi (by simpa using hoi)
      exact .inl (qe1 this _ hd)
     | none =>
      rw [qsq hd] at ht
      rw [ht,qwf hd]
      exact .inr rfl
   have hfin:=hloc φ a w _ Q M hM1 hM2 (fun t ht B hB=>by
    cases hA:acc (fun i=>listed.getD i false) m A0 t with
    | none=>rw [hA] at hB;cases hB
    | some D =>
     rw [hA] at hB
     cases D with
     | v D => obtain rfl : D = B := by simpa [Out.toV] using hB
              exact st.env t D hA
     | own val I=>cases hB) hnext
   unfold wpOp
   simp only [hoi]
   split
   ·rename_i hw
    rw [hw] at hfin
    exact .inl (by simpa using hfin)
   ·rename_i hw
    have hw':Region.wanted oi (yielded ops a.tmps)=false:=by simpa using hw
    rw [hw'] at hfin
    have hidle:x.kl=none∧x.F.idle φ:=by simpa using hfin
    have hM0:M=[]:=by rw [hidle.1] at hM2;exact hM2
    subst hM0
    refine hnext φ undef w ?_
    rw [hidle.1,qfo]
    cases hF:x.F with
    | v F=>rw [hF] at hidle;exact ⟨HP.start (L:=[]) ⟨st.mem.mem.base,by simp,List.Pairwise.nil⟩,hidle.2⟩
    | own val I=>rw [hF] at hidle;exact hidle.2.elim
  ·have hall:∀ i,i<k+n→listed.getD i true=true:=fun i hi=>by
    cases hv:listed.getD i true with
    | true=>rfl
    | false=>exact absurd ⟨i,hi,hv⟩ hdone
   rw [← hu]
   refine next φ a w listed ⟨hc,fun i hi=>⟨fun h=>?_,fun h=>hall i h⟩⟩ (st.congr fun t=>qec rfl fun x hx _=>?_)
   ·rcases Nat.lt_or_ge i (k+n) with h' | h'
    ·exact h'
    ·have:=hhi i h' hi;rw [h] at this;cases this
   ·obtain ⟨i,hi⟩:=List.mem_iff_getElem?.1 hx
    obtain ⟨e1,e2⟩:=hmi i x hi
    have hlt:k+i<ops.size:=(Array.getElem?_eq_some_iff.1 e2).1
    have hil:i<m.length:=(List.getElem?_eq_some_iff.1 hi).1
    have h1:=hall (k+i) (by omega)
    have h2:k+i<listed.size:=by rw [hc.size];exact hlt
    rw [e1]
    simp [h2] at h1 ⊢;exact h1
abbrev EnvO:=List (Nat×Out)
def qcs:EnvO→Nat→Option Out
 | [],_=>none
 | (k,A) :: E,t=>bif Nat.beq k t then some A else qcs E t
def qki (E:EnvO):Option Tmp→Out→EnvO
 | some d,A=>(d,A) :: E
 | none,_=>E
theorem qi8 (E:EnvO) (d:Option Tmp) (B:Out):qcs (qki E d B)=qs2 (qcs E) d B:=by
 funext t
 cases d with
 | none=>simp [qki,qs2]
 | some d =>
  simp only [qki,qcs,qs2,Option.some.injEq]
  by_cases h:d=t
  ·simp [h]
  ·have:Nat.beq d t=false:=qiq h
   simp [this,h]
def qm2:Env→EnvO
 | []=>[]
 | (k,A) :: E=>(k,.v A) :: qm2 E
theorem qjz:∀ (E:Env) (t:Nat),qcs (qm2 E) t=(look E t).map Out.v
 | [],_=>rfl
 | (k,A) :: E,t=>by
  simp only [qm2,qcs,look]
  cases Nat.beq k t
  ·simpa using qjz E t
  ·rfl
def vals (E:EnvO):Nat→Option VP:=fun t=>(qcs E t).bind Out.toV
def opn:EnvO→(Env→List Item→Prop)→Prop
 | [],K=>K [] []
 | (t,.v F) :: l,K=>opn l fun E M=>K ((t,F) :: E) M
 | (t,.own val I) :: l,K=>∀ i,opn l fun E M=>K ((t,Is (val i)) :: E) (I i :: M)
def qrz:EnvO→List Nat→Bool
 | [],_=>true
 | (t,.v _) :: l,seen=>qrz l (t :: seen)
 | (t,.own _ _) :: l,seen=>(seen.all fun u=>!Nat.beq u t)&&qrz l (t :: seen)
def Out.isOwn:Out→Prop
 | .v _=>False
 | .own _ _=>True
theorem qt6:∀ {EO:EnvO} {seen:List Nat},qrz EO seen=true→(∀ t o,(t,o)∈EO→o.isOwn→t ∉ seen∧qcs EO t=some o)∧EO.Pairwise (fun x y=>y.2.isOwn→x.1≠y.1)
 | [],_,_=>⟨fun _ _ h _=>absurd h (by simp),List.Pairwise.nil⟩
 | (k,F) :: l,seen,h=>by
  have h':qrz l (k :: seen)=true∧(F.isOwn→k ∉ seen):=by
   cases F with
   | v F=>exact ⟨h,fun h=>h.elim⟩
   | own val I =>
    simp only [qrz,Bool.and_eq_true] at h
    refine ⟨h.2,fun _ hm=>?_⟩
    have:=List.all_eq_true.1 h.1 k hm
    simp at this
  obtain ⟨h1,h2⟩:=qt6 (EO:=l) (seen:=k :: seen) h'.1
  refine ⟨fun t o ht ho=>?_,List.pairwise_cons.2 ⟨fun y hy he=>?_,h2⟩⟩
  ·rcases List.mem_cons.1 ht with ht|ht
   ·injection ht with e1 e2
    subst e1 e2
    refine ⟨h'.2 ho,?_⟩
    have:Nat.beq t t=true:=by simp
    simp only [qcs,this,cond_true]
   ·obtain ⟨h3,h4⟩:=h1 t o ht ho
    have hne:k≠t:=fun e=>h3 (by rw [e];exact List.mem_cons_self ..)
    refine ⟨fun h5=>h3 (List.mem_cons_of_mem _ h5),?_⟩
    simp only [qcs,qiq hne,cond_false];exact h4
  ·have:=(h1 y.1 y.2 hy he).1
   exact fun e=>this (by rw [← e];exact List.mem_cons_self ..)
def ownOf (β:Tmp→Item) (x:Nat×Out):Option Item:=match x.2 with|.v _=>none|.own _ _=>some (β x.1)
def qvc (β:Tmp→Item) (EO:EnvO):List Item:=EO.filterMap (ownOf β)
def outV (tm:Value):Out→VP
 | .v F=>F
 | .own _ _=>Is tm
theorem za1 (β:Tmp→Item) (tm:Tmp→Value):∀ {EO:EnvO} {K:Env→List Item→Prop},opn EO K→(∀ (t:Tmp) (ι:Type) (val:ι→Value) (I:ι→Item),(t,Out.own val I)∈EO→∃ i,tm t=val i∧β t=I i) →
  ∃ E,K E (qvc β EO)∧∀ t,look E t=(qcs EO t).map (outV (tm t))
 | [],K,h,_=>⟨[],h,fun _=>rfl⟩
 | (k,.v F) :: l,K,h,hb=>by
  obtain ⟨E,e1,e2⟩:=za1 β tm (EO:=l) h (fun t ι val I ht=>hb t ι val I (List.mem_cons_of_mem _ ht))
  refine ⟨(k,F) :: E,e1,fun t=>?_⟩
  simp only [look,qcs]
  cases hk:Nat.beq k t
  ·exact e2 t
  ·rfl
 | (k,.own val I) :: l,K,h,hb=>by
  obtain ⟨i,h1,h2⟩:=hb k _ val I (List.mem_cons_self ..)
  obtain ⟨E,e1,e2⟩:=za1 β tm (EO:=l) (h i) (fun t ι val I ht=>hb t ι val I (List.mem_cons_of_mem _ ht))
  refine ⟨(k,Is (val i)) :: E,?_,fun t=>?_⟩
  ·have:qvc β ((k,.own val I) :: l)=I i :: qvc β l:=by
    unfold qvc
    rw [List.filterMap_cons]
    show _=I i :: _
    simp only [ownOf,h2]
   rw [this];exact e1
  ·simp only [look,qcs]
   cases hk:Nat.beq k t
   ·exact e2 t
   ·simp only [cond_true,Option.map_some,outV]
    rw [← Nat.eq_of_beq_eq_true hk,h1]
theorem SS.open_ {EO:EnvO} {φ:Fz} {a:Act} {w:World} (h:SS c N (qcs EO) L φ a w) (hb:qrz EO []=true) {K:Env→List Item→Prop} (hk:opn EO K):∃ E M,K E M∧St c N (look E) (M++L) φ a w:=by
 obtain ⟨b1,b2⟩:=qt6 hb
 obtain ⟨β,hβ,hap⟩:=h.own
 obtain ⟨E,e1,e2⟩:=za1 β (fun t=>a.tmps.getD t undef) hk (fun t ι val I ht=>(hβ t ι val I (b1 t _ ht trivial).2).1)
 have hit:∀ it,it∈qvc β EO→∃ (t:Tmp) (ι:Type) (val:ι→Value) (I:ι→Item),qcs EO t=some (.own val I)∧it=β t:=fun it hi=>by
  obtain ⟨⟨t,o⟩,hx,hxo⟩:=List.mem_filterMap.1 hi
  cases o with
  | v F=>cases hxo
  | own val I =>
   refine ⟨t,_,val,I,(b1 t _ hx trivial).2,?_⟩
   injection hxo with hxo
   exact hxo.symm
 refine ⟨E,qvc β EO,e1,h.defers,h.size,fun t B ht=>?_,⟨⟨h.mem.mem.base,fun it hi=>?_,List.pairwise_append.2 ⟨?_,h.mem.mem.sep,fun x hx y hy b hxb hyb=>?_⟩⟩,h.mem.kept,fun b hb=>?_,h.mem.old⟩⟩
 ·rw [e2] at ht
  cases ho:qcs EO t with
  | none=>rw [ho] at ht;cases ht
  | some o =>
   rw [ho] at ht
   simp only [Option.map_some,Option.some.injEq] at ht
   cases o with
   | v F=>dsimp only [outV] at ht;subst ht;exact h.env t F ho
   | own val I=>dsimp only [outV] at ht;subst ht;exact rfl
 ·rcases List.mem_append.1 hi with hi|hi
  ·obtain ⟨t,ι,val,I,h1,rfl⟩:=hit it hi
   exact (hβ t ι val I h1).2.1
  ·exact h.mem.mem.items it hi
 ·unfold qvc
  rw [List.pairwise_filterMap]
  refine List.Pairwise.imp_of_mem ?_ b2
  intro x y hx hy hxy it1 h1 it2 h2
  obtain ⟨t,o⟩:=x
  obtain ⟨t',o'⟩:=y
  cases o with
  | v F=>cases h1
  | own val I =>
   cases o' with
   | v F=>cases h2
   | own val' I' =>
    injection h1 with h1;injection h2 with h2
    subst h1 h2
    exact hap t t' _ _ val I val' I' (hxy trivial) (b1 t _ hx trivial).2 (b1 t' _ hy trivial).2
 ·obtain ⟨t,ι,val,I,h1,rfl⟩:=hit x hx
  exact ((hβ t ι val I h1).2.2 b hxb).2 (mem_names.2 ⟨y,hy,hyb⟩)
 ·rw [qey] at hb
  rcases List.mem_append.1 hb with hb|hb
  ·obtain ⟨x,hx,hxb⟩:=mem_names.1 hb
   obtain ⟨t,ι,val,I,h1,rfl⟩:=hit x hx
   exact ((hβ t ι val I h1).2.2 b hxb).1
  ·exact h.mem.mine b hb
def JD (P:Program) (ops:Array Oper) (Q:Exit→Act→World→Prop) (c:Ctx) (N:Nat) (nd:List Nat) (k:Nat) (rest:List Oper) (E:Env) (L:List Item):Prop:=
 Good ops nd→qgm (fun _ o=>qrs N o.dst) ops.toList 0=true→k+rest.length=ops.size→(∀ i,rest[i]?=ops[k+i]?)→∀ φ a w listed,Pre ops nd k listed→St c N (look E) L φ a w→wpAny P .any ops Q (unl ops.size listed) listed a w
def qo7 (E:EnvO):Option Tmp→EnvO
 | none=>E
 | some s=>E.filter fun x=>!Nat.beq x.1 s
theorem qj0:∀ (E:EnvO) (d:Option Tmp),qcs (qo7 E d)=qgb (qcs E) d
 | E,none=>by funext t;simp [qo7,qgb]
 | E,some s=>by
  funext t
  show qcs (E.filter fun x=>!Nat.beq x.1 s) t=_
  induction E with
  | nil=>unfold qgb;split <;> rfl
  | cons x E ih =>
   obtain ⟨k,A⟩:=x
   by_cases hst:(some s:Option Tmp)=some t
   ·injection hst with hst
    subst hst
    rw [qli] at ih ⊢
    simp only [List.filter_cons]
    by_cases hks:Nat.beq k s=true
    ·rw [hks];exact ih
    ·rw [Bool.eq_false_iff.mpr hks]
     simp only [Bool.not_false,if_true,qcs,Bool.eq_false_iff.mpr hks,cond_false]
     exact ih
   ·rw [qii hst] at ih ⊢
    simp only [List.filter_cons,qcs]
    by_cases hks:Nat.beq k s=true
    ·rw [hks]
     have hkt:Nat.beq k t=false:=qiq fun e=>hst (by rw [← Nat.eq_of_beq_eq_true hks,e])
     rw [hkt];simpa using ih
    ·rw [Bool.eq_false_iff.mpr hks]
     simp only [Bool.not_false,if_true,qcs]
     cases Nat.beq k t
     ·exact ih
     ·rfl
def killB (ops:Array Oper) (nd:List Nat) (k:Nat) (s:Tmp):Bool:=
 qgm (fun j x=>Nat.beq k j || !((qck ops x).any fun t=>Nat.beq t s)||(bif Nat.blt k j then (qgr nd j).testBit k else (qgr nd k).testBit j)) ops.toList 0
theorem qpy {nd:List Nat} {k:Nat} {s:Tmp} (h:killB ops nd k s=true):∀ j x,ops[j]?=some x→s∈qck ops x→j≠k→(k<j→(qgr nd j).testBit k=true)∧(j<k→(qgr nd k).testBit j=true):=by
 intro j x hj hx hne
 have h3:=qdg h j x (by simpa using hj)
 simp only [Nat.zero_add,Bool.or_eq_true] at h3
 have hkj:Nat.beq k j=false:=qiq (Ne.symm hne)
 have hany:((qck ops x).any fun t=>Nat.beq t s)=true:=List.any_eq_true.2 ⟨s,hx,by simp⟩
 rw [hkj,hany] at h3
 simp only [Bool.false_eq_true,Bool.not_true,false_or] at h3
 constructor
 ·intro hlt
  have:Nat.blt k j=true:=by simpa using hlt
  rw [this] at h3;exact h3
 ·intro hlt
  have:Nat.blt k j=false:=qp7 (by omega)
  rw [this] at h3;exact h3
def qv9 (ops:Array Oper) (nd:List Nat) (k:Nat) (o:Oper) (s:Tmp):Bool:=
 ((o.looksAt ops).any fun t=>Nat.beq t s)||qgm (fun j x=>Nat.beq k j || !wrB x||(bif Nat.blt k j then (qgr nd j).testBit k else (qgr nd k).testBit j)) ops.toList 0
theorem qu0 {nd:List Nat} {k:Nat} {s:Tmp} {o:Oper} (h:qv9 ops nd k o s=true) (hs:s ∉ o.looksAt ops):∀ j x,ops[j]?=some x→wrB x=true→j≠k→(k<j→(qgr nd j).testBit k=true)∧(j<k→(qgr nd k).testBit j=true):=by
 intro j x hj hx hne
 unfold qv9 at h
 have h0:((o.looksAt ops).any fun t=>Nat.beq t s)=false:=by
  cases hv:((o.looksAt ops).any fun t=>Nat.beq t s) with
  | false=>rfl
  | true =>
   exfalso
   obtain ⟨t,h1,h2⟩:=List.any_eq_true.1 hv
   exact hs (by rw [← Nat.eq_of_beq_eq_true h2];exact h1)
 rw [h0,Bool.false_or] at h
 have h3:=qdg h j x (by simpa using hj)
 simp only [Nat.zero_add,Bool.or_eq_true] at h3
 have hkj:Nat.beq k j=false:=qiq (Ne.symm hne)
 rw [hkj,hx] at h3
 simp only [Bool.false_eq_true,Bool.not_true,false_or] at h3
 constructor
 ·intro hlt
  have:Nat.blt k j=true:=by simpa using hlt
  rw [this] at h3;exact h3
 ·intro hlt
  have:Nat.blt k j=false:=qp7 (by omega)
  rw [this] at h3;exact h3
def JW (P:Program) (ops:Array Oper) (Q:Exit→Act→World→Prop) (c:Ctx) (N:Nat) (nd:List Nat) (k:Nat):Nat→List Oper→EnvO→List Item→Prop
 | 0,rest,EO,L=>qrz EO []=true∧opn EO fun E M=>JD P ops Q c N nd k rest E (M++L)
 | _+1,[],_,_=>False
 | n+1,o :: rest,EO,L=>∃ F kl,qke ops nd k o (qcs EO) kl∧LocOp P ops c L o (qcs EO) F kl∧JW P ops Q c N nd (k+1) n rest (qki (qo7 EO kl) (tgt o kl) F) L
theorem JW.locW {Q:Exit→Act→World→Prop} {nd:List Nat}:∀ {n k:Nat} {rest:List Oper} {E:EnvO},JW P ops Q c N nd k n rest E L →
  n≤rest.length∧LocW P ops c L nd (fun A=>∃ E',qcs E'=A∧qrz E' []=true∧opn E' fun E M=>JD P ops Q c N nd (k+n) (rest.drop n) E (M++L)) (rest.take n) k (qcs E)
 | 0,k,rest,E,h=>⟨Nat.zero_le _,by simp only [List.take_zero,LocW];exact ⟨E,rfl,h⟩⟩
 | n+1,k,[],E,h=>h.elim
 | n+1,k,o :: rest,E,⟨F,kl,h0,h1,h2⟩=>by
  obtain ⟨h3,h4⟩:=JW.locW h2
  refine ⟨by simp;omega,?_⟩
  rw [List.take_succ_cons]
  refine ⟨F,kl,h0,h1,?_⟩
  rw [qi8,qj0] at h4
  rw [show k+(n+1)=k+1+n by omega,List.drop_succ_cons]
  exact h4
theorem SS.start {E:Env} {φ:Fz} {a:Act} {w:World} (h:St c N (look E) L φ a w):SS c N (qcs (qm2 E)) L φ a w:=by
 have hn:∀ (t:Tmp) (ι:Type) (val:ι→Value) (I:ι→Item),qcs (qm2 E) t≠some (.own val I):=fun t ι val I ht=>by
  rw [qjz] at ht
  cases hl:look E t with
  | none=>rw [hl] at ht;cases ht
  | some B=>rw [hl] at ht;cases ht
 refine ⟨h.defers,h.size,fun t B ht=>?_,h.mem,fun _=>fact undef Top,fun t ι val I ht=>absurd ht (hn t ι val I),fun t t' ι ι' val I val' I' _ ht=>absurd ht (hn t ι val I)⟩
 rw [qjz] at ht
 cases hl:look E t with
 | none=>rw [hl] at ht;cases ht
 | some D =>
  rw [hl] at ht
  simp only [Option.map_some,Option.some.injEq,Out.v.injEq] at ht
  subst ht
  exact h.env t D hl
theorem qag {Q:Exit→Act→World→Prop} {nd:List Nat} {k:Nat} (n:Nat) {rest:List Oper} {E:Env} (hS:qk8 nd ops.size k n=true) (h:JW P ops Q c N nd k n rest (qm2 E) L):JD P ops Q c N nd k rest E L:=by
 intro hg hN hk hrest φ a w listed hp st
 obtain ⟨hn,hw⟩:=JW.locW h
 obtain ⟨m,e1,e2,e3,E',e4,e5,e6⟩:=LocW.out hw
 have hlen:k+n≤ops.size:=by omega
 have hml:m.length=n:=by rw [e1,List.length_take];omega
 refine qz6 (Q:=Q) hg hN hS hlen hml (fun i x hx=>?_) e3 ?_ _ φ a w listed rfl hp.cl (fun i hi=>?_) (fun i hi hi'=>?_) ((SS.start st).congr fun t=>?_)
 ·obtain ⟨h1,h2⟩:=e2 i x hx
  have hil:i<m.length:=(List.getElem?_eq_some_iff.1 hx).1
  rw [List.getElem?_take_of_lt (by omega),hrest i] at h2
  exact ⟨h1,h2⟩
 ·intro φ' a' w' listed' hp' st'
  rw [← e4] at st'
  obtain ⟨E2,M,h1,h2⟩:=st'.open_ e5 e6
  refine h1 hg hN (by rw [List.length_drop];omega) (fun i=>?_) φ' a' w' listed' hp' h2
  rw [List.getElem?_drop,hrest,Nat.add_assoc]
 ·exact (hp.pre i (by omega)).2 hi
 ·cases hv:listed.getD i true with
  | false=>rfl
  | true=>have:=(hp.pre i hi').1 hv;omega
 ·refine (qik fun x hx _=>?_).symm
  obtain ⟨i,hi⟩:=List.mem_iff_getElem?.1 hx
  have hil:i<m.length:=(List.getElem?_eq_some_iff.1 hi).1
  obtain ⟨h1,_⟩:=e2 i x hi
  rw [h1]
  have hlt:k+i<ops.size:=by omega
  refine qfp ?_
  cases hv:listed.getD (k+i) true with
  | false=>rfl
  | true=>have:=(hp.pre (k+i) hlt).1 hv;omega
def qmt:Nat→List Item→EnvO
 | _,[]=>[]
 | t,it :: its=>(t,.own (fun _:Unit=>undef) (fun _=>it)) :: qmt (t+1) its
theorem qma:∀ {its:List Item} {t0 t:Nat} {o:Out} {E:EnvO},qcs (qmt t0 its++E) t=some o→(∃ j it,t=t0+j∧its[j]?=some it∧o = .own (fun _:Unit=>undef) (fun _=>it))∨qcs E t=some o
 | [],_,_,_,_,h=>.inr h
 | it :: its,t0,t,o,E,h=>by
  simp only [qmt,List.cons_append,qcs] at h
  cases hk:Nat.beq t0 t with
  | true =>
   rw [hk] at h
   simp only [cond_true,Option.some.injEq] at h
   exact .inl ⟨0,it,by rw [← Nat.eq_of_beq_eq_true hk];rfl,rfl,h.symm⟩
  | false =>
   rw [hk] at h
   rcases qma (its:=its) (E:=E) h with ⟨j,x,h1,h2,h3⟩|h1
   ·exact .inl ⟨j+1,x,by omega,by simpa using h2,h3⟩
   ·exact .inr h1
theorem SS.startG {E:Env} {φ:Fz} {a:Act} {w:World} {its:List Item} (h:St c N (look E) (its++L) φ a w):SS c N (qcs (qmt N its++qm2 E)) L φ a w:=by
 have hlift:∀ (t:Tmp) (o:Out),qcs (qm2 E) t=some o→∃ B,look E t=some B∧o = .v B:=fun t o ht=>by
  rw [qjz] at ht
  cases hl:look E t with
  | none=>rw [hl] at ht;cases ht
  | some B=>rw [hl] at ht;simp only [Option.map_some,Option.some.injEq] at ht;exact ⟨B,rfl,ht.symm⟩
 have hown:∀ (t:Tmp) (ι:Type) (val:ι→Value) (I:ι→Item),qcs (qmt N its++qm2 E) t=some (.own val I)→∃ j it,t=N+j∧its[j]?=some it∧(∃ i,undef=val i∧it=I i):=fun t ι val I ht=>by
  rcases qma ht with ⟨j,it,h1,h2,h3⟩|h1
  ·cases h3
   exact ⟨j,it,h1,h2,(),rfl,rfl⟩
  ·obtain ⟨B,_,h2⟩:=hlift _ _ h1
   cases h2
 have hsep:=List.pairwise_append.1 h.mem.mem.sep
 refine ⟨h.defers,h.size,fun t B ht=>?_,⟨⟨h.mem.mem.base,fun it hi=>h.mem.mem.items it (List.mem_append_right _ hi),hsep.2.1⟩,h.mem.kept,fun b hb=>h.mem.mine b (by rw [qey];exact List.mem_append_right _ hb),h.mem.old⟩,
  fun t=>(its[t-N]?).getD (fact undef Top),fun t ι val I ht=>?_,fun t t' ι ι' val I val' I' hne ht ht'=>?_⟩
 ·rcases qma ht with ⟨j,it,h1,h2,h3⟩|h1
  ·cases h3
  ·obtain ⟨D,h2,h3⟩:=hlift _ _ h1
   injection h3 with h3
   subst h3
   exact h.env t _ h2
 ·obtain ⟨j,it,rfl,h2,i,h3,h4⟩:=hown t ι val I ht
  have e:its[N+j-N]?=some it:=by rw [Nat.add_sub_cancel_left];exact h2
  have hmem:it∈its:=List.mem_of_getElem? h2
  simp only [e,Option.getD_some]
  refine ⟨⟨i,?_,h4⟩,h.mem.mem.items it (List.mem_append_left _ hmem),fun b hb=>⟨h.mem.mine b (by rw [qey];exact List.mem_append_left _ (mem_names.2 ⟨it,hmem,hb⟩)),fun hbl=>?_⟩⟩
  ·rw [← h3]
   have hs:=h.size
   simp only [Array.getD,hs]
   rw [dif_neg (by omega)]
  ·obtain ⟨y,hy,hyb⟩:=mem_names.1 hbl
   exact hsep.2.2 it hmem y hy b hb hyb
 ·obtain ⟨j,it,rfl,h2,_⟩:=hown t ι val I ht
  obtain ⟨j',it',rfl,h2',_⟩:=hown t' ι' val' I' ht'
  have e:its[N+j-N]?=some it:=by rw [Nat.add_sub_cancel_left];exact h2
  have e':its[N+j'-N]?=some it':=by rw [Nat.add_sub_cancel_left];exact h2'
  simp only [e,e',Option.getD_some]
  obtain ⟨l1,g1⟩:=List.getElem?_eq_some_iff.1 h2
  obtain ⟨l2,g2⟩:=List.getElem?_eq_some_iff.1 h2'
  have hp:=List.pairwise_iff_getElem.1 hsep.1
  rcases Nat.lt_trichotomy j j' with hlt|heq|hgt
  ·have:=hp j j' l1 l2 hlt
   rw [g1,g2] at this;exact this
  ·exact absurd (by rw [heq]) hne
  ·have:=hp j' j l2 l1 hgt
   rw [g1,g2] at this
   exact fun b hb hb'=>this b hb' hb
theorem qdj {its:List Item} {Q:Exit→Act→World→Prop} {nd:List Nat} {k:Nat} (n:Nat) {rest:List Oper} {E:Env} (hS:qk8 nd ops.size k n=true) (h:JW P ops Q c N nd k n rest (qmt N its++qm2 E) L):JD P ops Q c N nd k rest E (its++L):=by
 intro hg hN hk hrest φ a w listed hp st
 obtain ⟨hn,hw⟩:=JW.locW h
 obtain ⟨m,e1,e2,e3,E',e4,e5,e6⟩:=LocW.out hw
 have hlen:k+n≤ops.size:=by omega
 have hml:m.length=n:=by rw [e1,List.length_take];omega
 refine qz6 (Q:=Q) hg hN hS hlen hml (fun i x hx=>?_) e3 ?_ _ φ a w listed rfl hp.cl (fun i hi=>?_) (fun i hi hi'=>?_) ((SS.startG st).congr fun t=>?_)
 ·obtain ⟨h1,h2⟩:=e2 i x hx
  have hil:i<m.length:=(List.getElem?_eq_some_iff.1 hx).1
  rw [List.getElem?_take_of_lt (by omega),hrest i] at h2
  exact ⟨h1,h2⟩
 ·intro φ' a' w' listed' hp' st'
  rw [← e4] at st'
  obtain ⟨E2,M,h1,h2⟩:=st'.open_ e5 e6
  refine h1 hg hN (by rw [List.length_drop];omega) (fun i=>?_) φ' a' w' listed' hp' h2
  rw [List.getElem?_drop,hrest,Nat.add_assoc]
 ·exact (hp.pre i (by omega)).2 hi
 ·cases hv:listed.getD i true with
  | false=>rfl
  | true=>have:=(hp.pre i hi').1 hv;omega
 ·refine (qik fun x hx _=>?_).symm
  obtain ⟨i,hi⟩:=List.mem_iff_getElem?.1 hx
  have hil:i<m.length:=(List.getElem?_eq_some_iff.1 hi).1
  obtain ⟨h1,_⟩:=e2 i x hi
  rw [h1]
  have hlt:k+i<ops.size:=by omega
  refine qfp ?_
  cases hv:listed.getD (k+i) true with
  | false=>rfl
  | true=>have:=(hp.pre (k+i) hlt).1 hv;omega
theorem qat {Q:Exit→Act→World→Prop} {nd:List Nat} {k:Nat} {E:Env} (h:JQ c N E L Q .normal):JD P ops Q c N nd k [] E L:=by
 intro hg hN hk hrest φ a w listed hp st
 have hall:∀ i,i<ops.size→listed.getD i true=true:=fun i hi=>(hp.pre i hi).2 (by simp at hk;omega)
 refine wpAny_done ?_ (h φ a w st) _
 cases hr:Region.ready .any ops listed with
 | nil=>rfl
 | cons i l =>
  exfalso
  have hm:i∈Region.ready .any ops listed:=by rw [hr];exact List.mem_cons_self ..
  obtain ⟨h1,o,ho,_⟩:=mem_ready.1 hm
  rw [hall i (Array.getElem?_eq_some_iff.1 ho).1] at h1
  cases h1
theorem JD_step {Q:Exit→Act→World→Prop} {nd:List Nat} {k:Nat} {o:Oper} {rest:List Oper} {E:Env} (ha:qoo nd ops.size (k+1) k=true)
  (hs:∀ φ a w,St c N (look E) L φ a w→∀ K:Act→World→Prop,(∀ a' w',(∃ E' L' φ',JD P ops Q c N nd (k+1) rest E' L'∧St c N (look E') L' φ' a' w')→K a' w')→wpOp P ops Q k K a w):JD P ops Q c N nd k (o :: rest) E L:=by
 intro hg hN hk hrest φ a w listed hp st
 simp only [List.length_cons] at hk
 have hkl:k<ops.size:=by omega
 have hku:listed.getD k true=false:=by
  cases hv:listed.getD k true with
  | false=>rfl
  | true=>have:=(hp.pre k hkl).1 hv;omega
 have hks:k<listed.size:=by rw [hp.cl.size];exact hkl
 have hr:k∈Region.ready .any ops listed:=qfc hg hp.cl.size hkl hku fun j hj=>(hp.pre j (by omega)).2 hj
 have hone:∀ i,i∈Region.ready .any ops listed→i=k:=fun i hi=>by
  obtain ⟨h1,oi,hoi,_⟩:=mem_ready.1 hi
  have hil:i<ops.size:=(Array.getElem?_eq_some_iff.1 hoi).1
  rcases Nat.lt_trichotomy i k with hlt|heq|hgt
  ·rw [(hp.pre i hil).2 hlt] at h1;cases h1
  ·exact heq
  ·exfalso
   have h2:=List.all_eq_true.1 ha i (List.mem_range.2 hil)
   rw [qp7 (by omega),Bool.false_or] at h2
   have h3:=qc2 hg hp.cl hi h2
   rw [qfp hku] at h3;cases h3
 have hu:=qnq hks hku hkl
 rw [← hu]
 refine ⟨fun h0=>(by rw [h0] at hr;cases hr),fun i hi=>?_⟩
 obtain rfl:=hone i hi
 refine hs φ a w st _ ?_
 rintro a' w' ⟨E',L',φ',h1,h2⟩
 refine h1 hg hN (by omega) (fun j=>?_) φ' a' w' _ ⟨hp.cl.set hg hr,fun j hj=>?_⟩ h2
 ·have:=hrest (j+1)
  rw [List.getElem?_cons_succ] at this
  rw [this];congr 1;omega
 ·by_cases hji:i=j
  ·subst hji
   simp [hks]
  ·rw [getD_set_ne true hji,hp.pre j hj];omega
theorem JD_op {Q:Exit→Act→World→Prop} {nd:List Nat} {k:Nat} {o:Oper} {rest:List Oper} {E:Env} {ι:Type} {F:ι→VP} {L':ι→List Item} (ha:qoo nd ops.size (k+1) k=true) (hko:ops[k]?=some o) (hg:o.guard=none) (hd:qrs N o.dst=true)
  (hs:OpS P c o (look E) L F L') (h:∀ i,JD P ops Q c N nd (k+1) rest (qyg E o.dst (F i)) (L' i)):JD P ops Q c N nd k (o :: rest) E L:=by
 refine JD_step ha fun φ a w st K hK=>?_
 unfold wpOp
 simp only [hko]
 rw [if_pos (by simp [Region.wanted,hg])]
 refine .inl (hs φ a w K Q st.mem (fun x _ B hx=>st.ev hx) fun i φ' v w' hle hv hm=>hK _ _ ⟨_,_,φ',h i,?_⟩)
 rw [qez]
 exact st.put (qe1 hd) hle hv hm
theorem JD_op1 {Q:Exit→Act→World→Prop} {nd:List Nat} {k:Nat} {o:Oper} {rest:List Oper} {E:Env} {F:VP} (ha:qoo nd ops.size (k+1) k=true) (hko:ops[k]?=some o) (hg:o.guard=none) (hd:qrs N o.dst=true)
  (hs:OpP P c o (look E) L F) (h:JD P ops Q c N nd (k+1) rest (qyg E o.dst F) L):JD P ops Q c N nd k (o :: rest) E L:=JD_op ha hko hg hd hs.toS fun _=>h
theorem JC_draw {Q:Exit→Act→World→Prop} {id:Nat} {l:List Oper} {E:Env} (nd:List Nat) (hm:P.follows .mixedOrders=true) (hB:(goodB l.toArray nd&&ordB l.toArray nd&&qgm (fun _ o=>qrs N o.dst) l 0)=true)
  (h:JD P l.toArray Q c N nd 0 l E L):JC P c N (Code.region id l.toArray true) E L Q:=by
 intro φ a w st
 simp only [Bool.and_eq_true] at hB
 refine wp_region_any hm ?_
 have h1:=h (good_of hB.1.1 hB.1.2) (by simpa using hB.2) (by simp) (fun i=>by simp) φ a { w with drawn:=w.drawn+1 } (Array.replicate l.toArray.size false)
  ⟨⟨by simp,fun i hi=>(by rw [getD_replicate_false] at hi;cases hi)⟩,fun i hi=>⟨fun h=>(by rw [getD_in (by simpa using hi) (getD_replicate_false _ _)] at h;cases h),fun h=>by omega⟩⟩
  ⟨st.defers,st.size,st.env,st.mem.drew⟩
 have hu:unl l.toArray.size (Array.replicate l.toArray.size false)=l.toArray.size:=by
  unfold unl
  have:∀ n,n≤l.toArray.size→(List.range n).countP (fun i=>!(Array.replicate l.toArray.size false).getD i true)=n:=fun n=>by
   intro hn
   rw [List.countP_eq_length.2 (fun i hi=>by
    have:i<n:=List.mem_range.1 hi
    rw [getD_in (by simp at hn ⊢;omega) (getD_replicate_false _ _)];rfl),List.length_range]
  exact this _ (Nat.le_refl _)
 rw [hu] at h1
 exact h1
section
variable {Q:Exit→Act→World→Prop} {nd:List Nat} {k n:Nat} {o:Oper} {rest:List Oper} {E:EnvO}
theorem evs {o:Oper} {A:Nat→Option Out} {φ:Fz} {a:Act} (f:qzc φ L) (hl:∀ t,t∈o.looksAt ops→∀ B,(A t).bind Out.toV=some B→B.ok φ (a.tmps.getD t undef)) :
  ∀ x,x∈o.op.operands→∀ B,Ev (fun t=>(A t).bind Out.toV) L x B→B.ok φ (a.eval x):=fun x hx B hB =>
 ev_of f (fun t ht D hD=>hl t (qtk (by rw [← ht];exact hx)) D hD) hB
theorem qe0 {A:Nat→Option Out}:qke ops nd k o A none:=fun s hs=>by cases hs
theorem JW_0 {F:Out} (h0:LocOp P ops c L o (qcs E) F none) (h:JW P ops Q c N nd (k+1) n rest (qki E o.dst F) L):JW P ops Q c N nd k (n+1) (o :: rest) E L:=⟨F,none,qe0,h0,by rw [qjr];exact h⟩
theorem JW_op {F:VP} (hg:o.guard=none) (hs:OpP P c o (vals E) L F) (h:JW P ops Q c N nd (k+1) n rest (qki E o.dst (.v F)) L):JW P ops Q c N nd k (n+1) (o :: rest) E L:=by
 refine JW_0 (F:=.v F) (fun φ a w K Q M hm ht hl hk=>?_) h
 rw [if_pos (by simp [Region.wanted,hg])]
 obtain rfl:M=[]:=ht
 exact hs φ a w K Q hm (evs hm.mem.facts hl) fun φ' v w' hp hf=>hk φ' v w' (by rw [qfo];exact ⟨hp,hf⟩)
def OpN (P:Program) (c:Ctx) (o:Oper) (A:Nat→Option VP) (L:List Item) {ι:Type} (val:ι→Value) (I:ι→Item):Prop:=
 ∀ φ a w K Q,HP c φ L w→(∀ x,x∈o.op.operands→∀ B,Ev A L x B→B.ok φ (a.eval x)) →
  (∀ i φ' w',HP ⟨w,φ,[],[]⟩ φ' [I i] w'→K (a.put o.dst (val i)) w')→o.wp P a w K Q
theorem OpN.toS {o:Oper} {A:Nat→Option VP} {ι:Type} {val:ι→Value} {I:ι→Item} (h:OpN P c o A L val I):OpS P c o A L (fun i=>Is (val i)) (fun i=>I i :: L):=
 fun φ a w K Q hm he hk=>h φ a w K Q hm he fun i φ' w' hp=>hk i φ' _ w' (hp.fle hm.mem.base) rfl (hm.new hp)
theorem JW_new {ι:Type} {val:ι→Value} {I:ι→Item} (hg:o.guard=none) (hs:OpN P c o (vals E) L val I) (h:JW P ops Q c N nd (k+1) n rest (qki E o.dst (.own val I)) L):JW P ops Q c N nd k (n+1) (o :: rest) E L:=by
 refine JW_0 (F:=.own val I) (fun φ a w K Q M hm ht hl hk=>?_) h
 rw [if_pos (by simp [Region.wanted,hg])]
 obtain rfl:M=[]:=ht
 exact hs φ a w K Q hm (evs hm.mem.facts hl) fun i φ' w' hp=>hk φ' _ w' ⟨i,qfo _ _ _,hp⟩
def OpT (P:Program) (c:Ctx) (o:Oper) (A:Nat→Option VP) (L:List Item) (s:Tmp) {κ:Type} (val:κ→Value) (I:κ→Item) {ι:Type} (val':ι→Value) (I':ι→Item):Prop:=
 ∀ φ a w K Q i,HP c φ (I i :: L) w→a.tmps.getD s undef=val i→(∀ x,x∈o.op.operands→∀ B,Ev A L x B→B.ok φ (a.eval x)) →
  (∀ i' φ' w',HP ⟨w,φ,qb4 [I i],[]⟩ φ' [I' i'] w'→K (a.put o.dst (val' i')) w')→o.wp P a w K Q
theorem qd1 {s:Tmp} {κ:Type} {val:κ→Value} {I:κ→Item} {ι:Type} {val':ι→Value} {I':ι→Item} (hg:o.guard=none) {d:Tmp} (hd:o.dst=some d) (hl:qcs E s=some (.own val I)) (hm:((o.looksAt ops).any fun t=>Nat.beq t s)=true) (hB:killB ops nd k s=true)
  (hs:OpT P c o (vals E) L s val I val' I') (h:JW P ops Q c N nd (k+1) n rest (qki (qo7 E (some s)) o.dst (.own val' I')) L):JW P ops Q c N nd k (n+1) (o :: rest) E L:=by
 have hmem:s∈o.looksAt ops:=by
  obtain ⟨t,h1,h2⟩:=List.any_eq_true.1 hm
  rw [← Nat.eq_of_beq_eq_true h2];exact h1
 refine ⟨.own val' I',some s,fun s' hs'=>?_,fun φ a w K Q M hm ht hlk hk=>?_,by rw [qhb hd];rw [hd] at h;exact h⟩
 ·injection hs' with hs'
  subst hs'
  exact ⟨⟨.inl hmem,_,val,I,hl⟩,fun j x h1 h2 h3=>qpy hB j x h1 (h2.resolve_right fun e=>e.1 hmem) h3⟩
 ·rw [if_pos (by simp [Region.wanted,hg])]
  obtain ⟨_,κ',val0,I0,i,h1,h2,rfl⟩:=ht
  rw [hl] at h1
  injection h1 with h1
  cases h1
  exact hs φ a w K Q i hm h2 (evs (fun it hi=>hm.mem.facts it (List.mem_cons_of_mem _ hi)) hlk) fun i' φ' w' hp=>hk φ' _ w' ⟨i',qwe hd _ _ _,hp⟩
def OpW (P:Program) (c:Ctx) (o:Oper) (A:Nat→Option VP) (L:List Item) (s:Tmp) {κ:Type} (val:κ→Value) (I I':κ→Item):Prop:=
 ∀ φ a w K Q i,HP c φ (I i :: L) w→a.tmps.getD s undef=val i→(∀ x,x∈o.op.operands→∀ B,Ev A L x B→B.ok φ (a.eval x)) →
  (∀ φ' v w',HP ⟨w,φ,qb4 [I i],[]⟩ φ' [I' i] w'→K (a.put o.dst v) w')→o.wp P a w K Q
theorem qcp {s:Tmp} {κ:Type} {val:κ→Value} {I I':κ→Item} (hg:o.guard=none) (hd:o.dst=none) (hl:qcs E s=some (.own val I)) (hB:(killB ops nd k s&&qv9 ops nd k o s)=true)
  (hs:OpW P c o (vals E) L s val I I') (h:JW P ops Q c N nd (k+1) n rest ((s,.own val I') :: qo7 E (some s)) L):JW P ops Q c N nd k (n+1) (o :: rest) E L:=by
 simp only [Bool.and_eq_true] at hB
 refine ⟨.own val I',some s,fun s' hs'=>?_,fun φ a w K Q M hm ht hlk hk=>?_,by rw [qsq hd];exact h⟩
 ·injection hs' with hs'
  subst hs'
  exact ⟨⟨.inr (by unfold wrB;rw [hd];rfl),_,val,I,hl⟩,fun j x h1 h2 h3=>h2.elim (fun h2=>qpy hB.1 j x h1 h2 h3) (fun h2=>qu0 hB.2 h2.1 j x h1 h2.2.2 h3)⟩
 ·rw [if_pos (by simp [Region.wanted,hg])]
  obtain ⟨_,κ',val0,I0,i,h1,h2,rfl⟩:=ht
  rw [hl] at h1
  injection h1 with h1
  cases h1
  exact hs φ a w K Q i hm h2 (evs (fun it hi=>hm.mem.facts it (List.mem_cons_of_mem _ hi)) hlk) fun φ' v w' hp=>hk φ' v w' ⟨i,by rw [qwf hd];exact h2,hp⟩
theorem qc6 {s:Tmp} {it it':Item} {F:Unit→VP} (hg:o.guard=none) (hd:o.dst=none) (hl:qcs E s=some (.own (fun _:Unit=>undef) (fun _=>it))) (hB:(killB ops nd k s&&qv9 ops nd k o s)=true)
  (hs:∀ c':Ctx,OpS P c' o (vals E) [it] F (fun _=>[it'])) (h:JW P ops Q c N nd (k+1) n rest ((s,.own (fun _:Unit=>undef) (fun _=>it')) :: qo7 E (some s)) L):JW P ops Q c N nd k (n+1) (o :: rest) E L:=by
 refine qcp (κ:=Unit) (val:=fun _=>undef) (I:=fun _=>it) (I':=fun _=>it') hg hd hl hB (fun φ a w K Q i hm h0 he hk=>?_) h
 have hm1:HP ⟨w,φ,qb4 [it],[]⟩ φ [it] w:=HP.start ⟨hm.mem.base,fun x hx=>by rw [List.mem_singleton] at hx;subst hx;exact hm.mem.items _ (List.mem_cons_self ..),List.pairwise_singleton _ _⟩
 refine hs ⟨w,φ,qb4 [it],[]⟩ φ a w K Q hm1 (fun x hx B hB=>?_) fun _ φ' v w' _ _ hm'=>hk φ' v w' hm'
 obtain ⟨D,h1,h2⟩:=hB
 exact h2 _ _ hm1.mem.facts (he x hx D (.rfl' h1))
theorem gval {A:Nat→Option Out} {φ:Fz} {a:Act} {j:Nat} {want:Bool} {g:Tmp} (hg:o.guard=some (j,want)) (hj:(ops[j]?).bind (·.dst)=some g)
  (hl:∀ t,t∈o.looksAt ops→∀ B,(A t).bind Out.toV=some B→B.ok φ (a.tmps.getD t undef)) {B:VP} (hB:(A g).bind Out.toV=some B):B.ok φ (a.tmps.getD g undef):=
 hl g (qyw (by unfold gtmp;rw [hg];exact hj)) B hB
theorem JW_if {j:Nat} {want p b:Bool} {g:Tmp} {F:VP} (hg:o.guard=some (j,want)) (hj:(ops[j]?).bind (·.dst)=some g) (hl:vals E g=some (qdn p (Is (.bool b)) (Is undef)))
  (hs:p=true→(b==want)=true→OpP P c o (vals E) L F) (h:JW P ops Q c N nd (k+1) n rest (qki E o.dst (.v (qdn (p&&(b==want)) F (Is undef)))) L):JW P ops Q c N nd k (n+1) (o :: rest) E L:=by
 refine JW_0 (fun φ a w K Q M hm ht hlk hk=>?_) h
 obtain rfl:M=[]:=ht
 have h0:(qdn p (Is (.bool b)) (Is undef)).ok φ (a.tmps.getD g undef):=gval hg hj hlk hl
 cases hp:p with
 | false =>
  rw [hp] at h0
  rw [if_neg (by rw [qk3 hg hj h0];simp)]
  exact ⟨rfl,(rfl:undef=undef)⟩
 | true =>
  rw [hp] at h0
  have hw:=qgz (a:=a) hg hj h0
  cases hbw:(b==want) with
  | false =>
   rw [if_neg (by rw [hw,hbw];simp)]
   exact ⟨rfl,(rfl:undef=undef)⟩
  | true =>
   rw [if_pos (by rw [hw,hbw])]
   refine hs hp hbw φ a w K Q hm (evs hm.mem.facts hlk) fun φ' v w' hpp hf=>hk φ' v w' ⟨hpp,?_⟩
   rw [qfo,hp,hbw];exact hf
theorem JW_if0 {j:Nat} {want b:Bool} {g:Tmp} {F:VP} (hg:o.guard=some (j,want)) (hj:(ops[j]?).bind (·.dst)=some g) (hl:vals E g=some (Is (.bool b)))
  (hs:(b==want)=true→OpP P c o (vals E) L F) (h:JW P ops Q c N nd (k+1) n rest (qki E o.dst (.v (qdn (b==want) F (Is undef)))) L):JW P ops Q c N nd k (n+1) (o :: rest) E L:=by
 refine JW_0 (fun φ a w K Q M hm ht hlk hk=>?_) h
 obtain rfl:M=[]:=ht
 have hw:=qgz (a:=a) hg hj (gval hg hj hlk hl)
 cases hbw:(b==want) with
 | false =>
  rw [if_neg (by rw [hw,hbw];simp)]
  exact ⟨rfl,(rfl:undef=undef)⟩
 | true =>
  rw [if_pos (by rw [hw,hbw])]
  refine hs hbw φ a w K Q hm (evs hm.mem.facts hlk) fun φ' v w' hpp hf=>hk φ' v w' ⟨hpp,?_⟩
  rw [qfo,hbw];exact hf
end
end
end Go.Proofs.YtmgoplaamlignaaGreat
