/- Texts laid together: walks of functions, what they compute, and plain laws of it. Own work. -/
import Derived.Test.YtmgoplaamlignaaGreatK1
namespace Go.Proofs.YtmgoplaamlignaaGreat
open Go.RowKit Tryz
set_option linter.unusedVariables false
set_option linter.unusedSimpArgs false
set_option maxRecDepth 100000
set_option maxHeartbeats 4000000
theorem qiq {d t:Nat} (h:d≠t):Nat.beq d t=false:=by
 cases hb:Nat.beq d t with
 | false=>rfl
 | true=>exact absurd (Nat.eq_of_beq_eq_true hb) h
abbrev Env:=List (Nat×VP)
def look:Env→Nat→Option VP
 | [],_=>none
 | (k,A) :: E,t=>bif Nat.beq k t then some A else look E t
def evA (A:Nat→Option VP):Operand→Option VP
 | .tmp t=>A t
 | .const v=>some (Is v)
 | .global g=>some (Is (.pointer (some ⟨g,0,none⟩)))
 | .func f=>some (Is (.func (.func f) #[] #[]))
def ev (E:Env):Operand→Option VP
 | .tmp t=>look E t
 | .const v=>some (Is v)
 | .global g=>some (Is (.pointer (some ⟨g,0,none⟩)))
 | .func f=>some (Is (.func (.func f) #[] #[]))
def qyg (E:Env):Option Tmp→VP→Env
 | some d,A=>(d,A) :: E
 | none,_=>E
def qsi (A:Nat→Option VP) (d:Option Tmp) (B:VP):Nat→Option VP:=fun t=>if d=some t then some B else A t
theorem qez (E:Env) (d:Option Tmp) (B:VP):look (qyg E d B)=qsi (look E) d B:=by
 funext t
 cases d with
 | none=>simp [qyg,qsi]
 | some d =>
  simp only [qyg,look,qsi,Option.some.injEq]
  by_cases h:d=t
  ·simp [h]
  ·have:Nat.beq d t=false:=qiq h
   simp [this,h]
def qzc (φ:Fz) (L:List Item):Prop:=∀ it,it∈L→it.at_=none→it.ok φ none
theorem Mem.facts {φ:Fz} {L:List Item} {w:World} (h:Mem φ L w):qzc φ L:=fun it hi ha=>by
 have:=(h.items it hi).1
 rw [ha] at this
 exact this
def fact (v:Value) (B:VP):Item:=⟨none,fun φ _=>B.ok φ v,fun h k=>B.mono h k⟩
def SubL (L:List Item) (A B:VP):Prop:=∀ φ v,qzc φ L→A.ok φ v→B.ok φ v
theorem SubL.rfl' {L:List Item} {A:VP}:SubL L A A:=fun _ _ _ h=>h
theorem SubL.tr {L:List Item} {A B C:VP} (h:SubL L A B) (h':SubL L B C):SubL L A C:=fun φ v f e=>h' φ v f (h φ v f e)
theorem SubL.fact {L:List Item} {v:Value} {B:VP} (h:fact v B∈L):SubL L (Is v) B:=fun φ u f e=>by
 have e':u=v:=e
 subst e'
 exact f _ h rfl
def SubLs (L:List Item):List VP→List VP→Prop
 | [],[]=>True
 | A :: As,B :: Bs=>SubL L A B∧SubLs L As Bs
 | _,_=>False
theorem SubLs.rfl' {L:List Item}:∀ {As:List VP},SubLs L As As
 | []=>trivial
 | _ :: _=>⟨SubL.rfl',SubLs.rfl'⟩
theorem SubLs.alls {L:List Item} {φ:Fz} (f:qzc φ L):∀ {As Bs:List VP} {vs:List Value},SubLs L As Bs→Alls φ As vs→Alls φ Bs vs
 | [],[],[],_,_=>trivial
 | A :: As,B :: Bs,v :: vs,⟨h1,h2⟩,⟨h3,h4⟩=>⟨h1 _ _ f h3,SubLs.alls f h2 h4⟩
theorem SubL.agg {L:List Item} {As Bs:List VP} (h:SubLs L As Bs):SubL L (IsAgg As) (IsAgg Bs):=fun φ v f ⟨vs,e,k,k1⟩=>⟨vs,e,h.alls f k,k1⟩
theorem SubL.tup {L:List Item} {As Bs:List VP} (h:SubLs L As Bs):SubL L (qbv As) (qbv Bs):=fun φ v f ⟨vs,e,k⟩=>⟨vs,e,h.alls f k⟩
theorem qhl {φ:Fz}:∀ (vs:List Value),Alls φ (vs.map Is) vs
 | []=>trivial
 | _ :: vs=>⟨rfl,qhl vs⟩
theorem qhd {vs:List Value} (h:(vs.all Value.oneCell')=true):ones vs:=fun u hu=>List.all_eq_true.1 h u hu
theorem SubL.lit {L:List Item} {vs:List Value} {Bs:List VP} (h1:(vs.all Value.oneCell')=true) (h:SubLs L (vs.map Is) Bs):SubL L (Is (.agg vs.toArray)) (IsAgg Bs):=fun φ v f e=>⟨vs,e,h.alls f (qhl vs),qhd h1⟩
theorem SubL.nil {L:List Item} {α:Type} {T:Ty α}:SubL L (Is (.slice none 0 0)) (qal T []):=fun φ v f e=>⟨none,0,0,e,rfl,Nat.le_refl _,Nat.zero_le _,.inl rfl⟩
theorem SubL.top {L:List Item} {A:VP}:SubL L A Top:=fun _ _ _ _=>trivial
theorem SubL.iteT {L:List Item} {p:Bool} {A B C:VP} (hp:p=true) (h:SubL L A C):SubL L (qdn p A B) C:=fun φ v f e=>by
 subst hp
 exact h φ v f e
def Ev (A:Nat→Option VP) (L:List Item) (x:Operand) (B:VP):Prop:=∃ D,evA A x=some D∧SubL L D B
theorem Ev.rfl' {A:Nat→Option VP} {L:List Item} {x:Operand} {B:VP} (h:evA A x=some B):Ev A L x B:=⟨B,h,SubL.rfl'⟩
theorem er {A : Nat → Option VP} {L : List Item} {x : Operand} {B : VP} (h : evA A x = some B) : Ev A L x B := Ev.rfl' h
theorem Ev.sub {A:Nat→Option VP} {L:List Item} {x:Operand} {D B:VP} (h:evA A x=some D) (hs:SubL L D B):Ev A L x B:=⟨D,h,hs⟩
structure St (c:Ctx) (N:Nat) (A:Nat→Option VP) (L:List Item) (φ:Fz) (a:Act) (w:World):Prop where
 defers:a.defers=c.ds
 size:a.tmps.size=N
 env:∀ t B,A t=some B→B.ok φ (a.tmps.getD t undef)
 mem:HP c φ L w
theorem ev_of {A:Nat→Option VP} {L:List Item} {φ:Fz} {a:Act} {x:Operand} (f:qzc φ L) (h:∀ t,x = .tmp t→∀ B,A t=some B→B.ok φ (a.tmps.getD t undef)) {B:VP} (hx:Ev A L x B):B.ok φ (a.eval x):=by
 obtain ⟨D,hx,hs⟩:=hx
 refine hs _ _ f ?_
 cases x with
 | tmp t=>exact h t rfl D hx
 | const v=>injection hx with hx;subst hx;exact rfl
 | global g=>injection hx with hx;subst hx;exact rfl
 | func f=>injection hx with hx;subst hx;exact rfl
theorem St.ev {c:Ctx} {N:Nat} {A:Nat→Option VP} {L:List Item} {φ:Fz} {a:Act} {w:World} (h:St c N A L φ a w) {x:Operand} {B:VP} (hx:Ev A L x B):B.ok φ (a.eval x):=ev_of h.mem.mem.facts (fun t _ D hD=>h.env t D hD) hx
theorem Act.put_size (a:Act) (d:Option Tmp) (v:Value):(a.put d v).tmps.size=a.tmps.size:=by cases d <;> simp [Act.put]
theorem Act.put_defs (a:Act) (d:Option Tmp) (v:Value):(a.put d v).defers=a.defers:=by cases d <;> rfl
theorem St.put {c:Ctx} {N:Nat} {A:Nat→Option VP} {L L':List Item} {φ φ':Fz} {a:Act} {w w':World} (h:St c N A L φ a w) {d:Option Tmp} {B:VP} {v:Value} (hd:∀ t,d=some t→t<N)
  (hle:Fle φ φ') (hB:B.ok φ' v) (hm:HP c φ' L' w'):St c N (qsi A d B) L' φ' (a.put d v) w':=by
 refine ⟨by rw [Act.put_defs];exact h.defers,by rw [Act.put_size];exact h.size,fun t D hD=>?_,hm⟩
 unfold qsi at hD
 split at hD
 ·rename_i hdt
  injection hD with hD
  subst hD
  have hlt:t<a.tmps.size:=by rw [h.size];exact hd t hdt
  subst hdt
  have:(a.put (some t) v).tmps.getD t undef=v:=by simp [Act.put,hlt]
  rw [this];exact hB
 ·rename_i hdt
  have:(a.put d v).tmps.getD t undef=a.tmps.getD t undef:=by
   cases d with
   | none=>rfl
   | some d =>
    have hne:d≠t:=fun e=>hdt (by rw [e])
    simp [Act.put,Array.getElem?_setIfInBounds_ne hne]
  rw [this]
  exact D.mono hle (h.env t D hD)
def OpS (P:Program) (c:Ctx) (o:Oper) (A:Nat→Option VP) (L:List Item) {ι:Type} (F:ι→VP) (L':ι→List Item):Prop:=
 ∀ φ a w K Q,HP c φ L w→(∀ x,x∈o.op.operands→∀ B,Ev A L x B→B.ok φ (a.eval x)) →
  (∀ i φ' v w',Fle φ φ'→(F i).ok φ' v→HP c φ' (L' i) w'→K (a.put o.dst v) w')→o.wp P a w K Q
def OpP (P:Program) (c:Ctx) (o:Oper) (A:Nat→Option VP) (L:List Item) (F:VP):Prop:=
 ∀ φ a w K Q,HP c φ L w→(∀ x,x∈o.op.operands→∀ B,Ev A L x B→B.ok φ (a.eval x)) →
  (∀ φ' v w',HP ⟨w,φ,[],[]⟩ φ' [] w'→F.ok φ' v→K (a.put o.dst v) w')→o.wp P a w K Q
theorem OpP.toS {P:Program} {c:Ctx} {o:Oper} {A:Nat→Option VP} {L:List Item} {F:VP} (h:OpP P c o A L F):OpS P c o A L (fun _:Unit=>F) (fun _=>L):=
 fun φ a w K Q hm he hk=>h φ a w K Q hm he fun φ' v w' hp hf=>hk () φ' v w' (hp.fle hm.mem.base) hf (by simpa using hm.new hp)
def JL (P:Program) (ops:Array Oper) (Q:Exit→Act→World→Prop) (c:Ctx) (N:Nat) (rest:List Oper) (E:Env) (L:List Item):Prop:=
 ∀ φ a w,St c N (look E) L φ a w→wpList P ops Q rest a w
def JC (P:Program) (c:Ctx) (N:Nat) (code:Code) (E:Env) (L:List Item) (Q:Exit→Act→World→Prop):Prop:=
 ∀ φ a w,St c N (look E) L φ a w→code.wp P Q a w
def JQ (c:Ctx) (N:Nat) (E:Env) (L:List Item) (Q:Exit→Act→World→Prop) (e:Exit):Prop:=
 ∀ φ a w,St c N (look E) L φ a w→Q e a w
section
variable {P:Program} {ops:Array Oper} {Q:Exit→Act→World→Prop} {c:Ctx} {N:Nat} {rest:List Oper} {E:Env} {L:List Item} {o:Oper}
def qrs (N:Nat):Option Tmp→Bool
 | some d=>Nat.blt d N
 | none=>true
theorem qe1 {N:Nat} {d:Option Tmp} (h:qrs N d=true):∀ t,d=some t→t<N:=by
 rintro t rfl
 simpa [qrs] using h
theorem JL_op {ι:Type} {F:ι→VP} {L':ι→List Item} (hg:o.guard=none) (hd:qrs N o.dst=true) (hs:OpS P c o (look E) L F L') (h:∀ i,JL P ops Q c N rest (qyg E o.dst (F i)) (L' i)):JL P ops Q c N (o :: rest) E L:=by
 intro φ a w st
 refine wpList_plain hg fun K hK=>hs φ a w K Q st.mem (fun x _ B hx=>st.ev hx) fun i φ' v w' hle hv hm=>hK _ _ (h i φ' _ _ ?_)
 rw [qez]
 exact st.put (qe1 hd) hle hv hm
theorem JL_op1 {F:VP} (hg:o.guard=none) (hd:qrs N o.dst=true) (hs:OpP P c o (look E) L F) (h:JL P ops Q c N rest (qyg E o.dst F) L):JL P ops Q c N (o :: rest) E L:=
 JL_op hg hd hs.toS fun _=>h
theorem JL_nil (h:JQ c N E L Q .normal):JL P ops Q c N [] E L:=fun φ a w st=>h φ a w st
theorem qgz {a:Act} {j:Nat} {want b:Bool} {g:Tmp} (hg:o.guard=some (j,want)) (hj:(ops[j]?).bind (·.dst)=some g) (hv:a.tmps.getD g undef = .bool b):Region.wanted o (yielded ops a.tmps)=(b==want):=by
 have hv':a.tmps[g]?=some (.bool b):=by
  rw [← hv]
  cases h:a.tmps[g]? with
  | none =>
   exfalso
   rw [Array.getD_eq_getD_getElem?,h] at hv
   simp [undef] at hv
  | some u=>rw [Array.getD_eq_getD_getElem?,h];rfl
 unfold Region.wanted
 rw [hg]
 simp only [yielded,hj,hv',Option.bind_some]
 cases b <;> cases want <;> rfl
theorem JL_no {j:Nat} {want b:Bool} {g:Tmp} (hg:o.guard=some (j,want)) (hj:(ops[j]?).bind (·.dst)=some g) (hl:look E g=some (Is (.bool b))) (hd:qrs N o.dst=true) (hb:(b==want)=false) (h:JL P ops Q c N rest (qyg E o.dst (Is undef)) L):JL P ops Q c N (o :: rest) E L:=by
 intro φ a w st
 have hw:=qgz (a:=a) hg hj (st.env g _ hl)
 unfold wpList
 rw [hw,hb]
 simp only [Bool.false_eq_true,if_false]
 refine h φ _ _ ?_
 rw [qez]
 exact st.put (qe1 hd) Fle.rfl' rfl st.mem
theorem JL_yes {j:Nat} {want b:Bool} {g:Tmp} {ι:Type} {F:ι→VP} {L':ι→List Item} (hg:o.guard=some (j,want)) (hj:(ops[j]?).bind (·.dst)=some g) (hl:look E g=some (Is (.bool b))) (hd:qrs N o.dst=true) (hb:(b==want)=true)
  (hs:OpS P c o (look E) L F L') (h:∀ i,JL P ops Q c N rest (qyg E o.dst (F i)) (L' i)):JL P ops Q c N (o :: rest) E L:=by
 intro φ a w st
 have hw:=qgz (a:=a) hg hj (st.env g _ hl)
 unfold wpList
 rw [hw,hb]
 simp only [if_true]
 refine .inl (hs φ a w _ _ st.mem (fun x _ B hx=>st.ev hx) fun i φ' v w' hle hv hm=>h i φ' _ _ ?_)
 rw [qez]
 exact st.put (qe1 hd) hle hv hm
theorem qk3 {a:Act} {j:Nat} {want:Bool} {g:Tmp} (hg:o.guard=some (j,want)) (hj:(ops[j]?).bind (·.dst)=some g) (hv:a.tmps.getD g undef=undef):Region.wanted o (yielded ops a.tmps)=false:=by
 unfold Region.wanted
 rw [hg]
 simp only [yielded,hj,Option.bind_some]
 rw [Array.getD_eq_getD_getElem?] at hv
 cases h:a.tmps[g]? with
 | none=>rfl
 | some u =>
  rw [h] at hv
  simp only [Option.getD_some] at hv
  subst hv
  rfl
theorem JL_if {j:Nat} {want p b:Bool} {g:Tmp} {F:VP} (hg:o.guard=some (j,want)) (hj:(ops[j]?).bind (·.dst)=some g) (hl:look E g=some (qdn p (Is (.bool b)) (Is undef))) (hd:qrs N o.dst=true)
  (hs:p=true→(b==want)=true→OpP P c o (look E) L F) (h:JL P ops Q c N rest (qyg E o.dst (qdn (p&&(b==want)) F (Is undef))) L):JL P ops Q c N (o :: rest) E L:=by
 intro φ a w st
 have h0:(qdn p (Is (.bool b)) (Is undef)).ok φ (a.tmps.getD g undef):=st.env g _ hl
 have no:(p&&(b==want))=false→Region.wanted o (yielded ops a.tmps)=false→wpList P ops Q (o :: rest) a w:=fun hpb hw=>by
  unfold wpList
  rw [hw]
  simp only [Bool.false_eq_true,if_false]
  refine h φ _ _ ?_
  rw [qez]
  exact st.put (qe1 hd) Fle.rfl' (by rw [hpb];exact (rfl:undef=undef)) st.mem
 cases hp:p with
 | false =>
  rw [hp] at h0
  exact no (by rw [hp];rfl) (qk3 hg hj h0)
 | true =>
  rw [hp] at h0
  have hw:=qgz (a:=a) hg hj h0
  cases hbw:(b==want) with
  | false=>exact no (by rw [hbw,Bool.and_false]) (by rw [hw,hbw])
  | true =>
   unfold wpList
   rw [hw,hbw]
   simp only [if_true]
   refine .inl ((hs hp hbw).toS φ a w _ _ st.mem (fun x _ B hx=>st.ev hx) fun i φ' v w' hle hv hm=>h φ' _ _ ?_)
   rw [qez]
   exact st.put (qe1 hd) hle (by rw [hp,hbw];exact hv) hm
theorem JL_if0 {j:Nat} {want b:Bool} {g:Tmp} {F:VP} (hg:o.guard=some (j,want)) (hj:(ops[j]?).bind (·.dst)=some g) (hl:look E g=some (Is (.bool b))) (hd:qrs N o.dst=true)
  (hs:(b==want)=true→OpP P c o (look E) L F) (h:JL P ops Q c N rest (qyg E o.dst (qdn (b==want) F (Is undef))) L):JL P ops Q c N (o :: rest) E L:=by
 intro φ a w st
 cases hbw:(b==want) with
 | false =>
  rw [hbw] at h
  refine JL_no hg hj hl hd hbw (fun φ a w st=>h φ a w ?_) φ a w st
  refine ⟨st.defers,st.size,fun t B hB=>?_,st.mem⟩
  rw [qez] at hB
  have st':=st.env
  rw [qez] at st'
  unfold qsi at hB st'
  by_cases hdt:o.dst=some t
  ·rw [if_pos hdt] at hB
   injection hB with hB
   subst hB
   have:=st' t (Is undef) (by rw [if_pos hdt])
   exact this
  ·rw [if_neg hdt] at hB
   exact st' t B (by rw [if_neg hdt];exact hB)
 | true =>
  rw [hbw] at h
  refine JL_yes (F:=fun _:Unit=>F) (L':=fun _=>L) hg hj hl hd hbw (hs hbw).toS (fun _ φ a w st=>h φ a w ?_) φ a w st
  refine ⟨st.defers,st.size,fun t B hB=>?_,st.mem⟩
  rw [qez] at hB
  have st':=st.env
  rw [qez] at st'
  unfold qsi at hB st'
  by_cases hdt:o.dst=some t
  ·rw [if_pos hdt] at hB
   injection hB with hB
   subst hB
   have:=st' t F (by rw [if_pos hdt])
   exact this
  ·rw [if_neg hdt] at hB
   exact st' t B (by rw [if_neg hdt];exact hB)
theorem zda {id:Nat} {l:List Oper} (h:JL P l.toArray Q c N l E L):JC P c N (Code.region id l.toArray false) E L Q:=fun φ a w st=>wp_region_lit (h φ a w st)
theorem qx3 {x y:Code} (h:JC P c N x E L (Exit.then (y.wp P Q) Q)):JC P c N (Code.seq x y) E L Q:=fun φ a w st=>wp_seq (h φ a w st)
theorem zc9 (h:JQ c N E L Q .normal):JC P c N Code.skip E L Q:=fun φ a w st=>wp_skip (h φ a w st)
theorem JC_block {id:Nat} {x:Code} (h:JC P c N x E L (Exit.inBlock id Q)):JC P c N (Code.block id x) E L Q:=fun φ a w st=>wp_block (h φ a w st)
theorem JC_exit {id:Nat} (h:JQ c N E L Q (.exit id)):JC P c N (Code.exit id) E L Q:=fun φ a w st=>wp_exit (h φ a w st)
theorem JC_ret (h:JQ c N E L Q .ret):JC P c N Code.ret E L Q:=fun φ a w st=>wp_ret (h φ a w st)
theorem zdb {x:Operand} {y z:Code} {b:Bool} (hx:Ev (look E) L x (Is (.bool b))) (ht:b=true→JC P c N y E L Q) (hf:b=false→JC P c N z E L Q):JC P c N (Code.cond x y z) E L Q:=fun φ a w st =>
 wp_cond_split (st.ev hx) (fun h=>ht h φ a w st) (fun h=>hf h φ a w st)
theorem qou {y:Code} {Q':Exit→Act→World→Prop} (h:JC P c N y E L Q):JQ c N E L (Exit.then (y.wp P Q) Q') .normal:=h
theorem quh {id:Nat} {K:Act→World→Prop} (h:JQ c N E L Q (.exit id)):JQ c N E L (Exit.then K Q) (.exit id):=h
theorem qv3 {K:Act→World→Prop} (h:JQ c N E L Q .ret):JQ c N E L (Exit.then K Q) .ret:=h
theorem JQ_block {id:Nat} (h:JQ c N E L Q .normal):JQ c N E L (Exit.inBlock id Q) .normal:=h
theorem qui {id:Nat} (h:JQ c N E L Q .ret):JQ c N E L (Exit.inBlock id Q) .ret:=h
theorem quj {id id':Nat} (hid:Nat.beq id' id=true) (h:JQ c N E L Q .normal):JQ c N E L (Exit.inBlock id Q) (.exit id'):=fun φ a w st=>by
 have e:id'=id:=Nat.eq_of_beq_eq_true hid
 simp only [Exit.inBlock,e,if_true]
 exact h φ a w st
theorem qsg {id id':Nat} (hid:Nat.beq id' id=false) (h:JQ c N E L Q (.exit id')):JQ c N E L (Exit.inBlock id Q) (.exit id'):=fun φ a w st=>by
 have e:id'≠id:=Nat.ne_of_beq_eq_false hid
 simp only [Exit.inBlock,e,if_false]
 exact h φ a w st
def ESub (L:List Item) (E:Env):Env→Prop
 | []=>True
 | (t,B) :: E'=>(∃ A,look E t=some A∧SubL L A B)∧ESub L E E'
theorem ESub.look {L:List Item} {E:Env}:∀ {E':Env} {t:Nat} {B:VP},ESub L E E'→Go.Proofs.YtmgoplaamlignaaGreat.look E' t=some B→∃ A,Go.Proofs.YtmgoplaamlignaaGreat.look E t=some A∧SubL L A B
 | [],_,_,_,h=>by cases h
 | (k,D) :: E',t,B,⟨h1,h2⟩,h=>by
  simp only [Go.Proofs.YtmgoplaamlignaaGreat.look] at h
  by_cases hk:Nat.beq k t=true
  ·rw [hk] at h
   simp only [cond_true,Option.some.injEq] at h
   subst h
   rw [← Nat.eq_of_beq_eq_true hk];exact h1
  ·have hk':Nat.beq k t=false:=Bool.eq_false_iff.mpr hk
   rw [hk'] at h
   exact ESub.look h2 (by simpa using h)
theorem St.less {E E':Env} {L L':List Item} {φ:Fz} {a:Act} {w:World} (h:St c N (look E) L φ a w) (hE:ESub L E E') (hL:L'.Sublist L):St c N (look E') L' φ a w:=
 ⟨h.defers,h.size,fun t B hB=>let ⟨A,h1,h2⟩:=hE.look hB;h2 _ _ h.mem.mem.facts (h.env t A h1),h.mem.less hL⟩
def Meet (c:Ctx) (N:Nat) {ι:Type} (I:ι→Prop) (Ef:ι→Env) (Lf:ι→List Item) (a:Act) (w:World):Prop:=∃ i φ,I i∧St c N (look (Ef i)) (Lf i) φ a w
def Round (c:Ctx) (N:Nat) {ι:Type} (I:ι→Prop) (Ef:ι→Env) (Lf:ι→List Item) (μ:ι→Nat) (n:Nat) (a:Act) (w:World):Prop:=∃ i φ,I i∧μ i<n∧St c N (look (Ef i)) (Lf i) φ a w
theorem qgn {x:Code} {α:Type} {T:Ty α} {xs:List α} {t:Tmp} (hl:look E t=some (qal T xs)) (h:xs.length≤9223372036854775807→JC P c N x E L Q):JC P c N x E L Q:=fun φ a w st=>by
 obtain ⟨ad,n,cp,h1,h2,h3,h4,_⟩:=st.env t _ hl
 exact h (by unfold maxLen at h4;omega) φ a w st
def argE:Nat→List VP→Env
 | _,[]=>[]
 | k,A :: As=>(k,A) :: argE (k+1) As
theorem qlr {φ:Fz} {a:Array Value}:∀ (As:List VP) (vs:List Value) (k:Nat),Alls φ As vs→(∀ j,j<vs.length→a.getD (k+j) undef=vs.getD j undef)→∀ t B,look (argE k As) t=some B→B.ok φ (a.getD t undef)
 | [],[],_,_,_,_,_,h=>by cases h
 | A :: As,v :: vs,k,⟨h1,h2⟩,ha,t,B,h=>by
  simp only [argE,look] at h
  by_cases hk:Nat.beq k t=true
  ·rw [hk] at h
   simp only [cond_true,Option.some.injEq] at h
   subst h
   rw [← Nat.eq_of_beq_eq_true hk]
   have:=ha 0 (by simp)
   simp only [Nat.add_zero,List.getD_cons_zero] at this
   rw [this];exact h1
  ·have hk':Nat.beq k t=false:=Bool.eq_false_iff.mpr hk
   rw [hk'] at h
   refine qlr As vs (k+1) h2 (fun j hj=>?_) t B (by simpa using h)
   have:=ha (j+1) (by simp;omega)
   rw [show k+1+j=k+(j+1) by omega,this]
   simp
def qus (c:Ctx) {ι:Type} (R:ι→VP) (L':ι→List Item) (e:Ending) (w':World):Prop:=∃ i v φ',e = .returned v∧(R i).ok φ' v∧HP c φ' (L' i) w'
theorem Fn.enter {f:FuncId} {fn:Func} {x:Code} {As:List VP} {ι:Type} {R:ι→VP} {L':ι→List Item} (hf:P.funcs[f]?=some fn) (hb:fn.body=some x) (hn:Nat.ble As.length fn.ntmps=true)
  (h:∀ c:Ctx,(c.X=qb4 L∧c.ds=[])→JC P c fn.ntmps x (argE 0 As) L (bodyPost P fn (qus c R L'))):Fn P f As L R L':=by
 intro φ w vs hA hm
 have hlen:=hA.len
 have hn':As.length≤fn.ntmps:=Nat.le_of_ble_eq_true hn
 refine calls_of_wp hf hb (h ⟨w,φ,qb4 L,[]⟩ ⟨rfl,rfl⟩ φ _ w ⟨rfl,?_,?_,HP.start hm⟩)
 ·simp only [Array.size_append,List.size_toArray,Array.size_replicate];omega
 ·refine qlr As vs 0 hA fun j hj=>?_
  simp only [Nat.zero_add]
  rw [Array.getD_eq_getD_getElem?,Array.getElem?_append_left (by simpa using hj),List.getD_eq_getElem?_getD]
  simp
theorem qa4 {fn:Func} {ι:Type} {R:ι→VP} {L':ι→List Item} {t:Tmp} {A:VP} (hr:fn.results=#[.tmp t]) (hl:look E t=some A) (i:ι) (hs:SubL L A (R i)) (hL:(L' i).Sublist L) (hD0:c.ds=[]:=by first|assumption|exact And.right (by assumption)):JQ c N E L (bodyPost P fn (qus c R L')) .ret:=fun φ a w st =>
 bodyPost_ret (results_tmp hr _ P w) (st.defers.trans hD0) ⟨i,_,φ,rfl,hs _ _ st.mem.mem.facts (st.env t A hl),st.mem.less hL⟩
end
end Go.Proofs.YtmgoplaamlignaaGreat
