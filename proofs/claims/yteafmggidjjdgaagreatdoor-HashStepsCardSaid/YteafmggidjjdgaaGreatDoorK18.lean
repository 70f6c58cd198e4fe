/- Walks of functions and plain laws, laid together. Own work. -/
import Derived.Lib.Overlaps
import Derived.Lib.AppendZerosOnto
import Derived.Test.YteafmggidjjdgaaGreatDoorK17
namespace Go.Proofs.YteafmggidjjdgaaGreatDoor
open Go.RowKit Tryz
set_option linter.unusedVariables false
set_option linter.unusedSimpArgs false
set_option maxRecDepth 100000
set_option maxHeartbeats 4000000
def W3 (s:S23):Prop:=s.writes.length<=3∧(s.writes.map Pg.l).Nodup
theorem qsc {n:List Int} {o:O23} {b:Bool}:W3 ⟨n,[],o,b⟩:=⟨nZ _,List.nodup_nil⟩
theorem qlp (o:O23) (c:Int):W3 (qe9 o c):=qsc
theorem w3_nd (l:List Int):W3 (quz l):=qsc
theorem qyo {n:List Int} {o:O23} {b:Bool} {p:Pg}:W3 ⟨n,[p],o,b⟩:=⟨show 1<=3 by omega,by simp⟩
theorem zck {n:List Int} {o:O23} {b:Bool} {p q:Pg} (h:p.l≠q.l):W3 ⟨n,[p,q],o,b⟩:=⟨show 2<=3 by omega,by simpa using h⟩
theorem qyp {P:P23} {f:S23} (h:W3 f):W3 (qmw P f):=by
 unfold qmw;split
 ·exact w3_nd _
 ·split
  ·exact qlp _ _
  ·exact h
theorem zcl {o:O23} {p:Pt} {D:Pg×Bool×Int} {f:Pg->S23} (h:D.2.2=0->D.2.1=true->W3 (f D.1)):W3 (qqr o p D f):=by
 unfold qqr;split
 ·exact qlp _ _
 ·rename_i h1;split
  ·exact w3_nd _
  ·rename_i h2;split
   ·exact qlp _ _
   ·exact h (by simpa using h1) (by simpa using h2)
theorem qsa {p:Pg} (r:Rt) (h:p.l=96):(qdp p r).1.l<=96:=by
 unfold qdp;split
 ·show (0:Int)<=96;decide
 ·show p.l<=96;omega
theorem lk_ln {ks:List Pg} {a:Pt} {k:Int} {o:Bool} (h0:(lkV ks a k o).2.2=0) (h1:(lkV ks a k o).2.1=true):104<=(lkV ks a k o).1.l:=by
 obtain ⟨f1,f2,f3,f4,f5⟩:=lk_at h0 h1;rw [f2,qs0 f5];exact (validP_iff.1 f1).1
theorem w3_isp {P:P23} {e:En} {fr:List Pg}:W3 (ispS P e fr):=by
 unfold ispS;split
 ·exact qyo
 ·split
  ·exact qlp _ _
  ·unfold ispV;split
   ·split <;> exact qlp _ _
   ·split
    ·exact qlp _ _
    ·rename_i h;unfold ispW;refine zck fun e=>h ?_;have e':P.page.l=((frP fr [2]).1.getD 0 Pg.nil).l:=e;rw [e'];simp
theorem w3_em {key:BitVec 32} {to:Pt} {fr:List Pg} {p:Pg} (hp:p.l=96):W3 (emV key to p (frP fr [2,3])):=by
 unfold emV;split
 ·split <;> exact qlp _ _
 ·rename_i h;obtain ⟨a,b,hab,ha,hb,hne⟩:=fr2 (fr:=fr) (by simpa using h);rw [hab];refine ⟨Nat.le_refl _,?_⟩;have h3:=qsa ⟨atR a,0,atR b,Pt.nil,Pt.nil,Pt.nil⟩ hp;have h4:=ha.ln;have h5:=hb.ln;show [a.l,b.l,(qdp p ⟨atR a,0,atR b,Pt.nil,Pt.nil,Pt.nil⟩).1.l].Nodup;simp only [List.nodup_cons,List.mem_cons,List.not_mem_nil,or_false,not_or,not_false_eq_true,List.nodup_nil,and_true];exact ⟨⟨hne,om⟩,om⟩
theorem w3_gwX {p:Pg} {r:Rt} {k:Nat} {s:S8} {fr:List Pg} (hp:p.l=96):W3 (gwX p r k s (frP fr [3])):=by
 unfold gwX;split
 ·split <;> exact qlp _ _
 ·rename_i h;obtain ⟨ha,_⟩:=fr1 (fr:=fr) (z:=3) de (by simpa using h);refine zck ?_;have h3:=qsa (qt9 r k (atR ((frP fr [3]).1.getD 0 Pg.nil))) hp;have h4:=ha.ln;show ((frP fr [3]).1.getD 0 Pg.nil).l≠_;omega
theorem w3_gwN {fr ks:List Pg} {p:Pg} {r:Rt} {m:Nat} (hp:p.l=96):∀ n k,W3 (qs4 fr ks p r m n k)
 | 0,_=>qyo
 | n+1,k=>by
  unfold qs4;split
  ·exact w3_gwN hp n (k+1)
  ·exact zcl fun _ _=>w3_gwX hp
theorem w3_gw {fr ks:List Pg} {p:Pg} {r:Rt} (hp:p.l=96):W3 (gwQ fr ks p r):=by
 unfold gwQ;split
 ·exact qlp _ _
 ·split
  ·exact qlp _ _
  ·split
   ·refine zcl fun h0 h1=>?_;unfold gwV;refine zck ?_;have h3:=qsa { r with depth:=r.depth+1 } hp;have h4:=lk_ln h0 h1;show (lkV ks r.p0 3 true).1.l≠_;omega
   ·exact w3_gwN hp _ _
theorem w3_rp {h:BitVec 32} {ks:List Pg} {r:Rt}:W3 (rpQ h ks r):=by
 unfold rpQ;split
 ·exact qlp _ _
 ·refine qyp (zcl fun _ _=>?_);unfold rpT;split
  ·exact qsc
  ·exact qyo
theorem w3_abs {p:Pg} {c:Int}:W3 (ql8 p c):=by
 unfold ql8;split <;> exact qlp _ _
theorem w3_op {kind:Int} {key:BitVec 32} {to:Pt} {fr ks:List Pg} {p:Pg} {r:Rt} {P:P23} (hp:p.l=96):W3 (opS kind key to fr ks p r P):=by
 unfold opS;split
 ·split
  ·exact w3_abs
  ·refine qyp ?_;unfold zb7;split <;> exact qsc
 ·split
  ·split
   ·split
    ·exact qlp _ _
    ·exact w3_em hp
   ·refine qyp ?_;unfold adY;split
    ·exact qlp _ _
    ·exact w3_isp
  ·split
   ·split
    ·exact w3_abs
    ·refine qyp ?_;unfold remS;split
     ·exact qlp _ _
     ·exact qyo
   ·split
    ·exact w3_rp
    ·exact w3_gw hp
def zb4 (l:List En):Prop:=l.Pairwise fun a b=>UV a.key<UV b.key
theorem qz5 {d:Int} {pt:BitVec 32}:∀ {l:List En} {last:BitVec 32},qfy d pt last l=true->zb4 l∧∀ e,e∈l->UV last<UV e.key
 | [],_,_=>⟨List.Pairwise.nil,fun e he=>by cases he⟩
 | x::l,last,h=>by
  obtain ⟨⟨h1,_⟩,h2⟩:=ents_cons.1 h;obtain ⟨h3,h4⟩:=qz5 h2;refine ⟨List.pairwise_cons.2 ⟨h4,h3⟩,fun e he=>?_⟩;rcases List.mem_cons.1 he with rfl|he
  ·exact h1
  ·have:=h4 e he;omega
theorem qo8 {b:Bk} (h:qco b=true):zb4 b.es:=(qz5 (qot h)).1
theorem zgb {l:List En} (h:zb4 l) {j k:Nat} {x y:En} (hx:l[j]?=some x) (hy:l[k]?=some y) (hjk:j<k):UV x.key<UV y.key:=by
 obtain ⟨h1,rfl⟩:=List.getElem?_eq_some_iff.1 hx;obtain ⟨h2,rfl⟩:=List.getElem?_eq_some_iff.1 hy;exact List.pairwise_iff_getElem.1 h j k h1 h2 hjk
theorem qu2 {key:BitVec 32}:∀ {l:List En} {i:Nat},i<=l.length->(∀ j x,j<i->l[j]?=some x->UV x.key<UV key)->(∀ x,l[i]?=some x->UV key<=UV x.key) ->
  ixE key 0 l=(i,match l[i]? with
   | some x=>UV x.key==UV key
   | none=>false)
 | [],i,hi,_,_=>by
  obtain rfl:i=0:=by simpa using hi
  rfl
 | z::r,0,_,_,h=>by
  have:=h z rfl;unfold ixE;rw [if_pos (by simpa using this)];rfl
 | z::r,i+1,hi,h1,h2=>by
  have hz:=h1 0 z om rfl;unfold ixE;rw [if_neg (by simpa using hz),qhw,qu2 (i:=i) (by simpa using hi) (fun j x hj hx=>h1 (j+1) x om (by simpa using hx)) (fun x hx=>h2 x (by simpa using hx))]
  simp [Nat.add_comm]
theorem qrt (ks:List Pg) (p:Pt) (kind:Int) (op:Bool):FnP prog 127 [qad tPg ks,qh6 p,Ii kind,Ib op] (qbs [qcv (lkV ks p kind op).1,Ib ((lkV ks p kind op).2.1),Ii ((lkV ks p kind op).2.2)]):=by
 obtain ⟨W,hE⟩:=xE (lkV ks p kind op);rw [hE];unfold lkV at hE;refine FnP.enter func127 ntmps127 rfl rfl ?_;intro c hX;refine t3 ?_;intro i5;refine s1 ?_;intro i8;refine t8 ?_;refine kR call50 (qhz _) ?_;refine t3 ?_;refine cN ?_ ?_<;>intro h1
 ·replace hE:=qaq hE h1;refine t10 ?_;subst hE;exact rA (Bs:=[_,_,_]) results127 eR
 replace hE:=qar hE h1;refine t7 ?_;refine kR call51 (qr7 _ _) ?_;refine t4 ?_;intro i11;refine t11 ?_;refine cN ?_ ?_<;>intro h4
 ·replace hE:=qaq hE h4;refine t10 ?_;subst hE;exact rA (Bs:=[_,_,_]) results127 eR
 replace hE:=qar hE h4;refine t5 ?_;refine kR call125 (qse (qb9 ks p.line)) ?_;refine s1 ?_;intro i13;refine t10 ?_;(refine qcg rfl rfl rfl (fun hg=>(by have hg0:=hg;(try simp at hg);exact qac call53 (qhm _) ⟨evR,trivial⟩)) ?_);refine t4 ?_;refine cN ?_ ?_<;>intro h7
 ·replace hE:=qaq hE h7;refine t11 ?_;subst hE;exact rA (Bs:=[_,_,_]) results127 eR
 replace hE:=qar hE h7;refine t15 ?_;refine cN ?_ ?_<;>intro h9
 ·replace hE:=qaq hE h9;refine t11 ?_;subst hE;exact rA (Bs:=[_,_,_]) results127 eR
 replace hE:=qar hE h9;refine t9 ?_;refine cN ?_ ?_<;>intro h11
 ·replace hE:=qaq hE h11;refine t11 ?_;subst hE;exact rA (Bs:=[_,_,_]) results127 eR
 replace hE:=qar hE h11;refine t12 ?_;subst hE;exact rA (Bs:=[_,_,_]) results127 eR
theorem qts (ks:List Pg) (p:Pt) (kind:Int):FnP prog 73 [qad tPg ks,qh6 p,Ii kind] (qbs [qcv (lkV ks p kind false).1,Ib ((lkV ks p kind false).2.1),Ii ((lkV ks p kind false).2.2)]):=by
 refine FnP.enter func73 ntmps73 rfl rfl ?_;intro c hX;refine t3 ?_;intro i4;refine s1 ?_;intro i6;refine t9 ?_;refine kR call127 (qrt _ _ _ _) ?_;refine t9 ?_;exact rA (Bs:=[_,_,_]) results73 eR
theorem OpenP_ok (ks:List Pg) (p:Pt) (kind:Int):FnP prog 70 [qad tPg ks,qh6 p,Ii kind] (qbs [qcv (lkV ks p kind true).1,Ib ((lkV ks p kind true).2.1),Ii ((lkV ks p kind true).2.2)]):=by
 refine FnP.enter func70 ntmps70 rfl rfl ?_;intro c hX;refine t3 ?_;intro i4;refine s1 ?_;intro i6;refine t9 ?_;refine kR call127 (qrt _ _ _ _) ?_;refine t9 ?_;exact rA (Bs:=[_,_,_]) results70 eR
theorem allP_R (p:Pg) {kind:Int} (aux:BitVec 32) (hk:1<=kind∧kind<=4):zai p kind aux=qlf p kind aux:=by
 unfold zai qlf;have h1:decide (kind<1)=false:=by simp;omega
 have h2:decide (kind>4)=false:=by simp;omega
 rw [h1,h2,Bool.or_false,Bool.or_false];cases qlb p.l <;> simp
theorem qwf (p:Pg) (kind:Int) (aux:BitVec 32) (hk:1<=kind∧kind<=4):FnP prog 122 [qcv p,Ii kind,Is (.int .u32 (UV aux))] (qbs [qcv (qlf p kind aux).1,Ii ((qlf p kind aux).2)]):=by
 rw [<- allP_R p aux hk];exact qwg p kind aux hk
theorem zff (q p:Pg):FnP prog 124 [qcv q,IsRef (tPg.cells p)] (Ib (q.l==p.l)):=by
 refine FnP.enter func124 ntmps124 rfl rfl ?_;intro c hX;refine t3 ?_;intro i2;refine t14 ?_;refine rB results124 rfl ?_;rfl
def ixP (f:Pg->Bool):List Pg->Nat->Int
 | [],_=>-1
 | x::r,k=>if f x=true then (k:Int) else ixP f r (k+1)
theorem zey (f:Pg->Bool):∀ (l:List Pg) (k:Nat),decide (ixP f l k>=0)=l.any f
 | [],_=>rfl
 | x::r,k=>by
  unfold ixP;rw [List.any_cons];cases h:f x with
  | true=>rw [if_pos rfl,decide_eq_true om];rfl
  | false=>rw [if_neg (by simp),zey f r (k+1)];rfl
theorem zg5 (xs:List Pg) (p:Pg) (hl:xs.length<=4):FnP prog 180 [qad tPg xs,IsFn 124 [IsRef (tPg.cells p)]] (Ii (ixP (fun q=>q.l==p.l) xs 0)):=by
 obtain ⟨R,hR⟩:=xE (ixP (fun q=>q.l==p.l) xs 0);rw [hR];refine FnP.enter func180 ntmps180 rfl rfl ?_;intro c hX;refine t14 ?_;refine qbm (fun k:Nat=>k<=xs.length∧ixP (fun q=>q.l==p.l) (xs.drop k) k=R) (fun k=>[(0,qad tPg xs),(1,IsFn 124 [IsRef (tPg.cells p)]),(7,Ii (xs.length:Nat)),(8,Ii (k:Nat))]) (fun _=>[]) (fun k=>xs.length-k) 0 ⟨nZ _,hR⟩ qc5 qab ?_;rintro k ⟨hk,hs⟩;refine t6 ?_;refine cN ?_ ?_<;>intro h2
 ·have hlt:k<xs.length:=by have:=of_decide_eq_true h2;omega
  clear h2;obtain ⟨x,hx⟩:∃ x,xs[k]?=some x:=⟨_,gE hlt⟩
  rw [qf7 hx] at hs;unfold ixP at hs;refine t15 ?_;refine qao rfl (by exact qak (j:=k) (er rfl) (er rfl) rfl rfl rf hx) ?_;refine s1 ?_;refine qao rfl (zec (As:=[qcv x]) (er rfl) call124 (zff x p) ⟨evR,trivial⟩) ?_;refine t2 ?_;refine cN ?_ ?_<;>intro h4
  ·rw [if_pos h4] at hs;subst hs;refine t12 ?_;refine rB results180 rfl ?_;rfl
  rw [if_neg (by rw [h4];simp)] at hs;clear h4;refine t7 ?_;exact qaa (k+1) ⟨om,hs⟩ om qc5 qab
 have hke:k=xs.length:=by have:=of_decide_eq_false h2;omega
 subst hke;rw [List.drop_length] at hs;have hs':(-1:Int)=R:=hs;subst hs';refine t11 ?_;refine rB results180 rfl ?_;rfl
theorem qwc (xs:List Pg) (p:Pg) (hl:xs.length<=4):FnP prog 123 [qad tPg xs,IsFn 124 [IsRef (tPg.cells p)]] (Ib (xs.any fun q=>q.l==p.l)):=by
 rw [<- zey _ xs 0];refine FnP.enter func123 ntmps123 rfl rfl ?_;intro c hX;refine t9 ?_;refine kR call180 (zg5 xs p hl) ?_;refine t5 ?_;refine rB results123 rfl ?_;rfl
section
variable {P:Program} {c:Ctx} {A:Nat->Option VP} {L:List Item} {d:Option Tmp} {ty:TypeId} {pos:String} {af:Array Edge} {g:Option (Nat×Bool)}
variable {α:Type} {T:Ty α} {xs:List α}
@[reducible] def slB (b o n cap:Nat):Value:=.slice (some ⟨b,o,none⟩) n cap
theorem qmz {xs:List α}:∀ m:Nat,(xs.drop m).flatMap T.cells=(xs.flatMap T.cells).drop (m*T.size):=by
 induction xs with
 | nil=>intro m;simp
 | cons x xs ih =>
  intro m;cases m with
  | zero=>simp
  | succ m =>
   rw [List.drop_succ_cons,List.flatMap_cons,ih,List.drop_append,T.len x,List.drop_of_length_le (l:=T.cells x) (by rw [T.len];rw [Nat.add_mul];omega),List.nil_append]
   congr 1;rw [Nat.add_mul];omega
theorem qe5 {φ:Fz} {w:World} {b n cap:Nat} {e:TypeId} (hm:HP c φ L w) (h:buf (slB b 0 n cap) e T xs∈L) :
  ∃ cur:Array Value,n=xs.length∧n<=cap∧cap<=maxLen∧w.heap[b]?=some (.cells cur e (0,0))∧cur.size=cap*T.size∧Alls φ (xs.flatMap T.cells) (cur.toList.take (n*T.size))∧ones (cur.toList.take (n*T.size)):=by
 obtain ⟨flat,f0,f1,f2,f3⟩:=(hm.mem.items _ h).1;rcases f3 with ⟨h1,_⟩|⟨g,cap',cur,h1,h2,h3,h4,h5,h6⟩
 ·cases h1
 ·simp only [slB,Value.slice.injEq,Option.some.injEq,Addr.mk.injEq] at h1;obtain ⟨⟨rfl,_⟩,rfl,rfl⟩:=h1;refine ⟨cur,rfl,h3,h4,by simpa [buf,Value.ownBlock] using h2,h5,?_,?_⟩
  ·rw [h6];exact f1
  ·rw [h6];exact f2
theorem qva {φ:Fz} {w:World} {b n n' cap:Nat} {e:TypeId} {xs':List α} {cur:Array Value} {cur':List Value} {L':List Item} (hm:HP c φ L w) (hr:Repl L (buf (slB b 0 n cap) e T xs) (buf (slB b 0 n' cap) e T xs') L') (h0:w.heap[b]?=some (.cells cur e (0,0)))
  (hl:cur'.length=cap*T.size) (hn:n'=xs'.length) (hc:n'<=cap) (hx:cap<=maxLen) (ha:Alls φ (xs'.flatMap T.cells) (cur'.take (n'*T.size))) (h1:ones (cur'.take (n'*T.size))):HP c φ L' (w.setRow b cur'.toArray):=by
 subst hn;refine hm.upd hr (qir _ _ _ _ (by simp [qbr,buf,Value.ownBlock])) ⟨⟨cur'.take (xs'.length*T.size),?_,ha,h1,.inr ⟨b,cap,cur'.toArray,rfl,?_,hc,hx,by simpa using hl,by simp⟩⟩,fun b' hb'=>?_⟩ fun b' hb'=>.inr (by simpa [buf,Value.ownBlock] using hb')
 ·rw [List.length_take,hl];exact Nat.min_eq_left (Nat.mul_le_mul_right _ hc)
 ·simp only [buf,Value.ownBlock,Option.bind_some];exact setRow_heap w b _ _ _ _ h0
 ·have:=(hm.mem.items _ hr.mem).2 b' (by simpa [buf,Value.ownBlock] using hb');exact ⟨by simp [World.setRow];exact this.1,this.2⟩
theorem zac {w:World} {b:Nat} {cur:Array Value} {e:TypeId} (h0:w.heap[b]?=some (.cells cur e (0,0))) (j:Nat) {v:Value} (h:cur.toList[j]?=some v):w.cell? ⟨b,j,none⟩=some v:=by
 rw [cell_of_row w b j cur e _ h0,<- Array.getElem?_toList];exact h
theorem qn2 {w:World} {b:Nat} {cur:Array Value} {e:TypeId} (h0:w.heap[b]?=some (.cells cur e (0,0))) {o m:Nat}:∀ j v,((cur.toList.drop o).take m)[j]?=some v->w.cell? ⟨b,o+j,none⟩=some v:=fun j v h=>by
 have hj:j<m:=by
  have:=(List.getElem?_eq_some_iff.1 h).1;rw [List.length_take] at this;omega
 rw [List.getElem?_take_of_lt hj,List.getElem?_drop] at h;exact zac h0 _ h
theorem zgw {Q:Exit->Act->World->Prop} {N:Nat} {E:Env} {x:Code} {e:TypeId} {i:Option Addr×Nat} {m:Nat} {L':List Item} (hd:Drop1 L (buf (slV m i) e T xs) L') (hn:m≠0)
  (h:∀ b cap,i=(some ⟨b,0,none⟩,cap)->m=xs.length->m<=cap->cap<=maxLen->JC P c N x E L Q):JC P c N x E L Q:=fun φ a w st=>by
 obtain ⟨flat,f0,f1,f2,f3⟩:=(st.mem.mem.items _ hd.mem.1).1;rcases f3 with ⟨h1,_⟩|⟨b,cap,cur,h1,h2,h3,h4,h5,h6⟩
 ·simp only [slV,Value.slice.injEq] at h1;exact absurd h1.2.1 hn
 ·simp only [slV,Value.slice.injEq] at h1;obtain ⟨h1,h7,h8⟩:=h1;obtain ⟨i1,i2⟩:=i;simp only at h1 h8;subst h1 h8;exact h b i2 rfl h7 om h4 φ a w st
theorem qpr {x:Operand} {t e:TypeId} {lo hi:Option Operand} {l h b o n cap sz:Nat} (hx:Ev A L x (Is (slB b o n cap))) (hu:P.underlying t=some (.slice e)) (hs:(P.info? e).map (·.size)=some sz) (hl:opN A L 0 lo l) (hh:opN A L n hi h) (h1:l<=h) (h2:h<=cap) (hn:n<=cap) :
  OpP P c ⟨d,.slice t x lo hi none,ty,pos,af,g⟩ A L (Is (.slice (if cap=l then some ⟨b,o,none⟩ else some ⟨b,o+l*sz,none⟩) (h-l) (cap-l))):=
 opp fun φ a w hm he=>by
  have e1:a.eval x=slB b o n cap:=he x (by simp [Op.operands]) _ hx;have hlo:∀ y,lo=some y->∃ k,a.eval y = .int k (l:Int):=fun y hy=>by
   subst hy;obtain ⟨k,i,h3,h4⟩:=hl;have h5:a.eval y = .int k i:=he y (by simp [Op.operands]) _ h3;exact ⟨k,by rw [h5,h4]⟩
  have hhi:∀ y,hi=some y->∃ k,a.eval y = .int k (h:Int):=fun y hy=>by
   subst hy;obtain ⟨k,i,h3,h4⟩:=hh;have h5:a.eval y = .int k i:=he y (by simp [Op.operands]) _ h3;exact ⟨k,by rw [h5,h4]⟩
  have hb:(Instr.sliceBounds true n cap (lo.map a.eval) (hi.map a.eval) none).run P w = .ok (l,h,cap) w:=by
   cases hi with
   | none =>
    have hhn:h=n:=hh;exact qhf (P:=P) (a:=a) (lo:=lo) (hi:=none) (l:=l) (h:=h) (n:=n) (cp:=cap) hlo (fun e=>by subst e;exact hl) (fun _ e=>by cases e) (fun _=>hhn) h1 (Nat.le_of_eq hhn) hn w
   | some y=>exact qhf (P:=P) (a:=a) (lo:=lo) (hi:=some y) (l:=l) (h:=h) (n:=cap) (cp:=cap) hlo (fun e=>by subst e;exact hl) hhi (fun e=>by cases e) h1 h2 (Nat.le_refl _) w
  refine ⟨_,?_,rfl⟩;simp only [execOp,e1];refine qcd ?_;simp only [Instr.sliceAt,Sem.run_bind,run_underlying hu,Result.andThen_ok,Instr.slice,slB];simp only [Option.map_none] at hb ⊢;simp only [hb,Result.andThen_ok,qbd hs,Sem.run_pure,Option.map_some,qcl]
theorem qmi {w:World} {x y:Operand} {a:Act} {t t2 e:TypeId} {b o n cp m sz:Nat} {v:Value} {us:List Value} {cur:Array Value} {t0:TypeId} (h1:a.eval x=slB b o n cp) (h2:a.eval y=v) (hu:P.underlying t=some (.slice e)) (hs:(P.info? e).map (·.size)=some sz)
  {k:Nat} (hk:(Builtin.lenOf v).run P w = .ok k w) (hm:Nat.min k n=m) (hf:(Builtin.firstCells sz m v).run P w = .ok us.toArray w) (h0:w.heap[b]?=some (.cells cur t0 (0,0))) (hl:o+us.length<=cur.size) (ho:ones us) :
  (execOp a.eval ⟨d,.call { callee:=.builtin .copy,args:=#[x,y],argTypes:=#[t,t2] },ty,pos,af,g⟩).run P w = .ok (.value (.int .i64 (m:Int))) (w.setRow b (cur.toList.take o++us++cur.toList.drop (o+us.length)).toArray):=by
 have hst:=run_storeCells_at (P:=P) b o t0 us 0 cur w h0 om ho;have h4:(#[x,y].map a.eval)=#[.slice (some ⟨b,o,none⟩) n cp,v]:=by simp [h1,h2]
 have h5:(#[t,t2]:Array TypeId)[0]?=some t:=rfl;simp only [execOp,resolve,h4,Sem.run_bind,Sem.run_pure,Result.andThen_ok,invoke,builtin,Builtin.copy_,h5];simp only [run_underlying hu,Result.andThen_ok,Sem.run_pure,Sem.run_bind,List.getElem?_toArray,List.getElem?_cons_zero,List.getElem?_cons_succ,hk,hm,qbd hs,hf];simp only [Nat.add_zero] at hst;simp only [hst,Result.andThen_ok,Sem.run_pure];rfl
theorem qks {w:World} {b o k c2 m sz:Nat} {cur:Array Value} {e:TypeId} (h0:w.heap[b]?=some (.cells cur e (0,0))) (hl:o+m*sz<=cur.size):(Builtin.firstCells sz m (slB b o k c2)).run P w = .ok ((cur.toList.drop o).take (m*sz)).toArray w:=
 qli (by rw [List.length_take,List.length_drop,Array.length_toList];omega) (qn2 h0)
theorem zd7 {x y:Operand} {t t2 e:TypeId} {b o1 o2 n i cap k1 k2 c1 c2:Nat} {L':List Item} (hx:Ev A L x (Is (slB b o1 k1 c1))) (hy:Ev A L y (Is (slB b o2 k2 c2))) (hu:P.underlying t=some (.slice e)) (hs:(P.info? e).map (·.size)=some T.size)
  (hr:Repl L (buf (slB b 0 n cap) e T xs) (buf (slB b 0 (n+1) cap) e T (xs.take (i+1)++xs.drop i)) L') (hi:i<n) (hn:n+1<=cap) (ho1:o1=(i+1)*T.size) (ho2:o2=i*T.size) (hk1:k1=n-i) (hk2:k2=n+1-i) :
  OpS P c ⟨d,.call { callee:=.builtin .copy,args:=#[x,y],argTypes:=#[t,t2] },ty,pos,af,g⟩ A L (fun _:Unit=>Ii (k1:Int)) (fun _=>L'):=by
 subst ho1 ho2 hk1 hk2;intro φ a w K Q hh he hk;have h1:a.eval x=_:=he x (by simp [Op.operands,Call.operands]) _ hx;have h2:a.eval y=_:=he y (by simp [Op.operands,Call.operands]) _ hy;obtain ⟨cur,e1,e2,e3,e4,e5,e6,e7⟩:=qe5 hh hr.mem;have hmul:∀ p q:Nat,p<=q->p*T.size<=q*T.size:=fun p q h=>Nat.mul_le_mul_right _ h;have m1:i*T.size+(n-i)*T.size=n*T.size:=by rw [<- Nat.add_mul];congr 1;omega
 have m2:(i+1)*T.size+(n-i)*T.size=(n+1)*T.size:=by rw [<- Nat.add_mul];congr 1;omega
 have m3:=hmul _ _ hn;have m4:=hmul i n om;have m5:=hmul n (n+1) om;have m6:=hmul (i+1) n om;have hus:((cur.toList.drop (i*T.size)).take ((n-i)*T.size)).length=(n-i)*T.size:=by rw [List.length_take,List.length_drop,Array.length_toList];omega
 have husE:(cur.toList.drop (i*T.size)).take ((n-i)*T.size)=(cur.toList.take (n*T.size)).drop (i*T.size):=by rw [List.drop_take];congr 1;omega
 have hone:ones ((cur.toList.drop (i*T.size)).take ((n-i)*T.size)):=fun u hu=>e7 u (by rw [husE] at hu;exact List.mem_of_mem_drop hu);have hrun:=qmi (P:=P) (d:=d) (ty:=ty) (pos:=pos) (af:=af) (g:=g) (t2:=t2) (sz:=T.size) (m:=n-i) h1 h2 hu hs (k:=n+1-i) rfl (Nat.min_eq_right om) (qks e4 om) e4 (by rw [hus];omega) hone;unfold Oper.wp;rw [hrun];refine hk () φ _ _ Fle.rfl' rfl (qva hh hr e4 ?_ ?_ hn e3 ?_ ?_)
 ·simp only [List.length_append,List.length_take,List.length_drop,Array.length_toList];omega
 ·simp only [List.length_append,List.length_take,List.length_drop];omega
 ·rw [List.take_left' (by rw [List.length_append,hus,List.length_take,Array.length_toList];omega),List.flatMap_append,qhx,qmz,husE];refine Alls.append ?_ (e6.drop _);have:=e6.take ((i+1)*T.size);rw [List.take_take,Nat.min_eq_left m6] at this;exact this
 ·rw [List.take_left' (by rw [List.length_append,hus,List.length_take,Array.length_toList];omega)];intro u hu;rcases List.mem_append.1 hu with hu|hu
  ·exact e7 u (List.mem_of_mem_take (i:=(i+1)*T.size) (by rw [List.take_take,Nat.min_eq_left m6];exact hu))
  ·exact hone u hu
theorem zd5 {x y:Operand} {t t2 e e2:TypeId} {b b2 o n i cap k1 c1 c2:Nat} {z:α} {L':List Item} (hx:Ev A L x (Is (slB b o k1 c1))) (hy:Ev A L y (Is (slB b2 0 1 c2))) (hz:buf (slB b2 0 1 c2) e2 T [z]∈L) (hu:P.underlying t=some (.slice e)) (hs:(P.info? e).map (·.size)=some T.size)
  (hr:Repl L (buf (slB b 0 n cap) e T xs) (buf (slB b 0 n cap) e T (xs.take i++z::xs.drop (i+1))) L') (hi:i<n) (ho:o=i*T.size) (hk1:1<=k1) :
  OpS P c ⟨d,.call { callee:=.builtin .copy,args:=#[x,y],argTypes:=#[t,t2] },ty,pos,af,g⟩ A L (fun _:Unit=>Ii ((1:Nat):Int)) (fun _=>L'):=by
 subst ho;intro φ a w K Q hh he hk;have h1:a.eval x=_:=he x (by simp [Op.operands,Call.operands]) _ hx;have h2:a.eval y=_:=he y (by simp [Op.operands,Call.operands]) _ hy;obtain ⟨cur,e1,e2,e3,e4,e5,e6,e7⟩:=qe5 hh hr.mem;obtain ⟨cur2,d1,d2,d3,d4,d5,u2,u3⟩:=qe5 hh hz;have hm2:1*T.size<=c2*T.size:=Nat.mul_le_mul_right _ d2;have hus:(cur2.toList.take (1*T.size)).length=T.size:=by rw [List.length_take,Array.length_toList];omega
 have u2':Alls φ (T.cells z) (cur2.toList.take (1*T.size)):=by simpa using u2
 have hmul:∀ p q:Nat,p<=q->p*T.size<=q*T.size:=fun p q h=>Nat.mul_le_mul_right _ h;have m1:i*T.size+T.size=(i+1)*T.size:=by rw [Nat.add_mul];omega
 have m3:=hmul _ _ e2;have m4:=hmul (i+1) n om;have m5:(i+1)*T.size+(n-(i+1))*T.size=n*T.size:=by rw [<- Nat.add_mul];congr 1;omega
 have hf:(Builtin.firstCells T.size 1 (slB b2 0 1 c2)).run P w = .ok (cur2.toList.take (1*T.size)).toArray w:=by
  have:=qks (P:=P) (w:=w) (b:=b2) (o:=0) (k:=1) (c2:=c2) (m:=1) (sz:=T.size) d4 om;rw [List.drop_zero] at this;exact this
 generalize cur2.toList.take (1*T.size)=us at *;have hrun:=qmi (P:=P) (d:=d) (ty:=ty) (pos:=pos) (af:=af) (g:=g) (t2:=t2) (sz:=T.size) (m:=1) h1 h2 hu hs (k:=1) rfl (Nat.min_eq_left hk1) hf e4 om u3;unfold Oper.wp;rw [hrun];have ht:(cur.toList.take (i*T.size)++us++cur.toList.drop (i*T.size+us.length)).take (n*T.size)=(cur.toList.take (n*T.size)).take (i*T.size)++(us++(cur.toList.take (n*T.size)).drop ((i+1)*T.size)):=by
  rw [List.take_take,Nat.min_eq_left (show i*T.size<=n*T.size by omega),List.append_assoc,List.take_append,List.take_append,List.length_take,Array.length_toList,Nat.min_eq_left (show i*T.size<=cur.size by omega),List.take_of_length_le (l:=cur.toList.take (i*T.size)) (by rw [List.length_take];omega),List.take_of_length_le (l:=us) om,hus,m1,List.drop_take]
  congr 3;omega
 refine hk () φ _ _ Fle.rfl' rfl (qva hh hr e4 ?_ ?_ e2 e3 ?_ ?_)
 ·simp only [List.length_append,List.length_take,List.length_drop,Array.length_toList];omega
 ·simp only [List.length_append,List.length_take,List.length_drop,List.length_cons];omega
 ·rw [ht,List.flatMap_append,List.flatMap_cons,qhx,qmz];exact (e6.take _).append (u2'.append (e6.drop _))
 ·rw [ht];intro u hu;rcases List.mem_append.1 hu with hu|hu
  ·exact e7 u (List.mem_of_mem_take hu)
  rcases List.mem_append.1 hu with hu|hu
  ·exact u3 u hu
  ·exact e7 u (List.mem_of_mem_drop hu)
theorem qxb {x y:Operand} {t t2 e:TypeId} {b b2 o1 o2 n n2 i j cap cap2 k1 k2 c1 c2:Nat} {ys:List α} {L':List Item} (hx:Ev A L x (Is (slB b o1 k1 c1))) (hy:Ev A L y (Is (slB b2 o2 k2 c2))) (hz:buf (slB b2 0 n2 cap2) e T ys∈L) (hu:P.underlying t=some (.slice e)) (hs:(P.info? e).map (·.size)=some T.size)
  (hr:Repl L (buf (slB b 0 n cap) e T xs) (buf (slB b 0 n cap) e T (xs.take j++ys.drop i)) L') (hi:i<=n2) (hj:j<=n) (hl:n-j=n2-i) (ho1:o1=j*T.size) (ho2:o2=i*T.size) (hk1:k1=n-j) (hk2:k2=n2-i) :
  OpS P c ⟨d,.call { callee:=.builtin .copy,args:=#[x,y],argTypes:=#[t,t2] },ty,pos,af,g⟩ A L (fun _:Unit=>Ii (k1:Int)) (fun _=>L'):=by
 subst ho1 ho2 hk1 hk2;intro φ a w K Q hh he hk;have h1:a.eval x=_:=he x (by simp [Op.operands,Call.operands]) _ hx;have h2:a.eval y=_:=he y (by simp [Op.operands,Call.operands]) _ hy;obtain ⟨cur,e1,e2,e3,e4,e5,e6,e7⟩:=qe5 hh hr.mem;obtain ⟨cur2,d1,d2,d3,d4,d5,d6,d7⟩:=qe5 hh hz;have hmul:∀ p q:Nat,p<=q->p*T.size<=q*T.size:=fun p q h=>Nat.mul_le_mul_right _ h;have m1:j*T.size+(n-j)*T.size=n*T.size:=by rw [<- Nat.add_mul];congr 1;omega
 have m2:i*T.size+(n-j)*T.size=n2*T.size:=by rw [<- Nat.add_mul];congr 1;omega
 have m3:=hmul _ _ e2;have m4:=hmul _ _ d2;have hus:((cur2.toList.drop (i*T.size)).take ((n-j)*T.size)).length=(n-j)*T.size:=by rw [List.length_take,List.length_drop,Array.length_toList];omega
 have husE:(cur2.toList.drop (i*T.size)).take ((n-j)*T.size)=(cur2.toList.take (n2*T.size)).drop (i*T.size):=by rw [List.drop_take];congr 1;omega
 have hone:ones ((cur2.toList.drop (i*T.size)).take ((n-j)*T.size)):=fun u hu=>d7 u (by rw [husE] at hu;exact List.mem_of_mem_drop hu);have hrun:=qmi (P:=P) (d:=d) (ty:=ty) (pos:=pos) (af:=af) (g:=g) (t2:=t2) (sz:=T.size) (m:=n-j) h1 h2 hu hs (k:=n2-i) rfl (Nat.min_eq_right om) (qks d4 om) e4 (by rw [hus];omega) hone;unfold Oper.wp;rw [hrun];refine hk () φ _ _ Fle.rfl' rfl (qva hh hr e4 ?_ ?_ e2 e3 ?_ ?_)
 ·simp only [List.length_append,List.length_take,List.length_drop,Array.length_toList];omega
 ·simp only [List.length_append,List.length_take,List.length_drop];omega
 ·rw [List.take_left' (by rw [List.length_append,hus,List.length_take,Array.length_toList];omega),List.flatMap_append,qhx,qmz,husE];refine Alls.append ?_ (d6.drop _);have:=e6.take (j*T.size);rw [List.take_take,Nat.min_eq_left (show j*T.size<=n*T.size by omega)] at this;exact this
 ·rw [List.take_left' (by rw [List.length_append,hus,List.length_take,Array.length_toList];omega)];intro u hu;rcases List.mem_append.1 hu with hu|hu
  ·exact e7 u (List.mem_of_mem_take (i:=j*T.size) (by rw [List.take_take,Nat.min_eq_left (show j*T.size<=n*T.size by omega)];exact hu))
  ·exact hone u hu
theorem qw6 {x y:Operand} {t e:TypeId} {b o2 n i cap k2 c2:Nat} {L':List Item} {y':Value} (hx:Ev A L x (Is (slB b 0 i cap))) (hy:Ev A L y (Is y')) (hy':y' = .slice (if cap=i+1 then some ⟨b,0,none⟩ else some ⟨b,o2,none⟩) k2 c2) (hu:P.underlying t=some (.slice e)) (hi0:∃ z bytes,(P.info? e).map (fun i=>(i.zero,i.size,i.bytes))=some (some z,T.size,bytes))
  (hr:Repl L (buf (slB b 0 n cap) e T xs) (buf (slB b 0 (n-1) cap) e T (xs.take i++xs.drop (i+1))) L') (hi:i<n) (ho2:o2=(i+1)*T.size) (hk2:k2=n-(i+1)) :
  OpS P c ⟨d,.call { callee:=.builtin .append,args:=#[x,y],argTypes:=#[t,t] },ty,pos,af,g⟩ A L (fun _:Unit=>Is (slB b 0 (n-1) cap)) (fun _=>L'):=by
 subst ho2 hk2 hy';intro φ a w K Q hh he hk;have h1:a.eval x=_:=he x (by simp [Op.operands,Call.operands]) _ hx;have h2:a.eval y=_:=he y (by simp [Op.operands,Call.operands]) _ hy;obtain ⟨cur,e1,e2,e3,e4,e5,e6,e7⟩:=qe5 hh hr.mem;obtain ⟨z,bytes,hinf⟩:=hi0;obtain ⟨inf,hinf,hzz⟩:=Option.map_eq_some_iff.1 hinf;simp only [Prod.mk.injEq] at hzz;obtain ⟨hz,hs,hb⟩:=hzz;have hmul:∀ p q:Nat,p<=q->p*T.size<=q*T.size:=fun p q h=>Nat.mul_le_mul_right _ h;have m1:(i+1)*T.size+(n-(i+1))*T.size=n*T.size:=by rw [<- Nat.add_mul];congr 1;omega
 have m2:i*T.size+(n-(i+1))*T.size=(n-1)*T.size:=by rw [<- Nat.add_mul];congr 1;omega
 have m3:=hmul _ _ e2;have m4:=hmul (n-1) n om;have hn1:i+(n-(i+1))=n-1:=om;have hus:((cur.toList.drop ((i+1)*T.size)).take ((n-(i+1))*T.size)).length=(n-(i+1))*T.size:=by rw [List.length_take,List.length_drop,Array.length_toList];omega
 have husE:(cur.toList.drop ((i+1)*T.size)).take ((n-(i+1))*T.size)=(cur.toList.take (n*T.size)).drop ((i+1)*T.size):=by rw [List.drop_take];congr 1;omega
 have hone:ones ((cur.toList.drop ((i+1)*T.size)).take ((n-(i+1))*T.size)):=fun u hu=>e7 u (by rw [husE] at hu;exact List.mem_of_mem_drop hu);generalize hUS:(cur.toList.drop ((i+1)*T.size)).take ((n-(i+1))*T.size)=us at *;have hcell:∀ ad:Addr,(if cap=i+1 then some (⟨b,0,none⟩:Addr) else some ⟨b,(i+1)*T.size,none⟩)=some ad->∀ j u,us[j]?=some u->w.cell? (ad.add j)=some u:=by
  intro ad had j u hj;split at had
  ·have:us=[]:=List.eq_nil_of_length_eq_zero (by rw [hus,show n-(i+1)=0 by omega];simp);subst this;cases hj
  ·cases had;rw [qcl];exact qn2 e4 _ _ (by rw [hUS];exact hj)
 obtain ⟨ad,had⟩:∃ ad,(if cap=i+1 then some (⟨b,0,none⟩:Addr) else some ⟨b,(i+1)*T.size,none⟩)=some ad:=by split <;> exact ⟨_,rfl⟩
 obtain ⟨w1,hw1,hrun⟩:∃ w1,w1=w.setRow b (cur.toList.take (i*T.size)++us++cur.toList.drop (i*T.size+us.length)).toArray∧(Builtin.append_ #[t,t] ty #[slB b 0 i cap,.slice (some ad) (n-(i+1)) c2]).run P w = .ok (.slice (some ⟨b,0,none⟩) (i+(n-(i+1))) cap) w1:=
  ⟨_,rfl,by rw [<- hs];exact run_append_room (P:=P) w t ty e inf hu hinf b i cap cur e4 ad (n-(i+1)) c2 us (by rw [hs];exact hus) (hcell ad had) hone om (by rw [hs,hus];omega)⟩
 rw [had] at h2;have hR:(execOp a.eval ⟨d,.call { callee:=.builtin .append,args:=#[x,y],argTypes:=#[t,t] },ty,pos,af,g⟩).run P w = .ok (.value (slB b 0 (n-1) cap)) w1:=by
  have h4:(#[x,y].map a.eval)=#[slB b 0 i cap,.slice (some ad) (n-(i+1)) c2]:=by simp [h1,h2]
  simp only [execOp,resolve,h4,Sem.run_bind,Sem.run_pure,Result.andThen_ok,invoke,builtin,hrun,hn1]
 unfold Oper.wp;rw [hR];subst hw1;have ht:(cur.toList.take (i*T.size)++us++cur.toList.drop (i*T.size+us.length)).take ((n-1)*T.size)=(cur.toList.take (n*T.size)).take (i*T.size)++(cur.toList.take (n*T.size)).drop ((i+1)*T.size):=by
  rw [List.take_left' (by rw [List.length_append,hus,List.length_take,Array.length_toList];omega),List.take_take,Nat.min_eq_left (show i*T.size<=n*T.size by omega),husE]
 refine hk () φ _ _ Fle.rfl' rfl (qva hh hr e4 ?_ ?_ om e3 ?_ ?_)
 ·simp only [List.length_append,List.length_take,List.length_drop,Array.length_toList];omega
 ·simp only [List.length_append,List.length_take,List.length_drop];omega
 ·rw [ht,List.flatMap_append,qhx,qmz];exact (e6.take _).append (e6.drop _)
 ·rw [ht];intro u hu;rcases List.mem_append.1 hu with hu|hu
  ·exact e7 u (List.mem_of_mem_take hu)
  ·exact e7 u (List.mem_of_mem_drop hu)
theorem zca (zs:Array Value) (k:Nat):(Builtin.zeroCells zs (k+1)).toList=(Builtin.zeroCells zs k).toList++zs.toList:=by
 unfold Builtin.zeroCells;simp only [Array.toList_map,Array.toList_range,Nat.add_mul,Nat.one_mul,List.range_add,List.map_append,List.map_map]
 congr 1
 apply List.ext_getElem (by simp)
 intro j h1 h2;have h3:j<zs.size:=by simpa using h2
 simp [Nat.mod_eq_of_lt h3,h3]
theorem qwm {zs:Array Value} (h:ones zs.toList):∀ k,ones (Builtin.zeroCells zs k).toList
 | 0=>by simp [Builtin.zeroCells,ones]
 | k+1=>fun u hu=>by
  rw [zca] at hu;rcases List.mem_append.1 hu with hu|hu
  ·exact qwm h k u hu
  ·exact h u hu
theorem qus {x:Operand} {t e:TypeId} {b o n cap c1:Nat} {z:Value} (hx:Ev A L x (Is (slB b o 1 c1))) (hu:P.underlying t=some (.slice e)) (hz:(P.info? e).map (·.zero)=some (some z)) (hzs:z.cells.size=T.size) (h1:(z.cells.toList.all Value.oneCell')=true)
  {L':List Item} (hr:Repl L (buf (slB b 0 n cap) e T xs) (buf (slB b 0 n cap) e T xs) L') (ho:o=n*T.size) (hn:n+1<=cap) :
  OpS P c ⟨d,.call { callee:=.builtin .clear,args:=#[x],argTypes:=#[t] },ty,pos,af,g⟩ A L (fun _:Unit=>Is (.tuple #[])) (fun _=>L'):=by
 subst ho;intro φ a w K Q hh he hk;have h2:a.eval x=_:=he x (by simp [Op.operands,Call.operands]) _ hx;obtain ⟨cur,e1,e2,e3,e4,e5,e6,e7⟩:=qe5 hh hr.mem;have hmul:∀ p q:Nat,p<=q->p*T.size<=q*T.size:=fun p q h=>Nat.mul_le_mul_right _ h;have m1:=hmul _ _ hn;have m2:(n+1)*T.size=n*T.size+T.size:=by rw [Nat.add_mul];omega
 have hus:(Builtin.zeroCells z.cells 1).toList.length=T.size:=by rw [Array.length_toList,size_zeroCells,hzs];omega
 have hst:=run_storeCells_at (P:=P) b (n*T.size) e (Builtin.zeroCells z.cells 1).toList 0 cur w e4 om (qwm (qgh h1) 1);simp only [Nat.add_zero] at hst;have hrun:(execOp a.eval ⟨d,.call { callee:=.builtin .clear,args:=#[x],argTypes:=#[t] },ty,pos,af,g⟩).run P w = .ok (.value (.tuple #[])) (w.setRow b (cur.toList.take (n*T.size)++(Builtin.zeroCells z.cells 1).toList++cur.toList.drop (n*T.size+(Builtin.zeroCells z.cells 1).toList.length)).toArray):=by
  have h4:(#[x].map a.eval)=#[.slice (some ⟨b,n*T.size,none⟩) 1 c1]:=by simp [h2]
  have h5:(#[t]:Array TypeId)[0]?=some t:=rfl;simp only [execOp,resolve,h4,Sem.run_bind,Sem.run_pure,Result.andThen_ok,invoke,builtin,Builtin.clear_,h5];simp only [run_underlying hu,Result.andThen_ok,Sem.run_pure,Sem.run_bind,List.getElem?_toArray,List.getElem?_cons_zero,qi8 hz,hst]
 unfold Oper.wp;rw [hrun];generalize (Builtin.zeroCells z.cells 1).toList=us at *;have ht:(cur.toList.take (n*T.size)++us++cur.toList.drop (n*T.size+us.length)).take (n*T.size)=cur.toList.take (n*T.size):=by
  rw [List.append_assoc,List.take_left' (by rw [List.length_take,Array.length_toList];omega)]
 refine hk () φ _ _ Fle.rfl' rfl (qva hh hr e4 ?_ e1 e2 e3 ?_ ?_)
 ·simp only [List.length_append,List.length_take,List.length_drop,Array.length_toList];omega
 ·rw [ht];exact e6
 ·rw [ht];exact e7
theorem zcb {φ:Fz} {zs:Array Value} {z0:α} (h:Alls φ (T.cells z0) zs.toList):∀ k,Alls φ ((List.replicate k z0).flatMap T.cells) (Builtin.zeroCells zs k).toList
 | 0=>by simp [Builtin.zeroCells];trivial
 | k+1=>by
  rw [List.replicate_succ',List.flatMap_append,zca];exact (zcb h k).append (by simpa using h)
theorem op_appZ {x y:Operand} {t tn e:TypeId} {b n i cap k N:Nat} {kq kn:IntKind} {z:Value} {bytes:Nat} (z0:α) (hx:Ev A L x (Is (slB b 0 i cap))) (hy:Ev A L y (Is (.int kq (k:Int)))) (hu:P.underlying t=some (.slice e)) (hun:P.underlying tn=some (.int kn)) (hinf:(P.info? e).map (fun i=>(i.zero,i.size,i.bytes))=some (some z,T.size,bytes))
  (hzs:z.cells.size=T.size) (hz0:∀ φ,Alls φ (T.cells z0) z.cells.toList) (hz1:(z.cells.toList.all Value.oneCell')=true) (hm:buf (slB b 0 n cap) e T xs∈L) (hi:i<=n) (hk0:0<k) (hg:cap<i+k) (hs0:0<T.size) (hby:bytes<=100000) (hsm:i+k<=1000) (hN:i+k=N) :
  OpN P c ⟨d,.call { callee:=.builtin .append,args:=#[x,y],argTypes:=#[t,tn] },ty,pos,af,g⟩ A L (fun j:Nat×Nat=>slB j.1 0 N j.2) (fun j=>buf (slB j.1 0 N j.2) e T (xs.take i++List.replicate k z0)):=by
 subst hN;intro φ a w K Q hh he hk;have h1:a.eval x=_:=he x (by simp [Op.operands,Call.operands]) _ hx;have h2:a.eval y=_:=he y (by simp [Op.operands,Call.operands]) _ hy;obtain ⟨cur,e1,e2,e3,e4,e5,e6,e7⟩:=qe5 hh hm;obtain ⟨inf,hinf,hzz⟩:=Option.map_eq_some_iff.1 hinf;simp only [Prod.mk.injEq] at hzz;obtain ⟨hz,hs,hb⟩:=hzz;have m1:i*T.size<=n*T.size:=Nat.mul_le_mul_right _ hi;have m2:n*T.size<=cap*T.size:=Nat.mul_le_mul_right _ e2;have hold:(Builtin.firstCells inf.size i (slB b 0 i cap)).run P w.drew = .ok (cur.toList.take (i*T.size)).toArray w.drew:=by
  have:=qks (P:=P) (w:=w.drew) (b:=b) (o:=0) (k:=i) (c2:=cap) (m:=i) (sz:=T.size) (cur:=cur) (e:=e) e4 om;rw [hs];simpa using this
 have hns:=Builtin.nextslicecap;have hfit:Builtin.nextslicecap (i+k) cap*inf.bytes<=281474976710656:=by
  have h5:Builtin.nextslicecap (i+k) cap<=2000+1000:=by
   unfold Builtin.nextslicecap;split
   ·omega
   ·split
    ·omega
    ·have:cap<1000:=om;unfold Builtin.growBy;split
     ·omega
     ·unfold Builtin.growBy;split
      ·omega
      ·unfold Builtin.growBy;split
       ·omega
       ·unfold Builtin.growBy;split
        ·omega
        ·unfold Builtin.growBy;omega
  calc Builtin.nextslicecap (i+k) cap*inf.bytes<=3000*100000:=Nat.mul_le_mul h5 om
   _<=_:=om
 obtain ⟨w1,hw1,hr⟩:∃ w1,w1=_∧(Builtin.append_ #[t,tn] ty #[slB b 0 i cap,.int kq (k:Int)]).run P w = .ok (slB w.heap.size 0 (i+k) (grownCap w (i+k) cap e)) w1:=⟨_,rfl,Lib.run_append_grow_zeros (P:=P) w t tn ty e inf z kq kn hu hun hinf hz (some ⟨b,0,none⟩) i cap (cur.toList.take (i*T.size)) hold k hk0 om hg om (by
  have:=Nat.mul_le_mul (show k<=1000 by omega) (show inf.bytes<=100000 by omega);omega) hfit⟩
 have hrun:(execOp a.eval ⟨d,.call { callee:=.builtin .append,args:=#[x,y],argTypes:=#[t,tn] },ty,pos,af,g⟩).run P w = .ok (.value (slB w.heap.size 0 (i+k) (grownCap w (i+k) cap e))) w1:=by
  have h4:(#[x,y].map a.eval)=#[slB b 0 i cap,.int kq (k:Int)]:=by simp [h1,h2]
  simp only [execOp,resolve,h4,Sem.run_bind,Sem.run_pure,Result.andThen_ok,invoke,builtin,hr]
 unfold Oper.wp;rw [hrun];subst hw1;have hh':HP c φ L w.drew:=⟨⟨hh.mem.base,hh.mem.items,hh.mem.sep⟩,⟨hh.kept.os,hh.kept.tape,hh.kept.output,hh.kept.size,hh.kept.block⟩,hh.mine,hh.old⟩
 have hge:=grownCap_ge w (i+k) cap e;have hcm:grownCap w (i+k) cap e<=maxLen:=grownCap_le_maxLen w (i+k) cap e (by unfold maxLen;omega);have hfl:(cur.toList.take (i*T.size)++(Builtin.zeroCells z.cells k).toList).length=(i+k)*T.size:=by
  rw [List.length_append,List.length_take,Array.length_toList,Array.length_toList,size_zeroCells,hzs,Nat.add_mul];omega
 have hxl:(xs.take i++List.replicate k z0).length=i+k:=by simp;omega
 have hal:Alls φ ((xs.take i++List.replicate k z0).flatMap T.cells) (cur.toList.take (i*T.size)++(Builtin.zeroCells z.cells k).toList):=by
  rw [List.flatMap_append,qhx];refine Alls.append ?_ (zcb (hz0 φ) k);have:=e6.take (i*T.size);rw [List.take_take,Nat.min_eq_left m1] at this;exact this
 have hon:ones (cur.toList.take (i*T.size)++(Builtin.zeroCells z.cells k).toList):=fun u hu=>by
  rcases List.mem_append.1 hu with hu|hu
  ·exact e7 u (List.mem_of_mem_take (i:=i*T.size) (by rw [List.take_take,Nat.min_eq_left m1];exact hu))
  ·exact qwm (qgh hz1) k u hu
 have h:=qvb (b:=0) (it:=buf (slB w.heap.size 0 (i+k) (grownCap w (i+k) cap e)) e T (xs.take i++List.replicate k z0)) (o:=.cells ((cur.toList.take (i*T.size)).toArray++Builtin.zeroCells z.cells k++Builtin.zeroCells z.cells (grownCap w (i+k) cap e-(i+k))) e) hh' rfl
  ⟨_,by rw [hfl,hxl],hal,hon,.inr ⟨w.heap.size,grownCap w (i+k) cap e,_,by rw [hxl],rfl,by rw [hxl];exact hge,hcm,by
   simp only [Array.size_append,List.size_toArray,size_zeroCells,hzs,List.length_take,Array.length_toList];have:grownCap w (i+k) cap e*T.size=(i+k)*T.size+(grownCap w (i+k) cap e-(i+k))*T.size:=by rw [<- Nat.add_mul];congr 1;omega
   rw [this,Nat.add_mul];omega,by
   simp only [Array.toList_append,List.append_assoc];rw [<- List.append_assoc,hxl,<- hfl];exact List.take_left⟩⟩
 exact hk (w.heap.size,grownCap w (i+k) cap e) φ _ ⟨h.mem,⟨h.kept.os,h.kept.tape,h.kept.output,h.kept.size,h.kept.block⟩,h.mine,h.old⟩
theorem op_apart {f:FuncId} {x y:Operand} {ts:Array TypeId} {tS tR e e2:TypeId} {b b2 o n cap k c1 c2 m sz:Nat} {zs:List α} (hc:∀ (args:Array Value) (w:World),(callFunc f args).run P w=((Extern.SlicesOverlaps.overlaps #[tS,tS] #[tR] args).run P w).andThen fun v w'=>.ok (.value v) w')
  (hx:Ev A L x (Is (slB b2 0 m c2))) (hy:Ev A L y (Is (slB b o k c1))) {L1 L2:List Item} (hd1:Drop1 L (buf (slB b2 0 m c2) e2 T zs) L1) (hd2:Drop1 L1 (buf (slB b 0 n cap) e T xs) L2) (hs0:0<T.size) (hn:0<cap) (hu:P.underlying tS=some (.slice e)) (hsz:(P.info? e).map (·.size)=some sz) :
  OpP P c ⟨d,.call { callee:=.value (.func f),args:=#[x,y],argTypes:=ts },ty,pos,af,g⟩ A L (Ib false):=
 opp fun φ a w hh he=>by
  have h1:a.eval x=_:=he x (by simp [Op.operands,Call.operands]) _ hx;have h2:a.eval y=_:=he y (by simp [Op.operands,Call.operands]) _ hy;obtain ⟨cur2,d1,d2,d3,u1,d5,d6,d7⟩:=qe5 hh hd1.mem.1;obtain ⟨cur,r1,r2,r3,e4,e5,e6,e7⟩:=qe5 (hh.lessP (.cons hd1 (SubP.refl' _))) (List.mem_cons_of_mem _ hd2.mem.1);have hne:b2≠b:=fun hb=>by
   subst hb;have h5:=(List.pairwise_cons.1 (hh.lessP (.cons hd1 (.cons hd2 (SubP.nil _)))).mem.sep).1 _ (List.mem_singleton.2 rfl);exact h5 b2 rfl rfl
  refine ⟨_,?_,rfl⟩;have h4:(#[x,y].map a.eval)=#[slB b2 0 m c2,slB b o k c1]:=by simp [h1,h2]
  have h0:a.eval (.func f) = .func (.func f) #[] #[]:=rfl;have h6:(#[]++#[slB b2 0 m c2,slB b o k c1]:Array Value)=#[slB b2 0 m c2,slB b o k c1]:=rfl;simp only [execOp,resolve,h4,h0,Deferred.ofValue,Sem.run_bind,Sem.run_pure,Result.andThen_ok,invoke,hc,Array.append_empty]
  change ((Sem.run P (Extern.SlicesOverlaps.overlaps #[tS,tS] #[tR] #[slB b2 0 m c2,slB b o k c1]) w).andThen fun v w'=>Result.ok (Next.value v) w')=_
  rw [Lib.run_overlaps_apart (P:=P) w tS tR e hu sz (fun w=>qbd hsz w) ⟨b2,0,none⟩ ⟨b,o,none⟩ m c2 k c1 hne e2 e cur2.size cur.size (by simp only [World.shape?,u1]) (by simp only [World.shape?,e4]) (by
   have:=Nat.mul_le_mul hn (show 1<=T.size from hs0);omega) (by simp [World.frozen?,u1]) (by simp [World.frozen?,u1])]
  rfl
end
section
variable {P:Program} {c:Ctx} {A:Nat->Option VP} {L:List Item} {d:Option Tmp} {ty:TypeId} {pos:String} {af:Array Edge} {g:Option (Nat×Bool)}
theorem HP.dupF {φ:Fz} {w:World} {v:Value} {B:VP} (h:HP c φ L w) (hG:fact v B∈L):HP c φ (fact v B::L) w:=
 ⟨⟨h.mem.base,fun it hi=>by
  rcases List.mem_cons.1 hi with rfl|hi
  ·exact h.mem.items _ hG
  ·exact h.mem.items _ hi,List.pairwise_cons.2 ⟨fun y _ b (hb:none=some b)=>(nomatch hb),h.mem.sep⟩⟩,h.kept,fun b hb=>by
  obtain ⟨x,hx,hxb⟩:=mem_names.1 hb;rcases List.mem_cons.1 hx with rfl|hx
  ·cases hxb
  ·exact h.mine b (mem_names.2 ⟨x,hx,hxb⟩),h.old⟩
theorem zeb {v:Value} {B:VP} {f:FuncId} {xs:List Operand} {ts:Array TypeId} {As:List VP} {ι:Type} {R:ι->VP} {it':ι->Item} (hc:∀ (args:Array Value) (w:World),(callFunc f args).run P w = .ok (.enter f args) w)
  (hF:Fn P f As [fact v B] R (fun i=>[it' i])) (ha:ArgsE A L xs As) (hG:fact v B∈L):OpS P c ⟨d,.call { callee:=.value (.func f),args:=xs.toArray,argTypes:=ts },ty,pos,af,g⟩ A L R (fun i=>it' i::L):=by
 intro φ a w K Q hm he hk;have hv:=ha.alls (φ:=φ) (a:=a) fun x hx=>he x (by simp [Op.operands,Call.operands,hx]);have hm':HP c φ ([fact v B]++L) w:=hm.dupF hG;unfold Oper.wp;rw [qeu hc];refine (hF φ w _ hv hm'.mem.left).mono ?_;rintro e w' ⟨i,v,φ',rfl,h1,h2⟩;exact hk i φ' v w' (h2.fle hm.mem.base) h1 (hm'.call h2)
theorem qpt {v:Value} {B:VP} {f:FuncId} {xs:List Operand} {ts:Array TypeId} {As:List VP} {it:Item} {L1:List Item} {ι:Type} {R:ι->VP} {L':ι->List Item} (hd:Drop1 L it L1) (hc:∀ (args:Array Value) (w:World),(callFunc f args).run P w = .ok (.enter f args) w)
  (hF:Fn P f As [it,fact v B] R L') (ha:ArgsE A L xs As) (hG:fact v B∈L1):OpS P c ⟨d,.call { callee:=.value (.func f),args:=xs.toArray,argTypes:=ts },ty,pos,af,g⟩ A L R (fun i=>L' i++L1):=by
 intro φ a w K Q hm he hk;have hv:=ha.alls (φ:=φ) (a:=a) fun x hx=>he x (by simp [Op.operands,Call.operands,hx]);have h0:HP c φ (it::L1) w:=hm.lessP (.cons hd (SubP.refl' _));have hm':HP c φ ([it,fact v B]++L1) w:=(h0.dupF (List.mem_cons_of_mem _ hG)).lessP (.cons (.next _ (.here _ _)) (SubP.refl' _));unfold Oper.wp;rw [qeu hc];refine (hF φ w _ hv hm'.mem.left).mono ?_;rintro e w' ⟨i,v,φ',rfl,h1,h2⟩;exact hk i φ' v w' (h2.fle hm.mem.base) h1 (hm'.call h2)
section
variable {v:Value} {B:VP} {f:FuncId} {xs:List Operand} {ts:Array TypeId} {As:List VP} {it:Item} {L1:List Item} {ι:Type} {R:ι->VP} {p:ι->Prop} {it' it2':ι->Item}
theorem qj4 (hd:Drop1 L it L1) (hc:∀ (args:Array Value) (w:World),(callFunc f args).run P w = .ok (.enter f args) w)
  (hF:Fn P f As [it,fact v B] R (fun i=>[it' i])) (ha:ArgsE A L xs As) (hG:fact v B∈L1):OpS P c ⟨d,.call { callee:=.value (.func f),args:=xs.toArray,argTypes:=ts },ty,pos,af,g⟩ A L R (fun i=>it' i::L1):=qpt hd hc hF ha hG
theorem qmq (hd:Drop1 L it L1) (hc:∀ (args:Array Value) (w:World),(callFunc f args).run P w = .ok (.enter f args) w)
  (hF:Fn P f As [it,fact v B] R (fun i=>[it' i,it2' i])) (ha:ArgsE A L xs As) (hG:fact v B∈L1):OpS P c ⟨d,.call { callee:=.value (.func f),args:=xs.toArray,argTypes:=ts },ty,pos,af,g⟩ A L R (fun i=>it' i::it2' i::L1):=qpt hd hc hF ha hG
theorem qew (hd:Drop1 L it L1) (hc:∀ (args:Array Value) (w:World),(callFunc f args).run P w = .ok (.enter f args) w)
  (hF:FnX P f As [it,fact v B] p R (fun i=>[it' i,it2' i])) (ha:ArgsE A L xs As) (hG:fact v B∈L1):OpSX P c ⟨d,.call { callee:=.value (.func f),args:=xs.toArray,argTypes:=ts },ty,pos,af,g⟩ A L p R (fun i=>it' i::it2' i::L1):=qpt hd hc hF ha hG
theorem zea {R:VP} {L':List Item} (hL:LendL L L') (hc:∀ (args:Array Value) (w:World),(callFunc f args).run P w = .ok (.enter f args) w)
  (hF:FnK P f (fact v B) As R) (ha:ArgsE A L' xs As) (hG:fact v B∈L') (hR:qnd R):OpP P c ⟨d,.call { callee:=.value (.func f),args:=xs.toArray,argTypes:=ts },ty,pos,af,g⟩ A L R:=by
 intro φ a w K Q hm he hk;obtain ⟨φ1,hle,hm1⟩:=hL.mem [] φ w hm.mem;rw [List.nil_append] at hm1;have hv:=ha.alls (φ:=φ1) (a:=a) fun x hx B hB=>by
  obtain ⟨D,h1,h2⟩:=hB;exact h2 φ1 _ hm1.facts (D.mono hle (he x (by simp [Op.operands,Call.operands,hx]) D (.rfl' h1)))
 have hit:=hm1.items _ hG;unfold Oper.wp;rw [qeu hc];refine (hF φ1 w _ hv ⟨hm1.base,fun it hi=>by rw [List.mem_singleton] at hi;subst hi;exact hit,List.pairwise_singleton _ _⟩).mono ?_;rintro e w' ⟨i,v,φ',rfl,h1,h2⟩;have hk2:Kpt [] w w':=by have:=h2.kept;simpa [qbr,fact] using this
 refine hk (fun b i=>if b<w.heap.size then φ b i else φ' b i) _ w' ⟨⟨fun b i u hu=>?_,by simp,List.Pairwise.nil⟩,hk2,by simp [qbr],fun b i hb=>if_pos hb⟩ (hR _ _ _ h1);split at hu
 ·rename_i hb;exact h2.mem.base b i u (by rw [h2.old b i hb];exact hle _ _ _ hu)
 ·exact h2.mem.base b i u hu
end
theorem HP.addF {φ:Fz} {w:World} {v:Value} {B:VP} (h:HP c φ L w) (hB:B.ok φ v):HP c φ (fact v B::L) w:=
 ⟨⟨h.mem.base,fun it hi=>by
  rcases List.mem_cons.1 hi with rfl|hi
  ·exact ⟨hB,fun b (hb:none=some b)=>(nomatch hb)⟩
  ·exact h.mem.items _ hi,List.pairwise_cons.2 ⟨fun y _ b (hb:none=some b)=>(nomatch hb),h.mem.sep⟩⟩,h.kept,fun b hb=>by
  obtain ⟨x,hx,hxb⟩:=mem_names.1 hb;rcases List.mem_cons.1 hx with rfl|hx
  ·cases hxb
  ·exact h.mine b (mem_names.2 ⟨x,hx,hxb⟩),h.old⟩
def GoodG (c:Ctx) (b0:Nat) (Cs:List VP):Prop:=RefAt c.φ b0 0 Cs∧b0<c.w.heap.size∧∀ b i v,c.φ b i=some v->b<c.w.heap.size
theorem GoodG.ok {b0:Nat} {Cs:List VP} (h:GoodG c b0 Cs) {φ:Fz} {w:World} (hm:HP c φ L w):(IsRef Cs).ok φ (.pointer (some ⟨b0,0,none⟩)):=
 ⟨b0,0,rfl,fun j A hA=>by
  obtain ⟨u,h1,h2,h3⟩:=h.1 j A hA;have hle:Fle c.φ φ:=fun b i v e=>by rw [hm.old b i (h.2.2 b i v e)];exact e
  exact ⟨u,by rw [hm.old _ _ h.2.1];exact h1,A.mono hle h2,h3⟩⟩
theorem qg4 {t:TypeId} {x:Operand} {b0:Nat} {As Rs:List VP} {n:Nat} {D:TypeDesc} (hG:GoodG c b0 As) (hx:Ev A L x (Is (.pointer (some ⟨b0,0,none⟩)))) (hu:P.underlying t=some D) (hD:qqs D=true) (hn:(P.info? t).map (·.size)=some n) (hl:Nat.ble n As.length=true) (hR:As.take n=Rs):OpP P c ⟨d,.load t x,ty,pos,af,g⟩ A L (IsAgg Rs):=by
 intro φ a w K Q hm he hk;have hm':=hm.addF (hG.ok hm);refine qa6 (L:=fact (.pointer (some ⟨b0,0,none⟩)) (IsRef As)::L) (x:=x) (d:=d) (ty:=ty) (pos:=pos) (af:=af) (g:=g) (A:=A) ?_ hu hD hn hl hR φ a w K Q hm' (fun y hy B hB=>?_) hk
 ·obtain ⟨E,h1,h2⟩:=hx;exact ⟨E,h1,fun φ v hf hv=>by
   have h3:v=_:=h2 φ v (fun it hi=>hf it (List.mem_cons_of_mem _ hi)) hv;subst h3;exact hf _ (List.mem_cons_self ..) rfl⟩
 ·obtain ⟨E,h1,h2⟩:=hB;exact h2 φ _ hm'.mem.facts (he y hy E (.rfl' h1))
theorem Fn.enterG {N:Nat} {f:FuncId} {fn:Func} {x:Code} {As:List VP} {ι:Type} {R:ι->VP} {L':ι->List Item} {b0:Nat} {C:VP} {Cs:List VP} (hg:fact (.pointer (some ⟨b0,0,none⟩)) (IsRef (C::Cs))∈L) (hf:P.funcs[f]?=some fn) (hN:fn.ntmps=N) (hb:fn.body=some x) (hn:Nat.ble As.length N=true)
  (h:∀ c:Ctx,(c.X=qbr L∧c.ds=[])->GoodG c b0 (C::Cs)->JC P c N x (argE 0 As) L (bodyPost P fn (qre c R L'))):Fn P f As L R L':=by
 subst hN;intro φ w vs hA hm;have hlen:=hA.len;have hn':As.length<=fn.ntmps:=Nat.le_of_ble_eq_true hn;refine calls_of_wp hf hb (h ⟨w,φ,qbr L,[]⟩ ⟨rfl,rfl⟩ ?_ φ _ w ⟨rfl,?_,?_,HP.start hm⟩)
 ·obtain ⟨b,o,h1,h2⟩:=(hm.items _ hg).1;cases h1;refine ⟨h2,?_,fun b i v e=>qfp (hm.base b i v e)⟩;obtain ⟨u,h3,_⟩:=h2 0 C rfl;exact qfp (hm.base _ _ _ h3)
 ·simp only [Array.size_append,List.size_toArray,Array.size_replicate];omega
 ·refine qj9 As vs 0 hA fun j hj=>?_;simp only [Nat.zero_add];rw [Array.getD_eq_getD_getElem?,Array.getElem?_append_left (by simpa using hj),List.getD_eq_getElem?_getD];simp
end
section
variable {P:Program} {c:Ctx} {A:Nat->Option VP} {L:List Item} {d:Option Tmp} {ty:TypeId} {pos:String} {af:Array Edge} {g:Option (Nat×Bool)}
end
theorem qu4 (a:BitVec 32):FnP prog 176 [Is (.int .u32 (UV a))] (Ib false):=by
 refine FnP.enter func176 ntmps176 rfl rfl ?_;intro c hX;refine t14 ?_;exact qyc results176 rfl () (SubL.eq (by simp)) (List.nil_sublist _)
theorem qyh (a b:BitVec 32):FnP prog 117 [Is (.int .u32 (UV a)),Is (.int .u32 (UV b))] (Ii (qq8 (UV a) (UV b))):=by
 refine FnP.enter func117 ntmps117 rfl rfl ?_;intro c hX;refine t8 ?_;refine kR call176 (qu4 _) ?_;refine t6 ?_;refine kR call176 (qu4 _) ?_;refine t9 ?_;refine cN ?_ ?_<;>intro h3
 ·exact absurd h3 (by simp)
 refine t8 ?_;refine cN ?_ ?_<;>intro h7
 ·exact absurd h7 (by simp)
 refine t10 ?_;refine cN ?_ ?_<;>intro h9
 ·have h:UV a<UV b:=of_decide_eq_true h9;have e:qq8 (UV a) (UV b) = -1:=by unfold qq8;rw [if_pos h]
  refine t7 ?_;refine rB results117 rfl ?_;rw [e]
 have h:¬ UV a<UV b:=of_decide_eq_false h9;refine t10 ?_;refine cN ?_ ?_<;>intro h11
 ·have h':UV a>UV b:=of_decide_eq_true h11;have e:qq8 (UV a) (UV b)=1:=by unfold qq8;rw [if_neg h,if_pos h']
  refine t7 ?_;refine rB results117 rfl ?_;rw [e]
 have h':¬ UV a>UV b:=of_decide_eq_false h11;have e:qq8 (UV a) (UV b)=0:=by unfold qq8;rw [if_neg h,if_neg h']
 refine t8 ?_;refine rB results117 rfl ?_;rw [e]
theorem quh (e:En) (key:BitVec 32):FnP prog 116 [IsEn e,Is (.int .u32 (UV key))] (Ii (qq8 (UV e.key) (UV key))):=by
 refine FnP.enter func116 ntmps116 rfl rfl ?_;intro c hX;refine t3 ?_;intro i2;refine t8 ?_;refine kR call117 (qyh _ _) ?_;refine t4 ?_;refine rB results116 rfl ?_;rfl
@[reducible] def fPl:Value:=.func (.func 116) #[] #[]
theorem zf1 (a b:Int):(qq8 a b==0)=(a==b):=by
 unfold qq8;by_cases h:a<b
 ·rw [if_pos h];have:¬ a=b:=om;simp [this]
 ·rw [if_neg h];by_cases h2:a>b
  ·rw [if_pos h2];have:¬ a=b:=om;simp [this]
  ·rw [if_neg h2];have:a=b:=om;simp [this]
theorem zau (es:List En) (key:BitVec 32) (ha:zb4 es) (hl:es.length<=1000):FnP prog 115 [qad tEn es,Is (.int .u32 (UV key)),Is fPl] (qbs [Ii ((ixE key 0 es).1:Nat),Ib ((ixE key 0 es).2)]):=by
 obtain ⟨W,hW⟩:=xE (ixE key 0 es);rw [hW];refine FnP.enter func115 ntmps115 rfl rfl ?_;intro c hX;refine t22 ?_;refine qbm (fun z:Nat×Nat=>z.1<=z.2∧z.2<=es.length∧(∀ p x,p<z.1->es[p]?=some x->UV x.key<UV key)∧(∀ p x,z.2<=p->es[p]?=some x->UV key<=UV x.key)) (fun z=>[(0,qad tEn es),(1,Is (.int .u32 (UV key))),(2,Is fPl),(8,Ii (es.length:Nat)),(9,Ii (z.1:Nat)),(10,Ii (z.2:Nat))]) (fun _=>[]) (fun z=>z.2-z.1) (0,es.length) ⟨nZ _,Nat.le_refl _,fun p x h _=>by omega,fun p x h hx=>by have:=(List.getElem?_eq_some_iff.1 hx).1;omega⟩ qc5 qab ?_;rintro ⟨i,j⟩ ⟨hij,hjn,hlo,hhi⟩;dsimp only at hij hjn hlo hhi ⊢;refine t8 ?_;refine cN ?_ ?_<;>intro h3
 ·have hlt:i<j:=by have:=of_decide_eq_true h3;omega
  clear h3;obtain ⟨x,hx⟩:∃ x,es[(i+j) / 2]?=some x:=⟨_,gE om⟩
  refine t9 ?_;refine qao rfl (op_half (m:=i+j) (er rfl) (er rfl) om) ?_;refine t9 ?_;refine qao rfl (by exact qak (j:=(i+j) / 2) (er rfl) (er rfl) rfl rfl rf hx) ?_;refine t2 ?_;refine qao rfl (qj3 (er rfl) call116 (quh _ _) ⟨evR,⟨evR,trivial⟩⟩) ?_;refine t3 ?_;refine cN ?_ ?_<;>intro h5
  ·have hk:UV x.key<UV key:=by rw [qo2] at h5;exact of_decide_eq_true h5
   clear h5;refine t6 ?_;exact qaa ((i+j) / 2+1,j) ⟨by dsimp only;omega,hjn,fun p y hp hy=>by
     rcases Nat.lt_or_ge p ((i+j) / 2) with h1|h1
     ·have:=zgb ha hy hx h1;omega
     ·have h2:p=(i+j) / 2:=by dsimp only at hp;omega
      subst h2;rw [hx] at hy;cases hy;exact hk,hhi⟩ (by dsimp only;omega) qc5 qab
  have hk:UV key<=UV x.key:=by rw [qo2] at h5;have:=of_decide_eq_false h5;omega
  clear h5;refine t5 ?_;exact qaa (i,(i+j) / 2) ⟨by dsimp only;omega,by dsimp only;omega,hlo,fun p y hp hy=>by
    rcases Nat.lt_or_ge ((i+j) / 2) p with h1|h1
    ·have:=zgb ha hx hy h1;omega
    ·have h2:p=(i+j) / 2:=by dsimp only at hp;omega
     subst h2;rw [hx] at hy;cases hy;exact hk⟩ (by dsimp only;omega) qc5 qab
 have hie:i=j:=by have:=of_decide_eq_false h3;omega
 subst hie;clear h3;have hfd:=qu2 hjn hlo fun x hx=>hhi i x (Nat.le_refl _) hx;obtain ⟨x,hx⟩:∃ x,(i:Int)<(es.length:Nat)->es[i]?=some x:=by
  by_cases h:i<es.length
  ·exact ⟨es[i],fun _=>gE h⟩
  ·exact ⟨⟨0#32,Pt.nil⟩,fun h'=>by omega⟩
 have hW2:(i,decide ((i:Int)<(es.length:Nat))&&(qq8 (UV x.key) (UV key)==0))=W:=by
  rw [<- hW,hfd,zf1];by_cases h:(i:Int)<(es.length:Nat)
  ·rw [hx h,decide_eq_true h];rfl
  ·rw [List.getElem?_eq_none om,decide_eq_false h];rfl
 subst hW2;refine t15 ?_;(refine qcg rfl rfl rfl (fun hg=>(by have hg0:=hg;(try simp at hg);exact qak (j:=i) evG evG rfl rfl rf (hx (by simpa using hg)))) ?_);(refine qcg rfl rfl rfl (fun hg=>(by have hg0:=hg;(try simp at hg);exact qa6 (n:=3) evG rfl rfl rfl rf qbx)) ?_);refine s1 ?_;(refine qcg rfl rfl rfl (fun hg=>(by have hg0:=hg;(try simp at hg);exact qj3 evG call116 (quh _ _) ⟨evR,⟨evR,trivial⟩⟩)) ?_);refine t7 ?_;refine qbq (Bs:=[_,_]) results115 eR () ?_ (List.nil_sublist _);exact SubL.rfl'
theorem qml (b:Bk) (key:BitVec 32) (ha:zb4 b.es) (hl:b.es.length<=1000):FnP prog 58 [zb9 b,Is (.int .u32 (UV key))] (qbs [Ii ((ixE key 0 b.es).1:Nat),Ib ((ixE key 0 b.es).2)]):=by
 refine FnP.enter func58 ntmps58 rfl rfl ?_;intro c hX;refine t3 ?_;intro i2;refine t9 ?_;refine kR call115 (zau _ _ ha hl) ?_;refine t7 ?_;exact rA (Bs:=[_,_]) results58 eR
section
variable {P:Program} {c:Ctx} {A:Nat->Option VP} {L:List Item} {d:Option Tmp} {ty:TypeId} {pos:String} {af:Array Edge} {g:Option (Nat×Bool)}
variable {α:Type} {T:Ty α} {xs:List α}
theorem OpP.top {o:Oper} {F:VP} (h:OpP P c o A L F):OpP P c o A L Top:=fun φ a w K Q hm he hk=>h φ a w K Q hm he fun φ' v w' h1 _=>hk φ' v w' h1 trivial
theorem zd4 {x:Operand} {t e:TypeId} {lo hi:Option Operand} {ad:Option Addr} {l h n cap sz:Nat} (hx:Ev A L x (Is (.slice ad n cap))) (hu:P.underlying t=some (.slice e)) (hs:(P.info? e).map (·.size)=some sz) (hl:opN A L 0 lo l) (hh:opN A L n hi h) (h1:l<=h) (h2:h<=cap) (hn:n<=cap) :
  OpP P c ⟨d,.slice t x lo hi none,ty,pos,af,g⟩ A L (Is (.slice (if cap=l then ad else ad.map (·.add (l*sz))) (h-l) (cap-l))):=
 opp fun φ a w hm he=>by
  have e1:a.eval x = .slice ad n cap:=he x (by simp [Op.operands]) _ hx;have hlo:∀ y,lo=some y->∃ k,a.eval y = .int k (l:Int):=fun y hy=>by
   subst hy;obtain ⟨k,i,h3,h4⟩:=hl;have h5:a.eval y = .int k i:=he y (by simp [Op.operands]) _ h3;exact ⟨k,by rw [h5,h4]⟩
  have hhi:∀ y,hi=some y->∃ k,a.eval y = .int k (h:Int):=fun y hy=>by
   subst hy;obtain ⟨k,i,h3,h4⟩:=hh;have h5:a.eval y = .int k i:=he y (by simp [Op.operands]) _ h3;exact ⟨k,by rw [h5,h4]⟩
  have hb:(Instr.sliceBounds true n cap (lo.map a.eval) (hi.map a.eval) none).run P w = .ok (l,h,cap) w:=by
   cases hi with
   | none =>
    have hhn:h=n:=hh;exact qhf (P:=P) (a:=a) (lo:=lo) (hi:=none) (l:=l) (h:=h) (n:=n) (cp:=cap) hlo (fun e=>by subst e;exact hl) (fun _ e=>by cases e) (fun _=>hhn) h1 (Nat.le_of_eq hhn) hn w
   | some y=>exact qhf (P:=P) (a:=a) (lo:=lo) (hi:=some y) (l:=l) (h:=h) (n:=cap) (cp:=cap) hlo (fun e=>by subst e;exact hl) hhi (fun e=>by cases e) h1 h2 (Nat.le_refl _) w
  refine ⟨_,?_,rfl⟩;simp only [execOp,e1];refine qcd ?_;simp only [Instr.sliceAt,Sem.run_bind,run_underlying hu,Result.andThen_ok,Instr.slice];simp only [Option.map_none] at hb ⊢;simp only [hb,Result.andThen_ok,qbd hs,Sem.run_pure]
theorem qw5 {x:Operand} {t e:TypeId} {lo hi:Option Operand} {ad:Option Addr} {l h n cap sz:Nat} (hx:Ev A L x (Is (.slice ad n cap))) (hu:P.underlying t=some (.slice e)) (hs:(P.info? e).map (·.size)=some sz) (hl:opN A L 0 lo l) (hh:opN A L n hi h) (h1:l<=h) (h2:h<=cap) (hn:n<=cap) :
  OpP P c ⟨d,.slice t x lo hi none,ty,pos,af,g⟩ A L Top:=OpP.top (zd4 hx hu hs hl hh h1 h2 hn)
theorem qul {x y z u:Operand} {t e:TypeId} {ad:Option Addr} {l h m n cap sz:Nat} {k1 k2 k3:IntKind} {i1 i2 i3:Int} (hx:Ev A L x (Is (.slice ad n cap))) (hu:P.underlying t=some (.slice e)) (hs:(P.info? e).map (·.size)=some sz) (hy:Ev A L y (Is (.int k1 i1))) (hz:Ev A L z (Is (.int k2 i2))) (hv:Ev A L u (Is (.int k3 i3)))
  (e1:i1=l) (e2:i2=h) (e3:i3=m) (h1:l<=h) (h2:h<=m) (h3:m<=cap):OpP P c ⟨d,.slice t x (some y) (some z) (some u),ty,pos,af,g⟩ A L Top:=
 OpP.top (F:=Is (.slice (if m=l then ad else ad.map (·.add (l*sz))) (h-l) (m-l))) <| opp fun φ a w hm he=>by
  have f1:a.eval x = .slice ad n cap:=he x (by simp [Op.operands]) _ hx;have g1:a.eval y = .int k1 i1:=he y (by simp [Op.operands]) _ hy;have g2:a.eval z = .int k2 i2:=he z (by simp [Op.operands]) _ hz;have g3:a.eval u = .int k3 i3:=he u (by simp [Op.operands]) _ hv;refine ⟨_,?_,rfl⟩;simp only [execOp,f1];refine qcd ?_;simp only [Instr.sliceAt,Sem.run_bind,run_underlying hu,Result.andThen_ok,Instr.slice,Option.map_some,Instr.sliceBounds,g1,g2,g3,qdy (P:=P) (y:=k3) (k:=k3) e3 h3,qdy (P:=P) (y:=k2) (k:=k2) e2 h2,qdy (P:=P) (y:=k1) (k:=k1) e1 h1,qbd hs,Sem.run_pure]
theorem qft {x:Operand} {t e:TypeId} {lo hi:Option Operand} {l h b o o2 n k2 cap c2 sz:Nat} (hx:Ev A L x (Is (slB b o n cap))) (hu:P.underlying t=some (.slice e)) (hs:(P.info? e).map (·.size)=some sz) (hl:opN A L 0 lo l) (hh:opN A L n hi h) (h1:l<=h) (h2:h<=cap) (hn:n<=cap) (hc:cap≠l)
  (ho:o2=o+l*sz) (hk:k2=h-l) (hc2:c2=cap-l):OpP P c ⟨d,.slice t x lo hi none,ty,pos,af,g⟩ A L (Is (slB b o2 k2 c2)):=by
 subst ho hk hc2;have:=qpr (P:=P) (c:=c) (d:=d) (ty:=ty) (pos:=pos) (af:=af) (g:=g) hx hu hs hl hh h1 h2 hn;rw [if_neg hc] at this;exact this
theorem qno {x y:Operand} {t e:TypeId} {b o n h cap sz:Nat} {k:IntKind} {i:Int} (hx:Ev A L x (Is (slB b o n cap))) (hu:P.underlying t=some (.slice e)) (hs:(P.info? e).map (·.size)=some sz) (hy:Ev A L y (Is (.int k i))) (hi:i=(h:Int)) (h2:h<=cap) (hn:n<=cap) :
  OpP P c ⟨d,.slice t x none (some y) none,ty,pos,af,g⟩ A L (Is (slB b o h cap)):=by
 have:=qpr (P:=P) (c:=c) (d:=d) (ty:=ty) (pos:=pos) (af:=af) (g:=g) (lo:=none) (hi:=some y) (l:=0) (h:=h) hx hu hs rfl ⟨k,i,hy,hi⟩ (nZ _) h2 hn;simp only [Nat.zero_mul,Nat.add_zero,Nat.sub_zero,ite_self] at this;exact this
theorem op_capB {x:Operand} {t e:TypeId} {ad:Option Addr} {n cap:Nat} (hx:Ev A L x (Is (.slice ad n cap))) (hu:P.underlying t=some (.slice e)):OpP P c ⟨d,.call { callee:=.builtin .cap,args:=#[x],argTypes:=#[t] },ty,pos,af,g⟩ A L (Ii (cap:Int)):=
 opp fun φ a w hm he=>by
  have e1:a.eval x = .slice ad n cap:=he x (by simp [Op.operands,Call.operands]) _ hx;refine ⟨_,?_,rfl⟩;have h4:(#[x].map a.eval)=#[.slice ad n cap]:=by simp [e1]
  have h5:(#[t]:Array TypeId)[0]?=some t:=rfl;simp only [execOp,resolve,h4,Sem.run_bind,Sem.run_pure,Result.andThen_ok,invoke,builtin,Builtin.cap_,h5,List.getElem?_toArray,List.getElem?_cons_zero,run_underlying hu];rfl
theorem JC_capB {Q:Exit->Act->World->Prop} {N:Nat} {E:Env} {x:Code} {e:TypeId} {b n cap:Nat} {L':List Item} (hd:Drop1 L (buf (slB b 0 n cap) e T xs) L') (h:n=xs.length->n<=cap->cap<=maxLen->JC P c N x E L Q):JC P c N x E L Q:=fun φ a w st =>
 let ⟨_,h1,h2,h3,_⟩:=qe5 st.mem hd.mem.1
 h h1 h2 h3 φ a w st
theorem JC_capV {Q:Exit->Act->World->Prop} {N:Nat} {E:Env} {x:Code} {e:TypeId} {m:Nat} {i:Option Addr×Nat} {L':List Item} (hd:Drop1 L (buf (slV m i) e T xs) L') (h:m<=i.2->JC P c N x E L Q):JC P c N x E L Q:=fun φ a w st=>by
 obtain ⟨flat,f0,f1,f2,f3⟩:=(st.mem.mem.items _ hd.mem.1).1;refine h ?_ φ a w st;rcases f3 with ⟨h1,_⟩|⟨b,cap,cur,h1,h2,h3,h4,h5,h6⟩
 ·simp only [slV,Value.slice.injEq] at h1;omega
 ·simp only [slV,Value.slice.injEq] at h1;omega
theorem op_appB {x y:Operand} {t e e2:TypeId} {b2 c2 n:Nat} {v:Option Addr×Nat} {z:α} {L':Option Addr×Nat->List Item} (hx:Ev A L x (Is (slV n v))) (hr:∀ i,Repl L (buf (slV n v) e T xs) (buf (slV (n+1) i) e T (xs++[z])) (L' i)) (hy:Ev A L y (Is (slB b2 0 1 c2))) (hz:buf (slB b2 0 1 c2) e2 T [z]∈L) (hT:AppT P t e T.size) (hn:n=xs.length) (hlen:n<=1000) :
  OpS P c ⟨d,.call { callee:=.builtin .append,args:=#[x,y],argTypes:=#[t,t] },ty,pos,af,g⟩ A L (fun i=>Is (slV (n+1) i)) L':=by
 subst hn;intro φ a w K Q hm he hk;have h1:a.eval x=_:=he x (by simp [Op.operands,Call.operands]) _ hx;have h2:a.eval y=_:=he y (by simp [Op.operands,Call.operands]) _ hy;have hit:=hm.mem.items _ (hr (none,0)).mem;obtain ⟨flat,f1,f2,f3⟩:=qha hit;obtain ⟨cur2,d1,d2,d3,d4,d5,u2,u3⟩:=qe5 hm hz;have hm2:1*T.size<=c2*T.size:=Nat.mul_le_mul_right _ d2;have hus:(cur2.toList.take (1*T.size)).length=1*T.size:=by rw [List.length_take,Array.length_toList];omega
 have u2':Alls φ (T.cells z) (cur2.toList.take (1*T.size)):=by simpa using u2
 have hcl:∀ j u,(cur2.toList.take (1*T.size))[j]?=some u->w.cell? ((⟨b2,0,none⟩:Addr).add j)=some u:=fun j u hj=>by
  rw [qcl];exact qn2 (o:=0) (m:=1*T.size) d4 j u (by rw [List.drop_zero];exact hj)
 generalize cur2.toList.take (1*T.size)=us at *;obtain ⟨zv,bytes,i1,i2,i3⟩:=hT.hi;obtain ⟨inf,hinf,hzz⟩:=Option.map_eq_some_iff.1 i1;simp only [Prod.mk.injEq] at hzz;obtain ⟨hz1,hs,hb⟩:=hzz;obtain ⟨v',w',r1,r2,r3,_,r4⟩:=run_append_own_at (P:=P) w 0 t ty e inf zv T.size bytes hT.ht hinf hz1 hs hb i2 hT.hs (slV xs.length v) xs.length flat f3 ⟨b2,0,none⟩ 1 c2 us hus hcl u3 (by unfold maxLen;omega) (by
  have:=Nat.mul_le_mul (show xs.length+1<=1001 by omega) i3;omega) (nZ _)
 obtain ⟨j,hj⟩:∃ j:Option Addr×Nat,v'=slV (xs.length+1) j:=by
  rcases r2.2 with ⟨rfl,h0⟩|⟨g,cap,cur,rfl,_⟩
  ·omega
  ·exact ⟨(some ⟨g,0,none⟩,cap),rfl⟩
 subst hj;have hlx:(xs++[z]).length=xs.length+1:=by simp
 have hrun:(execOp a.eval ⟨d,.call { callee:=.builtin .append,args:=#[x,y],argTypes:=#[t,t] },ty,pos,af,g⟩).run P w = .ok (.value (slV (xs.length+1) j)) w':=by
  have h4:(#[x,y].map a.eval)=#[slV xs.length v,.slice (some ⟨b2,0,none⟩) 1 c2]:=by simp [h1,h2]
  simp only [execOp,resolve,h4,Sem.run_bind,Sem.run_pure,Result.andThen_ok,invoke,builtin,r1]
 unfold Oper.wp;rw [hrun];have hm1:HP ⟨w,φ,qbr [buf (slV xs.length v) e T xs],[]⟩ φ [buf (slV xs.length v) e T xs] w:=HP.start ⟨hm.mem.base,fun it hi=>by rw [List.mem_singleton] at hi;subst hi;exact hit,List.pairwise_singleton _ _⟩;have hal:Alls φ ((xs++[z]).flatMap T.cells) (flat++us):=by rw [List.flatMap_append];exact f1.append (by simpa using u2')
 have hon:ones (flat++us):=fun u hu=>by
  rcases List.mem_append.1 hu with hu|hu
  ·exact f2 u hu
  ·exact u3 u hu
 have h5:=qvc (L:=[]) (zs:=xs++[z]) hm1 hal hon (by rw [hlx];exact r2) r3 r4;refine hk j φ _ w' Fle.rfl' rfl (hm.upd (hr j) h5.kept (h5.mem.items _ (List.mem_singleton.2 rfl)) fun b hb=>?_);rcases r4 with r6|r6
 ·exact .inr (by rw [<- hb];exact r6.symm)
 ·have hb':(slV (xs.length+1) j).ownBlock=some b:=hb;rw [r6] at hb';injection hb' with hb';exact .inl om
theorem zd9 {x y:Operand} {t e:TypeId} {j:Int} {b o n k cap sz:Nat} {q:IntKind} (hx:Ev A L x (Is (slB b o n cap))) (hy:Ev A L y (Is (.int q j))) (hu:P.underlying t=some (.slice e)) (hs:(P.info? e).map (·.size)=some sz) (hj:j=k) (hk:k<n) :
  OpP P c ⟨d,.indexAddr t x y,ty,pos,af,g⟩ A L (Is (.pointer (some ⟨b,o+k*sz,none⟩))):=
 opp fun φ a w hm he=>by
  have h1:a.eval x=slB b o n cap:=he x (by simp [Op.operands]) _ hx;have h6:a.eval y = .int q j:=he y (by simp [Op.operands]) _ hy;refine ⟨_,?_,rfl⟩;have h7:(0:Int)<=j∧j<(n:Int):=om;have h8:j.toNat=k:=om;simp only [execOp,h1,h6,slB];refine qcd ?_;simp only [Instr.indexAt,asIntOf,Sem.run_bind,Sem.run_pure,Result.andThen_ok,run_underlying hu,h7,and_self,if_true,qbd hs,h8,qcl]
theorem op_loadB {t e:TypeId} {x:Operand} {b o n cap m:Nat} {Rs:List VP} {D:TypeDesc} (hx:Ev A L x (Is (.pointer (some ⟨b,o,none⟩)))) (hL:buf (slB b 0 n cap) e T xs∈L) (hu:P.underlying t=some D) (hD:qqs D=true) (hn:(P.info? t).map (·.size)=some m) (hl:o+m<=n*T.size) (hR:((xs.flatMap T.cells).drop o).take m=Rs) :
  OpP P c ⟨d,.load t x,ty,pos,af,g⟩ A L (IsAgg Rs):=
 opp fun φ a w hm he=>by
  subst hR;have h1:a.eval x = .pointer (some ⟨b,o,none⟩):=he x (by simp [Op.operands]) _ hx;obtain ⟨cur,e1,e2,e3,e4,e5,e6,e7⟩:=qe5 hm hL;have m1:n*T.size<=cap*T.size:=Nat.mul_le_mul_right _ e2;have hvl:(cur.toList.take (n*T.size)).length=n*T.size:=by rw [List.length_take,Array.length_toList];omega
  have h6:=qgb (w:=w) (b:=b) (o:=o) (vs:=((cur.toList.take (n*T.size)).drop o).take m) hu hD hn (by rw [List.length_take,List.length_drop];omega) fun j v hj=>by
   rw [List.getElem?_take] at hj;split at hj
   ·rw [List.getElem?_drop,List.getElem?_take] at hj;split at hj
    ·exact zac e4 _ hj
    ·cases hj
   ·cases hj
  exact ⟨_,by simp only [execOp,h1];exact qcd h6,⟨_,rfl,(e6.drop o).take m,fun u hu=>e7 u (List.mem_of_mem_drop (List.mem_of_mem_take hu))⟩⟩
theorem zfn {xs:List α} {k:Nat} {z:α} (hz:xs[k]?=some z) {f m:Nat} (hf:f+m<=T.size):((xs.flatMap T.cells).drop (k*T.size+f)).take m=((T.cells z).drop f).take m:=by
 have h1:xs=xs.take k++z::xs.drop (k+1):=by
  obtain ⟨h,rfl⟩:=List.getElem?_eq_some_iff.1 hz;rw [<- List.drop_eq_getElem_cons h,List.take_append_drop]
 have hk:=(List.getElem?_eq_some_iff.1 hz).1;have h2:((xs.take k).flatMap T.cells).length=k*T.size:=by
  rw [qhx,List.length_take];have:(xs.flatMap T.cells).length=xs.length*T.size:=by
   clear h1 hz hk;induction xs with
   | nil=>simp
   | cons y ys ih=>rw [List.flatMap_cons,List.length_append,ih,T.len,List.length_cons,Nat.add_mul];omega
  have:=Nat.mul_le_mul_right T.size (Nat.le_of_lt hk);omega
 have h3:xs.flatMap T.cells=(xs.take k).flatMap T.cells++(T.cells z++(xs.drop (k+1)).flatMap T.cells):=by
  conv=>lhs;rw [h1]
  rw [List.flatMap_append,List.flatMap_cons]
 rw [h3,List.drop_append,h2,List.drop_of_length_le om,List.nil_append,show k*T.size+f-k*T.size=f by omega,List.drop_append,List.take_append];have h4:(T.cells z).length=T.size:=T.len z;rw [show m-((T.cells z).drop f).length=0 by rw [List.length_drop];omega,List.take_zero,List.append_nil]
end
theorem ovl_run (args:Array Value) (w:World):(callFunc 177 args).run prog w=((Extern.SlicesOverlaps.overlaps #[130,130] #[4] args).run prog w).andThen fun v w'=>.ok (.value v) w':=
 run_callFunc_extern func177 kr kr kr (e:=Extern.SlicesOverlaps.overlaps #[130,130] #[4]) kr args w
theorem ins_list {es L0:List En} {e:En} {i:Nat} (hi:i<=es.length) (h:L0.take i=es.take i) (h2:i<L0.length):(L0.take i++e::L0.drop (i+1)).take (i+1)++es.drop i=es.take i++e::es.drop i:=by
 have h3:(es.take i).length=i:=by rw [List.length_take];omega
 rw [h,List.take_append,h3,List.take_of_length_le om,show i+1-i=1 by omega];simp
theorem ze5 {es:List En} {e:En} {i:Nat} (hi:i<es.length):((es.take (i+1)++es.drop i).take i++e::(es.take (i+1)++es.drop i).drop (i+1))=es.take i++e::es.drop i:=by
 have h3:(es.take (i+1)).length=i+1:=by rw [List.length_take];omega
 rw [List.take_append,List.drop_append,h3,List.take_take,Nat.min_eq_left om,show i-(i+1)=0 by omega,List.take_zero,List.append_nil,List.drop_of_length_le om,show i+1-(i+1)=0 by omega,List.drop_zero,List.nil_append]
theorem zbe (b2 n i:Nat) (v:Option Addr×Nat) (es:List En) (e:En) (hn:n=es.length) (hi:i<=n) (h4:n<=4) :
  Fn prog 118 [Is (slV n v),Ii (i:Nat),Is (slB b2 0 1 1)] [buf (slV n v) 139 tEn es,buf (slB b2 0 1 1) 139 tEn [e]]
   (fun j:Option Addr×Nat=>Is (slV (n+1) j)) (fun j=>[buf (slV (n+1) j) 139 tEn (es.take i++e::es.drop i)]):=by
 refine Fn.enterN func118 ntmps118 rfl rfl ?_;intro c hX;refine JC_capV qam fun hcv=>?_;refine t9 ?_;refine qao rfl (qw5 (ad:=v.1) (cap:=v.2) (l:=i) (h:=n) (er rfl) rfl rfl ⟨_,_,(er rfl),rfl⟩ rfl hi hcv hcv) ?_;refine t16 ?_;refine cN ?_ ?_<;>intro h3
 ·exact absurd h3 (by simp)
 refine t17 ?_;refine cN ?_ ?_<;>intro h6
 ·have hin:i=n:=by have h:=of_decide_eq_true h6;omega
  subst hin;clear h6;refine t4 ?_;(refine qc6 rfl (op_appB (T:=tEn) (xs:=es) (z:=e) (er rfl) (fun _=>qaf) (er rfl) qba (qfz rfl rf rf) hn om) ?_;intro i25);refine t5 ?_;rw [show es++[e]=es.take i++e::es.drop i by rw [hn,List.take_length,List.drop_length]];exact qbp (Bs:=[_]) results118 eR i25 SubL.rfl' qab
 have hlt:i<n:=by have:=of_decide_eq_false h6;omega
 clear h6;refine zgw qam om fun g cap hv hn2 hnc hcm=>?_;subst hv;refine t9 ?_;refine qao rfl (op_capB (er rfl) rfl) ?_;refine t3 ?_;refine cN ?_ ?_<;>intro h8
 ·have hgr:cap<n+1:=by have:=of_decide_eq_true h8;simp at this;omega
  clear h8;refine t4 ?_;refine qao rfl (qno (h:=i) (er rfl) rfl rfl (er rfl) rfl om om) ?_;refine t5 ?_;(refine JL_n rfl (op_appZ (T:=tEn) (xs:=es) (k:=n+1-i) (z0:=(⟨0#32,Pt.nil⟩:En)) (er rfl) (Ev.sub rfl (SubL.eq (by congr 2;simp;omega))) rfl rfl rf rf (fun φ=>by exact ⟨rfl,rfl,rfl,trivial⟩) rf qba hi om om de de om (show i+(n+1-i)=n+1 by omega)) ?_;intro i40);refine t4 ?_;refine JC_capB qam fun hn3 hnc3 hcm3=>?_;refine t3 ?_;refine qao rfl (qft (sz:=3) (l:=i) (h:=n+1) (o2:=i*3) (er rfl) rfl rfl ⟨_,_,(er rfl),rfl⟩ rfl om om om om om rfl rfl) ?_;refine s1 ?_;(refine qc6 rfl (zd5 (z:=e) (i:=i) (er rfl) (er rfl) qba rfl rfl qaf om (by show _=_*3;omega) om) ?_;intro i45);refine Z32 ?_;refine qaj 8 kr ?_;refine t4 ?_;refine qbc (qft (sz:=3) (l:=i+1) (h:=n+1) (o2:=(i+1)*3) (er rfl) rfl rfl ⟨_,_,(er rfl),by simp⟩ rfl om om om om om rfl rfl) ?_;refine t2 ?_;refine qbc (qft (sz:=3) (l:=i) (h:=n) (o2:=i*3) (er rfl) rfl rfl ⟨_,_,(er rfl),rfl⟩ rfl om om om om om rfl rfl) ?_;refine ⟨rfl,?_⟩;(refine JD_s kr rfl rfl (qxb (ys:=es) (j:=i+1) (i:=i) (er rfl) (er rfl) qba rfl rfl qaf om om om (by show _=_*3;omega) (by show _=_*3;omega) rfl rfl) ?_;intro i54);refine Z33 ?_;rw [ins_list om (by rw [List.take_append,List.length_take,List.take_take];simp;omega) (by simp;omega)];refine t7 ?_;exact qbp (Bs:=[_]) results118 eR (some ⟨_,0,none⟩,_) SubL.rfl' qab
 have hro:n+1<=cap:=by have:=of_decide_eq_false h8;simp at this;omega
 clear h8;refine t8 ?_;refine qao rfl (qno (h:=n+1) (er rfl) rfl rfl (er rfl) (by simp) om om) ?_;refine t11 ?_;refine qao rfl (qft (sz:=3) (l:=i+1) (h:=n+1) (o2:=(i+1)*3) (er rfl) rfl rfl ⟨_,_,(er rfl),by simp⟩ rfl om om om om om rfl rfl) ?_;refine qao rfl (op_apart (zs:=[e]) (xs:=es) (T:=tEn) ovl_run (er rfl) (er rfl) qam qam de om rfl rfl) ?_;refine t3 ?_;refine cN ?_ ?_<;>intro h14
 ·refine s1 ?_;refine Z101 ?_;refine t4 ?_;refine qbc (qft (sz:=3) (l:=i+1) (h:=n+1) (o2:=(i+1)*3) (er rfl) rfl rfl ⟨_,_,(er rfl),by simp⟩ rfl om om om om om rfl rfl) ?_;refine t2 ?_;refine qbc (qft (sz:=3) (l:=i) (h:=n+1) (o2:=i*3) (er rfl) rfl rfl ⟨_,_,(er rfl),rfl⟩ rfl om om om om om rfl rfl) ?_;refine ⟨rfl,?_⟩;(refine JD_s kr rfl rfl (zd7 (xs:=es) (i:=i) (er rfl) (er rfl) rfl rfl qaf hlt hro (by show _=_*3;omega) (by show _=_*3;omega) om rfl) ?_;intro i77);refine qda ?_;refine t5 ?_;refine qao rfl (qft (sz:=3) (l:=i) (h:=n+1) (o2:=i*3) (er rfl) rfl rfl ⟨_,_,(er rfl),rfl⟩ rfl om om om om om rfl rfl) ?_;refine s1 ?_;(refine qc6 rfl (zd5 (z:=e) (i:=i) (er rfl) (er rfl) qba rfl rfl qaf om (by show _=_*3;omega) om) ?_;intro i82);refine t3 ?_;rw [ze5 om];refine t7 ?_;exact qbp (Bs:=[_]) results118 eR (some ⟨g,0,none⟩,cap) SubL.rfl' qab
 exact absurd h14 (by simp)
theorem zbp (n i:Nat) (v:Option Addr×Nat) (es:List En) (hn:n=es.length) (hi:i<n) (h5:n<=1000) :
  Fn prog 67 [Is (slV n v),Ii (i:Nat),Ii ((i:Nat)+1)] [buf (slV n v) 139 tEn es]
   (fun j:Option Addr×Nat=>Is (slV (n-1) j)) (fun j=>[buf (slV (n-1) j) 139 tEn (es.take i++es.drop (i+1))]):=by
 refine Fn.enterN func67 ntmps67 rfl rfl ?_;intro c hX;refine zgw qam om fun g cap hv hn2 hnc hcm=>?_;subst hv;refine t12 ?_;refine qao rfl (qul (ad:=some ⟨g,0,none⟩) (l:=i) (h:=i+1) (m:=n) (sz:=3) (er rfl) rfl rfl (er rfl) (er rfl) (er rfl) rfl (by simp) rfl om om hnc) ?_;refine t10 ?_;refine cN ?_ ?_<;>intro h2
 ·exact absurd h2 (by simp;omega)
 refine t10 ?_;refine Z5 ?_;refine qaj 6 kr ?_;refine t2 ?_;refine qbc (qno (sz:=3) (h:=i) (er rfl) rfl rfl (er rfl) rfl om om) ?_;refine t2 ?_;refine qbc (qpr (sz:=3) (l:=i+1) (h:=n) (er rfl) rfl rfl ⟨_,_,(er rfl),by simp⟩ rfl om om om) ?_;refine ⟨rfl,?_⟩;(refine JD_s kr rfl rfl (qw6 (T:=tEn) (xs:=es) (i:=i) (o2:=0+(i+1)*3) (er rfl) (er rfl) rfl rfl ⟨_,_,by rfl⟩ qaf hi (by show _=_*3;omega) rfl) ?_;intro i26);refine Z80 ?_;refine Z74 ?_;refine qao rfl (qft (sz:=3) (l:=n-1) (h:=n) (o2:=(n-1)*3) (k2:=1) (er rfl) rfl rfl ⟨_,_,(er rfl),rfl⟩ ⟨_,_,(er rfl),rfl⟩ om om om om om om rfl) ?_;refine qjw (qus (T:=tEn) (xs:=es.take i++es.drop (i+1)) (n:=n-1) (er rfl) rfl rf rf rf qaf (by show _=_*3;rfl) om) ?_;refine t9 ?_;exact qbp (Bs:=[_]) results67 eR (some ⟨g,0,none⟩,cap) SubL.rfl' qab
theorem wiV_at (l:List En) (e:En):wiV l e=l.take (ixE e.key 0 l).1++e::l.drop (ixE e.key 0 l).1:=by
 unfold wiV;simp
theorem addE_no (b:Nat) (B:Bk) (v:Option Addr×Nat) (e:En) (ha:zb4 B.es) (hl:B.es.length=5) :
  Fn prog 60 [Is (.pointer (some ⟨b,0,none⟩)),IsEn e] [blk b 132 [Ii B.depth,Is (.int .u32 (UV B.pat)),Ii B.next.line,Ii B.next.gen,Is (slV B.es.length v)],buf (slV B.es.length v) 139 tEn B.es]
   (fun _:Unit=>Ib false) (fun _=>[blk b 132 [Ii B.depth,Is (.int .u32 (UV B.pat)),Ii B.next.line,Ii B.next.gen,Is (slV B.es.length v)],buf (slV B.es.length v) 139 tEn B.es]):=by
 refine Fn.enterN func60 ntmps60 rfl rfl ?_;intro c hX;refine t3 ?_;intro i3;refine t14 ?_;refine cN ?_ ?_<;>intro h1
 ·refine t7 ?_;exact qbp (Bs:=[_]) results60 eR () SubL.rfl' qab
 exact absurd h1 (by rw [hl];simp)
theorem addE_ok (b:Nat) (B:Bk) (v:Option Addr×Nat) (e:En) (ha:zb4 B.es) (hl:B.es.length<5) :
  Fn prog 60 [Is (.pointer (some ⟨b,0,none⟩)),IsEn e] [blk b 132 [Ii B.depth,Is (.int .u32 (UV B.pat)),Ii B.next.line,Ii B.next.gen,Is (slV B.es.length v)],buf (slV B.es.length v) 139 tEn B.es]
   (fun _:Option Addr×Nat=>Ib true) (fun j=>[blk b 132 [Ii B.depth,Is (.int .u32 (UV B.pat)),Ii B.next.line,Ii B.next.gen,Is (slV (B.es.length+1) j)],buf (slV (B.es.length+1) j) 139 tEn (wiV B.es e)]):=by
 have hix:(ixE e.key 0 B.es).1<=B.es.length:=by have:=(qoe e.key B.es 0).1;omega
 rw [wiV_at];refine Fn.enterN func60 ntmps60 rfl rfl ?_;intro c hX;refine t3 ?_;intro i3;refine t14 ?_;refine cN ?_ ?_<;>intro h1
 ·exact absurd h1 (by simp;omega)
 refine Z32 ?_;refine qx3 ?_;refine t5 ?_;refine qbc (by ((refine qdz (by (try simp only [List.append_eq,List.nil_append,List.cons_append]);exact qe1) call58 (qml B e.key ha ?_) ⟨evR,⟨evR,trivial⟩⟩ qla);all_goals (omega))) ?_;refine t5 ?_;refine ⟨rfl,?_⟩;refine Z33 ?_;refine Z23 ?_;refine qd6 0 rfl kr (fun _=>(qeq rfl)) ?_;refine f1 1 ?_;refine Z68 ?_;refine f1 4 ?_;refine f1 5 ?_;refine f1 6 ?_;refine JF_n 7 rfl kr (qqz (T:=tEn) ([e]) (size:=3) (qs:=[(0,_)]) rfl rfl rfl ⟨⟨rfl,_,(er rfl),qa5⟩,trivial⟩ rf rf zc3) ?_;(refine qe4 29 7 kr rfl rfl ?_;intro i29);(refine qwk 8 [1,2,3,4,5,6,7,8] rfl kr (fun c'=>by ((refine qb3 qam qam call118 (zbe i29 B.es.length (ixE e.key 0 B.es).1 v B.es e rfl hix ?_) ⟨evR,⟨evR,⟨evR,trivial⟩⟩⟩);all_goals (omega))) ?_;intro i30);refine f1 9 ?_;refine f1 10 ?_;refine qdw 11 [0,1,2,3,4,5,6,7,8,9,10,11] rfl kr (fun c'=>by exact qat (er rfl) (er rfl) qa5 qaf rf rf rf) ?_;refine Z36 ?_;show JQ _ _ _ _ _ _;refine t7 ?_;exact qbp (Bs:=[_]) results60 eR i30 SubL.rfl' qab
@[reducible] def bkC (b:Bk) (i:Option Addr×Nat):List VP:=[Ii b.depth,Is (.int .u32 (UV b.pat)),Ii b.next.line,Ii b.next.gen,Is (slV b.es.length i)]
@[reducible] def bkB (b:Bk) (i:Option Addr×Nat):Item:=buf (slV b.es.length i) 139 tEn b.es
theorem qrd (p:Pg):Fn prog 175 [qcv p] [qfd] (fun i:Option Addr×Nat=>qbs [IsAgg (bkC (qdq p).1 i),Ii ((qdq p).2)]) (fun i=>[bkB (qdq p).1 i]):=by
 have hc:=cnt_rng (qf9 p.d0);have hc2:=dep_rng (qf9 p.d0);have hc3:=zaa (qf9 p.d0);refine Fn.enterN func175 ntmps175 rfl rfl ?_;intro c hX;refine t3 ?_;intro i1;refine s1 ?_;intro i2;refine t8 ?_;refine kR call119 (qgu _) ?_;refine s1 ?_;intro i4;refine t7 ?_;refine qao rfl (by exact qgo (k:=8) qn0 (er rfl) om qdh) ?_;refine t17 ?_;refine cN ?_ ?_<;>intro h3
 ·have e:qdq p=(Bk.nil,14):=qrm h3;rw [e];refine s1 ?_;refine Z83 ?_;refine t8 ?_;exact qbp (Bs:=[IsAgg (bkC Bk.nil (none,0)),Ii 14]) results175 eR (none,0) SubL.rfl' qab
 have h0:(qcw p.d0 != 2||decide (qle (qf9 p.d0)>5))=false:=h3;have hn5:qle (qf9 p.d0)<=5:=by
  simp only [Bool.or_eq_false_iff,decide_eq_false_iff_not] at h0;omega
 obtain ⟨n,hn⟩:∃ n:Nat,qle (qf9 p.d0)=n:=⟨(qle (qf9 p.d0)).toNat,om⟩
 have hes:(rdB p).es=qm3 p n:=by show qm3 p (qle (qf9 p.d0)).toNat=_;rw [hn,Int.toNat_natCast]
 have hl5:(rdB p).es.length<=5:=by rw [hes,qg8 p om];omega
 clear h3;refine qbl 5 (Ii (n:Int)) rfl (SubL.eq (by rw [<- hn];rfl)) ?_;refine t8 ?_;refine kR call111 (qko _) ?_;refine t4 ?_;intro i6;refine t12 ?_;refine Z81 ?_;refine t3 ?_;intro i8;refine t5 ?_;refine Z83 ?_;refine qec hX (b:=i1) qaf ?_;refine qbl 1 (IsRef (tPg.cells p)) rfl (SubL.fact qba) ?_;refine t4 ?_;refine qao rfl (quk (T:=tU64) (dat p) (l:=2) (u:=2+n) (er rfl) rfl rfl (er rfl) (er rfl) om om om (by show _<=7;omega) rfl rf zc3) ?_;refine t5 ?_;have hxl:(((dat p).take (2+n)).drop 2).length=n:=by simp [dat];omega
 refine qbl 49 (Ii (n:Int)) rfl (SubL.eq (by rw [hxl])) ?_;refine qbm (fun i:Nat×(Option Addr×Nat)=>i.1<=n) (fun i=>[(1,IsRef (tPg.cells p)),(2,Is (.pointer (some ⟨i2,0,none⟩))),(7,Ib (okW (p.d1.setWidth 32))),(8,Is (.pointer (some ⟨i8,0,none⟩))),(48,qad tU64 (((dat p).take (2+n)).drop 2)),(49,Ii (n:Int)),(50,Ii (i.1:Nat))]) (fun i=>[blk i8 132 [Ii ((rdB p).depth),Is (.int .u32 (UV (rdB p).pat)),Ii ((rdB p).next.line),Ii ((rdB p).next.gen),Is (slV (qm3 p i.1).length i.2)],buf (slV (qm3 p i.1).length i.2) 139 tEn (qm3 p i.1),blk i2 132 [Ii 0,Is (.int .u32 0),Ii 0,Ii 0,Is (.slice none 0 0)],qfd]) (fun i=>n-i.1) (0,(none,0)) (nZ _) qc5 qab ?_;rintro ⟨k,s⟩ hk;dsimp only at hk ⊢;have hel:=qg8 p (n:=k) om;refine t6 ?_;refine cN ?_ ?_<;>intro h8
 ·have h':k<n:=by have:=of_decide_eq_true h8;omega
  have hz:(((dat p).take (2+n)).drop 2)[k]?=some (qgt p k):=by
   rw [List.getElem?_drop,List.getElem?_take,if_pos om];exact qxx p om
  clear h8;refine t6 ?_;refine qao rfl (by exact qak (j:=_) (er rfl) (er rfl) rfl rfl rf (by assumption)) ?_;refine Z38 ?_;refine qc1 (it:=buf _ _ _ _) (by repeat (first|exact Drop1.here _ _|apply Drop1.next)) ?_;refine qcz (its:=[_]) 12 kr ?_;refine Z112 ?_;refine qbc (qac call172 (qv2 _) ⟨evR,trivial⟩) ?_;refine s1 ?_;refine qbc (qa1 (size:=3) (qs:=[(0,_)]) rfl rfl rfl ⟨⟨rfl,_,(er rfl),qa5⟩,trivial⟩ rf rf) ?_;refine qv6 (s:=85) rfl rfl rfl rfl kr (zee (er rfl) (by exact Ev.sub rfl (by exact SubL.row (xs:=[unE (qgt p k)]) rf rf qiq)) (by exact qfz rfl rfl rfl) qcn) ?_;refine s1 ?_;refine ⟨rfl,?_⟩;intro i64;refine Z11 ?_;refine t6 ?_;rw [qvm p om];exact qaa (k+1,i64) (by dsimp only;omega) (by dsimp only;omega) qc5 qab
 have hkn:k=n:=by have:=of_decide_eq_false h8;omega
 subst hkn;clear h8;rw [<- hes];refine t7 ?_;refine Z5 ?_;refine qaj 16 kr ?_;refine t4 ?_;(refine qch rfl rfl (fun hg=>(by have hg0:=hg;(try simp at hg);exact zea (by (try simp only [List.append_eq,List.nil_append,List.cons_append]);exact qe1) call207 (zb2 (rdB p)) ⟨evR,trivial⟩ qba (by exact qcp))) ?_);refine t4 ?_;(refine qch rfl rfl (fun hg=>(by have hg0:=hg;(try simp at hg);exact qa6 (n:=9) evG rfl rfl rfl rf qbx)) ?_);(refine qch rfl rfl (fun hg=>(by have hg0:=hg;(try simp at hg);((refine qdz (by (try simp only [List.append_eq,List.nil_append,List.cons_append]);exact qe1) call62 (qgv (rdB p) p ?_) ⟨evR,⟨evR,trivial⟩⟩ qla);all_goals (assumption)))) ?_);(refine qch rfl rfl (fun hg=>(by have hg0:=hg;(try simp at hg);exact qnp (n:=7) evG rfl rfl rfl rfl rfl qbx)) ?_);refine s1 ?_;(refine qch rfl rfl (fun hg=>(by have hg0:=hg;(try simp at hg);exact qa6 (n:=7) evG rfl rfl rfl rf qbx)) ?_);(refine qch rfl rfl (fun hg=>(by have hg0:=hg;(try simp at hg);exact qb0 (vs:=qld (qej p (rdB p))) (ws:=qld p) evG evG (qp2 _ _ _ (qej p (rdB p)) p) (qz4 (qej p (rdB p)) p))) ?_);refine s1 ?_;refine ⟨rfl,?_⟩;refine Z20 ?_;refine cN ?_ ?_<;>intro h12
 ·rw [que h0 h12];refine s1 ?_;refine Z83 ?_;refine t8 ?_;exact qbp (Bs:=[IsAgg (bkC Bk.nil (none,0)),Ii 14]) results175 eR (none,0) SubL.rfl' qab
 rw [zdp h0 h12];refine t10 ?_;exact qbp (Bs:=[IsAgg (bkC (rdB p) s),Ii 0]) results175 eR s SubL.rfl' qab
theorem qlq {a:Int}:∀ φ v,(qem 1 1 [Ii a]).ok φ v->(qad qaw [a]).ok φ v:=fun φ v h=>SubL.row (L:=[]) (T:=qaw) (xs:=[a]) (As:=[Ii a]) rf rf (show SubLs [] [Ii a] [Ii a] from ⟨SubL.rfl',trivial⟩) φ v (fun _ hx=>nomatch hx) h
theorem qo7 (b:Nat) (l:Int) {G0 G1 G2 G3 G4 G5 G7 G8 G9 G10 G11 G12 G13 G14 G15 G16 G17 G18 G19 G20 G21 G22 G23 G24 G25 G26 G27 G28 G29 G30 G31 G32 G33 G34 G35 G36 G37 G38:VP} {N0:VP}:Fn prog 52 [Is (.pointer (some ⟨b,0,none⟩)),Ii l] [blk b 83 (G0::G1::G2::G3::G4::G5::N0::G7::G8::G9::G10::G11::G12::G13::G14::G15::G16::G17::G18::G19::G20::G21::G22::G23::G24::G25::G26::G27::G28::G29::G30::G31::G32::G33::G34::G35::G36::G37::G38::[])]
  (fun _:Unit=>Ib false) (fun _=>[blk b 83 (G0::G1::G2::G3::G4::G5::qad qaw ([l])::G7::G8::G9::G10::G11::G12::G13::G14::G15::G16::G17::G18::G19::G20::G21::G22::G23::G24::G25::G26::G27::G28::G29::G30::G31::G32::G33::G34::G35::G36::G37::G38::[])]):=by
 refine Fn.enterN func52 ntmps52 rfl rfl ?_;intro c hX;refine t9 ?_;refine qao rfl (OpP.sub (qb7 (Rs:=[Ii l]) (size:=1) (qs:=[(0,[Ii l])]) rfl rfl rfl ⟨⟨rfl,_,(er rfl),qa5⟩,trivial⟩ rf rf) qlq) ?_;refine t11 ?_;exact qbp (Bs:=[Ib false]) results52 eR () SubL.rfl' qab
theorem qdj (b:Nat) (c0:Int) (ck:List Int) {G0 G1 G2 G3 G4 G5 G6 G9 G10 G11 G12 G13 G14 G15 G17 G18 G19 G20 G21 G22 G23 G24 G25 G26 G27 G28 G29 G30 G31 G32 G33 G34 G35 G36 G37 G38:VP} {N0 N1 N2:VP}:Fn prog 54 [Is (.pointer (some ⟨b,0,none⟩)),Ii c0,qad qaw ck] [blk b 83 (G0::G1::G2::G3::G4::G5::G6::N0::N1::G9::G10::G11::G12::G13::G14::G15::N2::G17::G18::G19::G20::G21::G22::G23::G24::G25::G26::G27::G28::G29::G30::G31::G32::G33::G34::G35::G36::G37::G38::[])]
  (fun _:Unit=>Ib false) (fun _=>[blk b 83 (G0::G1::G2::G3::G4::G5::G6::Is (.slice none 0 0)::Ii c0::G9::G10::G11::G12::G13::G14::G15::qad qaw ck::G17::G18::G19::G20::G21::G22::G23::G24::G25::G26::G27::G28::G29::G30::G31::G32::G33::G34::G35::G36::G37::G38::[])]):=by
 refine Fn.enterN func54 ntmps54 rfl rfl ?_;intro c hX;refine t31 ?_;exact qbp (Bs:=[Ib false]) results54 eR () SubL.rfl' qab
theorem qee (b:Nat) (q:Pg) (ws:List Pg) (s:Option Addr×Nat) (hl:ws.length<=10) {G0 G1 G2 G3 G4 G5 G6 G8 G9 G10 G11 G12 G13 G14 G15 G16 G17 G18 G19 G20 G21 G22 G23 G24 G25 G26 G27 G28 G29 G30 G31 G32 G33 G34 G35 G36 G37 G38:VP}:Fn prog 61 [Is (.pointer (some ⟨b,0,none⟩)),qcv q] [blk b 83 (G0::G1::G2::G3::G4::G5::G6::Is (slV ws.length s)::G8::G9::G10::G11::G12::G13::G14::G15::G16::G17::G18::G19::G20::G21::G22::G23::G24::G25::G26::G27::G28::G29::G30::G31::G32::G33::G34::G35::G36::G37::G38::[]),buf (slV ws.length s) 50 tPg ws]
  (fun _:Option Addr×Nat=>qbs []) (fun i=>[blk b 83 (G0::G1::G2::G3::G4::G5::G6::Is (slV (ws++[q]).length i)::G8::G9::G10::G11::G12::G13::G14::G15::G16::G17::G18::G19::G20::G21::G22::G23::G24::G25::G26::G27::G28::G29::G30::G31::G32::G33::G34::G35::G36::G37::G38::[]),buf (slV (ws++[q]).length i) 50 tPg (ws++[q])]):=by
 refine Fn.enterN func61 ntmps61 rfl rfl ?_;intro c hX;refine t3 ?_;intro i3;refine t2 ?_;refine Z23 ?_;refine qd6 0 rfl kr (fun _=>(qeq rfl)) ?_;refine f1 1 ?_;refine Z68 ?_;refine f1 4 ?_;refine f1 5 ?_;refine qes 6 rfl kr (qa1 (size:=9) (qs:=[(0,_)]) rfl rfl rfl ⟨⟨rfl,_,(er rfl),qa5⟩,trivial⟩ rf rf) ?_;(refine qwk 7 [1,2,3,4,5,6,7] rfl kr (fun c'=>by exact qca (er rfl) (fun _=>qaf) (by exact Ev.sub rfl (by exact SubL.row (xs:=[q]) rf rf qiq)) (by exact qfz rfl rfl rfl) qcn) ?_;intro i11);refine f1 8 ?_;refine f1 9 ?_;refine qdw 10 [0,1,2,3,4,5,6,7,8,9,10] rfl kr (fun c'=>by exact qat (er rfl) (er rfl) qa5 qaf rf rf rf) ?_;refine Z36 ?_;show JQ _ _ _ _ _ _;refine s1 ?_;exact qbp (Bs:=[]) results61 trivial i11 SubL.rfl' qab
def rrS (kind:Int) (ks:List Pg):List Int×Int×Pg×Rt×Bool:=
 if (!qjt ks 96)=true then ([96],0,Pg.nil,Rt.nil,false) else
 if (kind==5&&qet (qb9 ks 96))=true then ([],3,Pg.nil,Rt.nil,false) else
 if ((qdu (qb9 ks 96)).2 != 0)=true then ([],(qdu (qb9 ks 96)).2,Pg.nil,Rt.nil,false) else ([],0,qb9 ks 96,(qdu (qb9 ks 96)).1,true)
theorem qwx (b:Nat) (kind:Int) (ks:List Pg) {G1 G2 G3 G4 G9 G10 G11 G12 G13 G14 G15 G17 G18:VP}:Fn prog 21 [Is (.pointer (some ⟨b,0,none⟩))] [blk b 83 (Ii kind::G1::G2::G3::G4::qad tPg ks::qad qaw ([])::Is (.slice none 0 0)::Ii 0::G9::G10::G11::G12::G13::G14::G15::qad qaw ([])::G17::G18::Ii ((Pg.nil).l)::Iw ((Pg.nil).h)::Iw ((Pg.nil).d0)::Iw ((Pg.nil).d1)::Iw ((Pg.nil).d2)::Iw ((Pg.nil).d3)::Iw ((Pg.nil).d4)::Iw ((Pg.nil).d5)::Iw ((Pg.nil).d6)::Ii ((Rt.nil).first.line)::Ii ((Rt.nil).first.gen)::Ii ((Rt.nil).depth)::Ii ((Rt.nil).p0.line)::Ii ((Rt.nil).p0.gen)::Ii ((Rt.nil).p1.line)::Ii ((Rt.nil).p1.gen)::Ii ((Rt.nil).p2.line)::Ii ((Rt.nil).p2.gen)::Ii ((Rt.nil).p3.line)::Ii ((Rt.nil).p3.gen)::[]),qfd]
  (fun _:Unit=>Ib ((rrS kind ks).2.2.2.2)) (fun _=>[blk b 83 (Ii kind::G1::G2::G3::G4::qad tPg ks::qad qaw ((rrS kind ks).1)::Is (.slice none 0 0)::Ii ((rrS kind ks).2.1)::G9::G10::G11::G12::G13::G14::G15::qad qaw ([])::G17::G18::Ii (((rrS kind ks).2.2.1).l)::Iw (((rrS kind ks).2.2.1).h)::Iw (((rrS kind ks).2.2.1).d0)::Iw (((rrS kind ks).2.2.1).d1)::Iw (((rrS kind ks).2.2.1).d2)::Iw (((rrS kind ks).2.2.1).d3)::Iw (((rrS kind ks).2.2.1).d4)::Iw (((rrS kind ks).2.2.1).d5)::Iw (((rrS kind ks).2.2.1).d6)::Ii (((rrS kind ks).2.2.2.1).first.line)::Ii (((rrS kind ks).2.2.2.1).first.gen)::Ii (((rrS kind ks).2.2.2.1).depth)::Ii (((rrS kind ks).2.2.2.1).p0.line)::Ii (((rrS kind ks).2.2.2.1).p0.gen)::Ii (((rrS kind ks).2.2.2.1).p1.line)::Ii (((rrS kind ks).2.2.2.1).p1.gen)::Ii (((rrS kind ks).2.2.2.1).p2.line)::Ii (((rrS kind ks).2.2.2.1).p2.gen)::Ii (((rrS kind ks).2.2.2.1).p3.line)::Ii (((rrS kind ks).2.2.2.1).p3.gen)::[])]):=by
 obtain ⟨W,hE⟩:=xE (rrS kind ks);rw [hE];unfold rrS at hE;have hLat:=qr7 ks 96;have hRd:=qx7 (qb9 ks 96);generalize qb9 ks 96=p at *;generalize qjt ks 96=h0 at *;generalize qdu p=R at *;obtain ⟨R,cd⟩:=R;dsimp only at hE hRd;refine Fn.enterN func21 ntmps21 rfl rfl ?_;intro c hX;refine t11 ?_;refine kR call51 (hLat) ?_;refine t4 ?_;intro i3;refine t11 ?_;refine cN ?_ ?_<;>intro h2
 ·replace hE:=qaq hE h2;subst hE;refine t3 ?_;(refine qc6 rfl (qbn qam call52 (qo7 b _) ⟨evR,⟨evR,trivial⟩⟩) ?_;intro i18);refine t5 ?_;exact qbp (Bs:=[Ib false]) results21 eR () SubL.rfl' qab
 replace hE:=qar hE h2;refine t13 ?_;(refine qcg rfl rfl rfl (fun hg=>(by have hg0:=hg;(try simp at hg);exact qac call53 (qhm _) ⟨evR,trivial⟩)) ?_);refine t3 ?_;refine cN ?_ ?_<;>intro h4
 ·replace hE:=qaq hE h4;subst hE;refine t3 ?_;(refine qc6 rfl (qbn qam call54 (qdj b _ []) ⟨evR,⟨evR,⟨evR,trivial⟩⟩⟩) ?_;intro i30);refine t5 ?_;exact qbp (Bs:=[Ib false]) results21 eR () SubL.rfl' qab
 replace hE:=qar hE h4;refine t5 ?_;refine qao rfl (by ((refine qg5 call55 (hRd) ⟨evR,trivial⟩ qba))) ?_;refine t4 ?_;intro i5;refine t11 ?_;refine cN ?_ ?_<;>intro h7
 ·replace hE:=qaq hE h7;subst hE;refine t4 ?_;(refine qc6 rfl (qbn qam call54 (qdj b _ []) ⟨evR,⟨evR,⟨evR,trivial⟩⟩⟩) ?_;intro i40);refine t5 ?_;exact qbp (Bs:=[Ib false]) results21 eR () SubL.rfl' qab
 replace hE:=qar hE h7;subst hE;refine qdd (b:=i3) qaf (qgp hX) ?_;refine qbl 3 (IsRef (tPg.cells p)) rfl (SubL.fact qba) ?_;refine qdd (b:=i5) qaf (qgp hX) ?_;refine qbl 5 (IsRef (tRt.cells R)) rfl (SubL.fact qba) ?_;refine t3 ?_;refine Z23 ?_;refine f1 0 ?_;refine qd6 1 rfl kr (fun _=>(qeq rfl)) ?_;refine f1 2 ?_;refine qd6 3 rfl kr (fun _=>(by exact qa6 (n:=11) (er rfl) rfl rfl rfl rf qbx)) ?_;refine f1 4 ?_;refine f1 5 ?_;refine qdw 6 [0,2,4,5,6] rfl kr (fun c'=>by exact qat (er rfl) (er rfl) qa5 qaf rf rf rf) ?_;refine f1 7 ?_;refine f1 8 ?_;refine qdw 9 [0,1,2,3,4,5,6,7,8,9] rfl kr (fun c'=>by exact qat (er rfl) (er rfl) qa5 qaf rf rf rf) ?_;refine Z36 ?_;show JQ _ _ _ _ _ _;refine t2 ?_;refine qjl (b:=b) qaf qbx ?_;refine t5 ?_;exact qbp (Bs:=[Ib true]) results21 eR () SubL.rfl' qab
theorem k4 {k:Nat} (hk:k<4):k=0∨k=1∨k=2∨k=3:=om
section
variable {A0 A1 A2 A3 A4 A5 A6 A7 A8 A9 A10 A11 A12 A13 A14 A15 A16 A17 A18 A19 A20 A21 A22 A23 A24 A25 A26 A27:VP}
theorem ze9 (r:Rt) {k:Nat} (hk:k<4):((A0::A1::A2::A3::A4::A5::A6::A7::A8::A9::A10::A11::A12::A13::A14::A15::A16::A17::A18::A19::A20::A21::A22::A23::A24::A25::A26::A27::Ii r.first.line::Ii r.first.gen::Ii r.depth::Ii r.p0.line::Ii r.p0.gen::Ii r.p1.line::Ii r.p1.gen::Ii r.p2.line::Ii r.p2.gen::Ii r.p3.line::Ii r.p3.gen::[]).drop (31+k*2)).take 2=tPt.cells (qdv r k):=by
 rcases k4 hk with rfl|rfl|rfl|rfl <;> rfl
theorem qxl (r:Rt) {k:Nat} (hk:k<4):(A0::A1::A2::A3::A4::A5::A6::A7::A8::A9::A10::A11::A12::A13::A14::A15::A16::A17::A18::A19::A20::A21::A22::A23::A24::A25::A26::A27::Ii r.first.line::Ii r.first.gen::Ii r.depth::Ii r.p0.line::Ii r.p0.gen::Ii r.p1.line::Ii r.p1.gen::Ii r.p2.line::Ii r.p2.gen::Ii r.p3.line::Ii r.p3.gen::[])[31+k*2]?=some (Ii ((qdv r k).line)):=by
 rcases k4 hk with rfl|rfl|rfl|rfl <;> rfl
theorem zfa (r:Rt) {k:Nat} (hk:k<4):Nat.ble (31+k*2+2) (A0::A1::A2::A3::A4::A5::A6::A7::A8::A9::A10::A11::A12::A13::A14::A15::A16::A17::A18::A19::A20::A21::A22::A23::A24::A25::A26::A27::Ii r.first.line::Ii r.first.gen::Ii r.depth::Ii r.p0.line::Ii r.p0.gen::Ii r.p1.line::Ii r.p1.gen::Ii r.p2.line::Ii r.p2.gen::Ii r.p3.line::Ii r.p3.gen::[]).length=true:=by
 rcases k4 hk with rfl|rfl|rfl|rfl <;> rfl
end
def frN (U:List Pg×Int) (kinds:List Int):Int:=if (U.2==18)=true then (kinds.length:Int) else 0
theorem qs5 (b:Nat) (fr:List Pg) (kinds:List Int) (hk:∀ z,z∈kinds->1<=z∧z<=4) (hkl:kinds.length<=3) {G0 G1 G2 G3 G5 G6 G9 G10 G11 G12 G13 G14 G15 G17 G19 G20 G21 G22 G23 G24 G25 G26 G27 G28 G29 G30 G31 G32 G33 G34 G35 G36 G37 G38:VP}:Fn prog 63 [Is (.pointer (some ⟨b,0,none⟩)),qad qaw kinds] [blk b 83 (G0::G1::G2::G3::qad tPg fr::G5::G6::Is (.slice none 0 0)::Ii 0::G9::G10::G11::G12::G13::G14::G15::qad qaw ([])::G17::Ii 0::G19::G20::G21::G22::G23::G24::G25::G26::G27::G28::G29::G30::G31::G32::G33::G34::G35::G36::G37::G38::[])]
  (fun _:Unit=>qbs [qad tPg (frP fr kinds).1,Ib ((frP fr kinds).2==0)]) (fun _=>[blk b 83 (G0::G1::G2::G3::qad tPg fr::G5::G6::Is (.slice none 0 0)::Ii ((frP fr kinds).2)::G9::G10::G11::G12::G13::G14::G15::qad qaw ([])::G17::Ii (frN (frP fr kinds) kinds)::G19::G20::G21::G22::G23::G24::G25::G26::G27::G28::G29::G30::G31::G32::G33::G34::G35::G36::G37::G38::[])]):=by
 obtain ⟨U,hU⟩:=xE (frP fr kinds);rw [hU];unfold frP at hU;refine Fn.enterN func63 ntmps63 rfl rfl ?_;intro c hX;refine qjp (t:=1) rfl (fun hlen=>?_);refine t20 ?_;refine cN ?_ ?_<;>intro h1
 ·replace hU:=qaq hU h1;subst hU;refine t14 ?_;(refine qc6 rfl (qbn qam call54 (qdj b _ []) ⟨evR,⟨evR,⟨evR,trivial⟩⟩⟩) ?_;intro i28);refine t6 ?_;exact qbp (Bs:=[qad tPg [],Ib false]) results63 eR () SubL.rfl' qab
 replace hU:=qar hU h1;have hfl:kinds.length<=fr.length:=by have:=of_decide_eq_false h1;omega
 clear h1;refine t9 ?_;refine Z62 ?_;refine t7 ?_;refine qbm (fun z:Nat×List Pg×(Option Addr×Nat)=>z.1<=kinds.length∧z.2.1.length=z.1∧usP fr (kinds.drop z.1) z.1 z.2.1=U) (fun z=>[(0,Is (.pointer (some ⟨b,0,none⟩))),(1,qad qaw kinds),(6,Is (slV z.2.1.length z.2.2)),(29,qad qaw kinds),(30,Ii (kinds.length:Nat)),(31,Ii (z.1:Nat))]) (fun z=>[blk b 83 (G0::G1::G2::G3::qad tPg fr::G5::G6::Is (.slice none 0 0)::Ii 0::G9::G10::G11::G12::G13::G14::G15::qad qaw ([])::G17::Ii 0::G19::G20::G21::G22::G23::G24::G25::G26::G27::G28::G29::G30::G31::G32::G33::G34::G35::G36::G37::G38::[]),buf (slV z.2.1.length z.2.2) 50 tPg z.2.1]) (fun z=>kinds.length-z.1) (0,[],(none,0)) ⟨nZ _,rfl,hU⟩ qc5 qab ?_;rintro ⟨k,out,s⟩ ⟨hkk,hol,hs⟩;dsimp only at hkk hol hs ⊢;refine t6 ?_;refine cN ?_ ?_<;>intro h6
 ·have hlt:k<kinds.length:=by have:=of_decide_eq_true h6;omega
  clear h6;obtain ⟨z,hz⟩:∃ z,kinds[k]?=some z:=⟨_,gE hlt⟩
  obtain ⟨q,hq⟩:∃ q,fr[k]?=some q:=⟨_,gE om⟩
  rw [qf7 hz] at hs;unfold usP at hs;rw [show fr.getD k Pg.nil=q by simp [List.getD,hq]] at hs;have hAl:=qwf q z 0#32 (hk z (List.mem_of_getElem? hz));generalize qlf q z 0#32=A at hs hAl;refine t7 ?_;refine qao rfl (by exact qak (j:=k) (er rfl) (er rfl) rfl rfl rf hz) ?_;refine t13 ?_;refine qao rfl (by exact qak (j:=k) (er rfl) (er rfl) rfl rfl rf hq) ?_;refine t2 ?_;refine kR call122 (hAl) ?_;refine t4 ?_;intro i9;refine t5 ?_;refine qdd (b:=i9) qaf (qgp hX) ?_;refine qbl 9 (IsRef (tPg.cells A.1)) rfl (SubL.fact qba) ?_;refine t2 ?_;refine qao rfl (qw7 (Cs:=[IsRef (tPg.cells A.1)]) ⟨evR,trivial⟩) ?_;refine qao rfl (by ((refine qdz (by (try simp only [List.append_eq,List.nil_append,List.cons_append]);exact qe1) call123 (qwc out A.1 ?_) ⟨evR,⟨evR,trivial⟩⟩ qla);all_goals (omega))) ?_;refine t13 ?_;refine cN ?_ ?_<;>intro h10
  ·replace hs:=qaq hs h10;subst hs;refine t3 ?_;(refine qc6 rfl (qbn qam call54 (qdj b _ []) ⟨evR,⟨evR,⟨evR,trivial⟩⟩⟩) ?_;intro i58);refine t11 ?_;exact qbp (Bs:=[qad tPg [],Ib false]) results63 eR () SubL.rfl' qab
  replace hs:=qar hs h10;refine t5 ?_;refine Z85 ?_;(refine qc6 rfl (qca (er rfl) (fun _=>qaf) (by exact Ev.sub rfl (by exact SubL.row (xs:=[A.1]) rf rf qiq)) (by exact qfz rfl rfl rfl) qcn) ?_;intro i62);refine t8 ?_;exact qaa (k+1,out++[A.1],i62) ⟨by dsimp only;omega,by simp;omega,hs⟩ (by dsimp only;omega) qc5 qab
 have hke:k=kinds.length:=by have:=of_decide_eq_false h6;omega
 clear h6;rw [hke,List.drop_length] at hs;have hs':(out,0)=U:=hs;subst hs';refine qi4 (v:=slV out.length s) qaf (qgp hX) ?_;refine t13 ?_;exact qbp (Bs:=[qad tPg out,Ib true]) results63 eR () SubL.rfl' qab
def stW (r:Rt) (ks:List Pg) (i:Nat):Pt×List Int×Bool:=
 if ((lkV ks (qdv r (i / 8)) 3 false).2.2==0 && !(lkV ks (qdv r (i / 8)) 3 false).2.1)=true then (Pt.nil,[(qdv r (i / 8)).line],false) else (stR r i (lkV ks (qdv r (i / 8)) 3 false),[],true)
theorem start_ok (b:Nat) (h:BitVec 32) (ks:List Pg) (r:Rt) (hd:0<=r.depth∧r.depth<=5) {G0 G1 G2 G3 G4 G7 G8 G9 G10 G11 G12 G13 G14 G15 G16 G17 G18 G19 G20 G21 G22 G23 G24 G25 G26 G27:VP}:Fn prog 113 [Is (.pointer (some ⟨b,0,none⟩)),Is (.int .u32 (UV h))] [blk b 83 (G0::G1::G2::G3::G4::qad tPg ks::qad qaw ([])::G7::G8::G9::G10::G11::G12::G13::G14::G15::G16::G17::G18::G19::G20::G21::G22::G23::G24::G25::G26::G27::Ii r.first.line::Ii r.first.gen::Ii r.depth::Ii r.p0.line::Ii r.p0.gen::Ii r.p1.line::Ii r.p1.gen::Ii r.p2.line::Ii r.p2.gen::Ii r.p3.line::Ii r.p3.gen::[]),qfd]
  (fun _:Unit=>qbs [qh6 (stW r ks (iH h r.depth)).1,Ib ((stW r ks (iH h r.depth)).2.2)]) (fun _=>[blk b 83 (G0::G1::G2::G3::G4::qad tPg ks::qad qaw ((stW r ks (iH h r.depth)).2.1)::G7::G8::G9::G10::G11::G12::G13::G14::G15::G16::G17::G18::G19::G20::G21::G22::G23::G24::G25::G26::G27::Ii r.first.line::Ii r.first.gen::Ii r.depth::Ii r.p0.line::Ii r.p0.gen::Ii r.p1.line::Ii r.p1.gen::Ii r.p2.line::Ii r.p2.gen::Ii r.p3.line::Ii r.p3.gen::[])]):=by
 obtain ⟨hlo,hi32⟩:=iH_lt (h:=h) hd;obtain ⟨i,hi⟩:∃ i:Nat,iH h r.depth=i:=⟨_,rfl⟩
 rw [hi] at hlo hi32 ⊢;have hq4:i / 8<4:=om;have hm8:i % 8<8:=om;obtain ⟨W,hE⟩:=xE (stW r ks i);rw [hE];unfold stW at hE;obtain ⟨D,hD⟩:=xE (lkV ks (qdv r (i / 8)) 3 false);have hPk:=qts ks (qdv r (i / 8)) 3;rw [hD] at hE hPk;obtain ⟨D,hv,cd⟩:=D;dsimp only at hE hPk;refine Fn.enterG (b0:=0) (List.mem_cons_of_mem _ (List.mem_cons_self ..)) func113 ntmps113 rfl rfl ?_;intro c hX hG;refine t3 ?_;intro i4;refine t11 ?_;refine qao rfl (by ((refine qac call68 (qzo _ _ ?_) ⟨evR,⟨evR,trivial⟩⟩);all_goals (omega))) ?_;refine t5 ?_;refine qbl 6 (Ii (i:Nat)) rfl (SubL.eq (by rw [<- hlo])) ?_;refine Z6 ?_;refine f1 4 ?_;refine f1 5 ?_;refine qes 6 rfl kr (qiw (er rfl) (er rfl) om (qI8 i om)) ?_;refine f1 7 ?_;refine f1 8 ?_;refine f1 9 ?_;refine qes 10 rfl kr (qah (k:=i / 8) (sz:=2) (er rfl) (er rfl) rfl rfl rfl hq4) ?_;refine qes 11 rfl kr (qa3 (n:=2) (er rfl) qba rf rf rf (zfa _ hq4) (ze9 _ hq4)) ?_;refine qes 12 rfl kr (qac call73 (hPk) ⟨evR,⟨evR,⟨evR,trivial⟩⟩⟩) ?_;refine f1 13 ?_;refine f1 14 ?_;refine qd6 15 rfl kr (fun _=>(qdr (er rfl) rfl)) ?_;refine qd6 16 rfl kr (fun _=>(qdr (er rfl) rfl)) ?_;refine JF_n 17 rfl kr (qcc rfl qbx rfl) ?_;(refine qe4 7 17 kr rfl rfl ?_;intro i7);refine qdw 18 [0,1,2,3,4,5,6,7,8,9,10,11,12,13,14,17,18] rfl kr (fun c'=>by exact qat (er rfl) (er rfl) qa5 qaf rf rf rf) ?_;refine f1 19 ?_;refine f1 20 ?_;refine Z36 ?_;show JQ _ _ _ _ _ _;refine t12 ?_;refine cN ?_ ?_<;>intro h3
 ·replace hE:=qaq hE h3;subst hE;refine s1 ?_;refine Z23 ?_;refine qd6 0 rfl kr (fun _=>(qg4 (n:=2) hG (er rfl) rfl rfl rfl rf qbx)) ?_;refine f1 1 ?_;refine Z68 ?_;refine qes 4 rfl kr (qiw (er rfl) (er rfl) om (qI8 i om)) ?_;refine f1 5 ?_;refine f1 6 ?_;refine f1 7 ?_;refine qes 8 rfl kr (qah (k:=i / 8) (sz:=2) (er rfl) (er rfl) rfl rfl rfl hq4) ?_;refine f1 9 ?_;refine qes 10 rfl kr (qfn (er rfl) qba rf rf (qxl _ hq4)) ?_;(refine qwk 11 [1,2,3,4,5,6,7,8,9,10,11] rfl kr (fun c'=>by exact qbn qam call52 (qo7 b _) ⟨evR,⟨evR,trivial⟩⟩) ?_;intro i54);refine qdw 12 [0,1,2,3,4,5,6,7,8,9,10,11,12] rfl kr (fun c'=>by exact qat (er rfl) (er rfl) qa5 qaf rf rf rf) ?_;refine f1 13 ?_;refine Z36 ?_;show JQ _ _ _ _ _ _;refine t3 ?_;exact qbp (Bs:=[qh6 Pt.nil,Ib false]) results113 eR () SubL.rfl' qab
 replace hE:=qar hE h3;subst hE;refine t5 ?_;refine kR call126 (qkd _) ?_;refine t4 ?_;intro i10;refine t6 ?_;refine Z5 ?_;refine qaj 14 kr ?_;refine t8 ?_;(refine qch rfl rfl (fun hg=>(by have hg0:=hg;(try simp at hg);exact qiv evG evG om (rI8 i))) ?_);(refine qch rfl rfl (fun hg=>(by have hg0:=hg;(try simp at hg);exact qah (k:=i % 8) (sz:=2) evG evG rfl rfl rfl hm8)) ?_);(refine qch rfl rfl (fun hg=>(by have hg0:=hg;(try simp at hg);exact qa3 (n:=2) evG qba rf rf rf (qlh _ hm8) (qpf _ hm8))) ?_);(refine qch rfl rfl (fun hg=>(by have hg0:=hg;(try simp at hg);exact qg4 (n:=2) hG (er rfl) rfl rfl rfl rf qbx)) ?_);(refine qch rfl rfl (fun hg=>(by have hg0:=hg;(try simp at hg);exact qb0 (vs:=Pt.cells (qpg (qb2 D).1 (i % 8))) (ws:=Pt.cells Pt.nil) evG evG (qct _ _ _ (qpg (qb2 D).1 (i % 8)) Pt.nil) (qek (qpg (qb2 D).1 (i % 8)) Pt.nil))) ?_);refine s1 ?_;refine ⟨rfl,?_⟩;refine Z20 ?_;refine cN ?_ ?_<;>intro h6
 ·have e:stR r i (D,hv,cd)=r.first:=by
   unfold stR;dsimp only;by_cases e1:cd=0
   ·by_cases e2:(qb2 D).2=0
    ·simp [e1,e2] at h6;simp [e1,e2,h6]
    ·simp [e1,e2]
   ·simp [e1]
  rw [e];refine t13 ?_;exact qbp (Bs:=[qh6 r.first,Ib true]) results113 eR () SubL.rfl' qab
 have e:stR r i (D,hv,cd)=qpg (qb2 D).1 (i % 8):=by
  unfold stR;dsimp only;simp at h6;simp [h6]
 rw [e];refine t5 ?_;refine qao rfl (qiv (er rfl) (er rfl) om (rI8 i)) ?_;refine qao rfl (qah (k:=i % 8) (sz:=2) (er rfl) (er rfl) rfl rfl rfl hm8) ?_;refine qao rfl (qa3 (n:=2) (er rfl) qba rf rf rf (qlh _ hm8) (qpf _ hm8)) ?_;refine t5 ?_;exact qbp (Bs:=[qh6 (qpg (qb2 D).1 (i % 8)),Ib true]) results113 eR () SubL.rfl' qab
structure Wk where
 need:List Int
 code:Int
 page:Pg
 bk:Bk
 hops:Nat
 ok:Bool
@[reducible] def wkN (l:Int):Wk:=⟨[l],0,Pg.nil,Bk.nil,0,false⟩
@[reducible] def wkB (c:Int):Wk:=⟨[],c,Pg.nil,Bk.nil,0,false⟩
@[reducible] def wkO (q:Pg) (k:Nat):Wk:=⟨[],0,q,(qdq q).1,k,true⟩
@[reducible] def wkX:Wk:=⟨[],18,Pg.nil,Bk.nil,0,false⟩
def wkS (h:BitVec 32) (ks:List Pg) (a:Pt):Wk:=wkC h ks wkN wkB wkO wkX 257 0 a
@[reducible] def zbc (p:Pg) (b:Bk) (i:Option Addr×Nat):List VP:=Ii p.l::Iw p.h::Iw p.d0::Iw p.d1::Iw p.d2::Iw p.d3::Iw p.d4::Iw p.d5::Iw p.d6::Ii b.depth::Is (.int .u32 (UV b.pat))::Ii b.next.line::Ii b.next.gen::Is (slV b.es.length i)::[]
theorem zcj (b:Nat) (a:Pt) (h:BitVec 32) (ks:List Pg) {G0 G1 G2 G3 G4 G7 G8 G9 G10 G11 G12 G13 G14 G15 G16 G18 G19 G20 G21 G22 G23 G24 G25 G26 G27 G28 G29 G30 G31 G32 G33 G34 G35 G36 G37 G38:VP} {N0:VP}:FnX prog 114 [Is (.pointer (some ⟨b,0,none⟩)),qh6 a,Is (.int .u32 (UV h))] [blk b 83 (G0::G1::G2::G3::G4::qad tPg ks::qad qaw ([])::G7::G8::G9::G10::G11::G12::G13::G14::G15::G16::N0::G18::G19::G20::G21::G22::G23::G24::G25::G26::G27::G28::G29::G30::G31::G32::G33::G34::G35::G36::G37::G38::[]),qfd]
  (fun i:Int×(Option Addr×Nat)=>(wkS h ks a).ok=true->i.1=(wkS h ks a).hops) (fun i=>qbs [IsAgg (zbc (wkS h ks a).page (wkS h ks a).bk i.2),Ii ((wkS h ks a).code),Ib ((wkS h ks a).ok)])
  (fun i=>[blk b 83 (G0::G1::G2::G3::G4::qad tPg ks::qad qaw ((wkS h ks a).need)::G7::G8::G9::G10::G11::G12::G13::G14::G15::G16::Ii (i.1)::G18::G19::G20::G21::G22::G23::G24::G25::G26::G27::G28::G29::G30::G31::G32::G33::G34::G35::G36::G37::G38::[]),bkB (wkS h ks a).bk i.2]):=by
 obtain ⟨W,hE⟩:=xE (wkS h ks a);rw [hE];unfold wkS at hE;refine Fn.enterG (b0:=0) (List.mem_cons_of_mem _ (List.mem_cons_self ..)) func114 ntmps114 rfl rfl ?_;intro c hX hG;refine t3 ?_;intro i4;refine s1 ?_;intro i6;refine t11 ?_;refine qbm (fun z:Nat×Nat×Pt×VP=>z.2.1+z.1=257∧(z.2.1=0∨∃ q:Int,z.2.2.2=Ii q)∧wkC h ks wkN wkB wkO wkX z.1 z.2.1 z.2.2.1=W) (fun z=>[(0,Is (.pointer (some ⟨b,0,none⟩))),(2,Is (.int .u32 (UV h))),(4,Is (.pointer (some ⟨i4,0,none⟩))),(6,Is (.pointer (some ⟨i6,0,none⟩))),(9,Ii (z.2.1:Nat))]) (fun z=>[blk b 83 (G0::G1::G2::G3::G4::qad tPg ks::qad qaw ([])::G7::G8::G9::G10::G11::G12::G13::G14::G15::G16::z.2.2.2::G18::G19::G20::G21::G22::G23::G24::G25::G26::G27::G28::G29::G30::G31::G32::G33::G34::G35::G36::G37::G38::[]),blk i4 45 (tPt.cells z.2.2.1),blk i6 134 [Ii 0,Is (.int .u64 0),Is (.int .u64 0),Is (.int .u64 0),Is (.int .u64 0),Is (.int .u64 0),Is (.int .u64 0),Is (.int .u64 0),Is (.int .u64 0),Ii 0,Is (.int .u32 0),Ii 0,Ii 0,Is (.slice none 0 0)],qfd]) (fun z=>z.1) (257,0,a,N0) ⟨rfl,.inl rfl,hE⟩ qc5 qab ?_;rintro ⟨m,k,a,N0⟩ ⟨hmk,hH,hE⟩;dsimp only at hmk hH hE ⊢;refine t7 ?_;refine cN ?_ ?_<;>intro h2
 ·obtain ⟨m,rfl⟩:∃ m',m=m'+1:=⟨m-1,by have:=of_decide_eq_true h2;omega⟩
  clear h2;unfold wkC at hE;have hPk:=qts ks a 2;generalize lkV ks a 2 false=D at hE hPk;obtain ⟨D,hv,cd⟩:=D;dsimp only at hE hPk;refine t15 ?_;refine Z6 ?_;refine f1 4 ?_;refine qes 5 rfl kr (qac call73 (hPk) ⟨evR,⟨evR,⟨evR,trivial⟩⟩⟩) ?_;refine f1 6 ?_;refine f1 7 ?_;refine qd6 8 rfl kr (fun _=>(qdr (er rfl) rfl)) ?_;refine qd6 9 rfl kr (fun _=>(qdr (er rfl) rfl)) ?_;refine JF_n 10 rfl kr (qcc rfl qbx rfl) ?_;(refine qe4 10 10 kr rfl rfl ?_;intro i10);refine qdw 11 [0,1,2,3,4,5,6,7,10,11] rfl kr (fun c'=>by exact qat (er rfl) (er rfl) qa5 qaf rf rf rf) ?_;refine f1 12 ?_;refine f1 13 ?_;refine Z36 ?_;show JQ _ _ _ _ _ _;refine t12 ?_;refine cN ?_ ?_<;>intro h6
  ·replace hE:=qaq hE h6;subst hE;refine t5 ?_;(refine qc6 rfl (qbn qam call52 (qo7 b _) ⟨evR,⟨evR,trivial⟩⟩) ?_;intro i43);refine t3 ?_;refine Z83 ?_;refine t14 ?_;exact qai (Bs:=[IsAgg (zbc Pg.nil Bk.nil (none,0)),Ii 0,Ib false]) ((k:Int),(none,0)) (fun h=>by cases h) rfl results114 eR qab
  replace hE:=qar hE h6;refine t5 ?_;(refine qc6 rfl (zeb call175 (qrd _) ⟨evR,trivial⟩ qba) ?_;intro i47);refine t4 ?_;intro i13;refine t13 ?_;refine cN ?_ ?_<;>intro h10
  ·have h11:cd=11:=by simpa using h10
   subst h11;replace hE:=qaq hE (show ((11:Int) != 0)=true by decide);subst hE;refine s1 ?_;refine Z83 ?_;refine t16 ?_;exact qai (Bs:=[IsAgg (zbc Pg.nil Bk.nil (none,0)),Ii 11,Ib false]) ((k:Int),(none,0)) (fun h=>by cases h) rfl results114 eR qab
  refine t11 ?_;refine cN ?_ ?_<;>intro h12
  ·have hW:wkB 14=W:=by
    have h11:¬ cd=11:=by simpa using h10
    by_cases e1:cd=0
    ·subst e1;rw [if_neg de,if_pos (by simpa using h12)] at hE;exact hE
    ·rw [if_pos (by simpa using e1),if_pos (by simpa using h11)] at hE;exact hE
   subst hW;refine s1 ?_;refine Z83 ?_;refine t15 ?_;exact qai (Bs:=[IsAgg (zbc Pg.nil Bk.nil (none,0)),Ii 14,Ib false]) ((k:Int),(none,0)) (fun h=>by cases h) rfl results114 eR qab
  have h0:cd=0∧(qdq D).2=0:=by simpa using h12
  obtain ⟨rfl,hb0⟩:=h0;rw [if_neg de,if_neg (by rw [hb0];decide)] at hE;have hBv:=(qpm hb0).1;obtain ⟨⟨hBd,_,_,hB5⟩,_⟩:=qfj hBv;clear h6 h10 h12;have hO:wkO D k=⟨[],0,D,(qdq D).1,k,true⟩:=rfl;rw [hO] at hE;clear hO;generalize (qdq D).1=B at *;refine t4 ?_;refine qao rfl (by ((refine qdz (by (try simp only [List.append_eq,List.nil_append,List.cons_append]);exact qe1) call66 (qm6 B h hBd) ⟨evR,⟨evR,trivial⟩⟩ qla))) ?_;refine t3 ?_;refine cN ?_ ?_<;>intro h14
  ·replace hE:=qaq hE h14;subst hE;refine t18 ?_;exact qai (Bs:=[IsAgg (zbc D B i47),Ii 0,Ib true]) ((k:Int),i47) (fun h=>rfl) rfl results114 eR qab
  replace hE:=qar hE h14;refine t4 ?_;refine qao rfl (qg4 (n:=2) hG (er rfl) rfl rfl rfl rf qbx) ?_;refine qao rfl (qb0 (vs:=Pt.cells B.next) (ws:=Pt.cells Pt.nil) (er rfl) (er rfl) (qct _ _ _ B.next Pt.nil) (qek B.next Pt.nil)) ?_;refine t3 ?_;refine cN ?_ ?_<;>intro h16
  ·replace hE:=qaq hE h16;subst hE;refine s1 ?_;refine Z83 ?_;refine t15 ?_;exact qai (Bs:=[IsAgg (zbc Pg.nil Bk.nil (none,0)),Ii 14,Ib false]) ((k:Int),(none,0)) (fun h=>by cases h) rfl results114 eR qab
  replace hE:=qar hE h16;refine t15 ?_;exact qaa (m,k+1,B.next,Ii (k:Int)) ⟨by dsimp only;omega,.inr ⟨_,rfl⟩,hE⟩ (by dsimp only;omega) qc5 qab
 obtain rfl:m=0:=by have:=of_decide_eq_false h2;omega
 have hW:wkX=W:=hE;subst hW;obtain ⟨q,rfl⟩:=hH.resolve_left om;refine t6 ?_;refine Z83 ?_;refine t8 ?_;exact qai (Bs:=[IsAgg (zbc Pg.nil Bk.nil (none,0)),Ii 18,Ib false]) (q,(none,0)) (fun h=>by cases h) rfl results114 eR qab
theorem Z24 {B:Prop} (h:B:=by exact qbp (Bs:=[IsAgg (zbc Pg.nil Bk.nil (none,0)),Ib false]) results57 eR (none,0) SubL.rfl' qab):B:=h
end Go.Proofs.YteafmggidjjdgaaGreatDoor
