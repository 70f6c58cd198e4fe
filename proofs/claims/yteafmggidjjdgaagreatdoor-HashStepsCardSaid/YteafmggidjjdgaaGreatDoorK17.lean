/- Walks of functions and plain laws, laid together. Own work. -/
import Derived.Test.YteafmggidjjdgaaGreatDoorK10
namespace Go.Proofs.YteafmggidjjdgaaGreatDoor
open Go.RowKit Tryz
set_option linter.unusedVariables false
set_option linter.unusedSimpArgs false
set_option maxRecDepth 100000
set_option maxHeartbeats 4000000
def fitE (d:Int) (pt:BitVec 32) (e:En):Prop:=UV e.key<=4294967294∧qbt e.to=true∧UV (qfk (qbk e.key) d)=UV pt
theorem entX_no {d:Int} {pt last:BitVec 32} {e:En}:zfv d pt last e=false↔UV last<UV e.key∧fitE d pt e:=by
 unfold zfv fitE;simp only [Bool.or_eq_false_iff,decide_eq_false_iff_not,Bool.not_eq_false',beq_iff_eq];constructor
 ·rintro ⟨⟨⟨h1,h2⟩,h3⟩,h4⟩;exact ⟨om,om,h3,h4⟩
 ·rintro ⟨h1,h2,h3,h4⟩;exact ⟨⟨⟨om,om⟩,h3⟩,h4⟩
theorem ents_cons {d:Int} {pt last:BitVec 32} {e:En} {l:List En}:qfy d pt last (e::l)=true↔(UV last<UV e.key∧fitE d pt e)∧qfy d pt e.key l=true:=by
 rw [<- entX_no (d:=d) (pt:=pt)];show (!zfv d pt last e&&qfy d pt e.key l)=true↔_;simp
theorem zfu {d:Int} {pt a b:BitVec 32} {l:List En} (h:qfy d pt b l=true) (hab:UV a<=UV b):qfy d pt a l=true:=by
 match l,h with
 | [],_=>rfl
 | e::l,h =>
  obtain ⟨⟨h1,h2⟩,h3⟩:=ents_cons.1 h;exact ents_cons.2 ⟨⟨om,h2⟩,h3⟩
theorem qm2 {d d':Int} {pt pt':BitVec 32}:∀ {l m:List En} {last:BitVec 32},List.Sublist m l->qfy d pt last l=true->(∀ e,e∈m->UV (qfk (qbk e.key) d')=UV pt')->qfy d' pt' last m=true
 | [],_,_,h,_,_=>by rw [List.sublist_nil.1 h];rfl
 | e::l,m,last,h,hv,hf=>by
  obtain ⟨⟨h1,h2,h3,h4⟩,h5⟩:=ents_cons.1 hv;cases h with
  | cons _ hs=>exact zfu (qm2 hs h5 hf) om
  | cons_cons _ hs=>exact ents_cons.2 ⟨⟨h1,h2,h3,hf e (List.mem_cons_self ..)⟩,qm2 hs h5 fun x hx=>hf x (List.mem_cons_of_mem _ hx)⟩
theorem qtb {d:Int} {pt:BitVec 32}:∀ {l:List En} {last:BitVec 32},qfy d pt last l=true->∀ e,e∈l->UV (qfk (qbk e.key) d)=UV pt
 | [],_,_,e,he=>by cases he
 | x::l,last,h,e,he=>by
  obtain ⟨⟨_,_,_,h4⟩,h5⟩:=ents_cons.1 h;rcases List.mem_cons.1 he with rfl|he
  ·exact h4
  ·exact qtb h5 e he
theorem qhw (key:BitVec 32):∀ (l:List En) (k:Nat),ixE key k l=(k+(ixE key 0 l).1,(ixE key 0 l).2)
 | [],k=>rfl
 | z::r,k=>by
  unfold ixE;split
  ·rfl
  ·rw [qhw key r (k+1),qhw key r (0+1)];dsimp only;rw [show k+1+(ixE key 0 r).1=k+(0+1+(ixE key 0 r).1) by omega]
theorem wiV_cons (z:En) (r:List En) (e:En):wiV (z::r) e=if decide (UV z.key>=UV e.key)=true then e::z::r else z::wiV r e:=by
 unfold wiV;by_cases h:decide (UV z.key>=UV e.key)=true
 ·rw [if_pos h];have:ixE e.key 0 (z::r)=(0,UV z.key==UV e.key):=by unfold ixE;rw [if_pos h]
  rw [this];rfl
 ·rw [if_neg h];have:ixE e.key 0 (z::r)=((ixE e.key 0 r).1+1,(ixE e.key 0 r).2):=by
   conv=>lhs;unfold ixE
   rw [if_neg h,qhw];rw [show 0+1+(ixE e.key 0 r).1=(ixE e.key 0 r).1+1 by omega]
  rw [this];rfl
theorem qo5 (l:List En) (e:En):(wiV l e).length=l.length+1:=by
 have:=(qoe e.key l 0).1;unfold wiV;simp;omega
theorem qm1 {d:Int} {pt:BitVec 32} {e:En} (he:fitE d pt e):∀ {l:List En} {last:BitVec 32},qfy d pt last l=true->UV last<UV e.key->(ixE e.key 0 l).2=false->qfy d pt last (wiV l e)=true
 | [],last,_,h,_=>ents_cons.2 ⟨⟨h,he⟩,rfl⟩
 | z::r,last,hv,h,hn=>by
  obtain ⟨⟨h1,h2⟩,h3⟩:=ents_cons.1 hv;rw [wiV_cons];by_cases hz:decide (UV z.key>=UV e.key)=true
  ·rw [if_pos hz];have hne:UV z.key≠UV e.key:=by
    unfold ixE at hn;rw [if_pos hz] at hn
    simpa using hn
   have hge:=of_decide_eq_true hz;exact ents_cons.2 ⟨⟨h,he⟩,ents_cons.2 ⟨⟨om,h2⟩,h3⟩⟩
  ·rw [if_neg hz];have hlt:UV z.key<UV e.key:=by have:=of_decide_eq_false (by simpa using hz:decide (UV z.key>=UV e.key)=false);omega
   refine ents_cons.2 ⟨⟨h1,h2⟩,qm1 he h3 hlt ?_⟩;unfold ixE at hn;rw [if_neg hz,qhw] at hn;exact hn
theorem qzr {d:Int} {pt key:BitVec 32}:∀ {l m:List En} {last:BitVec 32},qfy d pt last l=true->List.Sublist m l->(ixE key 0 l).2=false->(ixE key 0 m).2=false
 | [],_,_,_,h,_=>by rw [List.sublist_nil.1 h];rfl
 | z::r,m,last,hv,h,hn=>by
  obtain ⟨⟨h1,h2⟩,h3⟩:=ents_cons.1 hv;by_cases hz:decide (UV z.key>=UV key)=true
  ·have hne:UV z.key≠UV key:=by
    unfold ixE at hn;rw [if_pos hz] at hn
    simpa using hn
   have hge:=of_decide_eq_true hz;have hall:∀ (l:List En) (a:BitVec 32),qfy d pt a l=true->UV key<UV a->∀ m,List.Sublist m l->(ixE key 0 m).2=false:=by
    intro l a hl ha m hm
    match m with
    | []=>rfl
    | x::m' =>
     have hx:UV key<UV x.key:=by
      have hmem:=hm.subset (List.mem_cons_self ..);clear hm;induction l generalizing a with
      | nil=>cases hmem
      | cons y l ih =>
       obtain ⟨⟨k1,_⟩,k3⟩:=ents_cons.1 hl;rcases List.mem_cons.1 hmem with e|e
       ·rw [e];omega
       ·exact ih y.key k3 om e
     unfold ixE;rw [if_pos (decide_eq_true (by omega:UV x.key>=UV key))];exact beq_eq_false_iff_ne.2 om
   cases h with
   | cons _ hs=>exact hall r z.key h3 om m hs
   | cons_cons _ hs =>
    unfold ixE;rw [if_pos hz];exact beq_eq_false_iff_ne.2 hne
  ·have hn':(ixE key 0 r).2=false:=by
    unfold ixE at hn;rw [if_neg hz,qhw] at hn;exact hn
   cases h with
   | cons _ hs=>exact qzr h3 hs hn'
   | cons_cons _ hs =>
    unfold ixE;rw [if_neg hz,qhw];exact qzr h3 hs hn'
theorem qkr (d:Int) (pt:BitVec 32):∀ (l xs ys:List En),spE d pt l xs ys=(xs++l.filter (fun z=>UV (qfk (qbk z.key) d)==UV pt),ys++l.filter (fun z=>!(UV (qfk (qbk z.key) d)==UV pt)))
 | [],xs,ys=>by unfold spE;simp
 | z::r,xs,ys=>by
  unfold spE;by_cases h:(UV (qfk (qbk z.key) d)==UV pt)=true
  ·rw [if_pos h,qkr,List.filter_cons,List.filter_cons,h];simp
  ·have h':(UV (qfk (qbk z.key) d)==UV pt)=false:=by simpa using h
   rw [if_neg h,qkr,List.filter_cons,List.filter_cons,h'];simp
theorem low_up {b:Bk} {h:BitVec 32} (hd:0<=b.depth∧b.depth<16) (hp:b.pat.toNat<2 ^ b.depth.toNat) (hf:UV (qfk h b.depth)=UV b.pat) (hn:UV (qfk h (b.depth+1))≠UV b.pat):UV (qfk h (b.depth+1))=UV (upV b):=by
 have e0:=qnr h (d:=b.depth) om;have e1:=qnr h (d:=b.depth+1) om;have hpow:(2:Nat) ^ (b.depth+1).toNat=2 ^ b.depth.toNat*2:=by rw [show (b.depth+1).toNat=b.depth.toNat+1 by omega,Nat.pow_succ]
 have hpl:(2:Nat) ^ b.depth.toNat<=2 ^ 15:=Nat.pow_le_pow_right om om;have hpos:0<(2:Nat) ^ b.depth.toNat:=Nat.pow_pos om;have hup:(upV b).toNat=b.pat.toNat+2 ^ b.depth.toNat:=by
  unfold upV;rw [BitVec.toNat_add,BitVec.toNat_shiftLeft,Nat.shiftLeft_eq];have h1:(BitVec.ofInt 32 1).toNat=1:=de;rw [h1,Nat.one_mul,Nat.mod_eq_of_lt (show 2 ^ b.depth.toNat<2 ^ 32 by omega)];exact Nat.mod_eq_of_lt om
 unfold UV at *;rw [e0] at hf;rw [e1,hpow] at hn ⊢;rw [hup];generalize (2:Nat) ^ b.depth.toNat=m at *;have hmm:h.toNat % (m*2)=h.toNat % m+m*(h.toNat / m % 2):=Nat.mod_mul;have h2:h.toNat / m % 2<2:=Nat.mod_lt _ om;have hf':h.toNat % m=b.pat.toNat:=om;rw [hf'] at hmm;rcases (show h.toNat / m % 2=0∨h.toNat / m % 2=1 by omega) with h3|h3
 ·rw [h3,Nat.mul_zero,Nat.add_zero] at hmm;exact absurd (by rw [hmm]) hn
 ·rw [h3,Nat.mul_one] at hmm;rw [hmm]
theorem head_mk {b:Bk} (h:(0<=b.depth∧b.depth<=16)∧b.pat.toNat<2 ^ b.depth.toNat∧qc9 b.next=true∧b.es.length<=5):qnu b=false:=by
 obtain ⟨h1,h2,h3,h4⟩:=h;unfold qnu;have h5:(UV b.pat != UV (qfk b.pat b.depth))=false:=by rw [<- (qsu b.pat h1).2 h2];simp
 rw [h5,h3,decide_eq_false (show ¬ b.depth<0 by omega),decide_eq_false (show ¬ b.depth>16 by omega),decide_eq_false (show ¬ (b.es.length:Int)>5 by omega)];rfl
theorem qmb {b:Bk} (h:(0<=b.depth∧b.depth<=16)∧b.pat.toNat<2 ^ b.depth.toNat∧qc9 b.next=true∧b.es.length<=5) (he:qfy b.depth b.pat 0#32 b.es=true):qco b=true:=by
 unfold qco;rw [head_mk h,he];rfl
theorem qot {b:Bk} (h:qco b=true):qfy b.depth b.pat 0#32 b.es=true:=by
 unfold qco at h;exact (Bool.and_eq_true_iff.1 h).2
theorem qho {p:Pg} {b:Bk} (hk:qcw p.d0=2) (hv:qco b=true):(qgz p b).1=qej p b:=by
 unfold qgz;rw [if_neg (by rw [hk,hv];decide)]
theorem qs0 {ks:List Pg} {l:Int} (h:qjt ks l=true):(qb9 ks l).l=l:=by
 unfold qjt at h;obtain ⟨p,hp⟩:=Option.isSome_iff_exists.1 h;unfold qb9;rw [hp];unfold qq4 at hp;have h1:=List.mem_of_getLast? hp;exact of_decide_eq_true (List.mem_filter.1 h1).2
def sr (s:S23):S23:={ s with writes:=qck [] s.writes }
theorem zc7 {n:List Int} {o:O23} {b:Bool}:sr ⟨n,[],o,b⟩=⟨n,[],o,b⟩:=rfl
theorem qwq (o:O23) (c:Int):sr (qe9 o c)=qe9 o c:=rfl
theorem tagK {k:Int} {g:Int} {z:BitVec 32} (hk:0<=k∧k<256) (hg:0<=g∧g<=16777215):qcw (qh3 ⟨k,g,z⟩)=k∧qge (qh3 ⟨k,g,z⟩)=g:=by
 have h1:=qg2 64 8 (BitVec.ofInt 64 k) (BitVec.ofInt 64 255) rfl;have h2:=qg2 64 24 (BitVec.ofInt 64 g) (BitVec.ofInt 64 16777215) rfl;have hk':(BitVec.ofInt 64 k).toNat=k.toNat:=by rw [BitVec.toNat_ofInt];omega
 have hg':(BitVec.ofInt 64 g).toNat=g.toNat:=by rw [BitVec.toNat_ofInt];omega
 have hn:(qh3 ⟨k,g,z⟩).toNat=k.toNat+g.toNat*256+z.toNat*4294967296:=by
  unfold qh3;dsimp only;unfold UV at h1 h2;generalize hA:BitVec.ofInt 64 k&&&BitVec.ofInt 64 255=A at *;generalize hB:BitVec.ofInt 64 g&&&BitVec.ofInt 64 16777215=B at *;have hz:(z.setWidth 64).toNat=z.toNat:=by rw [BitVec.toNat_setWidth];have:=z.isLt;omega
  have g1:=qpq A B 8 om om;have g2:=qpq (A|||B<<<8) (z.setWidth 64) 32 om (by have:=z.isLt;omega);rw [g2,g1,hz];omega
 generalize qh3 ⟨k,g,z⟩=y at hn;rw [qxj,qrw];unfold UV;omega
structure Alc (z:Int) (a:Pg):Prop where
 kind:qcw a.d0=z
 at_:qbt (atR a)=true
 ln:104<=a.l∧a.l<256
theorem al_ok {g:Pg} {z:Int} (h:(qlf g z 0#32).2=0) (hz:1<=z∧z<=4):(qlf g z 0#32).1.l=g.l∧Alc z (qlf g z 0#32).1:=by
 unfold qlf at h ⊢;split at h
 ·exact absurd h de
 ·rename_i h1;rw [if_neg h1];split at h
  ·exact absurd h de
  ·rename_i h2;rw [if_neg h2];split at h
   ·exact absurd h de
   ·rename_i h3;rw [if_neg h3];split at h
    ·exact absurd h de
    ·rename_i h4;rw [if_neg h4];have hg1:qge g.d0<=16777215∧0<=qge g.d0:=by rw [qrw];have:=qa2 g.d0;omega
     have hg2:qge g.d0≠16777215:=by simpa using h4
     have hl:qlb g.l=true:=by
      simp only [Bool.or_eq_true,not_or] at h1;revert h1;cases qlb g.l <;> simp
     obtain ⟨e1,e2⟩:=tagK (k:=z) (g:=qge g.d0+1) (z:=0#32) om om;have hl':104<=g.l∧g.l<256:=by unfold qlb at hl;simpa using hl
     refine ⟨rfl,⟨e1,?_,hl'⟩⟩;show qbt ⟨g.l,qge (qh3 ⟨z,qge g.d0+1,0#32⟩)⟩=true;rw [e2];unfold qbt;dsimp only;rw [hl,decide_eq_true (show qge g.d0+1>=1 by omega),decide_eq_true (show qge g.d0+1<=16777215 by omega)];rfl
def usP (fr:List Pg):List Int->Nat->List Pg->List Pg×Int
 | [],_,out=>(out,0)
 | z::r,k,out=>if ((qlf (fr.getD k Pg.nil) z 0#32).2 != 0||out.any (fun q=>q.l==(qlf (fr.getD k Pg.nil) z 0#32).1.l))=true then ([],1) else usP fr r (k+1) (out++[(qlf (fr.getD k Pg.nil) z 0#32).1])
def frP (fr:List Pg) (kinds:List Int):List Pg×Int:=if decide ((fr.length:Int)<(kinds.length:Int))=true then ([],18) else usP fr kinds 0 []
theorem hasV_any (x:Int) (out:List Pg) (y:Int):zbf (x::out.map (fun p=>p.l)) y=((x==y)||out.any (fun q=>q.l==y)):=by
 unfold zbf;rw [List.any_cons,List.any_map];rfl
theorem usV_P (fr:List Pg):∀ (l:List Int) (k:Nat) (out:List Pg),(∀ z,z∈l->1<=z∧z<=4)->usV fr l k (96::out.map (fun p=>p.l)) out=usP fr l k out
 | [],k,out,_=>rfl
 | z::r,k,out,hz=>by
  have hz0:=hz z (List.mem_cons_self ..);unfold usV usP;rw [hasV_any];by_cases h:(qlf (fr.getD k Pg.nil) z 0#32).2=0
  ·obtain ⟨e1,e2⟩:=al_ok h hz0;have h96:((96:Int)==(fr.getD k Pg.nil).l)=false:=by
    have:=e2.ln;rw [e1] at this;exact beq_eq_false_iff_ne.2 om
   rw [h96,Bool.false_or,e1];split
   ·rfl
   ·have:=usV_P fr r (k+1) (out++[(qlf (fr.getD k Pg.nil) z 0#32).1]) fun x hx=>hz x (List.mem_cons_of_mem _ hx);rw [List.map_append,List.map_cons,List.map_nil,e1] at this;exact this
  ·have hb:((qlf (fr.getD k Pg.nil) z 0#32).2 != 0)=true:=by simpa using h
   rw [hb,Bool.true_or,Bool.true_or,if_pos rfl,if_pos rfl]
theorem us_96 {fr:List Pg} {kinds:List Int} (hz:∀ z,z∈kinds->1<=z∧z<=4):qmc fr kinds [96]=frP fr kinds:=by
 unfold qmc frP;split
 ·rfl
 ·exact usV_P fr kinds 0 [] hz
theorem us_x {fr:List Pg} {z x:Int} (hz:1<=z∧z<=4):qmc fr [z] [x]=if ((frP fr [z]).2 != 0)=true then frP fr [z] else if (((frP fr [z]).1.getD 0 Pg.nil).l==x)=true then ([],1) else frP fr [z]:=by
 unfold qmc frP;by_cases h0:decide ((fr.length:Int)<(([z]:List Int).length:Int))=true
 ·rw [if_pos h0,if_pos h0];rfl
 ·rw [if_neg h0,if_neg h0];unfold usV usP;have hh:zbf [x] (fr.getD 0 Pg.nil).l=(x==(fr.getD 0 Pg.nil).l):=by unfold zbf;simp
  rw [hh];by_cases h:(qlf (fr.getD 0 Pg.nil) z 0#32).2=0
  ·obtain ⟨e1,e2⟩:=al_ok h hz;have hb:((qlf (fr.getD 0 Pg.nil) z 0#32).2 != 0)=false:=by rw [h];rfl
   rw [hb,Bool.false_or,Bool.false_or];unfold usV usP;have hs:(if (([]:List Pg).any fun q=>q.l==(qlf (fr.getD 0 Pg.nil) z 0#32).1.l)=true then (([],1):List Pg×Int) else ([]++[(qlf (fr.getD 0 Pg.nil) z 0#32).1],0))=([(qlf (fr.getD 0 Pg.nil) z 0#32).1],0):=rfl;rw [hs];by_cases hx:x=(fr.getD 0 Pg.nil).l
   ·rw [if_pos (by simpa using hx),if_neg (show ¬ ((0:Int) != 0)=true by decide),if_pos (by show ((qlf (fr.getD 0 Pg.nil) z 0#32).1.l==x)=true;rw [e1];simpa using hx.symm)]
   ·rw [if_neg (by simpa using hx),if_neg (show ¬ ((0:Int) != 0)=true by decide),if_neg (by show ¬ ((qlf (fr.getD 0 Pg.nil) z 0#32).1.l==x)=true;rw [e1];simpa using fun e=>hx e.symm)]
    rfl
  ·have hb:((qlf (fr.getD 0 Pg.nil) z 0#32).2 != 0)=true:=by simpa using h
   rw [hb,Bool.true_or,Bool.true_or,if_pos rfl,if_pos rfl];rfl
theorem zcp (fr:List Pg):∀ (l:List Int) (k:Nat) (out:List Pg),(∀ z,z∈l->1<=z∧z<=4)->(usP fr l k out).2=0->∃ m,(usP fr l k out).1=out++m∧m.length=l.length∧(∀ (j:Nat) z a,l[j]?=some z->m[j]?=some a->Alc z a)∧((out.map fun p=>p.l).Nodup->(((out++m).map fun p=>p.l)).Nodup)
 | [],k,out,_,h=>⟨[],by simp [usP],rfl,fun j z a h=>by simp at h,fun h=>by simpa using h⟩
 | z::r,k,out,hz,h=>by
  have hz0:=hz z (List.mem_cons_self ..);unfold usP at h ⊢;split at h
  ·exact absurd h de
  ·rename_i h1;rw [if_neg h1];simp only [Bool.or_eq_true,not_or] at h1;obtain ⟨h2,h3⟩:=h1;have h2':(qlf (fr.getD k Pg.nil) z 0#32).2=0:=by simpa using h2
   obtain ⟨e1,e2⟩:=al_ok h2' hz0;obtain ⟨m,f1,f2,f3,f4⟩:=zcp fr r (k+1) _ (fun x hx=>hz x (List.mem_cons_of_mem _ hx)) h;refine ⟨(qlf (fr.getD k Pg.nil) z 0#32).1::m,by rw [f1];simp,by simp [f2],?_,?_⟩
   ·intro j y a hy ha
    match j with
    | 0 =>
     simp at hy ha;subst hy;subst ha;exact e2
    | j+1=>exact f3 j y a (by simpa using hy) (by simpa using ha)
   ·intro hn;have:=f4 (by
     rw [List.map_append,List.nodup_append];refine ⟨hn,by simp,?_⟩;intro x hx y hy;rw [List.map_cons,List.map_nil,List.mem_singleton] at hy;subst hy;obtain ⟨q,hq,rfl⟩:=List.mem_map.1 hx;intro e
     apply h3
     rw [List.any_eq_true];exact ⟨q,hq,by simpa using e⟩)
    simpa using this
theorem zfg {fr:List Pg} {kinds:List Int} (hz:∀ z,z∈kinds->1<=z∧z<=4) (h:(frP fr kinds).2=0):(frP fr kinds).1.length=kinds.length∧(∀ (j:Nat) z a,kinds[j]?=some z->(frP fr kinds).1[j]?=some a->Alc z a)∧(((frP fr kinds).1.map fun p=>p.l)).Nodup:=by
 unfold frP at h ⊢;split at h
 ·exact absurd h de
 ·rename_i h1;rw [if_neg h1];obtain ⟨m,f1,f2,f3,f4⟩:=zcp fr kinds 0 [] hz h;rw [f1,List.nil_append];exact ⟨f2,f3,by simpa using f4 (by simp)⟩
theorem lk_at {ks:List Pg} {a:Pt} {k:Int} {o:Bool} (h0:(lkV ks a k o).2.2=0) (h1:(lkV ks a k o).2.1=true) :
  qbt a=true∧(lkV ks a k o).1=qb9 ks a.line∧qcw (lkV ks a k o).1.d0=k∧atR (lkV ks a k o).1=a∧qjt ks a.line=true:=by
 unfold lkV at h0 h1 ⊢;split at h0
 ·exact absurd h0 de
 ·rename_i e1;rw [if_neg e1] at h1 ⊢;split at h0
  ·rename_i e2;rw [if_pos e2] at h1;exact absurd h1 de
  ·rename_i e2;rw [if_neg e2] at h1 ⊢;split at h0
   ·exact absurd h0 de
   ·rename_i e3;rw [if_neg e3] at h1 ⊢;split at h0
    ·exact absurd h0 de
    ·rename_i e4;rw [if_neg e4] at h1 ⊢;split at h0
     ·exact absurd h0 de
     ·rename_i e5;rw [if_neg e5];have hb:qjt ks a.line=true:=by simpa using e2
      simp only [Bool.or_eq_true,not_or] at e4;have hg:qge (qb9 ks a.line).d0=a.gen:=by simpa using e4.2
      refine ⟨by simpa using e1,rfl,by simpa using e5,?_,hb⟩;show (⟨(qb9 ks a.line).l,qge (qb9 ks a.line).d0⟩:Pt)=a;rw [qs0 hb,hg]
theorem qpm {q:Pg} (h:(qdq q).2=0):qco (qdq q).1=true∧qcw q.d0=2:=by
 unfold qdq at h ⊢;split at h
 ·exact absurd h de
 ·rename_i h1;rw [if_neg h1];split at h
  ·exact absurd h de
  ·rename_i h2;rw [if_neg h2];simp only [Bool.or_eq_true,not_or] at h1 h2;refine ⟨?_,by simpa using h1.1⟩;have:=h2.1.2;revert this;cases qco (rdB q) <;> simp
structure Fnd (h:BitVec 32) (P:P23):Prop where
 kind:qcw P.page.d0=2
 val:qco P.bucket=true
 at_:qbt (atR P.page)=true
 cov:UV (qfk h P.bucket.depth)=UV P.bucket.pat
def oPl (o:O23):Prop:=o.found=false∧o.done=false∧o.split=false∧o.to=Pt.nil∧o.check=[]∧o.fresh=0
theorem wk_fnd (h:BitVec 32) (r:Rt) (ks:List Pg) (m k:Nat) (a:Pt):oPl (qrf h r ks m k a).out∧((qrf h r ks m k a).need=[]->(qrf h r ks m k a).out.code=0->Fnd h (qrf h r ks m k a)):=
 qsb (P:=fun p:P23=>oPl p.out∧(p.need=[]->p.out.code=0->Fnd h p)) (fun l=>⟨⟨rfl,rfl,rfl,rfl,rfl,rfl⟩,fun e=>by cases e⟩) (fun c hc=>⟨⟨rfl,rfl,rfl,rfl,rfl,rfl⟩,fun _ e=>absurd e hc⟩)
  (fun a k h0 h1 h2 h3=>⟨⟨rfl,rfl,rfl,rfl,rfl,rfl⟩,fun _ _=>by
   obtain ⟨f1,f2,f3,f4,f5⟩:=lk_at h0 h1;exact ⟨f3,(qpm h2).1,by show qbt (atR (lkV ks a 2 false).1)=true;rw [f4];exact f1,h3⟩⟩)
  ⟨⟨rfl,rfl,rfl,rfl,rfl,rfl⟩,fun _ e=>absurd (show (14:Int)=0 from e) de⟩ m k a
theorem lcW_fnd (h:BitVec 32) (r:Rt) (ks:List Pg) (st:Pt):oPl (lcW h r ks st).out∧((lcW h r ks st).need=[]->(lcW h r ks st).out.code=0->Fnd h (lcW h r ks st)):=by
 unfold lcW;split
 ·exact wk_fnd _ _ _ _ _ _
 ·exact wk_fnd _ _ _ _ _ _
theorem qlx (h:BitVec 32) (r:Rt) (ks:List Pg) (i:Nat):oPl (lcA h r ks i).out∧((lcA h r ks i).need=[]->(lcA h r ks i).out.code=0->Fnd h (lcA h r ks i)):=by
 unfold lcA;split
 ·exact ⟨⟨rfl,rfl,rfl,rfl,rfl,rfl⟩,fun e=>by cases e⟩
 ·obtain ⟨h1,h2⟩:=lcW_fnd h r ks (stR r i (lkV ks (qdv r (i / 8)) 3 false));refine ⟨h1,fun e1 e2=>?_⟩;obtain ⟨f1,f2,f3,f4⟩:=h2 e1 e2;exact ⟨f1,f2,f3,f4⟩
theorem qib {x:BitVec 32} (h:okW x=true):qc9 (qbb x)=true:=by
 unfold okW at h;unfold qc9;rcases Bool.or_eq_true_iff.1 h with e|e
 ·have h0:UV x=0:=by simpa using e
  have hn:qbb x=Pt.nil:=by unfold qbb;rw [h0];rfl
  rw [hn];rfl
 ·rw [e,Bool.or_true]
theorem qs8 {p:Pt} (h:qbt p=true):qc9 p=true:=by unfold qc9;rw [h,Bool.or_true]
theorem qls {p:Pg} (h:(qb2 p).2=0):qcw p.d0=3∧∀ k,k<8->qc9 (qpg (qb2 p).1 k)=true:=by
 unfold qb2 at h ⊢;split at h
 ·rename_i h1;rw [if_pos h1];obtain ⟨hk,o0,o1,o2,o3,o4,o5,o6,o7⟩:=qxc (Bool.and_eq_true_iff.1 h1).1;refine ⟨hk,fun k hk8=>?_⟩;rcases e8 hk8 with rfl|rfl|rfl|rfl|rfl|rfl|rfl|rfl
  ·exact qib o0
  ·exact qib o1
  ·exact qib o2
  ·exact qib o3
  ·exact qib o4
  ·exact qib o5
  ·exact qib o6
  ·exact qib o7
 ·exact absurd h de
theorem s8l_at (s:S8) {k:Nat} (hk:k<8):(s8l s)[k]?=some (qpg s k):=by
 rcases e8 hk with rfl|rfl|rfl|rfl|rfl|rfl|rfl|rfl <;> rfl
theorem qi7 {p:Pg} {s:S8} (hk:qcw p.d0=3) (h:∀ k,k<8->qc9 (qpg s k)=true):(qgk p s).1=qfh p s 8:=by
 rw [qo4 hk fun i hi q hq=>by
  rw [s8l_at s hi] at hq;rw [<- Option.some.inj hq];exact h i hi]
theorem qt8 {s:S8} {k:Nat} {p:Pt} (h:∀ j,j<8->qc9 (qpg s j)=true) (hp:qc9 p=true):∀ j,j<8->qc9 (qpg (qqv s k p) j)=true:=by
 intro j hj;have hs:=h j hj;unfold qqv;split <;> (rcases e8 hj with rfl|rfl|rfl|rfl|rfl|rfl|rfl|rfl <;> first|exact hp|exact hs)
theorem qve (m:Nat):∀ (n k:Nat) (s:S8),k+n<=8->(∀ j,j<8->qc9 (qpg s j)=true)->∀ j,j<8->qc9 (qpg (gwL m n k s) j)=true
 | 0,_,_,_,h=>h
 | n+1,k,s,hk,h=>qve m n (k+1) _ om (qt8 h (h k om))
theorem qxp {key:BitVec 32} {to nx:Pt} (hk:1<=UV key∧UV key<=4294967294) (ht:qbt to=true):qco ⟨0,0#32,Pt.nil,[⟨key,to⟩]⟩=true:=by
 refine qmb ⟨show (0:Int)<=0∧(0:Int)<=16 by decide,show (0#32).toNat<2 ^ (0:Int).toNat by decide,rfl,show 1<=5 by decide⟩ ?_;refine ents_cons.2 ⟨⟨by show (0:Int)<UV key;omega,hk.2,ht,?_⟩,rfl⟩;unfold UV;rw [qnr _ (show (0:Int)<=0∧(0:Int)<=16 by decide)];show ((_ % 2 ^ 0:Nat):Int)=_;rw [Nat.pow_zero,Nat.mod_one];rfl
structure EnOk (h:BitVec 32) (e:En):Prop where
 key:1<=UV e.key∧UV e.key<=4294967294
 to_:qbt e.to=true
 hash:qbk e.key=h
theorem zaq {P:P23} {h:BitVec 32} {e:En} (hf:Fnd h P) (he:EnOk h e) (hn:(ixE e.key 0 P.bucket.es).2=false) (hl:P.bucket.es.length<5):qco { P.bucket with es:=wiV P.bucket.es e }=true:=by
 obtain ⟨⟨h1,h2,h3,h4⟩,h5⟩:=qfj hf.val;have hes:=qot hf.val;refine qmb ⟨h1,h2,h3,by show (wiV _ _).length<=5;rw [qo5];omega⟩ ?_;exact qm1 ⟨he.key.2,he.to_,by rw [he.hash];exact hf.cov⟩ hes (by show (0:Int)<UV e.key;have:=he.key.1;omega) hn
theorem zbo {b:Bk} (k:Nat) (hv:qco b=true):qco { b with es:=b.es.take k++b.es.drop (k+1) }=true:=by
 obtain ⟨⟨h1,h2,h3,h4⟩,h5⟩:=qfj hv;have hes:=qot hv;have hs:List.Sublist (b.es.take k++b.es.drop (k+1)) b.es:=by
  conv=>rhs;rw [<- List.take_append_drop k b.es]
  refine List.Sublist.append (List.Sublist.refl _) ?_;rw [<- List.drop_drop];exact List.drop_sublist _ _
 refine qmb ⟨h1,h2,h3,?_⟩ ?_
 ·have:=hs.length_le;show (b.es.take k++b.es.drop (k+1)).length<=5;omega
 ·exact qm2 hs hes fun x hx=>qtb hes x (hs.subset hx)
theorem upV_nat {b:Bk} (hd:0<=b.depth∧b.depth<16) (hp:b.pat.toNat<2 ^ b.depth.toNat):(upV b).toNat=b.pat.toNat+2 ^ b.depth.toNat∧(2:Nat) ^ (b.depth+1).toNat=2 ^ b.depth.toNat*2:=by
 have hpow:(2:Nat) ^ (b.depth+1).toNat=2 ^ b.depth.toNat*2:=by rw [show (b.depth+1).toNat=b.depth.toNat+1 by omega,Nat.pow_succ]
 have hpl:(2:Nat) ^ b.depth.toNat<=2 ^ 15:=Nat.pow_le_pow_right om om;refine ⟨?_,hpow⟩;unfold upV;rw [BitVec.toNat_add,BitVec.toNat_shiftLeft,Nat.shiftLeft_eq];have h1:(BitVec.ofInt 32 1).toNat=1:=de;rw [h1,Nat.one_mul,Nat.mod_eq_of_lt (show 2 ^ b.depth.toNat<2 ^ 32 by omega)];exact Nat.mod_eq_of_lt om
theorem qwr {P:P23} {h:BitVec 32} {e:En} {a:Pg} (hf:Fnd h P) (he:EnOk h e) (hn:(ixE e.key 0 P.bucket.es).2=false) (hd:P.bucket.depth≠16) (ha:qbt (atR a)=true) :
  qco ⟨P.bucket.depth+1,P.bucket.pat,atR a,(zez P e (spE (P.bucket.depth+1) P.bucket.pat P.bucket.es [] [])).1⟩=true∧qco ⟨P.bucket.depth+1,upV P.bucket,P.bucket.next,(zez P e (spE (P.bucket.depth+1) P.bucket.pat P.bucket.es [] [])).2.1⟩=true:=by
 obtain ⟨⟨h1,h2,h3,h4⟩,h5⟩:=qfj hf.val;have hes:=qot hf.val;have hd':0<=P.bucket.depth∧P.bucket.depth<16:=om;obtain ⟨hup,hpow⟩:=upV_nat hd' h2;have hk0:UV (0#32)<UV e.key:=by show (0:Int)<UV e.key;have:=he.key.1;omega
 rw [qkr,List.nil_append,List.nil_append];have hs1:List.Sublist (P.bucket.es.filter fun z=>UV (qfk (qbk z.key) (P.bucket.depth+1))==UV P.bucket.pat) P.bucket.es:=List.filter_sublist;have hs2:List.Sublist (P.bucket.es.filter fun z=>!(UV (qfk (qbk z.key) (P.bucket.depth+1))==UV P.bucket.pat)) P.bucket.es:=List.filter_sublist;have hx:qfy (P.bucket.depth+1) P.bucket.pat 0#32 (P.bucket.es.filter fun z=>UV (qfk (qbk z.key) (P.bucket.depth+1))==UV P.bucket.pat)=true:=
  qm2 hs1 hes fun z hz=>by simpa using (List.mem_filter.1 hz).2
 have hy:qfy (P.bucket.depth+1) (upV P.bucket) 0#32 (P.bucket.es.filter fun z=>!(UV (qfk (qbk z.key) (P.bucket.depth+1))==UV P.bucket.pat))=true:=
  qm2 hs2 hes fun z hz=>low_up hd' h2 (qtb hes z (hs2.subset hz)) (by simpa using (List.mem_filter.1 hz).2)
 have hl1:=hs1.length_le;have hl2:=hs2.length_le;have hn1:=qzr hes hs1 hn;have hn2:=qzr hes hs2 hn;generalize (P.bucket.es.filter fun z=>UV (qfk (qbk z.key) (P.bucket.depth+1))==UV P.bucket.pat)=xs at *
 generalize (P.bucket.es.filter fun z=>!(UV (qfk (qbk z.key) (P.bucket.depth+1))==UV P.bucket.pat))=ys at *
 have mkx:∀ l:List En,l.length<=5->qfy (P.bucket.depth+1) P.bucket.pat 0#32 l=true->qco ⟨P.bucket.depth+1,P.bucket.pat,atR a,l⟩=true:=fun l hl hv =>
  qmb ⟨⟨by show 0<=P.bucket.depth+1;omega,by show P.bucket.depth+1<=16;omega⟩,by show P.bucket.pat.toNat<2 ^ (P.bucket.depth+1).toNat;rw [hpow];omega,qs8 ha,hl⟩ hv
 have mky:∀ l:List En,l.length<=5->qfy (P.bucket.depth+1) (upV P.bucket) 0#32 l=true->qco ⟨P.bucket.depth+1,upV P.bucket,P.bucket.next,l⟩=true:=fun l hl hv =>
  qmb ⟨⟨by show 0<=P.bucket.depth+1;omega,by show P.bucket.depth+1<=16;omega⟩,by show (upV P.bucket).toNat<2 ^ (P.bucket.depth+1).toNat;rw [hpow,hup];omega,h3,hl⟩ hv
 unfold zez;split
 ·rename_i c1;have hfit:fitE (P.bucket.depth+1) P.bucket.pat e:=⟨he.key.2,he.to_,by simpa using c1⟩
  split
  ·rename_i c2;have hlt:=of_decide_eq_true c2;exact ⟨mkx _ (by rw [qo5];dsimp only at hlt ⊢;omega) (qm1 hfit hx hk0 hn1),mky _ (by dsimp only;omega) hy⟩
  ·exact ⟨mkx _ (by dsimp only;omega) hx,mky _ (by dsimp only;omega) hy⟩
 ·rename_i c1;have hfit:fitE (P.bucket.depth+1) (upV P.bucket) e:=⟨he.key.2,he.to_,low_up hd' h2 (by rw [he.hash];exact hf.cov) (by simpa using c1)⟩
  split
  ·rename_i c2;have hlt:=of_decide_eq_true c2;exact ⟨mkx _ (by dsimp only;omega) hx,mky _ (by rw [qo5];dsimp only at hlt ⊢;omega) (qm1 hfit hy hk0 hn2)⟩
  ·exact ⟨mkx _ (by dsimp only;omega) hx,mky _ (by dsimp only;omega) hy⟩
def ispW (P:P23) (nw:Pg) (X:List En×List En×Bool):S23:=
 ⟨[],[qej P.page ⟨P.bucket.depth+1,P.bucket.pat,atR nw,X.1⟩,qej nw ⟨P.bucket.depth+1,upV P.bucket,P.bucket.next,X.2.1⟩],{ P.out with done:=X.2.2,split:=true },true⟩
def ispV (P:P23) (e:En) (U:List Pg×Int):S23:=
 if (U.2 != 0)=true then (if (U.2==18)=true then qe9 { P.out with fresh:=1 } 18 else qe9 P.out 1) else
 if ((U.1.getD 0 Pg.nil).l==P.page.l)=true then qe9 P.out 1 else ispW P (U.1.getD 0 Pg.nil) (zez P e (spE (P.bucket.depth+1) P.bucket.pat P.bucket.es [] []))
def ispS (P:P23) (e:En) (fr:List Pg):S23:=
 if decide ((P.bucket.es.length:Int)<5)=true then ⟨[],[qej P.page { P.bucket with es:=wiV P.bucket.es e }],{ P.out with done:=true },true⟩ else
 if (P.bucket.depth==16)=true then qe9 P.out 12 else ispV P e (frP fr [2])
theorem qyq (fr:List Pg):∀ (l:List Int) (k:Nat) (out:List Pg),(usP fr l k out).2=0∨(usP fr l k out).2=1
 | [],_,_=>.inl rfl
 | z::r,k,out=>by
  unfold usP;split
  ·exact .inr rfl
  ·exact qyq fr r _ _
theorem qk4 (fr:List Pg) (kinds:List Int):(frP fr kinds).2=0∨(frP fr kinds).2=1∨(frP fr kinds).2=18:=by
 unfold frP;split
 ·exact .inr (.inr rfl)
 ·rcases qyq fr kinds 0 [] with h|h
  ·exact .inl h
  ·exact .inr (.inl h)
theorem two_le4:∀ z:Int,z∈([2]:List Int)->1<=z∧z<=4:=fun z h=>by rw [List.mem_singleton.1 h];decide
theorem qpc:∀ z:Int,z∈([3]:List Int)->1<=z∧z<=4:=fun z h=>by rw [List.mem_singleton.1 h];decide
theorem qti:∀ z:Int,z∈([2,3]:List Int)->1<=z∧z<=4:=fun z h=>by
 rcases List.mem_cons.1 h with rfl|h
 ·decide
 ·exact qpc z h
theorem fr1 {fr:List Pg} {z:Int} (hz:1<=z∧z<=4) (h:(frP fr [z]).2=0):Alc z ((frP fr [z]).1.getD 0 Pg.nil)∧(frP fr [z]).1=[(frP fr [z]).1.getD 0 Pg.nil]:=by
 obtain ⟨h1,h2,h3⟩:=zfg (fun x hx=>by rw [List.mem_singleton.1 hx];exact hz) h;generalize (frP fr [z]).1=l at *
 match l,h1 with
 | [a],_=>exact ⟨h2 0 z a rfl rfl,rfl⟩
theorem isp_eq {P:P23} {h:BitVec 32} {e:En} {fr:List Pg} (hf:Fnd h P) (he:EnOk h e) (hn:(ixE e.key 0 P.bucket.es).2=false):qu3 P e fr=sr (ispS P e fr):=by
 unfold qu3 ispS;by_cases c1:decide ((P.bucket.es.length:Int)<5)=true
 ·have hlt:=of_decide_eq_true c1;rw [if_pos c1,if_pos c1,qho hf.kind (zaq hf he hn om)];rfl
 rw [if_neg c1,if_neg c1];by_cases c2:(P.bucket.depth==16)=true
 ·rw [if_pos c2,if_pos c2];rfl
 rw [if_neg c2,if_neg c2,us_x de];have hd:P.bucket.depth≠16:=by simpa using c2
 unfold ispU ispV;by_cases c3:((frP fr [2]).2 != 0)=true
 ·rw [if_pos c3,if_pos c3];rcases qk4 fr [2] with e0|e0|e0
  ·rw [e0] at c3;exact absurd c3 de
  ·rw [e0];rfl
  ·rw [e0];rfl
 ·rw [if_neg c3,if_neg c3];have h0:(frP fr [2]).2=0:=by simpa using c3
  obtain ⟨ha,_⟩:=fr1 de h0;by_cases c4:(((frP fr [2]).1.getD 0 Pg.nil).l==P.page.l)=true
  ·rw [if_pos c4,if_pos c4];rfl
  ·rw [if_neg c4,if_neg c4,h0,if_neg de,if_neg de];obtain ⟨v1,v2⟩:=qwr hf he hn hd ha.at_;unfold ispB ispW;rw [qho hf.kind v1,qho ha.kind v2];rfl
def emV (key:BitVec 32) (to:Pt) (p:Pg) (U:List Pg×Int):S23:=
 if (U.2 != 0)=true then (if (U.2==18)=true then qe9 { oC 0 with fresh:=2 } 18 else qe9 (oC 0) 1) else
 ⟨[],[qej (U.1.getD 0 Pg.nil) ⟨0,0#32,Pt.nil,[⟨key,to⟩]⟩,qfh (U.1.getD 1 Pg.nil) ⟨atR (U.1.getD 0 Pg.nil),Pt.nil,Pt.nil,Pt.nil,Pt.nil,Pt.nil,Pt.nil,Pt.nil⟩ 8,
  (qdp p ⟨atR (U.1.getD 0 Pg.nil),0,atR (U.1.getD 1 Pg.nil),Pt.nil,Pt.nil,Pt.nil⟩).1],{ oC 0 with done:=true },true⟩
def emS (kind:Int) (key:BitVec 32) (to:Pt) (fr ks:List Pg):S23:=
 if qet (qb9 ks 96)=true then qe9 (oC 0) 3 else
 if (kind==1)=true then ⟨[],[],{ oC 0 with check:=[96] },true⟩ else
 if (kind==3)=true then qe9 { oC 0 with check:=[96] } 16 else emV key to (qb9 ks 96) (frP fr [2,3])
theorem fr2 {fr:List Pg} (h:(frP fr [2,3]).2=0):∃ a b,(frP fr [2,3]).1=[a,b]∧Alc 2 a∧Alc 3 b∧a.l≠b.l:=by
 obtain ⟨h1,h2,h3⟩:=zfg qti h;generalize (frP fr [2,3]).1=l at *
 match l,h1 with
 | [a,b],_=>exact ⟨a,b,rfl,h2 0 2 a rfl rfl,h2 1 3 b rfl rfl,by simpa using h3⟩
theorem em_eq {kind:Int} {key:BitVec 32} {to:Pt} {fr ks:List Pg} (hk:1<=UV key∧UV key<=4294967294) (ht:kind≠1->kind≠3->qbt to=true):em23 kind key to fr ks=sr (emS kind key to fr ks):=by
 unfold em23 emS;by_cases c1:qet (qb9 ks 96)=true
 ·rw [if_pos c1,if_pos c1];rfl
 rw [if_neg c1,if_neg c1];by_cases c2:(kind==1)=true
 ·rw [if_pos c2,if_pos c2];rfl
 rw [if_neg c2,if_neg c2];by_cases c3:(kind==3)=true
 ·rw [if_pos c3,if_pos c3];rfl
 rw [if_neg c3,if_neg c3,us_96 qti];have hto:=ht (by simpa using c2) (by simpa using c3);unfold emV;rcases qk4 fr [2,3] with e0|e0|e0
 ·obtain ⟨a,b,f1,f2,f3,f4⟩:=fr2 e0;rw [e0,if_neg de,if_neg de,if_neg de,f1];have v:=qxp (nx:=Pt.nil) hk hto;show (⟨[],qck [] [(qgz a _).1,(qgk b _).1,(qdp (qb9 ks 96) _).1],_,true⟩:S23)=sr ⟨[],[qej a _,qfh b _ 8,(qdp (qb9 ks 96) _).1],_,true⟩;rw [qho f2.kind v,qi7 f3.kind fun k hk8=>by
   rcases e8 hk8 with rfl|rfl|rfl|rfl|rfl|rfl|rfl|rfl
   ·exact qs8 f2.at_
   all_goals rfl]
  rfl
 ·rw [e0];rfl
 ·rw [e0];rfl
def qmw (P:P23) (f:S23):S23:=if decide ((P.need.length:Int)>0)=true then quz P.need else if (P.out.code != 0)=true then qe9 P.out P.out.code else f
def rpT (i:Nat) (P:P23) (D:Pg):S23:=
 if decide (qpg (qb2 D).1 (i % 8)=atR P.page)=true then ⟨[],[],{ P.out with found:=true },true⟩ else ⟨[],[qfh D (qqv (qb2 D).1 (i % 8) (atR P.page)) 8],{ P.out with done:=true },true⟩
def qqr (o:O23) (p:Pt) (D:Pg×Bool×Int) (f:Pg->S23):S23:=
 if (D.2.2 != 0)=true then qe9 o D.2.2 else if (!D.2.1)=true then quz [p.line] else if ((qb2 D.1).2 != 0)=true then qe9 o 14 else f D.1
def rpQ (h:BitVec 32) (ks:List Pg) (r:Rt):S23:=
 if decide (r.first=Pt.nil)=true then qe9 (oC 0) 16 else
 qmw (lcA (qfk h r.depth) r ks (iH (qfk h r.depth) r.depth)) (qqr (lcA (qfk h r.depth) r ks (iH (qfk h r.depth) r.depth)).out (qdv r (iH h r.depth / 8)) (lkV ks (qdv r (iH h r.depth / 8)) 3 true) (rpT (iH h r.depth) (lcA (qfk h r.depth) r ks (iH (qfk h r.depth) r.depth))))
theorem rpS_eq {i:Nat} {P:P23} {D:Pg} (hD:(qb2 D).2=0) (hP:qbt (atR P.page)=true):rpS i P D=sr (rpT i P D):=by
 unfold rpS rpT;split
 ·rfl
 ·obtain ⟨h1,h2⟩:=qls hD;rw [qi7 h1 (qt8 h2 (qs8 hP))];rfl
theorem rp_eq {h:BitVec 32} {ks:List Pg} {p:Pg} {r:Rt} (hr:qmj ks=(p,r,[],0)):rp23 h ks=sr (rpQ h ks r):=by
 unfold rp23 rpZ rpQ;rw [hr];dsimp only;rw [if_neg (show ¬ decide ((([]:List Int).length:Int)>0)=true by decide),if_neg (show ¬ ((0:Int) != 0)=true by decide)];by_cases c1:decide (r.first=Pt.nil)=true
 ·rw [if_pos c1,if_pos c1];rfl
 rw [if_neg c1,if_neg c1];have hl:qq3 (qfk h r.depth) ks=lcA (qfk h r.depth) r ks (iH (qfk h r.depth) r.depth):=by
  unfold qq3 lcZ;rw [hr];dsimp only;rw [if_neg (show ¬ (decide ((([]:List Int).length:Int)>0)||((0:Int) != 0))=true by decide),if_neg c1]
 obtain ⟨ho,hf⟩:=qlx (qfk h r.depth) r ks (iH (qfk h r.depth) r.depth);rw [hl];generalize lcA (qfk h r.depth) r ks (iH (qfk h r.depth) r.depth)=P at *;unfold rpC qmw qqr;by_cases c2:decide ((P.need.length:Int)>0)=true
 ·rw [if_pos c2,if_pos c2];rfl
 rw [if_neg c2,if_neg c2];by_cases c3:(P.out.code != 0)=true
 ·rw [if_pos c3,if_pos c3];rfl
 rw [if_neg c3,if_neg c3];have hn:P.need=[]:=by
  match hP:P.need with
  | []=>rfl
  | x::l=>rw [hP] at c2;exact absurd c2 (by simp)
 have hF:=hf hn (by simpa using c3);by_cases c4:((lkV ks (qdv r (iH h r.depth / 8)) 3 true).2.2 != 0)=true
 ·rw [if_pos c4,if_pos c4];rfl
 rw [if_neg c4,if_neg c4];by_cases c5:(!(lkV ks (qdv r (iH h r.depth / 8)) 3 true).2.1)=true
 ·rw [if_pos c5,if_pos c5];rfl
 rw [if_neg c5,if_neg c5];by_cases c6:((qb2 (lkV ks (qdv r (iH h r.depth / 8)) 3 true).1).2 != 0)=true
 ·rw [if_pos c6,if_pos c6];rfl
 rw [if_neg c6,if_neg c6];exact rpS_eq (by simpa using c6) hF.at_
def gwV (r:Rt) (m:Nat) (p D:Pg):S23:=⟨[],[qfh D (gwL m m 0 (qb2 D).1) 8,(qdp p { r with depth:=r.depth+1 }).1],gwO,true⟩
def gwX (p:Pg) (r:Rt) (k:Nat) (s:S8) (U:List Pg×Int):S23:=
 if (U.2 != 0)=true then (if (U.2==18)=true then qe9 { oC 0 with fresh:=1 } 18 else qe9 (oC 0) 1) else
 ⟨[],[qfh (U.1.getD 0 Pg.nil) s 8,(qdp p (qt9 r k (atR (U.1.getD 0 Pg.nil)))).1],gwO,true⟩
def qs4 (fr ks:List Pg) (p:Pg) (r:Rt) (m:Nat):Nat->Nat->S23
 | 0,_=>⟨[],[(qdp p { r with depth:=r.depth+1 }).1],gwO,true⟩
 | n+1,k=>if (!decide (qdv r k=Pt.nil))=true then qs4 fr ks p r m n (k+1) else qqr (oC 0) (qdv r (k-m)) (lkV ks (qdv r (k-m)) 3 false) fun D=>gwX p r k (qb2 D).1 (frP fr [3])
def gwQ (fr ks:List Pg) (p:Pg) (r:Rt):S23:=
 if decide (r.first=Pt.nil)=true then qe9 (oC 0) 16 else
 if (r.depth==5)=true then qe9 (oC 0) 12 else
 if decide (r.depth<3)=true then qqr (oC 0) r.p0 (lkV ks r.p0 3 true) (gwV r (2 ^ r.depth.toNat) p) else qs4 fr ks p r (qfs r.depth).toNat (qfs r.depth).toNat (qfs r.depth).toNat
theorem gwU_eq {fr:List Pg} {p:Pg} {r:Rt} {k:Nat} {s:S8} (hs:∀ j,j<8->qc9 (qpg s j)=true):gwU p r k s (qmc fr [3] [96])=sr (gwX p r k s (frP fr [3])):=by
 rw [us_96 qpc];unfold gwU gwX;rcases qk4 fr [3] with e0|e0|e0
 ·obtain ⟨ha,_⟩:=fr1 de e0;rw [e0,if_neg de,if_neg de,if_neg de,qi7 ha.kind hs];rfl
 ·rw [e0];rfl
 ·rw [e0];rfl
theorem gwN_eq {fr ks:List Pg} {p:Pg} {r:Rt} {m:Nat}:∀ n k,gwN fr ks p r m n k=sr (qs4 fr ks p r m n k)
 | 0,_=>rfl
 | n+1,k=>by
  unfold gwN qs4;by_cases c:(!decide (qdv r k=Pt.nil))=true
  ·rw [if_pos c,if_pos c];exact gwN_eq n (k+1)
  ·rw [if_neg c,if_neg c];unfold gwD qqr;by_cases c4:((lkV ks (qdv r (k-m)) 3 false).2.2 != 0)=true
   ·rw [if_pos c4,if_pos c4];rfl
   rw [if_neg c4,if_neg c4];by_cases c5:(!(lkV ks (qdv r (k-m)) 3 false).2.1)=true
   ·rw [if_pos c5,if_pos c5];rfl
   rw [if_neg c5,if_neg c5];by_cases c6:((qb2 (lkV ks (qdv r (k-m)) 3 false).1).2 != 0)=true
   ·rw [if_pos c6,if_pos c6];rfl
   rw [if_neg c6,if_neg c6];exact gwU_eq (qls (by simpa using c6)).2
theorem gwR_eq {fr ks:List Pg} {p:Pg} {r:Rt} (hd:0<=r.depth∧r.depth<=5):gwR fr ks p r=sr (gwQ fr ks p r):=by
 unfold gwR gwQ;by_cases c1:decide (r.first=Pt.nil)=true
 ·rw [if_pos c1,if_pos c1];rfl
 rw [if_neg c1,if_neg c1];by_cases c2:(r.depth==5)=true
 ·rw [if_pos c2,if_pos c2];rfl
 rw [if_neg c2,if_neg c2];by_cases c3:decide (r.depth<3)=true
 ·rw [if_pos c3,if_pos c3];have h3:=of_decide_eq_true c3;have h24:(2:Nat) ^ r.depth.toNat<=2 ^ 2:=Nat.pow_le_pow_right om om;unfold gwB qqr;by_cases c4:((lkV ks r.p0 3 true).2.2 != 0)=true
  ·rw [if_pos c4,if_pos c4];rfl
  rw [if_neg c4,if_neg c4];by_cases c5:(!(lkV ks r.p0 3 true).2.1)=true
  ·rw [if_pos c5,if_pos c5];rfl
  rw [if_neg c5,if_neg c5];by_cases c6:((qb2 (lkV ks r.p0 3 true).1).2 != 0)=true
  ·rw [if_pos c6,if_pos c6];rfl
  rw [if_neg c6,if_neg c6];obtain ⟨h1,h2⟩:=qls (p:=(lkV ks r.p0 3 true).1) (by simpa using c6);unfold gwA gwV;rw [qi7 h1 (qve _ _ _ _ om h2)];rfl
 ·rw [if_neg c3,if_neg c3];exact gwN_eq _ _
def ql8 (p:Pg) (c:Int):S23:=if qet p=true then qe9 (oC 0) 3 else qe9 { oC 0 with check:=[96] } c
def zb7 (P:P23) (x:Nat×Bool):S23:=if x.2=true then ⟨[],[],{ P.out with check:=[P.page.l],found:=x.2,to:=(qq6 P.bucket.es x.1).to },true⟩ else ⟨[],[],{ P.out with check:=[P.page.l],found:=x.2 },true⟩
def remS (P:P23) (x:Nat×Bool):S23:=if (!x.2)=true then qe9 { P.out with check:=[P.page.l] } 16 else ⟨[],[qej P.page { P.bucket with es:=P.bucket.es.take x.1++P.bucket.es.drop (x.1+1) }],{ P.out with to:=(qq6 P.bucket.es x.1).to,done:=true },true⟩
def adY (key:BitVec 32) (to:Pt) (fr:List Pg) (P:P23) (x:Nat×Bool):S23:=if x.2=true then qe9 { P.out with check:=[P.page.l] } 17 else ispS P ⟨key,to⟩ fr
def opS (kind:Int) (key:BitVec 32) (to:Pt) (fr ks:List Pg) (p:Pg) (r:Rt) (P:P23):S23:=
 if (kind==1)=true then (if decide (r.first=Pt.nil)=true then ql8 p 0 else qmw P (zb7 P (ixE key 0 P.bucket.es))) else
 if (kind==2)=true then (if decide (r.first=Pt.nil)=true then (if qet p=true then qe9 (oC 0) 3 else emV key to p (frP fr [2,3])) else qmw P (adY key to fr P (ixE key 0 P.bucket.es))) else
 if (kind==3)=true then (if decide (r.first=Pt.nil)=true then ql8 p 16 else qmw P (remS P (ixE key 0 P.bucket.es))) else
 if (kind==4)=true then rpQ key ks r else gwQ fr ks p r
def nxS (kind:Int) (key:BitVec 32) (to:Pt) (fr ks:List Pg):S23:=
 if qx0 kind key to=true then qe9 (oC 0) 1 else
 if (!qjt ks 96)=true then quz [96] else
 if (kind==5&&qet (qb9 ks 96))=true then qe9 (oC 0) 3 else
 if ((qdu (qb9 ks 96)).2 != 0)=true then qe9 (oC 0) (qdu (qb9 ks 96)).2 else
 opS kind key to fr ks (qb9 ks 96) (qdu (qb9 ks 96)).1 (lcA (qbk key) (qdu (qb9 ks 96)).1 ks (iH (qbk key) (qdu (qb9 ks 96)).1.depth))
theorem qrl {p:Pg} (h:p.l=96):(qdu p).2=0∨(qdu p).2=14:=by
 unfold qdu;rw [if_neg (by simpa using h)];split
 ·exact .inl rfl
 ·exact .inr rfl
theorem zf8 {kind:Int} {key:BitVec 32} {to:Pt} (h:¬ qx0 kind key to=true):(1<=kind∧kind<=5)∧(kind<4->1<=UV key∧UV key<=4294967294)∧(kind=2->qbt to=true):=by
 unfold qx0 at h;simp only [Bool.or_eq_true,Bool.and_eq_true,not_or,not_and,decide_eq_true_eq,beq_iff_eq,Bool.not_eq_true',Bool.not_eq_false'] at h;obtain ⟨⟨⟨h1,h2⟩,h3⟩,h4⟩:=h;refine ⟨om,fun hk=>?_,fun hk=>?_⟩
 ·have:=h3 hk;omega
 ·have:=h4 hk;revert this;cases qbt to <;> simp
theorem opS_1 {key:BitVec 32} {to:Pt} {fr ks:List Pg} {p:Pg} {r:Rt} {P:P23}:opS 1 key to fr ks p r P=if decide (r.first=Pt.nil)=true then ql8 p 0 else qmw P (zb7 P (ixE key 0 P.bucket.es)):=by
 unfold opS;rw [if_pos (show ((1:Int)==1)=true from rfl)]
theorem opS_2 {key:BitVec 32} {to:Pt} {fr ks:List Pg} {p:Pg} {r:Rt} {P:P23}:opS 2 key to fr ks p r P=if decide (r.first=Pt.nil)=true then (if qet p=true then qe9 (oC 0) 3 else emV key to p (frP fr [2,3])) else qmw P (adY key to fr P (ixE key 0 P.bucket.es)):=by
 unfold opS;rw [if_neg (show ¬ ((2:Int)==1)=true by decide),if_pos (show ((2:Int)==2)=true from rfl)]
theorem opS_3 {key:BitVec 32} {to:Pt} {fr ks:List Pg} {p:Pg} {r:Rt} {P:P23}:opS 3 key to fr ks p r P=if decide (r.first=Pt.nil)=true then ql8 p 16 else qmw P (remS P (ixE key 0 P.bucket.es)):=by
 unfold opS;rw [if_neg (show ¬ ((3:Int)==1)=true by decide),if_neg (show ¬ ((3:Int)==2)=true by decide),if_pos (show ((3:Int)==3)=true from rfl)]
theorem opS_4 {key:BitVec 32} {to:Pt} {fr ks:List Pg} {p:Pg} {r:Rt} {P:P23}:opS 4 key to fr ks p r P=rpQ key ks r:=by
 unfold opS;rw [if_neg (show ¬ ((4:Int)==1)=true by decide),if_neg (show ¬ ((4:Int)==2)=true by decide),if_neg (show ¬ ((4:Int)==3)=true by decide),if_pos (show ((4:Int)==4)=true from rfl)]
theorem opS_5 {key:BitVec 32} {to:Pt} {fr ks:List Pg} {p:Pg} {r:Rt} {P:P23}:opS 5 key to fr ks p r P=gwQ fr ks p r:=by
 unfold opS;rw [if_neg (show ¬ ((5:Int)==1)=true by decide),if_neg (show ¬ ((5:Int)==2)=true by decide),if_neg (show ¬ ((5:Int)==3)=true by decide),if_neg (show ¬ ((5:Int)==4)=true by decide)]
theorem sr_if {c:Prop} [Decidable c] (a b:S23):sr (if c then a else b)=if c then sr a else sr b:=by split <;> rfl
theorem sr_nd (l:List Int):sr (quz l)=quz l:=rfl
theorem sr_loc (P:P23) (f:S23):sr (qmw P f)=qmw P (sr f):=by
 unfold qmw;rw [sr_if,sr_if,qwq,sr_nd]
theorem sr_fnd (P:P23) (x:Nat×Bool):sr (zb7 P x)=zb7 P x:=by
 unfold zb7;rw [sr_if,zc7,zc7]
theorem em_op {kind:Int} {key:BitVec 32} {to:Pt} {fr ks:List Pg} {r:Rt} {P:P23} (hk:kind=1∨kind=2∨kind=3) (hkey:1<=UV key∧UV key<=4294967294) (hto:kind=2->qbt to=true) (c3:decide (r.first=Pt.nil)=true) :
  em23 kind key to fr ks=sr (opS kind key to fr ks (qb9 ks 96) r P):=by
 rw [em_eq hkey (fun n1 n3=>hto om)]
 unfold emS;rcases hk with e|e|e
 ·subst e;rw [opS_1,if_pos c3,if_pos (show ((1:Int)==1)=true from rfl)];rfl
 ·subst e;rw [opS_2,if_pos c3,if_neg (show ¬ ((2:Int)==1)=true by decide),if_neg (show ¬ ((2:Int)==3)=true by decide)]
 ·subst e;rw [opS_3,if_pos c3,if_neg (show ¬ ((3:Int)==1)=true by decide),if_pos (show ((3:Int)==3)=true from rfl)];rfl
theorem nxI_op {kind:Int} {key:BitVec 32} {to:Pt} {fr ks:List Pg} {p:Pg} {r:Rt} {P:P23} (hk:kind=1∨kind=2∨kind=3) (hkey:1<=UV key∧UV key<=4294967294) (hto:kind=2->qbt to=true) (c3:¬ decide (r.first=Pt.nil)=true)
  (hem:P.empty=false) (hf:P.need=[]->P.out.code=0->Fnd (qbk key) P):nxC kind key to fr ks P=sr (opS kind key to fr ks p r P):=by
 have hop:∃ f,opS kind key to fr ks p r P=qmw P f∧(P.need=[]->P.out.code=0->nxI kind key to fr P (ixE key 0 P.bucket.es)=sr f):=by
  rcases hk with e|e|e
  ·subst e;refine ⟨_,by rw [opS_1,if_neg c3],fun h1 h2=>?_⟩;unfold nxI;rw [if_pos (show ((1:Int)==1)=true from rfl),sr_fnd];rfl
  ·subst e;refine ⟨_,by rw [opS_2,if_neg c3],fun h1 h2=>?_⟩;unfold nxI adY;rw [if_neg (show ¬ ((2:Int)==1)=true by decide),show ((2:Int)==3)=false from rfl,Bool.false_and,if_neg (show ¬ false=true by decide),if_neg (show ¬ false=true by decide)];by_cases c6:(ixE key 0 P.bucket.es).2=true
   ·rw [if_pos c6,if_pos c6,qwq]
   ·rw [if_neg c6,if_neg c6];exact isp_eq (hf h1 h2) ⟨hkey,hto rfl,rfl⟩ (by simpa using c6)
  ·subst e;refine ⟨_,by rw [opS_3,if_neg c3],fun h1 h2=>?_⟩;unfold nxI remS;rw [if_neg (show ¬ ((3:Int)==1)=true by decide),show ((3:Int)==3)=true from rfl,Bool.true_and];by_cases c6:(!(ixE key 0 P.bucket.es).2)=true
   ·rw [if_pos c6,if_pos c6,qwq]
   ·rw [if_neg c6,if_neg c6,if_pos (show true=true from rfl),qho (hf h1 h2).kind (zbo _ (hf h1 h2).val)];rfl
 obtain ⟨f,e1,e2⟩:=hop;rw [e1,sr_loc];unfold nxC qmw;by_cases c4:decide ((P.need.length:Int)>0)=true
 ·rw [if_pos c4,if_pos c4]
 rw [if_neg c4,if_neg c4];by_cases c5:(P.out.code != 0)=true
 ·rw [if_pos c5,if_pos c5]
 rw [if_neg c5,if_neg c5,hem,if_neg (show ¬ false=true by decide)];have hn:P.need=[]:=by
  match hP:P.need with
  | []=>rfl
  | x::l=>rw [hP] at c4;exact absurd c4 (by simp)
 exact e2 hn (by simpa using c5)
theorem nxC_need {kind:Int} {key:BitVec 32} {to:Pt} {fr ks:List Pg} {P:P23} {l:Int} (h:P.need=[l]):nxC kind key to fr ks P=quz [l]:=by
 unfold nxC;rw [h,if_pos (show decide ((([l]:List Int).length:Int)>0)=true from rfl)]
theorem nxC_code {kind:Int} {key:BitVec 32} {to:Pt} {fr ks:List Pg} {P:P23} (h:P.need=[]) (hc:P.out=oC 14):nxC kind key to fr ks P=qe9 (oC 0) 14:=by
 unfold nxC;rw [h,if_neg (show ¬ decide ((([]:List Int).length:Int)>0)=true by decide),hc,if_pos (show ((oC 14).code != 0)=true from rfl)];rfl
theorem zej {kind:Int} {key:BitVec 32} {to:Pt} {fr ks:List Pg} {P:P23} (h:P.need=[]) (hc:P.out.code=0) (he:P.empty=true):nxC kind key to fr ks P=em23 kind key to fr ks:=by
 unfold nxC;rw [h,if_neg (show ¬ decide ((([]:List Int).length:Int)>0)=true by decide),hc,if_neg (show ¬ ((0:Int) != 0)=true by decide),if_pos he]
theorem zew {h:BitVec 32} {ks:List Pg} {p:Pg} {r:Rt} {nd:List Int} {cd:Int} (hb:(decide ((nd.length:Int)>0)||(cd != 0))=true):lcZ h ks (p,r,nd,cd)=⟨nd,false,⟨0,0#64,0#64,0#64,0#64,0#64,0#64,0#64,0#64⟩,Bk.nil,oC cd⟩:=by
 unfold lcZ;rw [if_pos hb]
theorem nx_S (kind:Int) (key:BitVec 32) (to:Pt) (fr ks:List Pg):nx23 kind key to fr ks=sr (nxS kind key to fr ks):=by
 unfold nx23 nxS;by_cases c0:qx0 kind key to=true
 ·rw [if_pos c0,if_pos c0,qwq]
 rw [if_neg c0,if_neg c0];obtain ⟨hk,hkey,hto⟩:=zf8 c0;by_cases c1:(!qjt ks 96)=true
 ·have hr:qmj ks=(qb9 ks 96,Rt.nil,[96],0):=by unfold qmj;rw [if_pos c1]
  rw [if_pos c1,sr_nd];by_cases k4:(kind==4)=true
  ·rw [if_pos k4];unfold rp23 rpZ;rw [hr,if_pos (show decide ((([96]:List Int).length:Int)>0)=true from rfl)]
  rw [if_neg k4];by_cases k5:(kind==5)=true
  ·rw [if_pos k5];unfold gw23;rw [if_pos c1]
  rw [if_neg k5];refine nxC_need ?_;unfold qq3;rw [hr,zew (show (decide ((([96]:List Int).length:Int)>0)||((0:Int) != 0))=true from rfl)]
 rw [if_neg c1];have hb:qjt ks 96=true:=by simpa using c1
 have hl:=qs0 hb;by_cases k5:(kind==5)=true
 ·have hk5:kind=5:=by simpa using k5
  subst hk5;rw [if_neg (show ¬ ((5:Int)==4)=true by decide),if_pos k5];unfold gw23;rw [if_neg c1,k5,Bool.true_and];by_cases c2:qet (qb9 ks 96)=true
  ·rw [if_pos c2,if_pos c2,qwq]
  rw [if_neg c2,if_neg c2];rcases qrl hl with e0|e0
  ·rw [e0,if_neg (show ¬ ((0:Int) != 0)=true by decide),if_neg (show ¬ ((0:Int) != 0)=true by decide),opS_5];exact gwR_eq (qj0 _)
  ·rw [e0,if_pos (show ((14:Int) != 0)=true from rfl),if_pos (show ((14:Int) != 0)=true from rfl),qwq]
 ·have hk5:kind≠5:=by simpa using k5
  have k5':(kind==5)=false:=by simpa using k5
  rw [k5',Bool.false_and,if_neg (show ¬ false=true by decide),if_neg (show ¬ false=true by decide)];rcases qrl hl with e0|e0
  ·have hr:qmj ks=(qb9 ks 96,(qdu (qb9 ks 96)).1,[],0):=by unfold qmj;rw [if_neg c1,e0,if_neg (show ¬ ((0:Int) != 0)=true by decide)]
   rw [e0,if_neg (show ¬ ((0:Int) != 0)=true by decide)];by_cases k4:(kind==4)=true
   ·have hk4:kind=4:=by simpa using k4
    subst hk4;rw [if_pos k4,opS_4];exact rp_eq hr
   rw [if_neg k4];have hk4:kind≠4:=by simpa using k4
   have hkey':=hkey om;have h123:kind=1∨kind=2∨kind=3:=om;by_cases c3:decide ((qdu (qb9 ks 96)).1.first=Pt.nil)=true
   ·have hlc:qq3 (qbk key) ks=⟨[],true,⟨0,0#64,0#64,0#64,0#64,0#64,0#64,0#64,0#64⟩,Bk.nil,oC 0⟩:=by
     unfold qq3 lcZ;rw [hr];dsimp only;rw [if_neg (show ¬ (decide ((([]:List Int).length:Int)>0)||((0:Int) != 0))=true by decide),if_pos c3]
    rw [zej (by rw [hlc]) (by rw [hlc];rfl) (by rw [hlc])];exact em_op h123 hkey' hto c3
   ·have hlc:qq3 (qbk key) ks=lcA (qbk key) (qdu (qb9 ks 96)).1 ks (iH (qbk key) (qdu (qb9 ks 96)).1.depth):=by
     unfold qq3 lcZ;rw [hr];dsimp only;rw [if_neg (show ¬ (decide ((([]:List Int).length:Int)>0)||((0:Int) != 0))=true by decide),if_neg c3]
    have hf:=(qlx (qbk key) (qdu (qb9 ks 96)).1 ks (iH (qbk key) (qdu (qb9 ks 96)).1.depth)).2;have hem:(lcA (qbk key) (qdu (qb9 ks 96)).1 ks (iH (qbk key) (qdu (qb9 ks 96)).1.depth)).empty=false:=by
     unfold lcA;split <;> rfl
    rw [hlc];exact nxI_op h123 hkey' hto c3 hem hf
  ·have hr:qmj ks=(qb9 ks 96,Rt.nil,[],14):=by unfold qmj;rw [if_neg c1,e0,if_pos (show ((14:Int) != 0)=true from rfl)]
   rw [e0,if_pos (show ((14:Int) != 0)=true from rfl),qwq];by_cases k4:(kind==4)=true
   ·rw [if_pos k4];unfold rp23 rpZ;rw [hr,if_neg (show ¬ decide ((([]:List Int).length:Int)>0)=true by decide),if_pos (show ((14:Int) != 0)=true from rfl)]
   rw [if_neg k4];unfold qq3;rw [hr,zew (show (decide ((([]:List Int).length:Int)>0)||((14:Int) != 0))=true from rfl)];exact nxC_code rfl rfl
end Go.Proofs.YteafmggidjjdgaaGreatDoor
