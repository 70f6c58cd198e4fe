/- Walks of functions and plain laws, laid together. Own work. -/
import Derived.Test.YteafmggidjjdgaaGreatDoorK12
import Derived.Test.YteafmggidjjdgaaGreatDoorK11
namespace Go.Proofs.YteafmggidjjdgaaGreatDoor
open Go.RowKit Tryz
set_option linter.unusedVariables false
set_option linter.unusedSimpArgs false
set_option maxRecDepth 100000
set_option maxHeartbeats 4000000
theorem zet (ks:List Pg) (lines:Int):∀ (l:List Int) (fr w:List Pg),(lpA ks lines l fr w).fresh.length=fr.length+l.length∧(∀ n,WL n w->WL (n+l.length) (lpA ks lines l fr w).writes)∧(lpA ks lines l fr w).over=true∧(lpA ks lines l fr w).code=0∧(lpA ks lines l fr w).need=[]
 | [],fr,w=>⟨rfl,fun n h=>h,rfl,rfl,rfl⟩
 | x::l,fr,w=>by
  have ih:=zet ks lines l (fr++[qb9 ks x]) (wrS ks lines w x);have hw:∀ n,WL n w->WL (n+1) (wrS ks lines w x):=fun n h=>qgw h (wl1 (n:=0) (show Ln (setU _ _) from qfb _ (qsy _))) (Nat.le_refl _);unfold lpA;simp only [List.length_append,List.length_cons,List.length_nil] at ih ⊢;exact ⟨om,fun n h=>(ih.2.1 _ (hw n h)).mono om,ih.2.2⟩
theorem zf2 (ks:List Pg) (cnt:Int) (h0:0<=cnt):∀ (l:List Int) (st st':List Int×List Int),(st.2.length:Int)<=cnt->chR ks cnt l st = .ok st'->(st'.2.length:Int)<=cnt
 | [],st,st',h,e=>by unfold chR at e;cases e;exact h
 | x::l,st,st',h,e=>by
  unfold chR at e;split at e
  ·rename_i hlt;have hlt':=of_decide_eq_true hlt;split at e
   ·cases e
   ·refine zf2 ks cnt h0 l _ st' ?_ e;unfold qjy;split
    ·simp;omega
    ·split
     ·simp;omega
     ·exact h
  ·cases e;exact h
def AlpF (cnt:Int) (r:S19):Prop:=WL 12 r.writes∧(r.over=true->r.code=0->(r.fresh.length:Int)=cnt)∧(r.over=false->r.need≠[])∧(r.over=true->r.need=[])
theorem qka (cnt e:Int) (h:e≠0):AlpF cnt (qh4 e):=⟨wl0,fun _ h0=>absurd h0 h,fun h=>Bool.noConfusion (show true=false from h),fun _=>rfl⟩
theorem qp9 (cnt:Int) {l:List Int} (h:decide ((l.length:Int)>0)=true):AlpF cnt (qst l):=⟨wl0,fun h=>Bool.noConfusion (show false=true from h),fun _ e=>by
 have e':l=[]:=e;subst e';exact absurd h de,fun h=>Bool.noConfusion (show false=true from h)⟩
theorem alpR_ok (ks:List Pg) (o lines cnt:Int):AlpF cnt (alpR ks o lines cnt):=by
 unfold alpR;split
 ·exact qka _ _ de
 ·rename_i h1;have hc:1<=cnt∧cnt<=12:=by unfold clB at h1;simp at h1;omega
  split
  ·rename_i h2;exact qp9 _ h2
  ·split
   ·rename_i h3;exact qka _ _ (by simpa using h3)
   ·split
    ·rename_i h4;exact qp9 _ h4
    ·unfold alpG;split
     ·rename_i e he;refine qka _ _ ?_;obtain ⟨l,_,hl⟩:=List.exists_of_findSome?_eq_some he;unfold hE1 at hl;split at hl
      ·cases hl;decide
      ·split at hl
       ·cases hl;decide
       ·split at hl
        ·cases hl;decide
        ·cases hl
     ·unfold alpF;split
      ·rename_i e he;refine qka _ _ ?_;have key:∀ (l:List Int) (st:List Int×List Int),chR ks cnt l st = .error e->e≠0:=by
        intro l;induction l with
        | nil=>intro st h;unfold chR at h;cases h
        | cons x l ih =>
         intro st h;unfold chR at h;split at h
         ·split at h
          ·rename_i e' he';cases h;unfold chE at he';split at he'
           ·cases he'
           ·split at he'
            ·cases he';decide
            ·split at he'
             ·cases he';decide
             ·cases he'
          ·exact ih _ h
         ·cases h
       exact key _ _ he
      ·rename_i st hst;have hl:=zf2 ks cnt om _ ([],[]) st (by simp;omega) hst;split
       ·exact qka _ _ de
       ·rename_i h5;split
        ·rename_i h6;exact qp9 _ h6
        ·have h:=zet ks lines st.2 [] [];simp at h5;refine ⟨(h.2.1 0 wl0).mono om,fun _ _=>by rw [h.1];simp;omega,fun hq=>(by rw [h.2.2.1] at hq;cases hq),fun _=>h.2.2.2.2⟩
theorem qkl (ks:List Pg) (o lines cnt:Int) (hks:ks.length<=10000):FnP prog 204 [Ii o,Ii lines,Ii cnt,qad tPg ks] (qfc (AlpF cnt) zg1):=fun φ w vs ha hm =>
 (qos ks o lines cnt hks φ w vs ha hm).mono fun e w' ⟨i,v,φ',h1,h2,h3⟩=>⟨i,v,φ',h1,⟨_,alpR_ok ks o lines cnt,h2⟩,h3⟩
theorem qbf (B:Nat) (e:Int):FnP prog 156 [Ii e] (qkh B ⟨[],[],⟨e,Cu.nil,false,[]⟩,true⟩):=by
 refine FnP.enter func156 ntmps156 rfl rfl ?_;intro c hX;refine t3 ?_;intro i2;refine t11 ?_;exact rA (Bs:=[_]) results156 eRF
theorem qgx (B:Nat) (c0:Cu):FnP prog 161 [IsCu c0] (qkh B ⟨[],[],⟨0,c0,false,[]⟩,true⟩):=by
 refine FnP.enter func161 ntmps161 rfl rfl ?_;intro c hX;refine t3 ?_;intro i1;refine s1 ?_;intro i2;refine t11 ?_;exact rA (Bs:=[_]) results161 eRF
theorem qm5 (B0:Nat) (ws:List Pg) (ck:List Int) (nx:Cu) (hc:ck.length<=1000) (hw:ws.length<=1000):FnP prog 162 [qa9 B0 (qad tPg ws),qad qaw ck,IsCu nx] (qfc (fun r:SS26=>r.writes=ws) fun r=>qkh B0 r):=by
 refine FnP.enter func162 ntmps162 rfl rfl ?_;intro c hX;refine t3 ?_;intro i5;refine s1 ?_;intro i6;refine t14 ?_;refine qax [(0,_),(1,_),(5,_),(6,_)] [blk i6 _ _,blk i5 _ _] (fun y:Nat×(List Int)=>y.1<=(ck).length∧(y.2.length<=y.1)) (fun y=>[(7,qad qaw y.2),(8,Ii (y.1:Nat))]) (fun y=>[]) (fun y=>(ck).length-y.1) (0,[]) ?_ qag qab ?_
 ·exact ⟨by exact nZ _,Nat.le_refl 0⟩
 rintro ⟨k,ls⟩ ⟨hk,hI⟩;dsimp only at hk hI ⊢;refine t9 ?_;refine cN ?_ ?_<;>intro h3
 ·have hlt:k<(ck).length:=by have:=of_decide_eq_true h3;omega
  clear h3;obtain ⟨z,hz⟩:∃ q,(ck)[k]?=some q:=⟨_,gE hlt⟩
  refine t16 ?_;refine qax [(0,_),(1,_),(5,_),(6,_),(7,_),(8,_),(11,_),(12,_),(13,_)] [blk i6 _ _,blk i5 _ _] (fun ya:Nat×Bool=>ya.1<=ws.length) (fun ya=>[(9,Ib ya.2),(10,Ii (ya.1:Nat))]) (fun ya=>[]) (fun ya=>ws.length-ya.1) (0,false) (nZ _) qag qab ?_;rintro ⟨ka,wr⟩ hka;dsimp only at hka ⊢;refine t5 ?_;refine qln 18 (qad tPg ws) rfl SubL.fresh ?_;refine t4 ?_;refine cN ?_ ?_<;>intro h7
  ·have hlta:ka<ws.length:=by have:=of_decide_eq_true h7;omega
   clear h7;obtain ⟨za,hza⟩:∃ q,ws[ka]?=some q:=⟨_,gE om⟩
   refine Z38 ?_;refine qaj 14 kr ?_;refine t4 ?_;(refine qch rfl rfl (fun hg=>(by have hg0:=hg;(try simp at hg);exact qak (j:=ka) (Ev.sub rfl (SubL.iteT (by assumption) SubL.fresh)) evG rfl rfl rf hza)) ?_);refine t9 ?_;refine ⟨rfl,?_⟩;refine Z74 ?_;refine qaa (ka+1,_) ?_ ?_ qag qab
   ·omega
   ·omega
  have hkea:ka=ws.length:=by have:=of_decide_eq_false h7;omega
  clear h7;subst hkea;refine t11 ?_;refine cN ?_ ?_<;>intro h10
  ·refine t6 ?_;refine qao rfl (by ((refine qac call169 (qjj _ _ ?_) ⟨qap,⟨qap,trivial⟩⟩);all_goals (omega))) ?_;refine t9 ?_;refine qaa (k+1,_) ?_ ?_ qag qab
   ·exact ⟨om,by exact nT (qhv _ _) om⟩
   ·omega
  refine t8 ?_;refine qaa (k+1,_) ?_ ?_ qag qab
  ·exact ⟨om,by (dsimp only;omega)⟩
  ·omega
 have hke:k=(ck).length:=by have:=of_decide_eq_false h3;omega
 clear h3;subst hke;refine t16 ?_;exact rXF (⟨_,_,(⟨_,(⟨_,_,_⟩:Cu),_,_⟩:SO26),_⟩:SS26) results162 (hp:=by exact rfl)
def PT24 (r:S24):Prop:=WL 30 r.writes∧r.out.check.length<=300
theorem qtz (op:Op24) (cl lines:Int) (ks:List Pg) (hks:ks.length<=9000):FnF prog 200 [qom op,Ii cl,Ii lines,qad tPg ks] (fun B=>qfc PT24 fun r=>qki B r):=by
 refine FnF.enter func200 ntmps200 rfl rfl ?_;intro c hX;refine t3 ?_;intro i4;refine s1 ?_;intro i8;refine t6 ?_;refine Z40 ?_;(refine qbj 13 rfl ?_;intro x13 hx13);refine s1 ?_;intro i9;refine t5 ?_;obtain ⟨hp1,hp2,hp3⟩:=hx13;have hp4:=hp1.1;refine t12 ?_;refine cN ?_ ?_<;>intro h2
 ·refine t8 ?_;exact rXF (⟨_,_,(⟨_,_,_,_,_,_,_,(⟨_,_⟩:Pt),_,_,_,_,_⟩:O24),_⟩:S24) results200 (hp:=by exact ⟨hp1.mono de,hp3⟩)
 refine t10 ?_;refine qao rfl (by ((refine qac call204 (qkl _ _ _ _ ?_) ⟨qap,⟨qap,⟨qap,⟨qap,trivial⟩⟩⟩⟩);all_goals (omega))) ?_;(refine qbj 30 rfl ?_;intro x30 hx30);refine s1 ?_;intro i10;refine t5 ?_;obtain ⟨ha1,ha2,ha3,ha4⟩:=hx30;have ha5:=ha1.1;refine t6 ?_;refine cN ?_ ?_<;>intro h5
 ·refine t10 ?_;exact rXF (⟨_,_,(⟨_,_,_,_,_,_,_,(⟨_,_⟩:Pt),_,_,_,_,_⟩:O24),_⟩:S24) results200 (hp:=by exact ⟨wl0,nZ _⟩)
 refine t10 ?_;refine cN ?_ ?_<;>intro h7
 ·refine t11 ?_;exact rXF (⟨_,_,(⟨_,_,_,_,_,_,_,(⟨_,_⟩:Pt),_,_,_,_,_⟩:O24),_⟩:S24) results200 (hp:=by exact ⟨wl0,nZ _⟩)
 refine t11 ?_;refine Z5 ?_;refine qaj 6 kr ?_;refine t4 ?_;refine qbc (by ((refine qau call88 (qb8 _ _ ?_) ⟨qap,⟨qap,trivial⟩⟩);all_goals (omega))) ?_;refine qbc (qau call201 (qne (⟨_,_,_,(⟨_,_⟩:Pt),_,_,_⟩:Op24) _) ⟨qbg,⟨qbg,trivial⟩⟩) ?_;refine ⟨rfl,?_⟩;(refine qol 52 rfl ?_;intro x52 hx52);refine Z3 ?_;refine t3 ?_;obtain ⟨hq1,hq2,hq3⟩:=hx52;have hq4:=hq1.1;refine t11 ?_;refine cN ?_ ?_<;>intro h11
 ·refine t5 ?_;refine qao rfl (by ((refine qau call88 (qb8 _ _ ?_) ⟨qap,⟨qap,trivial⟩⟩);all_goals (omega))) ?_;refine t11 ?_;exact rXF (⟨_,_,(⟨_,_,_,_,_,_,_,(⟨_,_⟩:Pt),_,_,_,_,_⟩:O24),_⟩:S24) results200 (hp:=by exact ⟨by exact qgw ha1 hq1 de,hq3⟩)
 refine t9 ?_;exact rXF (⟨_,_,(⟨_,_,_,_,_,_,_,(⟨_,_⟩:Pt),_,_,_,_,_⟩:O24),_⟩:S24) results200 (hp:=by exact ⟨by exact hq1.mono de,hq3⟩)
def PSS (r:SS26):Prop:=WL 100 r.writes
theorem qjb {r:SS26} {ws:List Pg} (h:r.writes=ws) (hl:WL 100 ws):PSS r:=by unfold PSS;rw [h];exact hl
theorem qt2 (cu:Cu) (cl lines:Int) (ks:List Pg) (hks:ks.length<=5000) (hlv:0<=cu.level):FnF prog 157 [IsCu cu,Ii cl,Ii lines,qad tPg ks] (fun B=>qfc PSS fun r=>qkh B r):=by
 refine FnF.enter func157 ntmps157 rfl rfl ?_;intro c hX;refine t3 ?_;intro i4;refine s1 ?_;intro i8;refine t9 ?_;refine qao rfl (by ((refine qac call199 (qi5 _ _ _ ?_) ⟨qap,⟨qap,⟨qap,trivial⟩⟩⟩);all_goals (omega))) ?_;(refine qbj 20 rfl ?_;intro x20 hx20);refine s1 ?_;intro i9;refine t5 ?_;obtain ⟨hd1,hd2,hd3⟩:=hx20;refine t7 ?_;refine cN ?_ ?_<;>intro h2
 ·refine t10 ?_;exact rXF (⟨_,_,(⟨_,(⟨_,_,_⟩:Cu),_,_⟩:SO26),_⟩:SS26) results157 (hp:=by exact wl0) (hD0:=hX.2)
 refine t13 ?_;refine cN ?_ ?_<;>intro h4
 ·refine t3 ?_;refine kXF call161 (qgx c.w.heap.size (⟨_,_,_⟩:Cu)) ?_;refine t5 ?_;exact rXF (⟨_,_,(⟨_,(⟨_,_,_⟩:Cu),_,_⟩:SO26),_⟩:SS26) results157 (hp:=by exact wl0) (hD0:=hX.2)
 refine t10 ?_;refine cN ?_ ?_<;>intro h6
 ·refine t4 ?_;refine kRF call156 (qbf c.w.heap.size _) ?_;refine t5 ?_;exact rXF (⟨_,_,(⟨_,(⟨_,_,_⟩:Cu),_,_⟩:SO26),_⟩:SS26) results157 (hp:=by exact wl0) (hD0:=hX.2)
 refine t17 ?_;(refine qcg rfl rfl rfl (fun hg=>(by have hg0:=hg;(try simp at hg);exact qh7 evG evG)) ?_);refine t3 ?_;refine qbw [(1,_),(2,_),(3,_),(4,_),(8,_),(9,_)] [blk i9 _ _,blk i8 _ _,blk i4 _ _] (fun z:Unit=>True) (fun z=>[]) (fun z=>[]) qag qab ?_ ?_
 rotate_left
 focus
  refine cN ?_ ?_<;>intro h8
  ·refine t6 ?_;refine qao rfl (by ((refine qau call200 (qtz (⟨_,_,_,(⟨_,_⟩:Pt),_,_,_⟩:Op24) _ _ _ ?_) ⟨qbg,⟨qbg,⟨qbg,⟨qbg,trivial⟩⟩⟩⟩);all_goals (omega))) ?_;(refine qbj 60 rfl ?_;intro x60 hx60);refine s1 ?_;intro i10;refine t5 ?_;obtain ⟨hp1,hp2⟩:=hx60;have hp1l:=hp1.1;refine t6 ?_;refine cN ?_ ?_<;>intro h10
   ·refine t11 ?_;exact rXF (⟨_,_,(⟨_,(⟨_,_,_⟩:Cu),_,_⟩:SO26),_⟩:SS26) results157 (hp:=by exact wl0) (hD0:=hX.2)
   refine t11 ?_;refine cN ?_ ?_<;>intro h12
   ·refine t5 ?_;refine kRF call156 (qbf c.w.heap.size _) ?_;refine t6 ?_;exact rXF (⟨_,_,(⟨_,(⟨_,_,_⟩:Cu),_,_⟩:SO26),_⟩:SS26) results157 (hp:=by exact wl0) (hD0:=hX.2)
   refine t9 ?_;refine cN ?_ ?_<;>intro h14
   ·refine t8 ?_;refine qao rfl (by ((refine qac call162 (qm5 c.w.heap.size _ _ (⟨_,_,_⟩:Cu) ?_ ?_) ⟨qbg,⟨qbg,⟨qbg,trivial⟩⟩⟩);all_goals (first|first|omega|(simp;done)|(simp;omega)|first|omega|(simp;done)|(simp;omega)|(refine nT (qae _ _) ?_;omega)|(refine nT (qae _ _) (nT (Nat.add_le_add_right (qae _ _) _) ?_);omega)))) ?_;(refine qbj 84 rfl ?_;intro x84 hx84);refine t5 ?_;exact rXF (⟨_,_,(⟨_,(⟨_,_,_⟩:Cu),_,_⟩:SO26),_⟩:SS26) results157 (hp:=by exact qjb hx84 (hp1.mono de)) (hD0:=hX.2)
   exact Z91
  exact Z91
 rintro ⟨⟩ _;refine t12 ?_;refine qbw [(1,_),(3,_),(4,_),(8,_),(9,_)] [blk i9 _ _,blk i8 _ _,blk i4 _ _] (fun z:Unit=>True) (fun z=>[]) (fun z=>[]) qag qab ?_ ?_
 rotate_left
 focus
  refine cN ?_ ?_<;>intro h16
  ·refine t10 ?_;refine qao rfl (by ((refine qau call200 (qtz (⟨_,_,_,(⟨_,_⟩:Pt),_,_,_⟩:Op24) _ _ _ ?_) ⟨qbg,⟨qbg,⟨qbg,⟨qbg,trivial⟩⟩⟩⟩);all_goals (omega))) ?_;(refine qbj 100 rfl ?_;intro x100 hx100);refine s1 ?_;intro i11;refine t5 ?_;obtain ⟨hp3,hp4⟩:=hx100;have hp3l:=hp3.1;refine t6 ?_;refine cN ?_ ?_<;>intro h18
   ·refine t11 ?_;exact rXF (⟨_,_,(⟨_,(⟨_,_,_⟩:Cu),_,_⟩:SO26),_⟩:SS26) results157 (hp:=by exact wl0) (hD0:=hX.2)
   refine t11 ?_;refine cN ?_ ?_<;>intro h20
   ·refine t5 ?_;refine kRF call156 (qbf c.w.heap.size _) ?_;refine t6 ?_;exact rXF (⟨_,_,(⟨_,(⟨_,_,_⟩:Cu),_,_⟩:SO26),_⟩:SS26) results157 (hp:=by exact wl0) (hD0:=hX.2)
   refine t9 ?_;refine cN ?_ ?_<;>intro h22
   ·refine t8 ?_;refine qao rfl (by ((refine qac call162 (qm5 c.w.heap.size _ _ (⟨_,_,_⟩:Cu) ?_ ?_) ⟨qbg,⟨qbg,⟨qbg,trivial⟩⟩⟩);all_goals (first|first|omega|(simp;done)|(simp;omega)|first|omega|(simp;done)|(simp;omega)|(refine nT (qae _ _) ?_;omega)|(refine nT (qae _ _) (nT (Nat.add_le_add_right (qae _ _) _) ?_);omega)))) ?_;(refine qbj 124 rfl ?_;intro x124 hx124);refine t5 ?_;exact rXF (⟨_,_,(⟨_,(⟨_,_,_⟩:Cu),_,_⟩:SO26),_⟩:SS26) results157 (hp:=by exact qjb hx124 (hp3.mono de)) (hD0:=hX.2)
   exact Z91
  exact Z91
 rintro ⟨⟩ _;refine t13 ?_;refine qbw [(4,_),(8,_),(9,_)] [blk i9 _ _,blk i8 _ _,blk i4 _ _] (fun z:Unit=>True) (fun z=>[]) (fun z=>[]) qag qab ?_ ?_
 rotate_left
 focus
  refine cN ?_ ?_<;>intro h24
  ·refine t6 ?_;refine Z40 ?_;(refine qbj 137 rfl ?_;intro x137 hx137);refine s1 ?_;intro i12;refine t5 ?_;obtain ⟨hu1,hu2,hu3⟩:=hx137;have hu1l:=hu1.1;refine t6 ?_;refine cN ?_ ?_<;>intro h26
   ·refine t11 ?_;exact rXF (⟨_,_,(⟨_,(⟨_,_,_⟩:Cu),_,_⟩:SO26),_⟩:SS26) results157 (hp:=by exact wl0) (hD0:=hX.2)
   refine t17 ?_;refine cN ?_ ?_<;>intro h28
   ·refine t5 ?_;refine kRF call156 (qbf c.w.heap.size _) ?_;refine t6 ?_;exact rXF (⟨_,_,(⟨_,(⟨_,_,_⟩:Cu),_,_⟩:SO26),_⟩:SS26) results157 (hp:=by exact wl0) (hD0:=hX.2)
   refine t10 ?_;refine cN ?_ ?_<;>intro h30
   ·refine t8 ?_;refine qao rfl (by ((refine qac call162 (qm5 c.w.heap.size _ _ (⟨_,_,_⟩:Cu) ?_ ?_) ⟨qbg,⟨qbg,⟨qbg,trivial⟩⟩⟩);all_goals (first|first|omega|(simp;done)|(simp;omega)|first|omega|(simp;done)|(simp;omega)|(refine nT (qae _ _) ?_;omega)|(refine nT (qae _ _) (nT (Nat.add_le_add_right (qae _ _) _) ?_);omega)))) ?_;(refine qbj 167 rfl ?_;intro x167 hx167);refine t6 ?_;exact rXF (⟨_,_,(⟨_,(⟨_,_,_⟩:Cu),_,_⟩:SO26),_⟩:SS26) results157 (hp:=by exact qjb hx167 (hu1.mono de)) (hD0:=hX.2)
   refine t8 ?_;refine qao rfl (qau call201 (zbu _ _) ⟨qbg,⟨qbg,trivial⟩⟩) ?_;(refine qbj 172 rfl ?_;intro x172 hx172);refine s1 ?_;intro i13;refine t5 ?_;obtain ⟨hv1,hv2,hv3⟩:=hx172;have hv1l:=hv1.1;refine t6 ?_;refine cN ?_ ?_<;>intro h33
   ·refine t11 ?_;exact rXF (⟨_,_,(⟨_,(⟨_,_,_⟩:Cu),_,_⟩:SO26),_⟩:SS26) results157 (hp:=by exact wl0) (hD0:=hX.2)
   refine t11 ?_;refine cN ?_ ?_<;>intro h35
   ·refine t5 ?_;refine kRF call156 (qbf c.w.heap.size _) ?_;refine t6 ?_;exact rXF (⟨_,_,(⟨_,(⟨_,_,_⟩:Cu),_,_⟩:SO26),_⟩:SS26) results157 (hp:=by exact wl0) (hD0:=hX.2)
   refine t9 ?_;refine cN ?_ ?_<;>intro h37
   ·refine Z96 ?_;refine t2 ?_;refine qao rfl (by ((refine qau call101 (qfx (⟨_,_,_,_,_,_⟩:Ep26) _ ?_ ?_) ⟨qbg,⟨qbg,trivial⟩⟩);all_goals (first|omega|(simp;done)|(simp;omega)))) ?_;(refine qbj 197 rfl ?_;intro x197 hx197);refine s1 ?_;intro i14;refine t5 ?_;obtain ⟨⟨he1,he2,he3⟩,he4⟩:=hx197;have he1l:=he1.1;refine t6 ?_;refine cN ?_ ?_<;>intro h39
    ·refine t11 ?_;exact rXF (⟨_,_,(⟨_,(⟨_,_,_⟩:Cu),_,_⟩:SO26),_⟩:SS26) results157 (hp:=by exact wl0) (hD0:=hX.2)
    refine t11 ?_;refine cN ?_ ?_<;>intro h41
    ·refine t5 ?_;refine kRF call156 (qbf c.w.heap.size _) ?_;refine t6 ?_;exact rXF (⟨_,_,(⟨_,(⟨_,_,_⟩:Cu),_,_⟩:SO26),_⟩:SS26) results157 (hp:=by exact wl0) (hD0:=hX.2)
    refine Z32 ?_;refine qaj 14 kr ?_;refine t4 ?_;refine qbc (by ((refine qau call88 (qb8 _ _ ?_) ⟨qap,⟨qap,trivial⟩⟩);all_goals (first|first|omega|(simp;omega)|(simp;done)))) ?_;refine t6 ?_;refine qbc (quv (T:=qaw) [x172.2] (Ev.sub rfl (SubL.iteT h37 SubL.rfl')) zc3 rfl rfl (er rfl) (by exact qfz rfl rfl rfl) (by simp;omega)) ?_;refine s1 ?_;refine qbc (by ((refine qac call162 (qm5 c.w.heap.size _ _ (⟨_,_,_⟩:Cu) ?_ ?_) ⟨qbg,⟨qbg,⟨qbg,trivial⟩⟩⟩);all_goals (first|first|omega|(simp;done)|(simp;omega)|first|omega|(simp;done)|(simp;omega)|(refine nT (qae _ _) ?_;omega)|(refine nT (qae _ _) (nT (Nat.add_le_add_right (qae _ _) _) ?_);omega)))) ?_;refine ⟨rfl,?_⟩;(refine qol 225 rfl ?_;intro x225 hx225);refine Z3 ?_;refine t3 ?_;exact rXF (⟨_,_,(⟨_,(⟨_,_,_⟩:Cu),_,_⟩:SO26),_⟩:SS26) results157 (hp:=by exact qjb hx225 (qgw hv1 he1 de)) (hD0:=hX.2)
   exact Z91
  exact Z91
 rintro ⟨⟩ _;have hDs:=hX.2;refine t9 ?_;refine cN ?_ ?_<;>intro h44
 ·refine t9 ?_;refine kXF call161 (qgx c.w.heap.size (⟨_,_,_⟩:Cu)) ?_;refine t5 ?_;exact rXF (⟨_,_,(⟨_,(⟨_,_,_⟩:Cu),_,_⟩:SO26),_⟩:SS26) results157 (hp:=by exact wl0) (hD0:=hX.2)
 refine t10 ?_;refine cN ?_ ?_<;>intro h46
 ·refine t3 ?_;refine kXF call161 (qgx c.w.heap.size (⟨_,_,_⟩:Cu)) ?_;refine t5 ?_;exact rXF (⟨_,_,(⟨_,(⟨_,_,_⟩:Cu),_,_⟩:SO26),_⟩:SS26) results157 (hp:=by exact wl0) (hD0:=hX.2)
 refine t8 ?_;refine kXF call161 (qgx c.w.heap.size (⟨_,_,_⟩:Cu)) ?_;refine t4 ?_;exact rXF (⟨_,_,(⟨_,(⟨_,_,_⟩:Cu),_,_⟩:SO26),_⟩:SS26) results157 (hp:=by exact wl0) (hD0:=hX.2)
theorem qsf (cu:Cu) (cl:Int) (ks:List Pg) (hks:ks.length<=5000):FnF prog 158 [IsCu cu,Ii cl,qad tPg ks] (fun B=>qfc PSS fun r=>qkh B r):=by
 refine FnF.enter func158 ntmps158 rfl rfl ?_;intro c hX;refine t3 ?_;intro i3;refine s1 ?_;intro i6;refine t8 ?_;refine Z40 ?_;(refine qbj 29 rfl ?_;intro x29 hx29);refine s1 ?_;intro i7;refine t11 ?_;refine cN ?_ ?_<;>intro h2
 ·refine t10 ?_;exact Z7
 refine t11 ?_;refine cN ?_ ?_<;>intro h4
 ·refine t5 ?_;refine kRF call156 (qbf c.w.heap.size _) ?_;refine t5 ?_;exact Z7
 refine t12 ?_;refine cN ?_ ?_<;>intro h6
 ·refine t3 ?_;refine kXF call161 (qgx c.w.heap.size (⟨_,_,_⟩:Cu)) ?_;refine t5 ?_;exact Z7
 obtain ⟨z0,hz⟩:∃ q,x29.out.entries[0]?=some q:=⟨_,gE (by
  rcases Nat.eq_zero_or_pos x29.out.entries.length with h|h
  ·rw [h] at h6;exact absurd h6 de
  ·exact h)⟩
 refine Z32 ?_;refine qaj 15 kr ?_;refine t3 ?_;refine qbc (by exact qak (j:=0) (er rfl) (er rfl) rfl rfl rf hz) ?_;refine t5 ?_;refine qbc (by exact qak (j:=0) (er rfl) (er rfl) rfl rfl rf hz) ?_;refine t2 ?_;refine zbw (qcc rfl qbx rfl) ?_;refine s1 ?_;refine qjk rfl rfl rfl kr (qhg qap qas rfl rfl rfl qbx) ?_;refine ⟨rfl,?_⟩;intro i9;refine Z74 ?_;intro i10;refine t10 ?_;refine qbw [(1,_),(2,_),(6,_),(8,_),(9,_),(10,_)] [blk i9 _ _,blk i6 _ _] (fun yc:Cu=>True) (fun yc=>[]) (fun yc=>[blk i10 39 (tCu.cells yc)]) qag qab ?_ ?_
 rotate_left
 focus
  refine cN ?_ ?_<;>intro h10
  ·refine t4 ?_;refine qan (b:=i10) (As':=tCu.cells (⟨_,_,_⟩:Cu)) qaf qbo ?_;exact qal (⟨_,_,_⟩:Cu) (trivial) qag qab
  refine s1 ?_;refine qan (b:=i10) (As':=tCu.cells (⟨_,_,_⟩:Cu)) qaf qbo ?_;exact qal (⟨_,_,_⟩:Cu) (trivial) qag qab
 rintro nx _;refine t4 ?_;refine Z59 ?_;intro i11;refine t12 ?_;refine cN ?_ ?_<;>intro h13
 ·refine t3 ?_;refine kRF call156 (qbf c.w.heap.size _) ?_;refine t5 ?_;exact Z7
 refine t9 ?_;refine cN ?_ ?_<;>intro h15
 ·refine t4 ?_;refine Z1 ?_;refine t6 ?_;exact Z7
 refine t5 ?_;refine kRF call202 (qin _) ?_;(refine qh0 88 rfl ?_;intro x88);refine t4 ?_;intro i14;refine t11 ?_;refine cN ?_ ?_<;>intro h18
 ·refine t2 ?_;refine kRF call156 (qbf c.w.heap.size _) ?_;refine t5 ?_;exact Z7
 refine t5 ?_;refine Z27 ?_;intro i16;refine t11 ?_;refine cN ?_ ?_<;>intro h21
 ·refine t2 ?_;refine Z1 ?_;refine t6 ?_;exact Z7
 refine t6 ?_;refine Z43 ?_;refine cN ?_ ?_<;>intro h23
 ·refine t2 ?_;refine kRF call156 (qbf c.w.heap.size _) ?_;refine t5 ?_;exact Z7
 refine t5 ?_;refine kRF call165 (qjh _) ?_;(refine qh0 108 rfl ?_;intro x108);refine t14 ?_;refine cN ?_ ?_<;>intro h26
 ·refine t2 ?_;refine kRF call156 (qbf c.w.heap.size _) ?_;refine t5 ?_;exact Z7
 refine t12 ?_;(refine qcg rfl rfl rfl (fun hg=>(by have hg0:=hg;(try simp at hg);exact qac call203 (zam _ _) ⟨qap,⟨qap,trivial⟩⟩)) ?_);refine t4 ?_;refine cN ?_ ?_<;>intro h28
 ·refine t3 ?_;refine kXF call161 (qgx c.w.heap.size (⟨_,_,_⟩:Cu)) ?_;refine t5 ?_;exact Z7
 refine t7 ?_;refine Z40 ?_;(refine qbj 129 rfl ?_;intro x129 hx129);refine s1 ?_;intro i20;refine t5 ?_;obtain ⟨ht1,ht2,ht3⟩:=hx129;have ht1l:=ht1.1;refine t6 ?_;refine cN ?_ ?_<;>intro h31
 ·refine t10 ?_;exact Z7
 refine t19 ?_;(refine zgs rfl rfl rfl (fun hp hg=>(by have hpg:=Bool.and_eq_true_iff.2 ⟨hp,hg⟩;have hg0:=hg;(try simp at hg);exact qh7 evG evG)) ?_);refine t4 ?_;refine cN ?_ ?_<;>intro h33
 ·refine t2 ?_;refine kRF call156 (qbf c.w.heap.size _) ?_;refine t5 ?_;exact Z7
 refine t11 ?_;refine cN ?_ ?_<;>intro h35
 ·refine t5 ?_;refine kRF call156 (qbf c.w.heap.size _) ?_;refine t5 ?_;exact Z7
 refine t7 ?_;refine qao rfl (by ((refine qau call88 (qb8 _ _ ?_) ⟨qap,⟨qap,trivial⟩⟩);all_goals (omega))) ?_;refine t4 ?_;have hv:=qae ks x129.writes;refine qbl 21 (qad tPg (qck ks x129.writes)) rfl SubL.fresh ?_;generalize qck ks x129.writes=vw at hv ⊢;refine t4 ?_;refine Z48 ?_;(refine qbj 169 rfl ?_;intro x169 hx169);refine s1 ?_;intro i22;refine t5 ?_;obtain ⟨hy1,hy2,hy3⟩:=hx169;have hy1l:=hy1.1;refine t6 ?_;refine cN ?_ ?_<;>intro h39
 ·refine t10 ?_;exact Z7
 refine t19 ?_;(refine zgs rfl rfl rfl (fun hp hg=>(by have hpg:=Bool.and_eq_true_iff.2 ⟨hp,hg⟩;have hg0:=hg;(try simp at hg);exact qh7 evG evG)) ?_);refine t4 ?_;refine cN ?_ ?_<;>intro h41
 ·refine t2 ?_;refine kRF call156 (qbf c.w.heap.size _) ?_;refine t5 ?_;exact Z7
 refine t11 ?_;refine cN ?_ ?_<;>intro h43
 ·refine t5 ?_;refine kRF call156 (qbf c.w.heap.size _) ?_;refine t5 ?_;exact Z7
 refine t3 ?_;refine Z61 ?_;refine qes 2 rfl kr (OpP.to (qa1 (size:=2) (qs:=[(0,_)]) rfl rfl rfl ⟨⟨rfl,_,(er rfl),qas⟩,trivial⟩ rf rf) (SubL.row1 (T:=tPt) (x:=(⟨_,_⟩:Pt)) rf rf rf qav)) ?_;refine qes 3 rfl kr (qix (qs:=[(0,_),(1,_),(5,_)]) rfl rfl rfl rfl ⟨⟨rfl,_,(er rfl),qas⟩,⟨⟨rfl,_,(er rfl),qas⟩,⟨⟨rfl,_,(er rfl),qas⟩,trivial⟩⟩⟩ rf qbx) ?_;refine f1 4 ?_;refine f1 5 ?_;refine f1 6 ?_;refine qes 7 rfl kr (by ((refine qau call88 (qb8 _ _ ?_) ⟨qap,⟨qap,trivial⟩⟩);all_goals (omega))) ?_;refine qnh 9 rfl kr (fun _=>(qcc rfl qbx rfl)) ?_;(refine zb8 8 [0,1,2,3,4,5,6,7,8] rfl kr (by ((refine qau call101 (qfx (⟨_,_,_,_,_,_⟩:Ep26) _ ?_ ?_) ⟨qbg,⟨qbg,trivial⟩⟩);all_goals (first|exact nT (qae _ _) om|simp;done))) ?_;intro x210 hx210);(refine qe4 23 9 kr rfl rfl ?_;intro i23);refine qdw 10 [0,1,2,3,4,5,6,7,8,9,10] rfl kr (fun c'=>by exact qat (er rfl) (er rfl) qas qaf rf rf rf) ?_;refine Z36 ?_;show JQ _ _ _ _ _ _;refine t3 ?_;obtain ⟨⟨he1,he2,he3⟩,he4⟩:=hx210;have he1l:=he1.1;refine t6 ?_;refine cN ?_ ?_<;>intro h46
 ·refine t10 ?_;exact Z7
 refine t11 ?_;refine cN ?_ ?_<;>intro h48
 ·refine t5 ?_;refine kRF call156 (qbf c.w.heap.size _) ?_;refine t5 ?_;exact Z7
 refine Z32 ?_;refine qaj 9 kr ?_;refine t4 ?_;refine qbc (by ((refine qau call88 (qb8 _ _ ?_) ⟨qap,⟨qap,trivial⟩⟩);all_goals (omega))) ?_;refine t2 ?_;refine qbc (by ((refine qau call88 (qb8 _ _ ?_) ⟨qap,⟨qap,trivial⟩⟩);all_goals (exact nT (Nat.add_le_add_right (qae _ _) _) om))) ?_;refine s1 ?_;refine ⟨rfl,?_⟩;refine qda ?_;refine t6 ?_;refine Z26 ?_;refine s1 ?_;refine qao rfl (by ((refine qac call162 (qm5 c.w.heap.size _ _ (⟨_,_,_⟩:Cu) ?_ ?_) ⟨qbg,⟨qbg,⟨qbg,trivial⟩⟩⟩);all_goals (first|(simp;done)|(refine nT (qae _ _) (nT (Nat.add_le_add_right (qae _ _) _) ?_);omega)))) ?_;(refine qbj 238 rfl ?_;intro x238 hx238);refine t4 ?_;exact rXF (⟨_,_,(⟨_,(⟨_,_,_⟩:Cu),_,_⟩:SO26),_⟩:SS26) results158 (hp:=by exact qjb hx238 (qgw (qgw ht1 hy1 (Nat.le_refl _)) he1 de))
theorem qnl (cu:Cu) (cl lines:Int) (ks:List Pg) (hks:ks.length<=5000):FnF prog 159 [IsCu cu,Ii cl,Ii lines,qad tPg ks] (fun B=>qfc PSS fun r=>qkh B r):=by
 refine FnF.enter func159 ntmps159 rfl rfl ?_;intro c hX;refine t3 ?_;intro i4;refine s1 ?_;intro i8;refine t5 ?_;refine Z27 ?_;intro i9;refine t11 ?_;refine cN ?_ ?_<;>intro h2
 ·refine t2 ?_;refine Z1 ?_;refine t6 ?_;exact Z12
 refine t5 ?_;refine kRF call86 (qv4 _) ?_;(refine qbj 30 rfl ?_;intro x30 hx30);refine t4 ?_;intro i11;refine t6 ?_;obtain ⟨hd0,hd5⟩:=hx30;refine t5 ?_;refine cN ?_ ?_<;>intro h5
 ·refine t2 ?_;refine kRF call156 (qbf c.w.heap.size _) ?_;refine t5 ?_;exact Z12
 refine t8 ?_;refine Z54 ?_;refine t7 ?_;(refine qcg rfl rfl rfl (fun hg=>(by have hg0:=hg;(try simp at hg);exact qeg (k:=x30.1.depth.toNat) qjv evG om qdh)) ?_);refine t4 ?_;refine cN ?_ ?_<;>intro h7
 ·refine t3 ?_;refine kXF call161 (qgx c.w.heap.size (⟨_,_,_⟩:Cu)) ?_;refine t5 ?_;exact Z12
 refine t7 ?_;refine kRF call34 (qya _ _) ?_;(refine qbj 55 rfl ?_;intro x55 hx55);refine s1 ?_;intro i13;refine t5 ?_;obtain ⟨hl1,hl2,hl3⟩:=hx55;refine t7 ?_;refine cN ?_ ?_<;>intro h10
 ·refine t10 ?_;exact Z12
 refine t11 ?_;refine cN ?_ ?_<;>intro h12
 ·refine t5 ?_;refine kRF call156 (qbf c.w.heap.size _) ?_;refine t5 ?_;exact Z12
 refine t10 ?_;refine cN ?_ ?_<;>intro h14
 ·refine t4 ?_;refine Z48 ?_;(refine qbj 76 rfl ?_;intro x76 hx76);refine s1 ?_;intro i14;refine t4 ?_;have hx14:qx8 x76:=hx76;refine t17 ?_;refine qbw [(3,_),(4,_),(8,_),(14,_)] [blk i8 _ _,blk i4 _ _] (fun yc:S23×(List Pg)=>qx8 yc.1∧WL 12 yc.2) (fun yc=>[(15,qad tPg yc.2)]) (fun yc=>[blk i14 61 ((qqu c.w.heap.size).cells yc.1)]) qag qab ?_ ?_
  rotate_left
  focus
   refine cN ?_ ?_<;>intro h17
   ·refine t8 ?_;refine qao rfl (by ((refine qac call204 (qkl _ _ _ _ ?_) ⟨qap,⟨qap,⟨qap,⟨qap,trivial⟩⟩⟩⟩);all_goals (first|omega|(simp;done)|(simp;omega)|(refine nT (qae _ _) ?_;omega)|(refine nT (qae _ _) (nT (Nat.add_le_add_right (qae _ _) _) ?_);omega)))) ?_;(refine qbj 91 rfl ?_;intro x91 hx91);refine s1 ?_;intro i16;refine t5 ?_;obtain ⟨ha1,ha2,ha3,ha4⟩:=hx91;have ha1l:=ha1.1;refine t6 ?_;refine cN ?_ ?_<;>intro h19
    ·refine t12 ?_;exact Z12
    refine t10 ?_;refine cN ?_ ?_<;>intro h21
    ·refine t4 ?_;refine kRF call156 (qbf c.w.heap.size _) ?_;refine t7 ?_;exact Z12
    refine t9 ?_;refine Z101 ?_;refine t6 ?_;refine qbc (by ((refine qau call88 (qb8 _ _ ?_) ⟨qap,⟨qap,trivial⟩⟩);all_goals (first|omega|(simp;done)|(simp;omega)|(refine nT (qae _ _) ?_;omega)|(refine nT (qae _ _) (nT (Nat.add_le_add_right (qae _ _) _) ?_);omega)))) ?_;refine qbc (qau call11 (qnf _ _ (⟨_,_⟩:Pt) _ _) ⟨qbg,⟨qbg,⟨qbg,⟨qbg,⟨qbg,trivial⟩⟩⟩⟩⟩) ?_;refine ⟨rfl,?_⟩;(refine qol 113 rfl ?_;intro x113 hx113);refine Z3 ?_;refine qan (b:=i14) (As':=(qqu c.w.heap.size).cells (⟨_,_,(⟨_,_,_,_,_,_,(⟨_,_⟩:Pt),_,_,_⟩:O23),_⟩:S23)) qaf qbo ?_;refine qal ((⟨_,_,(⟨_,_,_,_,_,_,(⟨_,_⟩:Pt),_,_,_⟩:O23),_⟩:S23),_) ?_ qag qab
    ·exact (by exact ⟨hx113,ha1⟩)
   refine s1 ?_;refine qan (b:=i14) (As':=(qqu c.w.heap.size).cells (⟨_,_,(⟨_,_,_,_,_,_,(⟨_,_⟩:Pt),_,_,_⟩:O23),_⟩:S23)) qaf qbo ?_;refine qal ((⟨_,_,(⟨_,_,_,_,_,_,(⟨_,_⟩:Pt),_,_,_⟩:O23),_⟩:S23),_) ?_ qag qab
   ·exact (by exact ⟨hx14,wl0⟩)
  rintro ⟨s,ws⟩ hI;dsimp only at hI ⊢;obtain ⟨⟨hs1,hs2,hs3⟩,hw⟩:=hI;have hs1l:=hs1.1;have hwl:=hw.1;refine t8 ?_;refine cN ?_ ?_<;>intro h25
  ·refine t11 ?_;exact Z12
  refine t11 ?_;refine cN ?_ ?_<;>intro h27
  ·refine t5 ?_;refine kRF call156 (qbf c.w.heap.size _) ?_;refine t6 ?_;exact Z12
  refine Z32 ?_;refine qaj 9 kr ?_;refine t3 ?_;refine qbc (by ((refine qau call88 (qb8 _ _ ?_) ⟨qap,⟨qap,trivial⟩⟩);all_goals (first|omega|(simp;done)|(simp;omega)|(refine nT (qae _ _) ?_;omega)|(refine nT (qae _ _) (nT (Nat.add_le_add_right (qae _ _) _) ?_);omega)))) ?_;refine t4 ?_;refine qbc (by ((refine qac call162 (qm5 c.w.heap.size _ _ (⟨_,_,_⟩:Cu) ?_ ?_) ⟨qbg,⟨qbg,⟨qbg,trivial⟩⟩⟩);all_goals (first|omega|(simp;done)|(simp;omega)|(refine nT (qae _ _) ?_;omega)|(refine nT (qae _ _) (nT (Nat.add_le_add_right (qae _ _) _) ?_);omega)))) ?_;refine ⟨rfl,?_⟩;(refine qol 136 rfl ?_;intro x136 hx136);refine Z3 ?_;refine t3 ?_;exact rXF (⟨_,_,(⟨_,(⟨_,_,_⟩:Cu),_,_⟩:SO26),_⟩:SS26) results159 (hp:=by exact qjb hx136 (qgw hw hs1 de))
 refine t9 ?_;intro i17;refine t9 ?_;refine Z48 ?_;(refine qbj 145 rfl ?_;intro x145 hx145);refine s1 ?_;intro i18;refine t5 ?_;obtain ⟨hg1,hg2,hg3⟩:=hx145;have hg1l:=hg1.1;refine t6 ?_;refine cN ?_ ?_<;>intro h32
 ·refine t10 ?_;exact Z12
 refine t11 ?_;refine cN ?_ ?_<;>intro h34
 ·refine t5 ?_;refine kRF call156 (qbf c.w.heap.size _) ?_;refine t5 ?_;exact Z12
 refine t10 ?_;refine cN ?_ ?_<;>intro h36
 ·refine t8 ?_;refine qao rfl (by ((refine qac call162 (qm5 c.w.heap.size _ _ (⟨_,_,_⟩:Cu) ?_ ?_) ⟨qbg,⟨qbg,⟨qbg,trivial⟩⟩⟩);all_goals (first|first|omega|(simp;done)|(simp;omega)|first|omega|(simp;done)|(simp;omega)|(refine nT (qae _ _) ?_;omega)|(refine nT (qae _ _) (nT (Nat.add_le_add_right (qae _ _) _) ?_);omega)))) ?_;(refine qbj 169 rfl ?_;intro x169 hx169);refine t5 ?_;exact rXF (⟨_,_,(⟨_,(⟨_,_,_⟩:Cu),_,_⟩:SO26),_⟩:SS26) results159 (hp:=by exact qjb hx169 (hg1.mono de))
 refine t5 ?_;refine kXF call161 (qgx c.w.heap.size (⟨_,_,_⟩:Cu)) ?_;refine t4 ?_;exact Z12
theorem qpd (cu:Cu) (cl lines:Int) (ks:List Pg) (hks:ks.length<=5000):FnF prog 160 [IsCu cu,Ii cl,Ii lines,qad tPg ks] (fun B=>qfc PSS fun r=>qkh B r):=by
 refine FnF.enter func160 ntmps160 rfl rfl ?_;intro c hX;refine t3 ?_;intro i4;refine s1 ?_;intro i8;refine t11 ?_;refine qao rfl (by ((refine qau call101 (qfx (⟨_,_,_,_,_,_⟩:Ep26) _ ?_ ?_) ⟨qbg,⟨qbg,trivial⟩⟩);all_goals (first|omega|(simp;done)|(simp;omega)))) ?_;(refine qbj 17 rfl ?_;intro x17 hx17);refine s1 ?_;intro i9;refine t5 ?_;obtain ⟨⟨he1,he2,he3⟩,he4⟩:=hx17;have he1l:=he1.1;refine t6 ?_;refine cN ?_ ?_<;>intro h2
 ·refine t10 ?_;exact Z73
 refine t11 ?_;refine cN ?_ ?_<;>intro h4
 ·refine t8 ?_;refine cN ?_ ?_<;>intro h5
  ·refine t3 ?_;refine kXF call161 (qgx c.w.heap.size (⟨_,_,_⟩:Cu)) ?_;refine t6 ?_;exact Z73
  refine t8 ?_;refine kXF call161 (qgx c.w.heap.size (⟨_,_,_⟩:Cu)) ?_;refine t5 ?_;exact Z73
 refine t11 ?_;refine cN ?_ ?_<;>intro h8
 ·refine t5 ?_;refine kRF call156 (qbf c.w.heap.size _) ?_;refine t5 ?_;exact Z73
 refine t10 ?_;refine qao rfl (by ((refine qac call162 (qm5 c.w.heap.size _ _ (⟨_,_,_⟩:Cu) ?_ ?_) ⟨qbg,⟨qbg,⟨qbg,trivial⟩⟩⟩);all_goals (first|first|omega|(simp;done)|(simp;omega)|first|omega|(simp;done)|(simp;omega)|(refine nT (qae _ _) ?_;omega)|(refine nT (qae _ _) (nT (Nat.add_le_add_right (qae _ _) _) ?_);omega)))) ?_;(refine qbj 52 rfl ?_;intro x52 hx52);refine t4 ?_;exact rXF (⟨_,_,(⟨_,(⟨_,_,_⟩:Cu),_,_⟩:SO26),_⟩:SS26) results160 (hp:=by exact qjb hx52 (he1.mono de))
theorem Sweep_ok (cu:Cu) (cl lines:Int) (ks:List Pg) (hks:ks.length<=5000):FnF prog 100 [IsCu cu,Ii cl,Ii lines,qad tPg ks] (fun B=>qfc PSS fun r=>qkh B r):=by
 refine FnF.enter func100 ntmps100 rfl rfl ?_;intro c hX;refine t3 ?_;intro i4;refine s1 ?_;intro i8;refine t31 ?_;refine cN ?_ ?_<;>intro h1
 ·refine t2 ?_;refine kRF call156 (qbf c.w.heap.size _) ?_;refine t5 ?_;exact rXF (⟨_,_,(⟨_,(⟨_,_,_⟩:Cu),_,_⟩:SO26),_⟩:SS26) results100 (hp:=by exact wl0) (hD0:=hX.2)
 refine t16 ?_;refine cN ?_ ?_<;>intro h4
 ·refine t18 ?_;refine cN ?_ ?_<;>intro h5
  ·refine t2 ?_;refine kRF call156 (qbf c.w.heap.size _) ?_;refine t7 ?_;exact rXF (⟨_,_,(⟨_,(⟨_,_,_⟩:Cu),_,_⟩:SO26),_⟩:SS26) results100 (hp:=by exact wl0) (hD0:=hX.2)
  have hlv:0<=cu.level:=by
   simp only [Bool.or_eq_false_iff,decide_eq_false_iff_not] at h5;omega
  refine t8 ?_;refine qao rfl (by ((refine qau call157 (qt2 cu _ _ _ ?_ hlv) ⟨qap,⟨qap,⟨qap,⟨qap,trivial⟩⟩⟩⟩);all_goals (first|omega|(simp;done)|(simp;omega)|(refine nT (qae _ _) ?_;omega)|(refine nT (qae _ _) (nT (Nat.add_le_add_right (qae _ _) _) ?_);omega)))) ?_;(refine qbj 57 rfl ?_;intro x57 hx57);refine t6 ?_;exact rXF (⟨_,_,(⟨_,(⟨_,_,_⟩:Cu),_,_⟩:SO26),_⟩:SS26) results100 (hp:=by exact hx57) (hD0:=hX.2)
 refine t6 ?_;refine cN ?_ ?_<;>intro h8
 ·refine t13 ?_;refine cN ?_ ?_<;>intro h9
  ·refine t2 ?_;refine kRF call156 (qbf c.w.heap.size _) ?_;refine t7 ?_;exact rXF (⟨_,_,(⟨_,(⟨_,_,_⟩:Cu),_,_⟩:SO26),_⟩:SS26) results100 (hp:=by exact wl0) (hD0:=hX.2)
  refine t7 ?_;refine qao rfl (by ((refine qau call158 (qsf cu _ _ ?_) ⟨qap,⟨qap,⟨qap,trivial⟩⟩⟩);all_goals (first|omega|(simp;done)|(simp;omega)|(refine nT (qae _ _) ?_;omega)|(refine nT (qae _ _) (nT (Nat.add_le_add_right (qae _ _) _) ?_);omega)))) ?_;(refine qbj 72 rfl ?_;intro x72 hx72);refine t6 ?_;exact rXF (⟨_,_,(⟨_,(⟨_,_,_⟩:Cu),_,_⟩:SO26),_⟩:SS26) results100 (hp:=by exact hx72) (hD0:=hX.2)
 refine t6 ?_;refine cN ?_ ?_<;>intro h12
 ·refine t6 ?_;refine qao rfl (by ((refine qau call159 (qnl cu _ _ _ ?_) ⟨qap,⟨qap,⟨qap,⟨qap,trivial⟩⟩⟩⟩);all_goals (first|omega|(simp;done)|(simp;omega)|(refine nT (qae _ _) ?_;omega)|(refine nT (qae _ _) (nT (Nat.add_le_add_right (qae _ _) _) ?_);omega)))) ?_;(refine qbj 79 rfl ?_;intro x79 hx79);refine t6 ?_;exact rXF (⟨_,_,(⟨_,(⟨_,_,_⟩:Cu),_,_⟩:SO26),_⟩:SS26) results100 (hp:=by exact hx79) (hD0:=hX.2)
 refine t6 ?_;refine cN ?_ ?_<;>intro h14
 ·refine t8 ?_;refine cN ?_ ?_<;>intro h15
  ·refine t2 ?_;refine kRF call156 (qbf c.w.heap.size _) ?_;refine t7 ?_;exact rXF (⟨_,_,(⟨_,(⟨_,_,_⟩:Cu),_,_⟩:SO26),_⟩:SS26) results100 (hp:=by exact wl0) (hD0:=hX.2)
  refine t8 ?_;refine qao rfl (by ((refine qau call160 (qpd cu _ _ _ ?_) ⟨qap,⟨qap,⟨qap,⟨qap,trivial⟩⟩⟩⟩);all_goals (first|omega|(simp;done)|(simp;omega)|(refine nT (qae _ _) ?_;omega)|(refine nT (qae _ _) (nT (Nat.add_le_add_right (qae _ _) _) ?_);omega)))) ?_;(refine qbj 90 rfl ?_;intro x90 hx90);refine t6 ?_;exact rXF (⟨_,_,(⟨_,(⟨_,_,_⟩:Cu),_,_⟩:SO26),_⟩:SS26) results100 (hp:=by exact hx90) (hD0:=hX.2)
 refine t6 ?_;refine cN ?_ ?_<;>intro h18
 ·refine t5 ?_;refine qao rfl (by ((refine qau call101 (qfx (⟨_,_,_,_,_,_⟩:Ep26) _ ?_ ?_) ⟨qbg,⟨qbg,trivial⟩⟩);all_goals (first|omega|(simp;done)|(simp;omega)|(refine nT (qae _ _) ?_;omega)|(refine nT (qae _ _) (nT (Nat.add_le_add_right (qae _ _) _) ?_);omega)))) ?_;(refine qbj 96 rfl ?_;intro x96 hx96);refine s1 ?_;intro i9;refine t5 ?_;obtain ⟨⟨he1,he2,he3⟩,he4⟩:=hx96;have he1l:=he1.1;refine t6 ?_;refine cN ?_ ?_<;>intro h20
  ·refine t12 ?_;exact rXF (⟨_,_,(⟨_,(⟨_,_,_⟩:Cu),_,_⟩:SO26),_⟩:SS26) results100 (hp:=by exact wl0) (hD0:=hX.2)
  refine t22 ?_;refine cN ?_ ?_<;>intro h22
  ·refine t3 ?_;refine kXF call161 (qgx c.w.heap.size (⟨_,_,_⟩:Cu)) ?_;refine t7 ?_;exact rXF (⟨_,_,(⟨_,(⟨_,_,_⟩:Cu),_,_⟩:SO26),_⟩:SS26) results100 (hp:=by exact wl0) (hD0:=hX.2)
  refine t11 ?_;refine cN ?_ ?_<;>intro h24
  ·refine t5 ?_;refine kRF call156 (qbf c.w.heap.size _) ?_;refine t7 ?_;exact rXF (⟨_,_,(⟨_,(⟨_,_,_⟩:Cu),_,_⟩:SO26),_⟩:SS26) results100 (hp:=by exact wl0) (hD0:=hX.2)
  refine t10 ?_;refine qao rfl (by ((refine qac call162 (qm5 c.w.heap.size _ _ (⟨_,_,_⟩:Cu) ?_ ?_) ⟨qbg,⟨qbg,⟨qbg,trivial⟩⟩⟩);all_goals (first|first|omega|(simp;done)|(simp;omega)|first|omega|(simp;done)|(simp;omega)|(refine nT (qae _ _) ?_;omega)|(refine nT (qae _ _) (nT (Nat.add_le_add_right (qae _ _) _) ?_);omega)))) ?_;(refine qbj 134 rfl ?_;intro x134 hx134);refine t6 ?_;exact rXF (⟨_,_,(⟨_,(⟨_,_,_⟩:Cu),_,_⟩:SO26),_⟩:SS26) results100 (hp:=by exact qjb hx134 (he1.mono de)) (hD0:=hX.2)
 refine t6 ?_;refine kXF call161 (qgx c.w.heap.size (⟨_,_,_⟩:Cu)) ?_;refine t4 ?_;exact rXF (⟨_,_,(⟨_,(⟨_,_,_⟩:Cu),_,_⟩:SO26),_⟩:SS26) results100 (hp:=by exact wl0) (hD0:=hX.2)
def St29.vals (s:St29):List Value:=[.int .i64 s.kind,.int .u32 (UV s.key),.int .u32 (UV s.last),.int .i64 s.cols0,.int .i64 s.cols1,.int .i64 s.cols2,.int .i64 s.col,.int .i64 s.value,.int .i64 s.where_.col,.int .i64 s.where_.op,.int .i64 s.where_.value,.int .i64 s.limit]
def Co.vals (s:Co):List Value:=[.int .i64 s.col,.int .i64 s.op,.int .i64 s.value]
instance:DecidableEq Co:=fun p q=>if h:p.col=q.col∧p.op=q.op∧p.value=q.value then isTrue (by cases p;cases q;simp_all) else isFalse (fun e=>h (by subst e;exact ⟨rfl,rfl,rfl⟩))
instance:DecidableEq St29:=fun p q=>if h:p.kind=q.kind∧p.key=q.key∧p.last=q.last∧p.cols0=q.cols0∧p.cols1=q.cols1∧p.cols2=q.cols2∧p.col=q.col∧p.value=q.value∧p.where_=q.where_∧p.limit=q.limit then isTrue (by cases p;cases q;simp_all) else isFalse (fun e=>h (by subst e;exact ⟨rfl,rfl,rfl,rfl,rfl,rfl,rfl,rfl,rfl,rfl⟩))
theorem eqI3_el (d:Nat) (w:World) (a b c a' b' c':Int):(Op.equalIn (d+2) 106 (.agg #[.int .i64 a,.int .i64 b,.int .i64 c]) (.agg #[.int .i64 a',.int .i64 b',.int .i64 c'])).run prog w = .ok (decide (a=a'∧b=b'∧c=c')) w:=by
 obtain ⟨i,hi⟩:=qz3;rw [show d+2=(d+1)+1 from rfl,run_equalIn_array w (d+1) _ _ Tryz.underlying106 hi];have hc:Tryz.prog.cellsOf 2=1:=by kernel_rfl
 rw [hc];have hu:(isAgg 2).run prog w = .ok false w:=qf2 Tryz.underlying2 w;simp only [List.range_succ,List.range_zero,List.nil_append,List.cons_append,Op.eqItems,part,Sem.run_bind,hu,Result.andThen_ok,Bool.false_eq_true,if_false,↓reduceIte]
 go_simp
 by_cases h1:a=a' <;> by_cases h2:b=b' <;> by_cases h3:c=c' <;> simp [h1,h2,h3]
attribute [go_sem high] eqI3_el
theorem eqCo_run (p q:Co) (w:World):(Op.equal 108 (.agg p.vals.toArray) (.agg q.vals.toArray)).run prog w = .ok (decide (p=q)) w:=by
 have h:(Op.equalIn (9999+1) 108 (.agg #[.int .i64 p.col,.int .i64 p.op,.int .i64 p.value]) (.agg #[.int .i64 q.col,.int .i64 q.op,.int .i64 q.value])).run prog w = .ok (decide (p=q)) w:=by
  go_simp
  obtain ⟨a,b,k⟩:=p;obtain ⟨a',b',k'⟩:=q;by_cases h0:k=k' <;> by_cases h1:a=a' <;> by_cases h2:b=b' <;> simp [h0,h1,h2]
 exact h
theorem eqSt_run (p q:St29) (w:World):(Op.equal 110 (.agg p.vals.toArray) (.agg q.vals.toArray)).run prog w = .ok (decide (p=q)) w:=by
 have h:(Op.equalIn (9999+1) 110 (.agg #[.int .i64 p.kind,.int .u32 (UV p.key),.int .u32 (UV p.last),.int .i64 p.cols0,.int .i64 p.cols1,.int .i64 p.cols2,.int .i64 p.col,.int .i64 p.value,.int .i64 p.where_.col,.int .i64 p.where_.op,.int .i64 p.where_.value,.int .i64 p.limit]) (.agg #[.int .i64 q.kind,.int .u32 (UV q.key),.int .u32 (UV q.last),.int .i64 q.cols0,.int .i64 q.cols1,.int .i64 q.cols2,.int .i64 q.col,.int .i64 q.value,.int .i64 q.where_.col,.int .i64 q.where_.op,.int .i64 q.where_.value,.int .i64 q.limit])).run prog w = .ok (decide (p=q)) w:=by
  go_simp
  obtain ⟨a0,a1,a2,a3,a4,a5,a6,a7,⟨a8,a9,a10⟩,a11⟩:=p;obtain ⟨b0,b1,b2,b3,b4,b5,b6,b7,⟨b8,b9,b10⟩,b11⟩:=q;by_cases h0:a0=b0
  case neg=>simp [h0]
  subst h0;by_cases h1:a1=b1
  case neg=>simp [h1]
  subst h1;by_cases h2:a2=b2
  case neg=>simp [h2]
  subst h2;by_cases h3:a3=b3
  case neg=>simp [h3]
  subst h3;by_cases h4:a4=b4
  case neg=>simp [h4]
  subst h4;by_cases h5:a5=b5
  case neg=>simp [h5]
  subst h5;by_cases h6:a6=b6
  case neg=>simp [h6]
  subst h6;by_cases h7:a7=b7
  case neg=>simp [h7]
  subst h7;by_cases h8:a8=b8 <;> by_cases h9:a9=b9 <;> by_cases h10:a10=b10 <;> by_cases h11:a11=b11 <;> simp [h8,h9,h10,h11]
 exact h
theorem zbj (o:BinOp) (x y:Operand) (p q:St29) (w:World):(eqGuard o 110 x y (.agg p.vals.toArray) (.agg q.vals.toArray)).run prog w = .ok () w:=by
 have h:Tryz.prog.eqGuardType Tryz.prog.depth 110=false:=by kernel_rfl
 cases o <;> simp [eqGuard,program,Sem.run,h]
theorem eqSt_neq (p q:St29) (w:World):(binOp .neq 110 (.agg p.vals.toArray) (.agg q.vals.toArray)).run prog w = .ok (.bool (!decide (p=q))) w:=by
 simp only [binOp,Sem.run_bind,eqSt_run,Result.andThen_ok,Sem.run_pure]
theorem zbm (o:BinOp) (x y:Operand) (p q:Co) (w:World):(eqGuard o 108 x y (.agg p.vals.toArray) (.agg q.vals.toArray)).run prog w = .ok () w:=by
 have h:Tryz.prog.eqGuardType Tryz.prog.depth 108=false:=by kernel_rfl
 cases o <;> simp [eqGuard,program,Sem.run,h]
theorem eqCo_neq (p q:Co) (w:World):(binOp .neq 108 (.agg p.vals.toArray) (.agg q.vals.toArray)).run prog w = .ok (.bool (!decide (p=q))) w:=by
 simp only [binOp,Sem.run_bind,eqCo_run,Result.andThen_ok,Sem.run_pure]
def qs1 (n lo hi:Int):Bool:=decide (n>=lo)&&decide (n<=hi)
theorem qxk (n lo hi:Int):FnP prog 196 [Ii n,Ii lo,Ii hi] (Ib (qs1 n lo hi)):=by
 refine FnP.enter func196 ntmps196 rfl rfl ?_;intro c hX;refine t19 ?_;refine rB results196 rfl ?_;rfl
def qpn (s:St29):St29:=
 if (s.kind==1)=true then ⟨s.kind,s.key,0#32,s.cols0,s.cols1,s.cols2,0,0,⟨0,0,0⟩,0⟩ else
 if (s.kind==2||s.kind==3)=true then ⟨s.kind,s.key,0#32,0,0,0,s.col,s.value,⟨0,0,0⟩,0⟩ else
 if (s.kind==6)=true then ⟨s.kind,s.key,s.last,0,0,0,0,0,s.where_,s.limit⟩ else
 if (s.kind==7)=true then ⟨s.kind,s.key,s.last,0,0,0,0,0,s.where_,0⟩ else
 if (s.kind==8)=true then ⟨s.kind,s.key,s.last,0,0,0,s.col,0,s.where_,0⟩ else
 if (s.kind==9)=true then ⟨s.kind,s.key,0#32,0,0,0,0,0,s.where_,0⟩ else ⟨s.kind,s.key,0#32,0,0,0,0,0,⟨0,0,0⟩,0⟩
theorem plain_ok (s:St29):FnP prog 220 [qqj s] (qqj (qpn s)):=by
 obtain ⟨W,hE⟩:=xE (qpn s);rw [hE];unfold qpn at hE;refine FnP.enter func220 ntmps220 rfl rfl ?_;intro c hX;refine t3 ?_;intro i1;refine s1 ?_;intro i2;refine t3 ?_;refine qec (b:=i1) hX qaf ?_;refine qbl 1 (IsRef (tSt29.cells s)) rfl qf1 ?_;refine t7 ?_;intro i3;refine t10 ?_;refine qbw [(2,_),(3,_)] [blk i2 _ _] (fun z:Unit=>True) (fun z=>[]) (fun z=>[blk i3 110 (tSt29.cells W)]) qbu qab ?_ ?_
 rotate_left
 focus
  refine t7 ?_;refine cN ?_ ?_<;>intro h3
  ·replace hE:=qaq hE h3;refine t7 ?_;subst hE;exact qal () trivial qbu qab
  replace hE:=qar hE h3;refine t7 ?_;refine qbw [(1,_),(2,_),(3,_),(10,_)] [blk i3 _ _,blk i2 _ _] (fun yc:Bool=>yc=(s.kind==2||s.kind==3)) (fun yc=>[(16,Ib yc)]) (fun yc=>[]) qbu qab ?_ ?_
  rotate_left
  focus
   refine cN ?_ ?_<;>intro h5
   ·skip
    refine s1 ?_;refine qal _ ?_ qbu qab
    ·exact (by (rw [h5];rfl))
   skip
   refine t4 ?_;refine qal _ ?_ qbu qab
   ·exact (by (rw [h5];rfl))
  rintro b hI;refine cN ?_ ?_<;>intro h5b
  ·rw [hI] at h5b;replace hE:=qaq hE h5b;refine Z5 ?_;refine qdn [0,0,0,0,0,2,0,2] kr kr ?_;refine qhc (by exact qa0 (k:=6) (er rfl) rfl rfl rfl rfl qbx) ?_;refine Z103 ?_;refine qhc (by exact qa0 (k:=7) (er rfl) rfl rfl rfl rfl qbx) ?_;refine Z103 ?_;refine qhc (by exact qbe (k:=6) (er rfl) rfl rfl rfl rfl) ?_;refine Z21 ?_;refine qhc (by exact qbe (k:=7) (er rfl) rfl rfl rfl rfl) ?_;refine Z21 ?_;refine qjn ?_;refine Z20 ?_;subst hE;exact qal () trivial qbu qab
  rw [hI] at h5b;replace hE:=qar hE h5b;refine t6 ?_;refine cN ?_ ?_<;>intro h8
  ·replace hE:=qaq hE h8;refine Z5 ?_;refine qdn [0,0,0,0,0,0,0,2,0,2,0,2] kr kr ?_;refine Z28 ?_;refine qhc (by exact qa0 (k:=11) (er rfl) rfl rfl rfl rfl qbx) ?_;refine Z103 ?_;refine Z58 ?_;refine qhc (by exact qbe (k:=11) (er rfl) rfl rfl rfl rfl) ?_;refine Z21 ?_;refine qjn ?_;refine Z20 ?_;subst hE;exact qal () trivial qbu qab
  replace hE:=qar hE h8;refine t6 ?_;refine cN ?_ ?_<;>intro h10
  ·replace hE:=qaq hE h10;refine Z5 ?_;refine qdn [0,0,0,0,0,2,0,2] kr kr ?_;refine Z28 ?_;refine Z58 ?_;refine qjn ?_;refine Z20 ?_;subst hE;exact qal () trivial qbu qab
  replace hE:=qar hE h10;refine t6 ?_;refine cN ?_ ?_<;>intro h12
  ·replace hE:=qaq hE h12;refine Z5 ?_;refine qdn [0,0,0,0,0,0,0,2,0,2,0,2] kr kr ?_;refine Z28 ?_;refine qhc (by exact qa0 (k:=6) (er rfl) rfl rfl rfl rfl qbx) ?_;refine Z103 ?_;refine Z58 ?_;refine qhc (by exact qbe (k:=6) (er rfl) rfl rfl rfl rfl) ?_;refine Z21 ?_;refine qjn ?_;refine Z20 ?_;subst hE;exact qal () trivial qbu qab
  replace hE:=qar hE h12;refine t6 ?_;refine cN ?_ ?_<;>intro h14
  ·replace hE:=qaq hE h14;refine t7 ?_;subst hE;exact qal () trivial qbu qab
  replace hE:=qar hE h14;refine t2 ?_;subst hE;exact qal () trivial qbu qab
 rintro ⟨⟩ _;refine t7 ?_;exact rA (Bs:=[_]) results220 eRF
def vS (s:St29):Bool:=
 if (!qs1 s.kind 1 9||decide (UV s.key<1)||decide (UV s.key>4294967294) || !decide (s=qpn s))=true then false else
 if (qs1 s.kind 6 8&&(decide (UV s.last<UV s.key)||decide (UV s.last>4294967294)))=true then false else
 if (!qs1 s.col 0 2 || !qs1 s.where_.col 0 2 || !qs1 s.where_.op 0 6 || !qs1 s.limit 0 64)=true then false else
 if (s.where_.op==0 && !decide (s.where_=⟨0,0,0⟩))=true then false else (s.kind != 9||decide (s.where_.op>0))
theorem vS_col {s:St29} (h:vS s=true):0<=s.col∧s.col<=2:=by
 unfold vS at h;split at h
 ·cases h
 ·split at h
  ·cases h
  ·split at h
   ·cases h
   ·rename_i h3;unfold qs1 at h3;simp at h3;omega
theorem qn4 (s:St29):FnP prog 195 [qqj s] (Ib (vS s)):=by
 obtain ⟨W,hE⟩:=xE (vS s);rw [hE];unfold vS at hE;refine FnP.enter func195 ntmps195 rfl rfl ?_;intro c hX;refine t3 ?_;intro i1;refine Z70 ?_;refine qaj 20 kr ?_;refine t2 ?_;refine qbc (qac call196 (qxk _ _ _) ⟨qap,⟨qap,⟨qap,trivial⟩⟩⟩) ?_;refine t14 ?_;(refine qch rfl rfl (fun hg=>(by have hg0:=hg;(try simp at hg);exact qac call220 (plain_ok s) ⟨qap,trivial⟩)) ?_);(refine qch rfl rfl (fun hg=>(by have hg0:=hg;(try simp at hg);exact qb0 (vs:=s.vals) (ws:=(qpn s).vals) evG evG (zbj _ _ _ s (qpn s)) (eqSt_neq s (qpn s)))) ?_);refine s1 ?_;refine ⟨rfl,?_⟩;refine Z20 ?_;refine cN ?_ ?_<;>intro h1
 ·replace hE:=qaq hE h1;refine t7 ?_;subst hE;exact rA (Bs:=[_]) results195 eRF
 replace hE:=qar hE h1;clear h1;refine t7 ?_;refine kRF call196 (qxk _ _ _) ?_;refine t14 ?_;refine cN ?_ ?_<;>intro h3
 ·replace hE:=qaq hE h3;refine t7 ?_;subst hE;exact rA (Bs:=[_]) results195 eRF
 replace hE:=qar hE h3;refine t7 ?_;refine kRF call196 (qxk _ _ _) ?_;refine t5 ?_;(refine qcg rfl rfl rfl (fun hg=>(by have hg0:=hg;(try simp at hg);exact qac call196 (qxk _ _ _) ⟨qap,⟨qap,⟨qap,trivial⟩⟩⟩)) ?_);refine t6 ?_;(refine qcg rfl rfl rfl (fun hg=>(by have hg0:=hg;(try simp at hg);exact qac call196 (qxk _ _ _) ⟨qap,⟨qap,⟨qap,trivial⟩⟩⟩)) ?_);refine t5 ?_;(refine qcg rfl rfl rfl (fun hg=>(by have hg0:=hg;(try simp at hg);exact qac call196 (qxk _ _ _) ⟨qap,⟨qap,⟨qap,trivial⟩⟩⟩)) ?_);refine t4 ?_;refine cN ?_ ?_<;>intro h5
 ·replace hE:=qaq hE h5;refine t7 ?_;subst hE;exact rA (Bs:=[_]) results195 eRF
 replace hE:=qar hE h5;refine t13 ?_;(refine qcg rfl rfl rfl (fun hg=>(by have hg0:=hg;(try simp at hg);exact qb0 (vs:=s.where_.vals) (ws:=Co.vals ⟨0,0,0⟩) evG evG (zbm _ _ _ s.where_ ⟨0,0,0⟩) (eqCo_neq s.where_ ⟨0,0,0⟩))) ?_);refine t3 ?_;refine cN ?_ ?_<;>intro h7
 ·replace hE:=qaq hE h7;refine t7 ?_;subst hE;exact rA (Bs:=[_]) results195 eRF
 replace hE:=qar hE h7;refine t17 ?_;subst hE;exact rA (Bs:=[_]) results195 eRF
def vPL:List St29->Bool
 | []=>true
 | s::r=>if (!vS s)=true then false else vPL r
def vP (l:List St29):Bool:=if (decide ((l.length:Int)<1)||decide ((l.length:Int)>8))=true then false else vPL l
theorem zcn:∀ {l:List St29},vPL l=true->∀ s,s∈l->vS s=true
 | s::r,h,x,hx=>by
  unfold vPL at h;split at h
  ·cases h
  ·rename_i h1;rcases List.mem_cons.1 hx with rfl|hx
   ·simpa using h1
   ·exact zcn h x hx
theorem zcm {l:List St29} (h:vP l=true):l.length<=8∧∀ s,s∈l->vS s=true:=by
 unfold vP at h;split at h
 ·cases h
 ·rename_i h1;simp at h1;exact ⟨om,zcn h⟩
theorem qkc (l:List St29):FnP prog 151 [qad tSt29 l] (Ib (vP l)):=by
 obtain ⟨W,hE⟩:=xE (vP l);rw [hE];unfold vP at hE;refine FnP.enter func151 ntmps151 rfl rfl ?_;intro c hX;refine t18 ?_;refine cN ?_ ?_<;>intro h1
 ·replace hE:=qaq hE h1;refine t7 ?_;subst hE;exact rA (Bs:=[_]) results151 eRF
 rw [ifF h1] at hE;have hl8:l.length<=8:=by
  rw [Bool.or_eq_false_iff] at h1;have:=of_decide_eq_false h1.2;omega
 clear h1;refine t9 ?_;refine qax [(0,_),(2,_)] [] (fun k:Nat=>k<=(l).length∧vPL (List.drop k (l))=W) (fun k=>[(3,Ii (k:Nat))]) (fun k=>[]) (fun k=>(l).length-k) 0 ⟨by exact nZ _,hE⟩ qbu qab ?_;clear hE;rintro k ⟨hk,hE⟩;refine t9 ?_;refine cN ?_ ?_<;>intro h4
 ·have hlt:k<(l).length:=by have:=of_decide_eq_true h4;omega
  clear h4;obtain ⟨z,hz⟩:∃ q,(l)[k]?=some q:=⟨_,gE hlt⟩
  rw [qf7 hz,vPL] at hE;(try dsimp only at hE);refine t10 ?_;refine kRF call195 (qn4 z) ?_;refine t3 ?_;refine cN ?_ ?_<;>intro h6
  ·replace hE:=qaq hE h6;refine t11 ?_;subst hE;exact rA (Bs:=[_]) results151 eRF
  replace hE:=qar hE h6;refine t8 ?_;exact qaa (k+1) ⟨om,hE⟩ om qbu qab
 have hke:k=(l).length:=by have:=of_decide_eq_false h4;omega
 clear h4;subst hke;rw [List.drop_length,vPL] at hE;(try dsimp only at hE);refine t11 ?_;subst hE;exact rA (Bs:=[_]) results151 eRF
theorem zbr (s:St29):FnP prog 188 [qqj s] (Ib (qs1 s.kind 1 4)):=by
 refine FnP.enter func188 ntmps188 rfl rfl ?_;intro c hX;refine t3 ?_;intro i1;refine t7 ?_;refine kRF call196 (qxk _ _ _) ?_;refine t4 ?_;refine rB results188 rfl ?_;rfl
theorem qtn (t:List Rw) (ht:t.length<=10000):FnP prog 150 [qad tRw t] (VEx fun b:Bool=>Ib b):=by
 refine FnP.enter func150 ntmps150 rfl rfl ?_;intro c hX;refine t12 ?_;refine qax [(0,_),(2,_)] [] (fun k:Nat=>k<=(t).length) (fun k=>[(3,Ii (k:Nat))]) (fun k=>[]) (fun k=>(t).length-k) 0 (nZ _) qag qab ?_;rintro k hk;refine t9 ?_;refine cN ?_ ?_<;>intro h2
 ·have hlt:k<(t).length:=by have:=of_decide_eq_true h2;omega
  clear h2;obtain ⟨z,hz⟩:∃ q,(t)[k]?=some q:=⟨_,gE hlt⟩
  obtain ⟨q,hq0⟩:=xE (t.getD (k-1) Rw.nil);have hq:0<k->t[k-1]?=some q:=fun h=>by rw [<- hq0,List.getD_eq_getElem?_getD,gE om];rfl
  refine Z70 ?_;refine qaj 32 kr ?_;refine t21 ?_;(refine zgr rfl rfl (fun hp hg=>(by have hpg:=Bool.and_eq_true_iff.2 ⟨hp,hg⟩;have hg0:=hg;(try simp at hg);exact qak (j:=k-1) evG evG rfl rfl om (hq om))) ?_);refine t10 ?_;refine ⟨rfl,?_⟩;refine Z20 ?_;refine cN ?_ ?_<;>intro h4
  ·refine t11 ?_;exact qd4 (Bs:=[_]) _ rfl results150 eXF (List.nil_sublist _)
  refine t8 ?_;exact qaa (k+1) om om qag qab
 have hke:k=(t).length:=by have:=of_decide_eq_false h2;omega
 clear h2;subst hke;refine t11 ?_;exact qd4 (Bs:=[_]) _ rfl results150 eXF (List.nil_sublist _)
theorem qxq (t:List Rw) (key:BitVec 32) (ht:t.length<=10000):FnP prog 152 [qad tRw t,Is (.int .u32 (UV key))] (qfc (fun r:Nat×Bool=>r.1<=t.length∧(r.2=true->r.1<t.length)) fun r=>qbs [Ii (r.1:Nat),Ib r.2]):=by
 refine FnP.enter func152 ntmps152 rfl rfl ?_;intro c hX;refine t13 ?_;refine qax [(0,_),(1,_),(4,_),(5,_)] [] (fun k:Nat=>k<=(t).length) (fun k=>[(6,Ii (k:Nat))]) (fun k=>[]) (fun k=>(t).length-k) 0 (nZ _) qag qab ?_;rintro k hk;refine t9 ?_;refine cN ?_ ?_<;>intro h2
 ·have hlt:k<(t).length:=by have:=of_decide_eq_true h2;omega
  clear h2;obtain ⟨z,hz⟩:∃ q,(t)[k]?=some q:=⟨_,gE hlt⟩
  refine t15 ?_;refine cN ?_ ?_<;>intro h4
  ·refine s1 ?_;refine Z5 ?_;refine Z82 ?_;refine t10 ?_;refine ⟨rfl,?_⟩;refine Z74 ?_;exact quf (_,_) results152 (hp:=by exact ⟨om,fun _=>by omega⟩)
  refine t8 ?_;exact qaa (k+1) om om qag qab
 have hke:k=(t).length:=by have:=of_decide_eq_false h2;omega
 clear h2;subst hke;refine t14 ?_;exact quf (_,_) results152 (hp:=by exact ⟨Nat.le_refl _,fun h=>Bool.noConfusion h⟩)
def qwi (a b:Int):Int×Bool:=if ((decide (b>0)&&decide (a>IntKind.i64.wrap (9223372036854775807-b)))||(decide (b<0)&&decide (a<IntKind.i64.wrap (-9223372036854775808-b))))=true then (0,false) else (IntKind.i64.wrap (a+b),true)
theorem Add29_ok (a b:Int):FnP prog 197 [Ii a,Ii b] (qbs [Ii ((qwi a b).1),Ib ((qwi a b).2)]):=by
 obtain ⟨W,hE⟩:=xE (qwi a b);rw [hE];unfold qwi at hE;refine FnP.enter func197 ntmps197 rfl rfl ?_;intro c hX;refine t29 ?_;refine cN ?_ ?_<;>intro h1
 ·replace hE:=qaq hE h1;refine t8 ?_;subst hE;exact rA (Bs:=[_,_]) results197 eRF
 replace hE:=qar hE h1;refine t12 ?_;subst hE;exact rA (Bs:=[_,_]) results197 eRF
def colAt (r:Rw):Nat->Int
 | 0=>r.cols0
 | 1=>r.cols1
 | _=>r.cols2
def zda (r:Rw) (k:Nat) (v:Int):Rw:=match k with
 | 0=>{ r with cols0:=v }
 | 1=>{ r with cols1:=v }
 | _=>{ r with cols2:=v }
theorem e3 {k:Nat} (hk:k<3):k=0∨k=1∨k=2:=om
theorem col_idx (r:Rw) {k:Nat} (hk:k<3):(tRw.cells r)[0+1+k*1]?=some (Ii (colAt r k)):=by
 rcases e3 hk with rfl|rfl|rfl <;> rfl
theorem zfz (r:Rw) (v:Int) {k:Nat} (hk:k<3):ovr (tRw.cells r) (0+1+k*1) [Ii v]=tRw.cells (zda r k v):=by
 rcases e3 hk with rfl|rfl|rfl <;> rfl
theorem zf0 (r:Rw) {k:Nat} (hk:k<3):Nat.ble (0+1+k*1+1) (tRw.cells r).length=true:=Nat.ble_eq_true_of_le (by rw [tRw.len];show _<=4;omega)
theorem qwd (s:St29) (r:Rw) (hc:0<=s.col∧s.col<=2):FnP prog 154 [qqj s,IsRw r] (VEx fun x:Rw×Int=>qbs [IsRw x.1,Ii x.2]):=by
 obtain ⟨j,hj,hj3⟩:∃ j:Nat,s.col=(j:Int)∧j<3:=⟨s.col.toNat,om,om⟩
 refine FnP.enter func154 ntmps154 rfl rfl ?_;intro c hX;refine t3 ?_;intro i2;refine s1 ?_;intro i3;refine s1 ?_;intro i4;refine t11 ?_;refine cN ?_ ?_<;>intro h1
 ·refine t7 ?_;refine qao rfl (qah (k:=j) (sz:=1) (er rfl) (er rfl) rfl rfl hj hj3) ?_;refine qjw (qdf (Rs:=tRw.cells (zda r j s.value)) (er rfl) (er rfl) qas qaf (zfz _ _ hj3) rf rf (zf0 _ hj3)) ?_;refine t11 ?_;exact qd4 (Bs:=[_,_]) ((⟨_,_,_,_⟩:Rw),_) rfl results154 eXF (List.nil_sublist _)
 refine Z32 ?_;refine zbq ?_;refine t3 ?_;refine qbc (qah (k:=j) (sz:=1) (er rfl) (er rfl) rfl rfl hj hj3) ?_;refine qbc (qfn (er rfl) qba rf rf (col_idx _ hj3)) ?_;refine t2 ?_;refine qbc (qac call197 (Add29_ok _ _) ⟨qap,⟨qap,trivial⟩⟩) ?_;refine t5 ?_;refine ⟨rfl,?_⟩;refine qda ?_;refine t8 ?_;refine cN ?_ ?_<;>intro h5
 ·refine t9 ?_;exact qd4 (Bs:=[_,_]) ((⟨_,_,_,_⟩:Rw),_) rfl results154 eXF (List.nil_sublist _)
 refine t8 ?_;refine qao rfl (qah (k:=j) (sz:=1) (er rfl) (er rfl) rfl rfl hj hj3) ?_;refine qjw (qdf (Rs:=tRw.cells (zda r j (qwi (colAt r j) s.value).1)) (er rfl) (er rfl) qas qaf (zfz _ _ hj3) rf rf (zf0 _ hj3)) ?_;refine t10 ?_;exact qd4 (Bs:=[_,_]) ((⟨_,_,_,_⟩:Rw),_) rfl results154 eXF (List.nil_sublist _)
theorem Apply_ok (t:List Rw) (pr:List St29) (ht:t.length<=9000) (hkd:∀ s,s∈pr->1<=s.kind∧s.kind<=4):FnP prog 99 [qad tRw t,qad tSt29 pr] (qfc (fun r:List Rw=>r.length<=t.length+pr.length) fun r=>qbs [qad tRw r,Top,Top,Top]):=by
 refine FnP.enter func99 ntmps99 rfl rfl ?_;intro c hX;refine t12 ?_;refine qao rfl (by ((refine qac call150 (qtn _ ?_) ⟨qap,trivial⟩);all_goals (omega))) ?_;(refine qh0 19 rfl ?_;intro x19);refine t3 ?_;(refine qcg rfl rfl rfl (fun hg=>(by have hg0:=hg;(try simp at hg);exact qac call151 (qkc _) ⟨qap,trivial⟩)) ?_);refine t4 ?_;refine cN ?_ ?_<;>intro h1
 ·refine t11 ?_;exact Z113
 have hv:vP pr=true:=by
  cases hq:vP pr
  ·rw [hq] at h1;simp at h1
  ·rfl
 obtain ⟨hl8,hvs⟩:=zcm hv;clear h1;refine t4 ?_;(refine JL_n rfl (qb4 tRw rfl rfl) ?_;intro i27);refine s1 ?_;(refine qc6 rfl (qca (er rfl) (fun _=>qaf) qap (by exact qfz rfl rfl rfl) qcn) ?_;intro i29);refine t4 ?_;refine qa7 hX (v:=slV _ i29) qaf ?_;refine qbl 8 (qad tRw t) rfl (by simpa using qf1) ?_;refine t11 ?_;refine qdo 265 tRs29 ?_;refine qax [(0,_),(1,_),(4,_),(5,_),(6,_),(7,_)] [] (fun y:Nat×(List Rw)×(List Rs29)×(Option Addr×Nat)=>y.1<=(pr).length∧(y.2.1.length<=t.length+y.1∧y.2.2.1.length<=y.1)) (fun y=>[(8,qad tRw y.2.1),(9,Is (slV (y.2.2.1).length y.2.2.2)),(10,Ii (y.1:Nat))]) (fun y=>[buf (slV (y.2.2.1).length y.2.2.2) 265 tRs29 (y.2.2.1)]) (fun y=>(pr).length-y.1) (0,t,[],(none,0)) ?_ qag qab ?_
 ·exact ⟨by exact nZ _,⟨Nat.le_refl _,Nat.le_refl 0⟩⟩
 rintro ⟨k,now,rs,v_0⟩ ⟨hk,hI⟩;dsimp only at hk hI ⊢;refine t9 ?_;refine cN ?_ ?_<;>intro h6
 ·have hlt:k<(pr).length:=by have:=of_decide_eq_true h6;omega
  clear h6;obtain ⟨z,hz⟩:∃ q,(pr)[k]?=some q:=⟨_,gE hlt⟩
  obtain ⟨hI1,hIr⟩:=hI;have hkz:=hkd z (List.mem_of_getElem? hz);have hcz:=vS_col (hvs z (List.mem_of_getElem? hz));refine t11 ?_;intro i11;refine t8 ?_;refine qao rfl (by ((refine qac call152 (qxq _ _ ?_) ⟨qap,⟨qap,trivial⟩⟩);all_goals (omega))) ?_;(refine qbj 44 rfl ?_;intro x44 hx44);refine t8 ?_;obtain ⟨hf1,hf2⟩:=hx44;refine t8 ?_;intro i15;refine t10 ?_;refine qbw [(0,_),(1,_),(4,_),(5,_),(6,_),(7,_),(9,_),(10,_),(11,_),(12,_),(13,_),(15,_),(30,_),(31,_),(32,_),(36,_),(37,_),(38,_),(39,_),(40,_),(41,_),(42,_),(43,_),(44,_),(45,_),(46,_),(47,_),(48,_),(49,_)] [blk i15 _ _,blk i11 _ _,buf _ _ _ _] (fun yc:(List Rw)×Int=>yc.1.length<=t.length+(k+1)) (fun yc=>[(8,qad tRw yc.1),(14,Ii yc.2)]) (fun yc=>[]) qag qab ?_ ?_
  rotate_left
  focus
   refine t7 ?_;refine cN ?_ ?_<;>intro h20
   ·refine t5 ?_;refine cN ?_ ?_<;>intro h21
    ·refine t4 ?_;refine qal (_,_) ?_ qag qab
     ·exact (by (simp;omega))
    refine Z5 ?_;refine qaj 16 kr ?_;refine zbw (qb4 tRw rfl rfl) ?_;refine t2 ?_;refine Z37 ?_;refine t5 ?_;refine qbc (OpP.to (qa1 (size:=4) (qs:=[(0,_)]) rfl rfl rfl ⟨⟨rfl,_,(er rfl),qas⟩,trivial⟩ rf rf) (SubL.row1 (T:=tRw) (x:=(⟨_,_,_,_⟩:Rw)) rf rf rf qav)) ?_;refine Z95 ?_;refine ⟨rfl,?_⟩;intro i105;refine Z80 ?_;refine Z20 ?_;refine qi3 hX (v:=slV _ i105) qaf ?_;refine qal (_,_) ?_ qag qab
    ·exact (by (simp;omega))
   have hk1:z.kind≠1:=by simpa using h20
   refine t7 ?_;refine qbw [(0,_),(1,_),(4,_),(5,_),(6,_),(7,_),(8,_),(9,_),(10,_),(11,_),(12,_),(13,_),(14,_),(15,_),(30,_),(31,_),(32,_),(36,_),(37,_),(38,_),(39,_),(40,_),(41,_),(42,_),(43,_),(44,_),(45,_),(46,_),(47,_),(48,_),(49,_),(88,_),(107,_)] [blk i15 _ _,blk i11 _ _,buf _ _ _ _] (fun yc:Bool=>yc=true) (fun yc=>[(106,Ib yc)]) (fun yc=>[]) qag qab ?_ ?_
   rotate_left
   focus
    refine cN ?_ ?_<;>intro h24
    ·skip
     refine s1 ?_;refine qal _ ?_ qag qab
     ·exact (by exact h24)
    have hk2:z.kind≠2:=by simpa using h24
    refine t6 ?_;refine cN ?_ ?_<;>intro h25
    ·refine s1 ?_;refine qal _ ?_ qag qab
     ·exact (by exact h25)
    have hk3:z.kind≠3:=by simpa using h25
    refine t6 ?_;refine cN ?_ ?_<;>intro h26
    ·refine s1 ?_;refine qal _ ?_ qag qab
     ·exact (by exact h26)
    exact absurd (show z.kind=4 by omega) (by simpa using h26)
   rintro b hI;refine cN ?_ ?_<;>intro h24b
   ·clear hI;refine t8 ?_;refine cN ?_ ?_<;>intro h30
    ·refine t5 ?_;refine qal (_,_) ?_ qag qab
     ·exact (by (simp;omega))
    have hlt:x44.1<now.length:=hf2 (by simpa using h30);refine t8 ?_;refine cN ?_ ?_<;>intro h32
    ·refine Z5 ?_;refine Z82 ?_;refine zbw (qb4 tRw rfl rfl) ?_;refine t2 ?_;refine Z37 ?_;refine t3 ?_;refine qbc (qe6 (er rfl) rfl rfl ⟨_,_,(er rfl),(show _=((x44.1+1:Nat):Int) by rfl)⟩ rfl om om) ?_;refine Z10 ?_;refine ⟨rfl,?_⟩;intro i142;refine Z80 ?_;refine Z33 ?_;refine qi3 hX (v:=slV _ i142) qaf ?_;refine qal (_,_) ?_ qag qab
     ·exact (by (simp;omega))
    refine t8 ?_;refine cN ?_ ?_<;>intro h34
    ·exact absurd (show z.kind=9 by simpa using h34) om
    refine t2 ?_;(refine JL_n rfl (qb4 tRw rfl rfl) ?_;intro i111);refine s1 ?_;(refine qc6 rfl (qca (er rfl) (fun _=>qaf) qap (by exact qfz rfl rfl rfl) qcn) ?_;intro i113);refine t3 ?_;obtain ⟨rz,hrz⟩:∃ q,([]++now)[x44.1]?=some q:=⟨_,gE (by simpa using hlt)⟩
    refine Z23 ?_;refine qd6 0 rfl kr (fun _=>(qeq rfl)) ?_;refine qd6 1 rfl kr (fun _=>(qeq rfl)) ?_;refine Z68 ?_;refine f1 4 ?_;refine qes 5 rfl kr (by exact qay (k:=x44.1) (er rfl) qba (er rfl) rfl rfl qdh qcn) ?_;refine qes 6 rfl kr (by exact qb6 (er rfl) qba hrz rfl rfl rfl) ?_;(refine JF_xe 7 [2,3,4,5,6,7] rfl kr (qac call154 (qwd _ (⟨_,_,_,_⟩:Rw) hcz) ⟨qbg,⟨qbg,trivial⟩⟩) ?_;intro x122);refine f1 8 ?_;refine f1 9 ?_;refine qd6 10 rfl kr (fun _=>(qdr (er rfl) rfl)) ?_;refine qes 11 rfl kr (by exact qay (k:=x44.1) (er rfl) qba (er rfl) rfl rfl qdh qcn) ?_;refine qdw 12 [0,1,2,3,4,5,6,7,8,9,11,12] rfl kr (fun c'=>by exact qgn (z':=x122.1) (er rfl) (er rfl) qas qaf hrz rfl rf rf) ?_;refine f1 13 ?_;refine Z36 ?_;show JQ _ _ _ _ _ _;refine t2 ?_;refine qi3 hX (v:=slV _ i113) qaf ?_;refine qal (_,_) ?_ qag qab
    ·exact (by (simp;omega))
   exact absurd h24b (by rw [hI];decide)
  rintro ⟨nw,cd⟩ hI;dsimp only at hI ⊢;refine t7 ?_;refine cN ?_ ?_<;>intro h40
  ·refine t18 ?_;exact Z113
  refine Z46 ?_;(refine qc6 rfl (qca (er rfl) (fun _=>qaf) (by exact er rfl) (by exact qfz rfl rfl rfl) qcn) ?_;intro i172);refine t9 ?_;refine qaa (k+1,_,_,_) ?_ ?_ qag qab
  ·exact ⟨om,⟨hI,by simp;omega⟩⟩
  ·omega
 have hke:k=(pr).length:=by have:=of_decide_eq_false h6;omega
 clear h6;subst hke;refine t16 ?_;exact Z113
section
variable {P:Program} {c:Ctx} {A:Nat->Option VP} {L:List Item} {d:Option Tmp} {ty:TypeId} {pos:String} {af:Array Edge} {g:Option (Nat×Bool)}
theorem op_notX {x:Operand} {t:TypeId} (hx:Ev A L x IsB):OpP P c ⟨d,.unOp .not t x,ty,pos,af,g⟩ A L IsB:=
 opp fun φ a w hm he=>by
  obtain ⟨p,h1⟩:IsB.ok φ (a.eval x):=he x (by simp [Op.operands]) _ hx;have h1':a.eval x = .bool p:=h1;exact ⟨_,by simp [execOp,h1',Op.unary],⟨!p,rfl⟩⟩
theorem op_orX {x y:Operand} {p:Bool} {Y:VP} (hx:Ev A L x (Ib p)) (hy:evA A y=some Y) (hs:p=false->SubL L Y IsB):OpP P c ⟨d,.pick x (.const (.bool true)) y,ty,pos,af,g⟩ A L IsB:=
 opp fun φ a w hm he=>by
  have h1:a.eval x = .bool p:=he x (by simp [Op.operands]) _ hx;cases p with
  | true =>
   have hc:a.eval (.const (.bool true)) = .bool true:=rfl;exact ⟨.bool true,by simp [execOp,h1,hc,asBool],⟨true,rfl⟩⟩
  | false =>
   obtain ⟨q,h2⟩:IsB.ok φ (a.eval y):=hs rfl φ _ hm.mem.facts (he y (by simp [Op.operands]) _ ⟨Y,hy,SubL.rfl'⟩);have h2':a.eval y = .bool q:=h2;exact ⟨.bool q,by simp [execOp,h1,h2',asBool],⟨q,rfl⟩⟩
end
theorem qqc (p:Pg) (v:Vs):FnP prog 215 [qcv p,IsVs v] (qfc (fun r:Pg×Int=>Ln p->Ln r.1) fun r=>qbs [qcv r.1,Ii r.2]):=by
 refine FnP.enter func215 ntmps215 rfl rfl ?_;intro c hX;refine t3 ?_;intro i2;refine s1 ?_;intro i3;refine s1 ?_;intro i4;refine t7 ?_;refine kXF call237 (qfl (⟨(⟨_,_,_,_⟩:Rw),_,_,_,(⟨_,_⟩:Pt)⟩:Vs)) ?_;(refine qh0 10 rfl ?_;intro x10);refine t3 ?_;(refine qcg rfl rfl rfl (fun hg=>(by have hg0:=hg;(try simp at hg);exact qac call92 (qel _) ⟨qap,trivial⟩)) ?_);refine t4 ?_;refine cN ?_ ?_<;>intro h1
 ·refine t9 ?_;exact quf ((⟨_,_,_,_,_,_,_,_,_⟩:Pg),_) results215 (hp:=by exact fun _=>ln0)
 refine t10 ?_;intro i6;refine t15 ?_;refine qbw [(2,_),(3,_),(4,_),(5,_),(6,_)] [blk i6 _ _,blk i4 _ _,blk i3 _ _,blk i2 _ _] (fun yc:(BitVec 32)=>True) (fun yc=>[(7,Is (.int .u32 (UV yc)))]) (fun yc=>[]) qag qab ?_ ?_
 rotate_left
 focus
  refine cN ?_ ?_<;>intro h5
  ·refine t3 ?_;exact qal _ (trivial) qag qab
  exact Z16
 rintro a _;refine t3 ?_;refine kRF call95 (qh1 _) ?_;refine s1 ?_;refine kRF call94 (qn5 _ _ _) ?_;refine t6 ?_;refine Z5 ?_;refine zaj ?_;refine t6 ?_;refine qbc (qac call96 (qji _) ⟨qap,trivial⟩) ?_;refine s1 ?_;refine Z42 ?_;refine t3 ?_;refine ⟨rfl,?_⟩;refine Z3 ?_;refine t8 ?_;refine qbw [(3,_),(4,_),(5,_),(6,_)] [blk i4 _ _,blk i3 _ _] (fun yc:Pg=>yc.l=p.l) (fun yc=>[]) (fun yc=>[blk i6 50 (tPg.cells yc)]) qag qab ?_ ?_
 rotate_left
 focus
  refine cN ?_ ?_<;>intro h9
  ·refine t8 ?_;refine qan (b:=i6) (As':=tPg.cells (⟨_,_,_,_,_,_,_,_,_⟩:Pg)) qaf qbo ?_;refine qal (⟨_,_,_,_,_,_,_,_,_⟩:Pg) ?_ qag qab
   ·exact (by exact rfl)
  refine t6 ?_;refine qbv (b:=i6) (As':=tPg.cells (⟨_,_,_,_,_,_,_,_,_⟩:Pg)) qaf qbo ?_;refine qax [(3,_),(4,_),(5,_),(6,_)] [blk i4 _ _,blk i3 _ _] (fun y:Nat×Pg=>y.1<=3∧(y.2.l=p.l)) (fun y=>[(8,Ii (y.1:Nat))]) (fun y=>[blk i6 50 (tPg.cells y.2)]) (fun y=>3-y.1) (0,(⟨_,_,_,_,_,_,_,_,_⟩:Pg)) ?_ qag qab ?_
  ·exact ⟨by exact nZ _,rfl⟩
  rintro ⟨k,q2⟩ ⟨hk,hI⟩;dsimp only at hk hI ⊢;refine t7 ?_;refine cN ?_ ?_<;>intro h12
  ·have hlt:k<3:=by have:=of_decide_eq_true h12;omega
   clear h12;rcases (show k=0∨k=1∨k=2 by omega) with rfl|rfl|rfl
   all_goals
    refine t10 ?_;refine Z52 ?_;refine s1 ?_;refine qao rfl (qhr (er rfl) rfl rfl (qkp _)) ?_;refine s1 ?_;refine Z52 ?_;refine t9 ?_;refine qan (b:=i6) (As':=tPg.cells (⟨_,_,_,_,_,_,_,_,_⟩:Pg)) qaf qbo ?_;first|((guard_hyp hlt:(0:Nat)<3);refine qaa (1,(⟨_,_,_,_,_,_,_,_,_⟩:Pg)) ?_ ?_ qag qab)|((guard_hyp hlt:(1:Nat)<3);refine qaa (2,(⟨_,_,_,_,_,_,_,_,_⟩:Pg)) ?_ ?_ qag qab)|((guard_hyp hlt:(2:Nat)<3);refine qaa (3,(⟨_,_,_,_,_,_,_,_,_⟩:Pg)) ?_ ?_ qag qab)
    ·exact ⟨om,hI⟩
    ·omega
  have hke:k=3:=by have:=of_decide_eq_false h12;omega
  clear h12;subst hke;refine t4 ?_;refine qan (b:=i6) (As':=tPg.cells (⟨_,_,_,_,_,_,_,_,_⟩:Pg)) qaf qbo ?_;refine qal (⟨_,_,_,_,_,_,_,_,_⟩:Pg) ?_ qag qab
  ·exact (by exact hI)
 rintro q hI;refine t17 ?_;exact quf ((⟨_,_,_,_,_,_,_,_,_⟩:Pg),_) results215 (hp:=by exact ln_eq hI)
theorem qf8 (p:Pg) (v:Vs) (hp:Ln p):FnP prog 215 [qcv p,IsVs v] (qbs [zg2,IsIX]):=(qqc p v).px hp
theorem zbs (p q:Pg) (v:Vs) (hp:Ln p) (hq:Ln q):FnP prog 217 [qcv p,qcv q,IsVs v] (qfc (fun r:List Pg×Int=>WL 2 r.1) fun r=>qbs [qad tPg r.1,Ii r.2]):=by
 refine FnP.enter func217 ntmps217 rfl rfl ?_;intro c hX;refine t3 ?_;intro i3;refine s1 ?_;intro i4;refine s1 ?_;intro i5;refine t8 ?_;refine Z43 ?_;(refine qcg rfl rfl rfl (fun hg=>(by have hg0:=hg;(try simp at hg);exact qac call85 (qeb _) ⟨qap,trivial⟩)) ?_);refine t3 ?_;refine cN ?_ ?_<;>intro h1
 ·refine t8 ?_;exact quf (_,_) results217 (hp:=by exact wl0)
 refine t5 ?_;refine kRF call202 (qin _) ?_;(refine qh0 22 rfl ?_;intro x22);refine t4 ?_;intro i8;refine t11 ?_;refine cN ?_ ?_<;>intro h4
 ·refine t8 ?_;exact quf (_,_) results217 (hp:=by exact wl0)
 refine t5 ?_;refine kRF call83 (qqp _) ?_;refine t8 ?_;refine kRF call92 (qel _) ?_;refine t4 ?_;(refine qcg rfl rfl rfl (fun hg=>(by have hg0:=hg;(try simp at hg);exact qac call78 (qk1 _) ⟨qap,trivial⟩)) ?_);refine t20 ?_;(refine qcg rfl rfl rfl (fun hg=>(by have hg0:=hg;(try simp at hg);exact qac call237 (qfl (⟨(⟨_,_,_,_⟩:Rw),_,_,_,(⟨_,_⟩:Pt)⟩:Vs)) ⟨qbg,trivial⟩)) ?_);(refine qcg rfl rfl rfl (fun hg=>(by have hg0:=hg;(try simp at hg);exact op_notX (Ev.sub rfl (SubL.iteT (by assumption) SubL.rfl')))) ?_);refine qao rfl (op_orX (er rfl) rfl (fun h=>SubL.iteT (by rw [h];rfl) SubL.rfl')) ?_;(refine qh0 59 rfl ?_;intro b59);refine t3 ?_;(refine qcg rfl rfl rfl (fun hg=>(by have hg0:=hg;(try simp at hg);exact qac call30 (qb5 _) ⟨qap,trivial⟩)) ?_);refine t4 ?_;refine cN ?_ ?_<;>intro h7
 ·refine t8 ?_;exact quf (_,_) results217 (hp:=by exact wl0)
 refine t6 ?_;refine qao rfl (by ((refine qac call215 (qf8 _ (⟨(⟨_,_,_,_⟩:Rw),_,_,_,(⟨_,_⟩:Pt)⟩:Vs) ?_) ⟨qbg,⟨qbg,trivial⟩⟩);all_goals (first|first|assumption|exact qhu _ _ _ _|exact qfb _ ⟨de,de⟩))) ?_;refine t4 ?_;intro i10;refine t5 ?_;refine qfe (b:=i10) (fun _=>qaf) ?_;intro p10 hln10;refine t3 ?_;refine qao rfl (by ((refine qac call215 (qf8 _ (⟨(⟨_,_,_,_⟩:Rw),_,_,_,(⟨_,_⟩:Pt)⟩:Vs) ?_) ⟨qbg,⟨qbg,trivial⟩⟩);all_goals (first|first|assumption|exact qhu _ _ _ _|exact qfb _ ⟨de,de⟩))) ?_;refine t4 ?_;intro i12;refine t5 ?_;refine qfe (b:=i12) (fun _=>qaf) ?_;intro p12 hln12;refine t3 ?_;refine Z15 ?_;refine qao rfl (by ((refine qau call88 (qb8 _ _ ?_) ⟨qap,⟨qap,trivial⟩⟩);all_goals ((simp;done)))) ?_;refine t5 ?_;exact quf (qck [] [p10,p12],_) results217 (hp:=by exact qgw (n:=0) wl0 (wl2 (n:=0) hln10 hln12) de)
end Go.Proofs.YteafmggidjjdgaaGreatDoor
