/- Texts laid together: walks of functions, what they compute, and plain laws of it. Own work. -/
import Derived.Test.YtmgoplaamlignaaGreatK10
import Derived.Test.YtmgoplaamlignaaGreatK11
import Derived.Test.YtmgoplaamlignaaGreatK12
import Derived.Test.YtmgoplaamlignaaGreatK1
namespace Go.Proofs.YtmgoplaamlignaaGreat
open Go.RowKit Tryz
set_option linter.unusedVariables false
set_option linter.unusedSimpArgs false
set_option maxRecDepth 100000
set_option maxHeartbeats 4000000
def cmpI (a b:Int):Int:=if a<b then -1 else if a>b then 1 else 0
theorem qhe (a b:Int):decide (cmpI a b<0)=decide (a<b):=by
 unfold cmpI
 by_cases h:a<b
 ·simp [h]
 ·by_cases h2:a>b <;> simp [h,h2]
theorem qxa (a:Int):FnP Tryz.prog 102 [Is (.int .i64 a)] (Is (.bool false)):=by
 refine FnP.enter func102 ntmps102 rfl rfl ?_
 intro c hX
 refine t14 ?_
 refine qa4 results102 rfl () (SubL.eq ?_) (List.nil_sublist _)
 simp
theorem qze (a b:Int):FnP Tryz.prog 77 [Is (.int .i64 a),Is (.int .i64 b)] (Is (.int .i64 (cmpI a b))):=by
 refine FnP.enter func77 ntmps77 rfl rfl ?_
 intro c hX
 refine t8 ?_
 refine qap rfl (qac call102 (qxa _) ⟨evS,trivial⟩) ?_
 refine t6 ?_
 refine qap rfl (qac call102 (qxa _) ⟨evS,trivial⟩) ?_
 refine t9 ?_
 refine cN ?_ ?_ <;> intro h3
 ·exact absurd h3 (by simp)
 refine t8 ?_
 refine cN ?_ ?_ <;> intro h7
 ·exact absurd h7 (by simp)
 refine t10 ?_
 refine cN ?_ ?_ <;> intro h9
 ·have h:a<b:=of_decide_eq_true h9
  have e:cmpI a b = -1:=by unfold cmpI;rw [if_pos h]
  refine t7 ?_
  refine qa4 results77 rfl () (SubL.eq ?_) (List.nil_sublist _)
  rw [e]
 have h:¬ a<b:=of_decide_eq_false h9
 refine t10 ?_
 refine cN ?_ ?_ <;> intro h11
 ·have h':a>b:=of_decide_eq_true h11
  have e:cmpI a b=1:=by unfold cmpI;rw [if_neg h,if_pos h']
  refine t7 ?_
  refine qa4 results77 rfl () (SubL.eq ?_) (List.nil_sublist _)
  rw [e]
 have h':¬ a>b:=of_decide_eq_false h11
 have e:cmpI a b=0:=by unfold cmpI;rw [if_neg h,if_neg h']
 refine t8 ?_
 refine qa4 results77 rfl () (SubL.eq ?_) (List.nil_sublist _)
 rw [e]
theorem qr3 (p q:Pg):FnP Tryz.prog 76 [qdw p,qdw q] (Is (.int .i64 (cmpI p.l q.l))):=by
 refine FnP.enter func76 ntmps76 rfl rfl ?_
 intro c hX
 refine t3 ?_
 intro i2
 refine s1 ?_
 intro i3
 refine t9 ?_
 refine qap rfl (qac call77 (qze _ _) ⟨evS,⟨evS,trivial⟩⟩) ?_
 refine t4 ?_
 refine qa4 results76 rfl () (SubL.eq ?_) (List.nil_sublist _)
 rfl
@[reducible] def qrq:Value:=.func (.func 76) #[] #[]
set_option maxHeartbeats 1000000 in
theorem qiz (xs:List Pg) (n:Nat) (i:Option Addr×Nat) (a b m:Nat) (hab:a+m≤b) (hbn:b+m≤xs.length) (hn:xs.length≤1048576) :
  Fn Tryz.prog 175 [Is (slV n i),Is (.int .i64 (a:Int)),Is (.int .i64 (b:Int)),Is (.int .i64 (m:Int)),Is qrq] [buf (slV n i) 53 tPg xs]
   (fun _:{ys:List Pg // (∀ k,ys[k]?=swF xs a b m k)∧PI a (b+m) xs ys}=>qbv []) (fun ys=>[buf (slV n i) 53 tPg ys.1]):=by
 refine Fn.enterN func175 ntmps175 rfl rfl ?_
 intro c hX
 refine t6 ?_
 refine qbr (fun z:Nat×List Pg=>z.1≤m∧(∀ k,z.2[k]?=swF xs a b z.1 k)∧PI a (b+m) xs z.2) (fun z=>[(0,Is (slV n i)),(1,Is (.int .i64 (a:Int))),(2,Is (.int .i64 (b:Int))),(3,Is (.int .i64 (m:Int))),(10,Is (.int .i64 (z.1:Nat)))]) (fun z=>[buf (slV n i) 53 tPg z.2]) (fun z=>m-z.1) (0,xs) ⟨Nat.zero_le _,fun k=>by unfold swF;rw [if_neg (by omega),if_neg (by omega)],PI.rfl'⟩ qbl qab ?_
 rintro ⟨k,zs⟩ ⟨hk,hz,hp⟩
 dsimp only at hk hz hp ⊢
 have hzl:=hp.len
 refine t8 ?_
 refine cN ?_ ?_ <;> intro h1
 ·have hkm:k<m:=by have:=of_decide_eq_true h1;omega
  clear h1
  obtain ⟨x,hx⟩:∃ x,zs[a+k]?=some x:=⟨zs[a+k],List.getElem?_eq_getElem (by omega)⟩
  obtain ⟨y,hy⟩:∃ y,zs[b+k]?=some y:=⟨zs[b+k],List.getElem?_eq_getElem (by omega)⟩
  have hy2:(zs.set (a+k) y)[b+k]?=some y:=by rw [List.getElem?_set_ne (by omega)];exact hy
  refine t4 ?_
  refine qa0 rfl (by kernel_rfl) ?_
  refine qct [0,0,0,0,0,0,0,0,0,0,0,0,1,1,0,0,0,0,1,1,1,2,1,2] (by kernel_rfl) (by kernel_rfl) ?_
  refine qb7 (qay rfl) ?_
  refine qb7 (qay rfl) ?_
  refine qb7 (qay rfl) ?_
  refine qb7 (qft (er rfl) (er rfl) qfv) ?_
  refine qb7 (qay rfl) ?_
  refine qb7 (qay rfl) ?_
  refine qb7 (qay rfl) ?_
  refine qb7 (qft (er rfl) (er rfl) qfv) ?_
  refine qb7 (qay rfl) ?_
  refine qb7 (qay rfl) ?_
  refine qb7 (qay rfl) ?_
  refine qb7 (qft (er rfl) (er rfl) qfv) ?_
  refine qc4 (by exact qao (k:=b+k) (er rfl) qbp (er rfl) rfl rfl qca qbt) ?_
  refine qc4 (by exact qbd (er rfl) qbp hy rfl rfl rfl) ?_
  refine qb7 (qay rfl) ?_
  refine qb7 (qay rfl) ?_
  refine qb7 (qay rfl) ?_
  refine qb7 (qft (er rfl) (er rfl) qfv) ?_
  refine qc4 (by exact qao (k:=a+k) (er rfl) qbp (er rfl) rfl rfl qca qbt) ?_
  refine qc4 (by exact qbd (er rfl) qbp hx rfl rfl rfl) ?_
  refine qc4 (by exact qao (k:=a+k) (er rfl) qbp (er rfl) rfl rfl qca qbt) ?_
  refine qiy (by exact qc8 (z':=y) (er rfl) (er rfl) qbn qae hx rfl rf rf) ?_
  refine qc4 (by exact qao (k:=b+k) (er rfl) qbp (er rfl) rfl rfl qca qbt) ?_
  refine qiy (by exact qc8 (z':=x) (er rfl) (er rfl) qbn qae hy2 rfl rf rf) ?_
  refine qeu ?_
  refine qat ?_
  refine t7 ?_
  exact qaa (k+1,(zs.set (a+k) y).set (b+k) x) ⟨by dsimp only;omega,swF_step (by omega) hz hx hy,hp.tr (sw_PI hx hy (by omega) (by omega))⟩ (by dsimp only;omega) qbl qab
 have hkm:k=m:=by have:=of_decide_eq_false h1;omega
 subst hkm
 refine t5 ?_
 exact qed (Bs:=[]) results175 trivial ⟨zs,hz,hp⟩ SubL.rfl' qab
set_option maxHeartbeats 1000000 in
theorem zaf (xs:List Pg) (n:Nat) (i:Option Addr×Nat) (a m b:Nat) (ham:a<m) (hmb:m<b) (hbn:b≤xs.length) (hn:xs.length≤1048576) :
  Fn Tryz.prog 152 [Is (slV n i),Is (.int .i64 (a:Int)),Is (.int .i64 (m:Int)),Is (.int .i64 (b:Int)),Is qrq] [buf (slV n i) 53 tPg xs]
   (fun _:{ys:List Pg // (∀ k,ys[k]?=qqs (fun k=>xs[k]?) a m b k)∧PI a b xs ys}=>qbv []) (fun ys=>[buf (slV n i) 53 tPg ys.1]):=by
 refine Fn.enterN func152 ntmps152 rfl rfl ?_
 intro c hX
 refine t18 ?_
 refine qbr (fun z:(Nat×Nat)×List Pg=>0<z.1.1∧z.1.1≤m-a∧0<z.1.2∧z.1.2≤b-m∧(∀ k,qqs (fun k=>z.2[k]?) (m-z.1.1) m (m+z.1.2) k=qqs (fun k=>xs[k]?) a m b k)∧PI a b xs z.2) (fun z=>[(0,Is (slV n i)),(2,Is (.int .i64 (m:Int))),(4,Is qrq),(10,Is (.int .i64 (z.1.1:Nat))),(11,Is (.int .i64 (z.1.2:Nat)))]) (fun z=>[buf (slV n i) 53 tPg z.2]) (fun z=>z.1.1+z.1.2) ((m-a,b-m),xs) ⟨by dsimp only;omega,by dsimp only;omega,by dsimp only;omega,by dsimp only;omega,fun k=>by dsimp only;rw [show m-(m-a)=a by omega,show m+(b-m)=b by omega],PI.rfl'⟩ ⟨⟨_,rfl,SubL.rfl'⟩,⟨_,rfl,SubL.rfl'⟩,⟨_,rfl,SubL.rfl'⟩,⟨_,rfl,SubL.eq (by dsimp only;congr 2;omega)⟩,⟨_,rfl,SubL.eq (by dsimp only;congr 2;omega)⟩,trivial⟩ qab ?_
 rintro ⟨⟨p,q⟩,zs⟩ ⟨hp0,hpm,hq0,hqm,hz,hpi⟩
 dsimp only at hp0 hpm hq0 hqm hz hpi ⊢
 have hzl:=hpi.len
 refine t8 ?_
 refine cN ?_ ?_ <;> intro h2
 ·have hne:p≠q:=fun e=>by subst e;simp at h2
  clear h2
  refine t10 ?_
  refine cN ?_ ?_ <;> intro h3
  ·have hlt:q<p:=by have:=of_decide_eq_true h3;omega
   clear h3
   refine t6 ?_
   refine qge 27 (Is (.int .i64 ((m-p:Nat):Int))) rfl (SubL.eq (by congr 2;omega)) ?_
   refine t3 ?_
   (refine qe6 rfl (by ((refine qdy qbh call175 (qiz zs n i (m-p) m q ?_ ?_ ?_) ⟨evS,⟨evS,⟨evS,⟨evS,⟨evS,trivial⟩⟩⟩⟩⟩);all_goals (omega))) ?_;intro i31)
   refine t2 ?_
   obtain ⟨ys,hy1,hy2⟩:=i31
   dsimp only
   have hrl:=rot_left (f:=fun k=>zs[k]?) (g:=fun k=>ys[k]?) (m:=m) (i:=p) (j:=q) (by omega) hq0 hlt (fun k=>by rw [hy1];rfl)
   refine t7 ?_
   exact qaa ((p-q,q),ys) ⟨by dsimp only;omega,by dsimp only;omega,hq0,hqm,fun k=>by dsimp only;rw [hrl];exact hz k,hpi.tr (hy2.wide (by omega) (by omega))⟩ (by dsimp only;omega) ⟨⟨_,rfl,SubL.rfl'⟩,⟨_,rfl,SubL.rfl'⟩,⟨_,rfl,SubL.rfl'⟩,⟨_,rfl,SubL.eq (by dsimp only;congr 2;omega)⟩,⟨_,rfl,SubL.rfl'⟩,trivial⟩ qab
  have hlt:p<q:=by have:=of_decide_eq_false h3;omega
  clear h3
  refine t6 ?_
  refine qge 38 (Is (.int .i64 ((m-p:Nat):Int))) rfl (SubL.eq (by congr 2;omega)) ?_
  refine t5 ?_
  refine qge 43 (Is (.int .i64 ((m+q-p:Nat):Int))) rfl (SubL.eq (by congr 2;omega)) ?_
  refine t2 ?_
  (refine qe6 rfl (by ((refine qdy qbh call175 (qiz zs n i (m-p) (m+q-p) p ?_ ?_ ?_) ⟨evS,⟨evS,⟨evS,⟨evS,⟨evS,trivial⟩⟩⟩⟩⟩);all_goals (omega))) ?_;intro i46)
  refine t2 ?_
  obtain ⟨ys,hy1,hy2⟩:=i46
  dsimp only
  have hrl:=zag (f:=fun k=>zs[k]?) (g:=fun k=>ys[k]?) (m:=m) (i:=p) (j:=q) (by omega) hp0 hlt (fun k=>by rw [hy1];rfl)
  refine t7 ?_
  exact qaa ((p,q-p),ys) ⟨hp0,hpm,by dsimp only;omega,by dsimp only;omega,fun k=>by dsimp only;rw [hrl];exact hz k,hpi.tr (hy2.wide (by omega) (by omega))⟩ (by dsimp only;omega) ⟨⟨_,rfl,SubL.rfl'⟩,⟨_,rfl,SubL.rfl'⟩,⟨_,rfl,SubL.rfl'⟩,⟨_,rfl,SubL.rfl'⟩,⟨_,rfl,SubL.eq (by dsimp only;congr 2;omega)⟩,trivial⟩ qab
 have h2':(p:Int)=q:=(by simpa using h2)
 have hpq:p=q:=by omega
 subst hpq
 clear h2
 refine t10 ?_
 refine qge 53 (Is (.int .i64 ((m-p:Nat):Int))) rfl (SubL.eq (by congr 2;omega)) ?_
 refine t3 ?_
 (refine qe6 rfl (by ((refine qdy qbh call175 (qiz zs n i (m-p) m p ?_ ?_ ?_) ⟨evS,⟨evS,⟨evS,⟨evS,⟨evS,trivial⟩⟩⟩⟩⟩);all_goals (omega))) ?_;intro i57)
 refine t2 ?_
 obtain ⟨ys,hy1,hy2⟩:=i57
 dsimp only
 have hrl:=rot_even (f:=fun k=>zs[k]?) (g:=fun k=>ys[k]?) (m:=m) (i:=p) (by omega) (fun k=>by rw [hy1];rfl)
 exact qed (Bs:=[]) results152 trivial ⟨ys,fun k=>by rw [← hz k];exact hrl k,hpi.tr (hy2.wide (by omega) (by omega))⟩ SubL.rfl' qab
set_option maxHeartbeats 1000000 in
theorem qmr (xs:List Pg) (n:Nat) (i:Option Addr×Nat) (a b:Nat) (hab:a≤b) (hbn:b≤xs.length) (hn:xs.length≤1048576) :
  Fn Tryz.prog 122 [Is (slV n i),Is (.int .i64 (a:Int)),Is (.int .i64 (b:Int)),Is qrq] [buf (slV n i) 53 tPg xs]
   (fun _:{ys:List Pg // Srt Pg.l a b ys∧PI a b xs ys}=>qbv []) (fun ys=>[buf (slV n i) 53 tPg ys.1]):=by
 refine Fn.enterN func122 ntmps122 rfl rfl ?_
 intro c hX
 refine t8 ?_
 refine qbr (fun z:Nat×List Pg=>a+1≤z.1∧z.1≤max b (a+1)∧Srt Pg.l a z.1 z.2∧PI a b xs z.2) (fun z=>[(0,Is (slV n i)),(1,Is (.int .i64 (a:Int))),(2,Is (.int .i64 (b:Int))),(3,Is qrq),(8,Is (.int .i64 (z.1:Nat)))]) (fun z=>[buf (slV n i) 53 tPg z.2]) (fun z=>b-z.1) (a+1,xs) ⟨Nat.le_refl _,by omega,Srt.one (by omega),PI.rfl'⟩ ⟨⟨_,rfl,SubL.rfl'⟩,⟨_,rfl,SubL.rfl'⟩,⟨_,rfl,SubL.rfl'⟩,⟨_,rfl,SubL.rfl'⟩,⟨_,rfl,SubL.eq (by congr 2)⟩,trivial⟩ qab ?_
 rintro ⟨q,zs⟩ ⟨hq0,hqb,hs,hpi⟩
 dsimp only at hq0 hqb hs hpi ⊢
 refine t8 ?_
 refine cN ?_ ?_ <;> intro h1
 ·have hqlt:q<b:=by have:=of_decide_eq_true h1;omega
  clear h1
  refine t11 ?_
  refine qbr (fun z:Nat×List Pg=>a≤z.1∧z.1≤q∧Flt Pg.l a q z.1 z.2∧PI a b xs z.2) (fun z=>[(0,Is (slV n i)),(1,Is (.int .i64 (a:Int))),(2,Is (.int .i64 (b:Int))),(3,Is qrq),(8,Is (.int .i64 (q:Nat))),(9,Is (.int .i64 (z.1:Nat)))]) (fun z=>[buf (slV n i) 53 tPg z.2]) (fun z=>z.1) (q,zs) ⟨by dsimp only;omega,Nat.le_refl _,Flt.start hs,hpi⟩ qbl qab ?_
  rintro ⟨j,us⟩ ⟨hj0,hjq,hf,hpu⟩
  dsimp only at hj0 hjq hf hpu ⊢
  have hul:=hpu.len
  obtain ⟨x,hx⟩:∃ x,us[j]?=some x:=⟨us[j],List.getElem?_eq_getElem (by omega)⟩
  obtain ⟨y,hy⟩:∃ y,us[j-1]?=some y:=⟨us[j-1],List.getElem?_eq_getElem (by omega)⟩
  refine t2 ?_
  refine qa0 rfl (by kernel_rfl) ?_
  refine qag 17 (by kernel_rfl) ?_
  refine t7 ?_
  (refine qem rfl rfl (fun hg=>(by have hg0:=hg;(try simp at hg);exact qao (k:=j) evG qbp evG rfl rfl qca qbt)) ?_)
  (refine qem rfl rfl (fun hg=>(by have hg0:=hg;(try simp at hg);exact qbd evG qbp hx rfl rfl rfl)) ?_)
  refine t3 ?_
  (refine qem rfl rfl (fun hg=>(by have hg0:=hg;(try simp at hg);exact qao (k:=j-1) evG qbp evG rfl rfl qca qbt)) ?_)
  (refine qem rfl rfl (fun hg=>(by have hg0:=hg;(try simp at hg);exact qbd evG qbp hy rfl rfl rfl)) ?_)
  (refine qem rfl rfl (fun hg=>(by have hg0:=hg;(try simp at hg);exact qi4 evG call76 (qr3 _ _) ⟨evS,⟨evS,trivial⟩⟩)) ?_)
  refine t2 ?_
  refine ⟨rfl,?_⟩
  refine qat ?_
  refine s1 ?_
  refine cN ?_ ?_ <;> intro h4
  ·have h5:(a:Int)<j∧x.l<y.l:=by
    rw [qhe,Bool.and_eq_true] at h4
    exact ⟨of_decide_eq_true h4.1,of_decide_eq_true h4.2⟩
   clear h4
   have hj1:(us.set j y)[j-1]?=some y:=by rw [List.getElem?_set_ne (by omega)];exact hy
   refine t4 ?_
   refine qa0 rfl (by kernel_rfl) ?_
   refine qct [0,0,0,0,0,0,0,0,1,1,0,0,1,1,1,2,1,2] (by kernel_rfl) (by kernel_rfl) ?_
   refine qb7 (qay rfl) ?_
   refine qb7 (qay rfl) ?_
   refine qb7 (qay rfl) ?_
   refine qb7 (qay rfl) ?_
   refine qb7 (qip (er rfl) (er rfl) qfv) ?_
   refine qb7 (qay rfl) ?_
   refine qb7 (qay rfl) ?_
   refine qb7 (qip (er rfl) (er rfl) qfv) ?_
   refine qc4 (by exact qao (k:=j-1) (er rfl) qbp (er rfl) rfl rfl qca qbt) ?_
   refine qc4 (by exact qbd (er rfl) qbp hy rfl rfl rfl) ?_
   refine qb7 (qay rfl) ?_
   refine qb7 (qay rfl) ?_
   refine qc4 (by exact qao (k:=j) (er rfl) qbp (er rfl) rfl rfl qca qbt) ?_
   refine qc4 (by exact qbd (er rfl) qbp hx rfl rfl rfl) ?_
   refine qc4 (by exact qao (k:=j) (er rfl) qbp (er rfl) rfl rfl qca qbt) ?_
   refine qiy (by exact qc8 (z':=y) (er rfl) (er rfl) qbn qae hx rfl rf rf) ?_
   refine qc4 (by exact qao (k:=j-1) (er rfl) qbp (er rfl) rfl rfl qca qbt) ?_
   refine qiy (by exact qc8 (z':=x) (er rfl) (er rfl) qbn qae hj1 rfl rf rf) ?_
   refine qeu ?_
   refine qat ?_
   refine t7 ?_
   exact qaa (j-1,(us.set j y).set (j-1) x) ⟨by dsimp only;omega,by dsimp only;omega,hf.step (by omega) hjq hx hy h5.2,hpu.tr (sw_PI hx hy (by omega) (by omega))⟩ (by dsimp only;omega) ⟨⟨_,rfl,SubL.rfl'⟩,⟨_,rfl,SubL.rfl'⟩,⟨_,rfl,SubL.rfl'⟩,⟨_,rfl,SubL.rfl'⟩,⟨_,rfl,SubL.rfl'⟩,⟨_,rfl,SubL.eq (by dsimp only;congr 2;omega)⟩,trivial⟩ qab
  have hdn:Srt Pg.l a (q+1) us:=by
   refine hf.done hjq ?_
   by_cases hja:j=a
   ·exact .inl hja
   ·refine .inr ⟨by omega,fun x' y' hx' hy'=>?_⟩
    rw [hx] at hx';cases hx'
    rw [hy] at hy';cases hy'
    have h5:decide ((j:Int)>a)=true:=by simp;omega
    rw [qhe,h5,Bool.true_and] at h4
    have:=of_decide_eq_false h4
    omega
  clear h4
  refine t11 ?_
  exact qaa (q+1,us) ⟨by dsimp only;omega,by dsimp only;omega,hdn,hpu⟩ (by dsimp only;omega) qbl qab
 have hqe:b≤q:=by have:=of_decide_eq_false h1;omega
 refine t5 ?_
 exact qed (Bs:=[]) results122 trivial ⟨zs,hs.sub (Nat.le_refl _) hqe,hpi⟩ SubL.rfl' qab
end Go.Proofs.YtmgoplaamlignaaGreat
