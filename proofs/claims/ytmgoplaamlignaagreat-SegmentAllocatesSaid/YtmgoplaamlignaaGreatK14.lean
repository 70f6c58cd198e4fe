/- Texts laid together: walks of functions, what they compute, and plain laws of it. Own work. -/
import Derived.Test.YtmgoplaamlignaaGreatK13
import Derived.Test.YtmgoplaamlignaaGreatK1
namespace Go.Proofs.YtmgoplaamlignaaGreat
open Go.RowKit Tryz
set_option linter.unusedVariables false
set_option linter.unusedSimpArgs false
set_option maxRecDepth 100000
set_option maxHeartbeats 4000000
theorem qq2 {P:Program} {c:Ctx} {A:Nat→Option VP} {L:List Item} {d:Option Tmp} {ty:TypeId} {pos:String} {af:Array Edge} {g:Option (Nat×Bool)} {x y:Operand} {t u:TypeId} {n:Int} {m:Nat}
  (hx:Ev A L x (Is (.int .u64 n))) (hy:Ev A L y (Is (.int .u64 1))) (hn:n=(m:Int)):OpP P c ⟨d,.binOp .shr t x y u,ty,pos,af,g⟩ A L (Is (.int .u64 ((m / 2:Nat):Int))):=
 qs6 hx hy (by omega) (by
  subst hn
  have:(2:Int) ^ (min (1:Int).toNat IntKind.u64.bits)=2:=rfl
  rw [this,Int.fdiv_eq_ediv_of_nonneg _ (by omega)]
  omega)
structure LoB (a b p q:Nat) (x:Pg) (xs:List Pg):Prop where
 lt:∀ r u,a≤r→r<p→xs[r]?=some u→u.l<x.l
 ge:∀ r u,q≤r→r<b→xs[r]?=some u→x.l≤u.l
structure UpB (a b p q:Nat) (x:Pg) (xs:List Pg):Prop where
 le:∀ r u,a≤r→r<p→xs[r]?=some u→u.l≤x.l
 gt:∀ r u,q≤r→r<b→xs[r]?=some u→x.l<u.l
theorem lob_rgt {a b p:Nat} {x:Pg} {xs:List Pg} (h:LoB (a+1) b p p x xs) (hs:Srt Pg.l (a+1) b xs) (hx:xs[a]?=some x) (hp:a+1≤p):Rgt Pg.l a b p a x xs:=
 ⟨hx,fun i j u v h1 h2 h3 h4 h5 hu hv=>hs i j u v (by omega) h2 h3 hu hv,fun i u h1 h2 h3 hu=>Int.le_of_lt (h.lt i u (by omega) h2 hu),fun i u h1 h2 hu=>h.ge i u h1 h2 hu⟩
theorem upb_lft {a m p:Nat} {x:Pg} {xs:List Pg} (h:UpB a m p p x xs) (hs:Srt Pg.l a m xs) (hx:xs[m]?=some x) (hp:p≤m):Lft Pg.l a (m+1) p m x xs:=
 ⟨hx,fun i j u v h1 h2 h3 h4 h5 hu hv=>hs i j u v h1 h2 (by omega) hu hv,fun i u h1 h2 hu=>h.le i u h1 h2 hu,fun i u h1 h2 h3 hu=>Int.le_of_lt (h.gt i u h1 (by omega) hu)⟩
structure Sea (s0 r0 p:Nat) (st r:Nat) (xs:List Pg):Prop where
 lo:s0≤st
 hi:st≤r
 to:r≤r0
 c1:st=s0∨∀ u v,xs[st-1]?=some u→xs[p-(st-1)]?=some v→u.l≤v.l
 c2:r=r0∨∀ u v,xs[p-r]?=some u→xs[r]?=some v→u.l≤v.l
set_option maxHeartbeats 4000000 in
theorem qnr:∀ (fu:Nat) (xs:List Pg) (n:Nat) (i:Option Addr×Nat) (a m b:Nat),b-a≤fu→a<m→m<b→b≤xs.length→xs.length≤1048576→Srt Pg.l a m xs→Srt Pg.l m b xs →
  Fn Tryz.prog 123 [Is (slV n i),Is (.int .i64 (a:Int)),Is (.int .i64 (m:Int)),Is (.int .i64 (b:Int)),Is qrq] [buf (slV n i) 53 tPg xs]
   (fun _:{ys:List Pg // Srt Pg.l a b ys∧PI a b xs ys}=>qbv []) (fun ys=>[buf (slV n i) 53 tPg ys.1]):=by
 intro fu
 induction fu with
 | zero=>intro xs n i a m b h1 h2 h3;omega
 | succ fu ih =>
  intro xs n i a m b hfu ham hmb hbn hn hs1 hs2
  obtain ⟨xa,hxa⟩:∃ x,xs[a]?=some x:=⟨xs[a],List.getElem?_eq_getElem (by omega)⟩
  obtain ⟨xm,hxm⟩:∃ x,xs[m]?=some x:=⟨xs[m],List.getElem?_eq_getElem (by omega)⟩
  refine Fn.enterN func123 ntmps123 rfl rfl ?_
  intro c hX
  refine t9 ?_
  refine cN ?_ ?_ <;> intro h0
  ·have hm1:m=a+1:=by have h0':(m:Int)-a=1:=(by simpa using h0);omega
   subst hm1
   clear h0
   refine t14 ?_
   refine qbr (fun z:Nat×Nat=>a+1≤z.1∧z.1≤z.2∧z.2≤b∧LoB (a+1) b z.1 z.2 xa xs) (fun z=>[(0,Is (slV n i)),(1,Is (.int .i64 (a:Int))),(4,Is qrq),(10,Is (.int .i64 (z.1:Nat))),(11,Is (.int .i64 (z.2:Nat)))]) (fun z=>[buf (slV n i) 53 tPg xs]) (fun z=>z.2-z.1) (a+1,b) ⟨Nat.le_refl _,by dsimp only;omega,Nat.le_refl _,⟨fun r u h1 h2=>by dsimp only at h2;omega,fun r u h1 h2=>by dsimp only at h1;omega⟩⟩ qbl qab ?_
   rintro ⟨p,q⟩ ⟨hp0,hpq,hqb,hl⟩
   dsimp only at hp0 hpq hqb hl ⊢
   refine t8 ?_
   refine cN ?_ ?_ <;> intro h3
   ·have hlt:p<q:=by have:=of_decide_eq_true h3;omega
    clear h3
    obtain ⟨y,hy⟩:∃ y,xs[(p+q) / 2]?=some y:=⟨xs[(p+q) / 2],List.getElem?_eq_getElem (by omega)⟩
    refine t9 ?_
    refine qap rfl (qq2 (m:=p+q) (er rfl) (er rfl) (by omega)) ?_
    refine t5 ?_
    refine qa0 rfl (by kernel_rfl) ?_
    refine qag 11 (by kernel_rfl) ?_
    refine t3 ?_
    refine qbc (by exact qao (k:=(p+q) / 2) (er rfl) qbp (er rfl) rfl rfl qca qbt) ?_
    refine qbc (by exact qbd (er rfl) qbp hy rfl rfl rfl) ?_
    refine t2 ?_
    refine qbc (by exact qao (k:=a) (er rfl) qbp (er rfl) rfl rfl qca qbt) ?_
    refine qbc (by exact qbd (er rfl) qbp hxa rfl rfl rfl) ?_
    refine qbc (qi4 (er rfl) call76 (qr3 _ _) ⟨evS,⟨evS,trivial⟩⟩) ?_
    refine s1 ?_
    refine ⟨rfl,?_⟩
    refine qat ?_
    refine s1 ?_
    refine cN ?_ ?_ <;> intro h5
    ·have hc:y.l<xa.l:=by rw [qhe] at h5;exact of_decide_eq_true h5
     clear h5
     refine t6 ?_
     exact qaa ((p+q) / 2+1,q) ⟨by dsimp only;omega,by dsimp only;omega,hqb,⟨fun r u h1 h2 hu=>Int.lt_of_le_of_lt (hs2.le (i:=r) (j:=(p+q) / 2) h1 (by dsimp only at h2;omega) (by omega) hu hy) hc,hl.ge⟩⟩ (by dsimp only;omega) qbl qab
    have hc:xa.l≤y.l:=by rw [qhe] at h5;have:=of_decide_eq_false h5;omega
    clear h5
    refine t5 ?_
    exact qaa (p,(p+q) / 2) ⟨hp0,by dsimp only;omega,by dsimp only;omega,⟨hl.lt,fun r u h1 h2 hu=>Int.le_trans hc (hs2.le (i:=(p+q) / 2) (j:=r) (by omega) h1 h2 hy hu)⟩⟩ (by dsimp only;omega) qbl qab
   have hpe:p=q:=by have:=of_decide_eq_false h3;omega
   subst hpe
   clear h3
   refine t13 ?_
   refine qbr (fun z:Nat×List Pg=>a≤z.1∧z.1+1≤p∧Rgt Pg.l a b p z.1 xa z.2∧PI a b xs z.2) (fun z=>[(0,Is (slV n i)),(10,Is (.int .i64 (p:Nat))),(13,Is (.int .i64 (z.1:Nat)))]) (fun z=>[buf (slV n i) 53 tPg z.2]) (fun z=>p-z.1) (a,xs) ⟨Nat.le_refl _,hp0,lob_rgt hl hs2 hxa hp0,PI.rfl'⟩ qbl qab ?_
   rintro ⟨k,zs⟩ ⟨hk0,hkp,hr,hpi⟩
   dsimp only at hk0 hkp hr hpi ⊢
   have hzl:=hpi.len
   refine t9 ?_
   refine cN ?_ ?_ <;> intro h9
   ·have hlt:k+1<p:=by have:=of_decide_eq_true h9;omega
    clear h9
    have hx:=hr.at_
    obtain ⟨y,hy⟩:∃ y,zs[k+1]?=some y:=⟨zs[k+1],List.getElem?_eq_getElem (by omega)⟩
    have hy2:(zs.set k y)[k+1]?=some y:=by rw [List.getElem?_set_ne (by omega)];exact hy
    refine t4 ?_
    refine qa0 rfl (by kernel_rfl) ?_
    refine qct [0,0,0,0,0,0,0,0,1,1,0,0,1,1,1,2,1,2] (by kernel_rfl) (by kernel_rfl) ?_
    refine qb7 (qay rfl) ?_
    refine qb7 (qay rfl) ?_
    refine qb7 (qay rfl) ?_
    refine qb7 (qay rfl) ?_
    refine qb7 (qft (er rfl) (er rfl) qfv) ?_
    refine qb7 (qay rfl) ?_
    refine qb7 (qay rfl) ?_
    refine qb7 (qft (er rfl) (er rfl) qfv) ?_
    refine qc4 (by exact qao (k:=k+1) (er rfl) qbp (er rfl) rfl rfl qca qbt) ?_
    refine qc4 (by exact qbd (er rfl) qbp hy rfl rfl rfl) ?_
    refine qb7 (qay rfl) ?_
    refine qb7 (qay rfl) ?_
    refine qc4 (by exact qao (k:=k) (er rfl) qbp (er rfl) rfl rfl qca qbt) ?_
    refine qc4 (by exact qbd (er rfl) qbp hx rfl rfl rfl) ?_
    refine qc4 (by exact qao (k:=k) (er rfl) qbp (er rfl) rfl rfl qca qbt) ?_
    refine qiy (by exact qc8 (z':=y) (er rfl) (er rfl) qbn qae hx rfl rf rf) ?_
    refine qc4 (by exact qao (k:=k+1) (er rfl) qbp (er rfl) rfl rfl qca qbt) ?_
    refine qiy (by exact qc8 (z':=xa) (er rfl) (er rfl) qbn qae hy2 rfl rf rf) ?_
    refine qeu ?_
    refine qat ?_
    refine t7 ?_
    exact qaa (k+1,(zs.set k y).set (k+1) xa) ⟨by dsimp only;omega,by dsimp only;omega,hr.step hk0 hlt hqb hy,hpi.tr (sw_PI hx hy (by omega) (by omega))⟩ (by dsimp only;omega) qbl qab
   have hke:k+1=p:=by have:=of_decide_eq_false h9;omega
   refine t7 ?_
   exact qed (Bs:=[]) results123 trivial ⟨zs,hr.done hke,hpi⟩ SubL.rfl' qab
  have hm1:¬ m=a+1:=fun e=>by subst e;simp at h0;omega
  clear h0
  refine t11 ?_
  refine cN ?_ ?_ <;> intro h12
  ·have hb1:b=m+1:=by have h0':(b:Int)-m=1:=(by simpa using h12);omega
   subst hb1
   clear h12
   refine t14 ?_
   refine qbr (fun z:Nat×Nat=>a≤z.1∧z.1≤z.2∧z.2≤m∧UpB a m z.1 z.2 xm xs) (fun z=>[(0,Is (slV n i)),(2,Is (.int .i64 (m:Int))),(4,Is qrq),(14,Is (.int .i64 (z.1:Nat))),(15,Is (.int .i64 (z.2:Nat)))]) (fun z=>[buf (slV n i) 53 tPg xs]) (fun z=>z.2-z.1) (a,m) ⟨Nat.le_refl _,by dsimp only;omega,Nat.le_refl _,⟨fun r u h1 h2=>by dsimp only at h2;omega,fun r u h1 h2=>by dsimp only at h1;omega⟩⟩ qbl qab ?_
   rintro ⟨p,q⟩ ⟨hp0,hpq,hqb,hl⟩
   dsimp only at hp0 hpq hqb hl ⊢
   refine t8 ?_
   refine cN ?_ ?_ <;> intro h15
   ·have hlt:p<q:=by have:=of_decide_eq_true h15;omega
    clear h15
    obtain ⟨y,hy⟩:∃ y,xs[(p+q) / 2]?=some y:=⟨xs[(p+q) / 2],List.getElem?_eq_getElem (by omega)⟩
    refine t9 ?_
    refine qap rfl (qq2 (m:=p+q) (er rfl) (er rfl) (by omega)) ?_
    refine t5 ?_
    refine qa0 rfl (by kernel_rfl) ?_
    refine qag 12 (by kernel_rfl) ?_
    refine t3 ?_
    refine qbc (by exact qao (k:=m) (er rfl) qbp (er rfl) rfl rfl qca qbt) ?_
    refine qbc (by exact qbd (er rfl) qbp hxm rfl rfl rfl) ?_
    refine t2 ?_
    refine qbc (by exact qao (k:=(p+q) / 2) (er rfl) qbp (er rfl) rfl rfl qca qbt) ?_
    refine qbc (by exact qbd (er rfl) qbp hy rfl rfl rfl) ?_
    refine qbc (qi4 (er rfl) call76 (qr3 _ _) ⟨evS,⟨evS,trivial⟩⟩) ?_
    refine t2 ?_
    refine ⟨rfl,?_⟩
    refine qat ?_
    refine s1 ?_
    refine cN ?_ ?_ <;> intro h17
    ·have hc:y.l≤xm.l:=by rw [qhe] at h17;simp at h17;omega
     clear h17
     refine t6 ?_
     exact qaa ((p+q) / 2+1,q) ⟨by dsimp only;omega,by dsimp only;omega,hqb,⟨fun r u h1 h2 hu=>Int.le_trans (hs1.le (i:=r) (j:=(p+q) / 2) h1 (by dsimp only at h2;omega) (by omega) hu hy) hc,hl.gt⟩⟩ (by dsimp only;omega) qbl qab
    have hc:xm.l<y.l:=by rw [qhe] at h17;simp at h17;omega
    clear h17
    refine t5 ?_
    exact qaa (p,(p+q) / 2) ⟨hp0,by dsimp only;omega,by dsimp only;omega,⟨hl.le,fun r u h1 h2 hu=>Int.lt_of_lt_of_le hc (hs1.le (i:=(p+q) / 2) (j:=r) (by omega) h1 h2 hy hu)⟩⟩ (by dsimp only;omega) qbl qab
   have hpe:p=q:=by have:=of_decide_eq_false h15;omega
   subst hpe
   clear h15
   refine t13 ?_
   refine qbr (fun z:Nat×List Pg=>p≤z.1∧z.1≤m∧Lft Pg.l a (m+1) p z.1 xm z.2∧PI a (m+1) xs z.2) (fun z=>[(0,Is (slV n i)),(14,Is (.int .i64 (p:Nat))),(17,Is (.int .i64 (z.1:Nat)))]) (fun z=>[buf (slV n i) 53 tPg z.2]) (fun z=>z.1) (m,xs) ⟨hqb,Nat.le_refl _,upb_lft hl hs1 hxm hqb,PI.rfl'⟩ qbl qab ?_
   rintro ⟨k,zs⟩ ⟨hk0,hkp,hr,hpi⟩
   dsimp only at hk0 hkp hr hpi ⊢
   have hzl:=hpi.len
   refine t8 ?_
   refine cN ?_ ?_ <;> intro h21
   ·have hlt:p<k:=by have:=of_decide_eq_true h21;omega
    clear h21
    have hx:=hr.at_
    obtain ⟨y,hy⟩:∃ y,zs[k-1]?=some y:=⟨zs[k-1],List.getElem?_eq_getElem (by omega)⟩
    have hy2:(zs.set k y)[k-1]?=some y:=by rw [List.getElem?_set_ne (by omega)];exact hy
    refine t4 ?_
    refine qa0 rfl (by kernel_rfl) ?_
    refine qct [0,0,0,0,0,0,0,0,1,1,0,0,1,1,1,2,1,2] (by kernel_rfl) (by kernel_rfl) ?_
    refine qb7 (qay rfl) ?_
    refine qb7 (qay rfl) ?_
    refine qb7 (qay rfl) ?_
    refine qb7 (qay rfl) ?_
    refine qb7 (qip (er rfl) (er rfl) qfv) ?_
    refine qb7 (qay rfl) ?_
    refine qb7 (qay rfl) ?_
    refine qb7 (qip (er rfl) (er rfl) qfv) ?_
    refine qc4 (by exact qao (k:=k-1) (er rfl) qbp (er rfl) rfl rfl qca qbt) ?_
    refine qc4 (by exact qbd (er rfl) qbp hy rfl rfl rfl) ?_
    refine qb7 (qay rfl) ?_
    refine qb7 (qay rfl) ?_
    refine qc4 (by exact qao (k:=k) (er rfl) qbp (er rfl) rfl rfl qca qbt) ?_
    refine qc4 (by exact qbd (er rfl) qbp hx rfl rfl rfl) ?_
    refine qc4 (by exact qao (k:=k) (er rfl) qbp (er rfl) rfl rfl qca qbt) ?_
    refine qiy (by exact qc8 (z':=y) (er rfl) (er rfl) qbn qae hx rfl rf rf) ?_
    refine qc4 (by exact qao (k:=k-1) (er rfl) qbp (er rfl) rfl rfl qca qbt) ?_
    refine qiy (by exact qc8 (z':=xm) (er rfl) (er rfl) qbn qae hy2 rfl rf rf) ?_
    refine qeu ?_
    refine qat ?_
    refine t7 ?_
    exact qaa (k-1,(zs.set k y).set (k-1) xm) ⟨by dsimp only;omega,by dsimp only;omega,hr.step hp0 hlt (by omega) hy,hpi.tr (sw_PI hx hy (by omega) (by omega))⟩ (by dsimp only;omega) ⟨⟨_,rfl,SubL.rfl'⟩,⟨_,rfl,SubL.rfl'⟩,⟨_,rfl,SubL.eq (ieq (by dsimp only;omega))⟩,trivial⟩ qab
   have hke:k=p:=by have:=of_decide_eq_false h21;omega
   subst hke
   refine t7 ?_
   exact qed (Bs:=[]) results123 trivial ⟨zs,hr.done,hpi⟩ SubL.rfl' qab
  have hb1:¬ b=m+1:=fun e=>by subst e;simp at h12;omega
  clear h12
  obtain ⟨mid,hmid⟩:∃ mid,(a+b) / 2=mid:=⟨_,rfl⟩
  refine t8 ?_
  refine qap rfl (qq2 (m:=a+b) (er rfl) (er rfl) (by omega)) ?_
  refine t5 ?_
  rw [hmid]
  refine t21 ?_
  refine qin (fun z:Nat×Nat=>(mid<m∧z.1=mid+m-b∧z.2=mid)∨(m≤mid∧z.1=a∧z.2=m)) (fun z=>[(0,Is (slV n i)),(1,Is (.int .i64 (a:Int))),(2,Is (.int .i64 (m:Int))),(3,Is (.int .i64 (b:Int))),(4,Is qrq),(18,Is (.int .i64 (mid:Nat))),(19,Is (.int .i64 ((mid:Int)+(m:Int)))),(20,Is (.int .i64 (z.1:Nat))),(21,Is (.int .i64 (z.2:Nat)))]) (fun _=>[buf (slV n i) 53 tPg xs]) ?_ ?_
  rotate_left
  focus
   refine cN ?_ ?_ <;> intro h27
   ·have hlt:mid<m:=by have:=of_decide_eq_true h27;omega
    refine t12 ?_
    exact qak (mid+m-b,mid) (.inl ⟨hlt,rfl,rfl⟩) ⟨⟨_,rfl,SubL.rfl'⟩,⟨_,rfl,SubL.rfl'⟩,⟨_,rfl,SubL.rfl'⟩,⟨_,rfl,SubL.rfl'⟩,⟨_,rfl,SubL.rfl'⟩,⟨_,rfl,SubL.rfl'⟩,⟨_,rfl,SubL.rfl'⟩,⟨_,rfl,SubL.eq (ieq (by dsimp only;omega))⟩,⟨_,rfl,SubL.rfl'⟩,trivial⟩ qab
   have hlt:m≤mid:=by have:=of_decide_eq_false h27;omega
   refine t10 ?_
   exact qak (a,m) (.inr ⟨hlt,rfl,rfl⟩) qbl qab
  rintro ⟨s0,r0⟩ hsr
  dsimp only at hsr ⊢
  refine t9 ?_
  refine qbr (fun z:Nat×Nat=>Sea s0 r0 (mid+m-1) z.1 z.2 xs) (fun z=>[(0,Is (slV n i)),(1,Is (.int .i64 (a:Int))),(2,Is (.int .i64 (m:Int))),(3,Is (.int .i64 (b:Int))),(4,Is qrq),(18,Is (.int .i64 (mid:Nat))),(19,Is (.int .i64 ((mid:Int)+(m:Int)))),(20,Is (.int .i64 (z.1:Nat))),(21,Is (.int .i64 (z.2:Nat))),(22,Is (.int .i64 ((mid:Int)+(m:Int)-1)))]) (fun _=>[buf (slV n i) 53 tPg xs]) (fun z=>z.2-z.1) (s0,r0) ⟨Nat.le_refl _,by dsimp only;omega,Nat.le_refl _,.inl rfl,.inl rfl⟩ qbl qab ?_
  rintro ⟨st,r⟩ hse
  dsimp only at hse ⊢
  have q1:=hse.lo
  have q2:=hse.hi
  have q3:=hse.to
  refine t8 ?_
  refine cN ?_ ?_ <;> intro h33
  ·have hlt:st<r:=by have:=of_decide_eq_true h33;omega
   clear h33
   obtain ⟨u,hu⟩:∃ u,xs[mid+m-1-(st+r) / 2]?=some u:=⟨xs[mid+m-1-(st+r) / 2],List.getElem?_eq_getElem (by omega)⟩
   obtain ⟨v,hv⟩:∃ v,xs[(st+r) / 2]?=some v:=⟨xs[(st+r) / 2],List.getElem?_eq_getElem (by omega)⟩
   refine t9 ?_
   refine qap rfl (qq2 (m:=st+r) (er rfl) (er rfl) (by omega)) ?_
   refine t5 ?_
   refine qa0 rfl (by kernel_rfl) ?_
   refine qag 14 (by kernel_rfl) ?_
   refine t5 ?_
   refine qbc (by exact qao (k:=mid+m-1-(st+r) / 2) (er rfl) qbp (er rfl) rfl rfl qca qbt) ?_
   refine qbc (by exact qbd (er rfl) qbp hu rfl rfl rfl) ?_
   refine t2 ?_
   refine qbc (by exact qao (k:=(st+r) / 2) (er rfl) qbp (er rfl) rfl rfl qca qbt) ?_
   refine qbc (by exact qbd (er rfl) qbp hv rfl rfl rfl) ?_
   refine qbc (qi4 (er rfl) call76 (qr3 _ _) ⟨evS,⟨evS,trivial⟩⟩) ?_
   refine t2 ?_
   refine ⟨rfl,?_⟩
   refine qat ?_
   refine s1 ?_
   refine cN ?_ ?_ <;> intro h35
   ·have hc:v.l≤u.l:=by rw [qhe] at h35;simp at h35;omega
    clear h35
    refine t6 ?_
    exact qaa ((st+r) / 2+1,r) ⟨by dsimp only;omega,by dsimp only;omega,hse.to,.inr fun u' v' hu' hv'=>by
     rw [show (st+r) / 2+1-1=(st+r) / 2 by omega] at hu' hv'
     rw [hv] at hu';cases hu'
     rw [hu] at hv';cases hv'
     exact hc,hse.c2⟩ (by dsimp only;omega) qbl qab
   have hc:u.l<v.l:=by rw [qhe] at h35;simp at h35;omega
   clear h35
   refine t5 ?_
   exact qaa (st,(st+r) / 2) ⟨hse.lo,by dsimp only;omega,by dsimp only;omega,hse.c1,.inr fun u' v' hu' hv'=>by
    rw [hu] at hu';cases hu'
    rw [hv] at hv';cases hv'
    exact Int.le_of_lt hc⟩ (by dsimp only;omega) qbl qab
  have hre:st=r:=by have:=of_decide_eq_false h33;omega
  subst hre
  clear h33
  obtain ⟨en,hen⟩:∃ en,mid+m-st=en:=⟨_,rfl⟩
  have k1:a≤st:=by omega
  have k2:st≤m:=by omega
  have k3:m≤en:=by omega
  have k4:en≤b:=by omega
  have k5:mid+m=st+en:=by omega
  have k6:st≤mid:=by omega
  have c1:st=a∨en=b∨∀ x y,xs[st-1]?=some x→xs[en]?=some y→x.l≤y.l:=by
   rcases hse.c1 with h|h
   ·omega
   ·by_cases h0:st=0
    ·omega
    ·refine .inr (.inr fun x y hx hy=>h x y hx ?_)
     rw [show mid+m-1-(st-1)=en by omega];exact hy
  have c2:st=m∨en=m∨∀ x y,xs[en-1]?=some x→xs[st]?=some y→x.l≤y.l:=by
   rcases hse.c2 with h|h
   ·omega
   ·refine .inr (.inr fun x y hx hy=>h x y ?_ hy)
    rw [show mid+m-1-st=en-1 by omega];exact hx
  clear hse
  refine t10 ?_
  refine qge 177 (Is (.int .i64 (en:Nat))) rfl (SubL.eq (ieq (by omega))) ?_
  refine t16 ?_
  refine qin (fun z:List Pg=>(∀ k,z[k]?=qqs (fun k=>xs[k]?) st m en k)∧PI a b xs z) (fun z=>[(0,Is (slV n i)),(1,Is (.int .i64 (a:Int))),(3,Is (.int .i64 (b:Int))),(4,Is qrq),(18,Is (.int .i64 (mid:Nat))),(20,Is (.int .i64 (st:Nat))),(24,Is (.int .i64 (en:Nat)))]) (fun z=>[buf (slV n i) 53 tPg z]) ?_ ?_
  rotate_left
  focus
   refine cN ?_ ?_ <;> intro h39
   ·have hlt:st<m∧m<en:=by simp at h39;omega
    clear h39
    refine t6 ?_
    (refine qe6 rfl (by ((refine qdy qbh call152 (zaf xs n i st m en ?_ ?_ ?_ ?_) ⟨evS,⟨evS,⟨evS,⟨evS,⟨evS,trivial⟩⟩⟩⟩⟩);all_goals (omega))) ?_;intro i191)
    refine s1 ?_
    obtain ⟨ys,hy1,hy2⟩:=i191
    dsimp only
    exact qak ys ⟨hy1,hy2.wide (by omega) (by omega)⟩ qbl qab
   have hor:m=st∨m=en:=by
    simp at h39
    by_cases h:st<m
    ·have:=h39 (by omega);omega
    ·omega
   clear h39
   refine s1 ?_
   exact qak xs ⟨fun k=>(zah hor k2 k3 k).symm,PI.rfl'⟩ qbl qab
  rintro ys ⟨hy1,hy2⟩
  obtain ⟨g1,g2,g3,g4,gc⟩:=zbh hbn hs1 hs2 k1 k2 k3 k4 k5 k6 c1 c2 hy1
  have hyl:=hy2.len
  refine t13 ?_
  refine qin (fun z:List Pg=>Srt Pg.l a mid z∧PI a mid ys z) (fun z=>[(0,Is (slV n i)),(3,Is (.int .i64 (b:Int))),(4,Is qrq),(18,Is (.int .i64 (mid:Nat))),(24,Is (.int .i64 (en:Nat)))]) (fun z=>[buf (slV n i) 53 tPg z]) ?_ ?_
  rotate_left
  focus
   refine cN ?_ ?_ <;> intro h41
   ·have hlt:a<st∧st<mid:=by simp at h41;omega
    clear h41
    refine t6 ?_
    (refine qe6 rfl (by ((refine qdy qbh call123 (ih ys n i a st mid ?_ ?_ ?_ ?_ ?_ ?_ ?_) ⟨evS,⟨evS,⟨evS,⟨evS,⟨evS,trivial⟩⟩⟩⟩⟩);all_goals (omega))) ?_;intro i205)
    refine s1 ?_
    obtain ⟨zs,hz1,hz2⟩:=i205
    dsimp only
    exact qak zs ⟨hz1,hz2⟩ qbl qab
   have hor:st=a∨st=mid:=by
    simp at h41
    by_cases h:a<st
    ·have:=h41 (by omega);omega
    ·omega
   clear h41
   refine s1 ?_
   exact qak ys ⟨hor.elim (fun h=>h ▸ g2) (fun h=>h ▸ g1),PI.rfl'⟩ qbl qab
  rintro zs ⟨hz1,hz2⟩
  have hzl:=hz2.len
  have g3':Srt Pg.l mid en zs:=g3.same fun k hk _=>hz2.out k (.inr hk)
  have g4':Srt Pg.l en b zs:=g4.same fun k hk _=>hz2.out k (.inr (by omega))
  have gc':=gc.left hz2
  refine t12 ?_
  refine cN ?_ ?_ <;> intro h43
  ·have hlt:mid<en∧en<b:=by simp at h43;omega
   clear h43
   refine t6 ?_
   (refine qe6 rfl (by ((refine qdy qbh call123 (ih zs n i mid en b ?_ ?_ ?_ ?_ ?_ ?_ ?_) ⟨evS,⟨evS,⟨evS,⟨evS,⟨evS,trivial⟩⟩⟩⟩⟩);all_goals (omega))) ?_;intro i219)
   refine t2 ?_
   obtain ⟨us,hu1,hu2⟩:=i219
   dsimp only
   have hfin:Srt Pg.l a b us:=Crs.join (hz1.same fun k _ hk=>hu2.out k (.inl hk)) hu1 (gc'.right hu2)
   exact qed (Bs:=[]) results123 trivial ⟨us,hfin,(hy2.tr (hz2.wide (Nat.le_refl _) (by omega))).tr (hu2.wide (by omega) (Nat.le_refl _))⟩ SubL.rfl' qab
  have hor:en=mid∨en=b:=by
   simp at h43
   by_cases h:mid<en
   ·have:=h43 (by omega);omega
   ·omega
  clear h43
  have hfin:Srt Pg.l a b zs:=Crs.join hz1 (hor.elim (fun h=>h ▸ g4') (fun h=>h ▸ g3')) gc'
  refine t2 ?_
  exact qed (Bs:=[]) results123 trivial ⟨zs,hfin,hy2.tr (hz2.wide (Nat.le_refl _) (by omega))⟩ SubL.rfl' qab
theorem zcp {k n:Nat} {zs:List Pg} (h:∀ j,j<k→Srt Pg.l (j*20) ((j+1)*20) zs) (hl:Srt Pg.l (k*20) n zs) (hn:n<k*20+20):Blks Pg.l 20 n zs:=fun j=>by
 rcases Nat.lt_trichotomy j k with h1|h1|h1
 ·exact (h j h1).sub (Nat.le_refl _) (Nat.min_le_left _ _)
 ·subst h1;exact hl.sub (Nat.le_refl _) (Nat.min_le_right _ _)
 ·exact Srt.one (by omega)
structure Dbl (s n k:Nat) (us:List Pg):Prop where
 done:∀ j,j<k→Srt Pg.l (j*(2*s)) ((j+1)*(2*s)) us
 left:∀ j,2*k≤j→Srt Pg.l (j*s) (min ((j+1)*s) n) us
theorem Dbl.start {s n:Nat} {us:List Pg} (h:Blks Pg.l s n us):Dbl s n 0 us:=⟨fun j hj=>by omega,fun j _=>h j⟩
theorem qk5 {s k A:Nat} (hA:A=k*(2*s)):2*k*s=A∧(2*k+1)*s=A+s∧(2*k+1+1)*s=A+2*s∧(k+1)*(2*s)=A+2*s:=by
 have h1:2*k*s=A:=by rw [hA,Nat.mul_comm 2 k,Nat.mul_assoc]
 refine ⟨h1,by rw [Nat.add_mul,h1,Nat.one_mul],by rw [Nat.add_mul,Nat.add_mul,h1];omega,by rw [Nat.add_mul,← hA];omega⟩
theorem Dbl.runs {s n k A:Nat} {us:List Pg} (h:Dbl s n k us) (hA:A=k*(2*s)):Srt Pg.l A (min (A+s) n) us∧Srt Pg.l (A+s) (min (A+2*s) n) us:=by
 obtain ⟨h1,h2,h3,h4⟩:=qk5 hA
 have e1:=h.left (2*k) (Nat.le_refl _)
 have e2:=h.left (2*k+1) (by omega)
 rw [h1,h2] at e1
 rw [h2,h3] at e2
 exact ⟨e1,e2⟩
theorem Dbl.step {s n k A:Nat} {us zs:List Pg} (h:Dbl s n k us) (hA:A=k*(2*s)) (hs:Srt Pg.l A (A+2*s) zs) (hp:PI A (A+2*s) us zs):Dbl s n (k+1) zs:=by
 obtain ⟨h1,h2,h3,h4⟩:=qk5 hA
 refine ⟨fun j hj=>?_,fun j hj=>?_⟩
 ·by_cases hjk:j=k
  ·subst hjk;rw [h4,← hA];exact hs
  ·have hle:(j+1)*(2*s)≤A:=by rw [hA];exact Nat.mul_le_mul_right _ (by omega)
   exact (h.done j (by omega)).same fun q _ hq=>hp.out q (.inl (by omega))
 ·have hge:A+2*s≤j*s:=by rw [← h3];exact Nat.mul_le_mul_right _ (by omega)
  exact (h.left j (by omega)).same fun q hq _=>hp.out q (.inr (by omega))
theorem Dbl.close {s n k A:Nat} {us zs:List Pg} (h:Dbl s n k us) (hA:A=k*(2*s)) (hn:n<A+2*s) (hs:Srt Pg.l A n zs) (hp:PI A n us zs):Blks Pg.l (2*s) n zs:=fun j=>by
 obtain ⟨h1,h2,h3,h4⟩:=qk5 hA
 rcases Nat.lt_trichotomy j k with hj|hj|hj
 ·have hle:(j+1)*(2*s)≤A:=by rw [hA];exact Nat.mul_le_mul_right _ (by omega)
  exact ((h.done j hj).sub (Nat.le_refl _) (Nat.min_le_left _ _)).same fun q _ hq=>hp.out q (.inl (by omega))
 ·subst hj
  rw [← hA]
  exact hs.sub (Nat.le_refl _) (Nat.min_le_right _ _)
 ·have hge:(k+1)*(2*s)≤j*(2*s):=Nat.mul_le_mul_right _ (by omega)
  exact Srt.one (by omega)
set_option maxHeartbeats 4000000 in
theorem qz7 (xs:List Pg) (n:Nat) (i:Option Addr×Nat) (hn0:n=xs.length) (hn:xs.length≤1048576) :
  Fn Tryz.prog 101 [Is (slV n i),Is (.int .i64 (n:Int)),Is qrq] [buf (slV n i) 53 tPg xs]
   (fun _:{ys:List Pg // Srt Pg.l 0 n ys∧PI 0 n xs ys}=>qbv []) (fun ys=>[buf (slV n i) 53 tPg ys.1]):=by
 refine Fn.enterN func101 ntmps101 rfl rfl ?_
 intro c hX
 refine t14 ?_
 refine qbr (fun z:Nat×List Pg=>z.1*20≤n∧(∀ j,j<z.1→Srt Pg.l (j*20) ((j+1)*20) z.2)∧PI 0 n xs z.2) (fun z=>[(0,Is (slV n i)),(1,Is (.int .i64 (n:Int))),(2,Is qrq),(6,Is (.int .i64 20)),(7,Is (.int .i64 ((z.1*20:Nat):Int))),(8,Is (.int .i64 ((z.1*20+20:Nat):Int)))]) (fun z=>[buf (slV n i) 53 tPg z.2]) (fun z=>n-z.1*20) (0,xs) ⟨by dsimp only;omega,fun j hj=>by dsimp only at hj;omega,PI.rfl'⟩ qbl qab ?_
 rintro ⟨k,zs⟩ ⟨hk,hs,hpi⟩
 dsimp only at hk hs hpi ⊢
 have hzl:=hpi.len
 refine t8 ?_
 refine cN ?_ ?_ <;> intro h2
 ·have hlt:k*20+20≤n:=by have:=of_decide_eq_true h2;omega
  clear h2
  refine t9 ?_
  (refine qe6 rfl (by ((refine qdy qbh call122 (qmr zs n i (k*20) (k*20+20) ?_ ?_ ?_) ⟨evS,⟨evS,⟨evS,⟨evS,trivial⟩⟩⟩⟩);all_goals (omega))) ?_;intro i18)
  refine t3 ?_
  obtain ⟨ys,hy1,hy2⟩:=i18
  dsimp only
  refine t12 ?_
  exact qaa (k+1,ys) ⟨by dsimp only;omega,fun j hj=>by
   by_cases hjk:j=k
   ·subst hjk;exact hy1.sub (Nat.le_refl _) (by omega)
   ·exact (hs j (by dsimp only at hj;omega)).same fun q _ hq=>hy2.out q (.inl (by dsimp only at hj;omega)),hpi.tr (hy2.wide (by omega) (by omega))⟩ (by dsimp only;omega) ⟨⟨_,rfl,SubL.rfl'⟩,⟨_,rfl,SubL.rfl'⟩,⟨_,rfl,SubL.rfl'⟩,⟨_,rfl,SubL.rfl'⟩,⟨_,rfl,SubL.eq (ieq (by dsimp only;omega))⟩,⟨_,rfl,SubL.eq (ieq (by dsimp only;omega))⟩,trivial⟩ qab
 have hlt:n<k*20+20:=by have:=of_decide_eq_false h2;omega
 clear h2
 refine t11 ?_
 (refine qe6 rfl (by ((refine qdy qbh call122 (qmr zs n i (k*20) n ?_ ?_ ?_) ⟨evS,⟨evS,⟨evS,⟨evS,trivial⟩⟩⟩⟩);all_goals (omega))) ?_;intro i27)
 refine t3 ?_
 obtain ⟨ys,hy1,hy2⟩:=i27
 dsimp only
 have hb0:Blks Pg.l 20 n ys:=zcp (fun j hj=>(hs j hj).same fun q _ hq=>hy2.out q (.inl (by omega))) hy1 hlt
 have hpy:=hpi.tr (hy2.wide (Nat.zero_le _) (Nat.le_refl _))
 refine qbr (fun z:Nat×List Pg=>0<z.1∧z.1≤2097152∧Blks Pg.l z.1 n z.2∧PI 0 n xs z.2) (fun z=>[(0,Is (slV n i)),(1,Is (.int .i64 (n:Int))),(2,Is qrq),(6,Is (.int .i64 (z.1:Nat)))]) (fun z=>[buf (slV n i) 53 tPg z.2]) (fun z=>n-z.1) (20,ys) ⟨by dsimp only;omega,by dsimp only;omega,hb0,hpy⟩ qbl qab ?_
 rintro ⟨s,vs⟩ ⟨hs0,hsb,hbl,hpv⟩
 dsimp only at hs0 hsb hbl hpv ⊢
 refine t8 ?_
 refine cN ?_ ?_ <;> intro h7
 ·have hsn:s<n:=by have:=of_decide_eq_true h7;omega
  clear h7
  refine t13 ?_
  refine qbr (fun z:Nat×Nat×List Pg=>z.2.1=z.1*(2*s)∧z.2.1≤n∧Dbl s n z.1 z.2.2∧PI 0 n xs z.2.2) (fun z=>[(0,Is (slV n i)),(1,Is (.int .i64 (n:Int))),(2,Is qrq),(6,Is (.int .i64 (s:Nat))),(7,Is (.int .i64 ((z.2.1:Nat):Int))),(8,Is (.int .i64 ((z.2.1+2*s:Nat):Int)))]) (fun z=>[buf (slV n i) 53 tPg z.2.2]) (fun z=>n-z.2.1) (0,0,vs) ⟨by simp,Nat.zero_le _,Dbl.start hbl,hpv⟩ ⟨⟨_,rfl,SubL.rfl'⟩,⟨_,rfl,SubL.rfl'⟩,⟨_,rfl,SubL.rfl'⟩,⟨_,rfl,SubL.rfl'⟩,⟨_,rfl,SubL.rfl'⟩,⟨_,rfl,SubL.eq (ieq (by dsimp only;omega))⟩,trivial⟩ qab ?_
  rintro ⟨k2,A,us⟩ ⟨hA,hAn,hd,hpu⟩
  dsimp only at hA hAn hd hpu ⊢
  obtain ⟨r1,r2⟩:=hd.runs hA
  have hul:=hpu.len
  refine t8 ?_
  refine cN ?_ ?_ <;> intro h9
  ·have hlt2:A+2*s≤n:=by have:=of_decide_eq_true h9;omega
   clear h9
   rw [Nat.min_eq_left (by omega)] at r1 r2
   refine t10 ?_
   refine qge 40 (Is (.int .i64 ((A+s:Nat):Int))) rfl (SubL.eq (ieq (by omega))) ?_
   refine t2 ?_
   (refine qe6 rfl (by ((refine qdy qbh call123 (qnr (2*s) us n i A (A+s) (A+2*s) ?_ ?_ ?_ ?_ ?_ ?_ ?_) ⟨evS,⟨evS,⟨evS,⟨evS,⟨evS,trivial⟩⟩⟩⟩⟩);all_goals (omega))) ?_;intro i43)
   refine t3 ?_
   obtain ⟨ws,hw1,hw2⟩:=i43
   dsimp only
   refine t13 ?_
   exact qaa (k2+1,A+2*s,ws) ⟨(qk5 hA).2.2.2.symm,hlt2,hd.step hA hw1 hw2,hpu.tr (hw2.wide (Nat.zero_le _) hlt2)⟩ (by dsimp only;omega) ⟨⟨_,rfl,SubL.rfl'⟩,⟨_,rfl,SubL.rfl'⟩,⟨_,rfl,SubL.rfl'⟩,⟨_,rfl,SubL.rfl'⟩,⟨_,rfl,SubL.rfl'⟩,⟨_,rfl,SubL.eq (ieq (by dsimp only;omega))⟩,trivial⟩ qab
  have hlt2:n<A+2*s:=by have:=of_decide_eq_false h9;omega
  clear h9
  refine t11 ?_
  refine qge 51 (Is (.int .i64 ((A+s:Nat):Int))) rfl (SubL.eq (ieq (by omega))) ?_
  refine t10 ?_
  refine qin (fun z:List Pg=>Blks Pg.l (2*s) n z∧PI 0 n xs z) (fun z=>[(0,Is (slV n i)),(1,Is (.int .i64 (n:Int))),(2,Is qrq),(6,Is (.int .i64 (s:Nat)))]) (fun z=>[buf (slV n i) 53 tPg z]) ?_ ?_
  rotate_left
  focus
   refine cN ?_ ?_ <;> intro h14
   ·have hlt3:A+s<n:=by have:=of_decide_eq_true h14;omega
    clear h14
    rw [Nat.min_eq_left (by omega)] at r1
    rw [Nat.min_eq_right (by omega)] at r2
    refine t6 ?_
    (refine qe6 rfl (by ((refine qdy qbh call123 (qnr (2*s) us n i A (A+s) n ?_ ?_ ?_ ?_ ?_ ?_ ?_) ⟨evS,⟨evS,⟨evS,⟨evS,⟨evS,trivial⟩⟩⟩⟩⟩);all_goals (omega))) ?_;intro i60)
    refine s1 ?_
    obtain ⟨ws,hw1,hw2⟩:=i60
    dsimp only
    exact qak ws ⟨hd.close hA hlt2 hw1 hw2,hpu.tr (hw2.wide (Nat.zero_le _) (Nat.le_refl _))⟩ qbl qab
   have hlt3:n≤A+s:=by have:=of_decide_eq_false h14;omega
   clear h14
   rw [Nat.min_eq_right (by omega)] at r1
   refine s1 ?_
   exact qak us ⟨hd.close hA hlt2 r1 PI.rfl',hpu⟩ qbl qab
  rintro ws ⟨hw1,hw2⟩
  refine t6 ?_
  exact qaa (2*s,ws) ⟨by dsimp only;omega,by dsimp only;omega,hw1,hw2⟩ (by dsimp only;omega) ⟨⟨_,rfl,SubL.rfl'⟩,⟨_,rfl,SubL.rfl'⟩,⟨_,rfl,SubL.rfl'⟩,⟨_,rfl,SubL.eq (ieq (by dsimp only;omega))⟩,trivial⟩ qab
 have hsn:n≤s:=by have:=of_decide_eq_false h7;omega
 refine t5 ?_
 exact qed (Bs:=[]) results101 trivial ⟨vs,hbl.done hsn,hpv⟩ SubL.rfl' qab
theorem qsc (xs:List Pg) (n:Nat) (i:Option Addr×Nat) (hn0:n=xs.length) (hn:xs.length≤1048576) :
  Fn Tryz.prog 75 [Is (slV n i),Is qrq] [buf (slV n i) 53 tPg xs]
   (fun _:{ys:List Pg // Srt Pg.l 0 n ys∧PI 0 n xs ys}=>qbv []) (fun ys=>[buf (slV n i) 53 tPg ys.1]):=by
 refine Fn.enterN func75 ntmps75 rfl rfl ?_
 intro c hX
 refine t5 ?_
 (refine qe6 rfl (by ((refine qdy qbh call101 (qz7 xs n i ?_ ?_) ⟨evS,⟨evS,⟨evS,trivial⟩⟩⟩);all_goals (assumption))) ?_;intro i8)
 refine t2 ?_
 obtain ⟨ys,hy⟩:=i8
 exact qed (Bs:=[]) results75 trivial ⟨ys,hy⟩ SubL.rfl' qab
theorem qje (xs:List Pg) (n:Nat) (i:Option Addr×Nat) (hn0:n=xs.length) (hn:xs.length≤1048576) :
  Fn Tryz.prog 42 [Is (slV n i)] [buf (slV n i) 53 tPg xs]
   (fun _:{ys:List Pg // Srt Pg.l 0 n ys∧PI 0 n xs ys}=>Is (slV n i)) (fun ys=>[buf (slV n i) 53 tPg ys.1]):=by
 refine Fn.enterN func42 ntmps42 rfl rfl ?_
 intro c hX
 refine t8 ?_
 (refine qe6 rfl (by ((refine qdy qbh call75 (qsc xs n i ?_ ?_) ⟨evS,⟨evS,trivial⟩⟩);all_goals (assumption))) ?_;intro i4)
 refine t3 ?_
 obtain ⟨ys,hy⟩:=i4
 dsimp only
 refine t6 ?_
 exact qed (Bs:=[Is (slV n i)]) results42 eT ⟨ys,hy⟩ SubL.rfl' qab
end Go.Proofs.YtmgoplaamlignaaGreat
