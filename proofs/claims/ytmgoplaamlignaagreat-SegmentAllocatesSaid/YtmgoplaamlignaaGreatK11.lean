/- Texts laid together: walks of functions, what they compute, and plain laws of it. Own work. -/
import Derived.Lib.AppendZerosOnto
import Derived.Test.YtmgoplaamlignaaGreatK1
import Derived.Test.YtmgoplaamlignaaGreatK8
namespace Go.Proofs.YtmgoplaamlignaaGreat
open Go.RowKit Tryz
set_option linter.unusedVariables false
set_option linter.unusedSimpArgs false
set_option maxRecDepth 100000
set_option maxHeartbeats 4000000
section
variable {α:Type}
structure PI (a b:Nat) (xs ys:List α):Prop where
 len:ys.length=xs.length
 out:∀ i,i<a∨b≤i→ys[i]?=xs[i]?
 perm:ys.Perm xs
variable {a b:Nat} {xs ys zs:List α}
theorem PI.rfl':PI a b xs xs:=⟨rfl,fun _ _=>rfl,List.Perm.refl _⟩
theorem PI.tr (h:PI a b xs ys) (k:PI a b ys zs):PI a b xs zs:=⟨k.len.trans h.len,fun i hi=>(k.out i hi).trans (h.out i hi),k.perm.trans h.perm⟩
theorem PI.wide {a' b':Nat} (h:PI a b xs ys) (ha:a'≤a) (hb:b≤b'):PI a' b' xs ys:=⟨h.len,fun i hi=>h.out i (by omega),h.perm⟩
theorem PI.mid (h:PI a b xs ys) (hab:a≤b):((ys.take b).drop a).Perm ((xs.take b).drop a):=by
 have e1:ys.take a=xs.take a:=by
  apply List.ext_getElem?
  intro i
  rw [List.getElem?_take,List.getElem?_take]
  split
  ·exact h.out i (.inl (by assumption))
  ·rfl
 have e2:ys.drop b=xs.drop b:=by
  apply List.ext_getElem?
  intro i
  rw [List.getElem?_drop,List.getElem?_drop]
  exact h.out _ (.inr (by omega))
 have s:∀ l:List α,l=l.take a++((l.take b).drop a++l.drop b):=fun l=>by
  conv=>lhs;rw [← List.take_append_drop b l]
  rw [← List.append_assoc]
  congr 1
  conv=>lhs;rw [← List.take_append_drop a (l.take b)]
  rw [List.take_take,Nat.min_eq_left hab]
 have hp:=h.perm
 rw [s ys,s xs,e1,e2] at hp
 exact (List.perm_append_right_iff _).1 ((List.perm_append_left_iff _).1 hp)
theorem PI.mem (h:PI a b xs ys) {p:Nat} {y:α} (h1:a≤p) (h2:p<b) (hy:ys[p]?=some y):∃ q,a≤q∧q<b∧xs[q]?=some y:=by
 have hm:y∈(ys.take b).drop a:=by
  refine List.mem_of_getElem? (i:=p-a) ?_
  rw [List.getElem?_drop,List.getElem?_take,if_pos (by omega),show a+(p-a)=p by omega];exact hy
 have hm2:=(h.mid (by omega)).mem_iff.1 hm
 obtain ⟨i,hi⟩:=List.getElem?_of_mem hm2
 rw [List.getElem?_drop,List.getElem?_take] at hi
 split at hi
 ·exact ⟨a+i,by omega,by assumption,hi⟩
 ·cases hi
theorem qst {i j:Nat} {x y:α} (hx:xs[i]?=some x) (hy:xs[j]?=some y) (k:Nat):((xs.set i y).set j x)[k]?=if k=j then some x else if k=i then some y else xs[k]?:=by
 have hi:=(List.getElem?_eq_some_iff.1 hx).1
 have hj:=(List.getElem?_eq_some_iff.1 hy).1
 rw [List.getElem?_set,List.getElem?_set]
 by_cases h1:j=k
 ·subst h1;simp [hj]
 ·rw [if_neg h1,if_neg (Ne.symm h1)]
  by_cases h2:i=k
  ·subst h2;simp [hi]
  ·rw [if_neg h2,if_neg (Ne.symm h2)]
theorem sw_PI {i j:Nat} {x y:α} (hx:xs[i]?=some x) (hy:xs[j]?=some y) (hi:a≤i∧i<b) (hj:a≤j∧j<b):PI a b xs ((xs.set i y).set j x):=by
 have li:=(List.getElem?_eq_some_iff.1 hx).1
 have lj:=(List.getElem?_eq_some_iff.1 hy).1
 refine ⟨by simp,fun k hk=>?_,?_⟩
 ·rw [qst hx hy,if_neg (by omega),if_neg (by omega)]
 ·have hx':xs[i]=x:=(List.getElem?_eq_some_iff.1 hx).2
  have hy':xs[j]=y:=(List.getElem?_eq_some_iff.1 hy).2
  have:=List.set_set_perm li lj
  rw [hx',hy'] at this
  exact this
variable {key:α→Int}
def Srt (key:α→Int) (a b:Nat) (xs:List α):Prop:=∀ i j x y,a≤i→i<j→j<b→xs[i]?=some x→xs[j]?=some y→key x≤key y
theorem Srt.sub {a' b':Nat} (h:Srt key a b xs) (ha:a≤a') (hb:b'≤b):Srt key a' b' xs:=fun i j x y h1 h2 h3=>h i j x y (by omega) h2 (by omega)
theorem Srt.one (h:b≤a+1):Srt key a b xs:=fun i j x y h1 h2 h3=>by omega
theorem Srt.same (h:Srt key a b xs) (he:∀ i,a≤i→i<b→ys[i]?=xs[i]?):Srt key a b ys:=fun i j x y h1 h2 h3 hx hy =>
 h i j x y h1 h2 h3 (by rw [← he i h1 (by omega)];exact hx) (by rw [← he j (by omega) h3];exact hy)
theorem Srt.le (h:Srt key a b xs) {i j:Nat} {x y:α} (h1:a≤i) (h2:i≤j) (h3:j<b) (hx:xs[i]?=some x) (hy:xs[j]?=some y):key x≤key y:=by
 rcases Nat.lt_or_ge i j with hl|hl
 ·exact h i j x y h1 hl h3 hx hy
 ·have:i=j:=by omega
  subst this
  rw [hx] at hy;cases hy;exact Int.le_refl _
structure Flt (key:α→Int) (a i j:Nat) (zs:List α):Prop where
 rest:∀ p q x y,a≤p→p<q→q≤i→p≠j→q≠j→zs[p]?=some x→zs[q]?=some y→key x≤key y
 up:∀ q x y,j<q→q≤i→zs[j]?=some x→zs[q]?=some y→key x≤key y
theorem Flt.start {i:Nat} (h:Srt key a i zs):Flt key a i i zs:=⟨fun p q x y h1 h2 h3 h4 h5 hx hy=>h p q x y h1 h2 (by omega) hx hy,fun q x y h1 h2=>by omega⟩
theorem Flt.step {i j:Nat} {x y:α} (h:Flt key a i j zs) (hj:a<j) (hji:j≤i) (hx:zs[j]?=some x) (hy:zs[j-1]?=some y) (hlt:key x<key y):Flt key a i (j-1) ((zs.set j y).set (j-1) x):=by
 have hg:=qst hx hy
 refine ⟨fun p q u v h1 h2 h3 h4 h5 hu hv=>?_,fun q u v h1 h2 hu hv=>?_⟩
 ·rw [hg] at hu hv
  rw [if_neg h4] at hu
  rw [if_neg h5] at hv
  by_cases hp:p=j
  ·rw [if_pos hp] at hu;cases hu
   rw [if_neg (by omega)] at hv
   exact h.rest (j-1) q y v (by omega) (by omega) h3 (by omega) (by omega) hy hv
  ·rw [if_neg hp] at hu
   by_cases hq:q=j
   ·rw [if_pos hq] at hv;cases hv
    exact h.rest p (j-1) u y h1 (by omega) (by omega) hp (by omega) hu hy
   ·rw [if_neg hq] at hv
    exact h.rest p q u v h1 h2 h3 hp hq hu hv
 ·rw [hg] at hu hv
  rw [if_pos rfl] at hu;cases hu
  rw [if_neg (by omega)] at hv
  by_cases hq:q=j
  ·rw [if_pos hq] at hv;cases hv;omega
  ·rw [if_neg hq] at hv
   exact h.up q x v (by omega) h2 hx hv
theorem Flt.done {i j:Nat} (h:Flt key a i j zs) (hji:j≤i) (he:j=a∨(a<j∧∀ x y,zs[j]?=some x→zs[j-1]?=some y→key y≤key x)):Srt key a (i+1) zs:=by
 intro p q u v h1 h2 h3 hu hv
 by_cases hp:p=j
 ·subst hp;exact h.up q u v h2 (by omega) hu hv
 ·by_cases hq:q=j
  ·subst hq
   rcases he with he|⟨hlt,he⟩
   ·omega
   ·have hl:=(List.getElem?_eq_some_iff.1 hv).1
    obtain ⟨y,hy⟩:∃ y,zs[q-1]?=some y:=⟨zs[q-1],List.getElem?_eq_getElem (by omega)⟩
    have h4:=he v y hv hy
    by_cases hpq:p=q-1
    ·subst hpq;rw [hu] at hy;cases hy;exact h4
    ·exact Int.le_trans (h.rest p (q-1) u y h1 (by omega) (by omega) hp (by omega) hu hy) h4
  ·exact h.rest p q u v h1 h2 (by omega) hp hq hu hv
def swF (xs:List α) (a b n k:Nat):Option α:=if a≤k∧k<a+n then xs[b+(k-a)]? else if b≤k∧k<b+n then xs[a+(k-b)]? else xs[k]?
theorem swF_step {n:Nat} {x y:α} (hab:a+n<b) (hz:∀ k,zs[k]?=swF xs a b n k) (hx:zs[a+n]?=some x) (hy:zs[b+n]?=some y) (k:Nat):((zs.set (a+n) y).set (b+n) x)[k]?=swF xs a b (n+1) k:=by
 rw [qst hx hy]
 have h1:=hz (a+n)
 have h2:=hz (b+n)
 rw [hx] at h1
 rw [hy] at h2
 unfold swF at h1 h2
 rw [if_neg (by omega),if_neg (by omega)] at h1
 rw [if_neg (by omega),if_neg (by omega)] at h2
 by_cases e1:k=b+n
 ·subst e1
  rw [if_pos rfl,h1]
  unfold swF
  rw [if_neg (by omega),if_pos (by omega)]
  congr 1;omega
 ·rw [if_neg e1]
  by_cases e2:k=a+n
  ·subst e2
   rw [if_pos rfl,h2]
   unfold swF
   rw [if_pos (by omega)]
   congr 1;omega
  ·rw [if_neg e2,hz]
   unfold swF
   by_cases e3:a≤k∧k<a+n
   ·rw [if_pos e3,if_pos (by omega)]
   ·rw [if_neg e3,if_neg (c:=a≤k∧k<a+(n+1)) (by omega)]
    by_cases e4:b≤k∧k<b+n
    ·rw [if_pos e4,if_pos (by omega)]
    ·rw [if_neg e4,if_neg (by omega)]
def qqs (f:Nat→Option α) (a m b k:Nat):Option α:=if a≤k∧k<a+(b-m) then f (m+(k-a)) else if a+(b-m)≤k∧k<b then f (k-(b-m)) else f k
theorem rot_left {m i j:Nat} {f g:Nat→Option α} (hi:i≤m) (h0:0<j) (hij:j<i) (hg:∀ k,g k=if m-i≤k∧k<m-i+j then f (m+(k-(m-i))) else if m≤k∧k<m+j then f (m-i+(k-m)) else f k) (k:Nat) :
  qqs g (m-(i-j)) m (m+j) k=qqs f (m-i) m (m+j) k:=by
 unfold qqs
 rw [show m+j-m=j by omega]
 by_cases h1:m-i≤k∧k<m-i+j
 ·rw [if_neg (by omega),if_neg (by omega),if_pos h1,hg,if_pos h1]
 ·rw [if_neg (c:=m-i≤k∧k<m-i+j) h1]
  by_cases h2:m-i+j≤k∧k<m+j
  ·rw [if_pos (c:=m-i+j≤k∧k<m+j) h2]
   by_cases h3:m-(i-j)≤k∧k<m-(i-j)+j
   ·rw [if_pos h3,hg,if_neg (by omega),if_pos (by omega)]
    congr 1;omega
   ·rw [if_neg h3,if_pos (by omega),hg,if_neg (by omega),if_neg (by omega)]
  ·rw [if_neg h2,if_neg (by omega),if_neg (by omega),hg,if_neg h1,if_neg (by omega)]
theorem zag {m i j:Nat} {f g:Nat→Option α} (hi:i≤m) (h0:0<i) (hij:i<j) (hg:∀ k,g k=if m-i≤k∧k<m-i+i then f (m+j-i+(k-(m-i))) else if m+j-i≤k∧k<m+j-i+i then f (m-i+(k-(m+j-i))) else f k) (k:Nat) :
  qqs g (m-i) m (m+(j-i)) k=qqs f (m-i) m (m+j) k:=by
 unfold qqs
 rw [show m+j-m=j by omega,show m+(j-i)-m=j-i by omega]
 by_cases h1:m-i≤k∧k<m-i+(j-i)
 ·rw [if_pos h1,if_pos (by omega),hg]
  by_cases h2:m≤m+(k-(m-i))∧m+(k-(m-i))<m+j-i
  ·rw [if_neg (by omega),if_neg (by omega)]
  ·omega
 ·rw [if_neg (c:=m-i≤k∧k<m-i+(j-i)) h1]
  by_cases h2:m-i+(j-i)≤k∧k<m+(j-i)
  ·rw [if_pos (c:=m-i+(j-i)≤k∧k<m+(j-i)) h2,hg,if_pos (by omega),if_pos (by omega)]
   congr 1;omega
  ·rw [if_neg (c:=m-i+(j-i)≤k∧k<m+(j-i)) h2,hg]
   by_cases h3:k<m-i
   ·rw [if_neg (by omega),if_neg (by omega),if_neg (by omega),if_neg (by omega)]
   ·by_cases h4:k<m+j
    ·rw [if_neg (c:=m-i≤k∧k<m-i+i) (by omega),if_pos (c:=m+j-i≤k∧k<m+j-i+i) (by omega),if_neg (by omega),if_pos (by omega)]
     congr 1;omega
    ·rw [if_neg (by omega),if_neg (by omega),if_neg (by omega),if_neg (by omega)]
theorem rot_even {m i:Nat} {f g:Nat→Option α} (hi:i≤m) (hg:∀ k,g k=if m-i≤k∧k<m-i+i then f (m+(k-(m-i))) else if m≤k∧k<m+i then f (m-i+(k-m)) else f k) (k:Nat) :
  g k=qqs f (m-i) m (m+i) k:=by
 unfold qqs
 rw [show m+i-m=i by omega,hg]
 by_cases h1:m-i≤k∧k<m-i+i
 ·rw [if_pos h1,if_pos h1]
 ·rw [if_neg h1,if_neg h1]
  by_cases h2:m≤k∧k<m+i
  ·rw [if_pos h2,if_pos (by omega)]
   congr 1;omega
  ·rw [if_neg h2,if_neg (by omega)]
theorem zah {m:Nat} {f:Nat→Option α} (h:m=a∨m=b) (ham:a≤m) (hmb:m≤b) (k:Nat):qqs f a m b k=f k:=by
 unfold qqs
 rcases h with rfl|rfl
 ·by_cases h1:m≤k∧k<m+(b-m)
  ·rw [if_pos h1];congr 1;omega
  ·rw [if_neg h1,if_neg (by omega)]
 ·rw [if_neg (by omega)]
  by_cases h2:a+(m-m)≤k∧k<m
  ·rw [if_pos h2];congr 1;omega
  ·rw [if_neg h2]
end
section
variable {α:Type} {key:α→Int} {a m b st mid en:Nat} {xs ys zs:List α}
def Crs (key:α→Int) (a mid b:Nat) (xs:List α):Prop:=∀ p q x y,a≤p→p<mid→mid≤q→q<b→xs[p]?=some x→xs[q]?=some y→key x≤key y
theorem Crs.join (h1:Srt key a mid xs) (h2:Srt key mid b xs) (h:Crs key a mid b xs):Srt key a b xs:=fun i j x y e1 e2 e3 hx hy=>by
 by_cases hi:i<mid
 ·by_cases hj:j<mid
  ·exact h1 i j x y e1 e2 hj hx hy
  ·exact h i j x y e1 hi (by omega) e3 hx hy
 ·exact h2 i j x y (by omega) e2 e3 hx hy
theorem Crs.left (h:Crs key a mid b xs) (hp:PI a mid xs ys):Crs key a mid b ys:=fun p q x y e1 e2 e3 e4 hx hy=>by
 obtain ⟨p',f1,f2,f3⟩:=hp.mem e1 e2 hx
 exact h p' q x y f1 f2 e3 e4 f3 (by rw [← hp.out q (.inr e3)];exact hy)
theorem Crs.right (h:Crs key a mid b xs) (hp:PI mid b xs ys):Crs key a mid b ys:=fun p q x y e1 e2 e3 e4 hx hy=>by
 obtain ⟨q',f1,f2,f3⟩:=hp.mem e3 e4 hy
 exact h p q' x y e1 e2 f1 f2 (by rw [← hp.out p (.inl e2)];exact hx) f3
theorem zbh (hlen:b≤xs.length) (h1:Srt key a m xs) (h2:Srt key m b xs) (e0:a≤st) (e1:st≤m) (e2:m≤en) (e3:en≤b) (e4:mid+m=st+en) (he1:st≤mid)
  (c1:st=a∨en=b∨∀ x y,xs[st-1]?=some x→xs[en]?=some y→key x≤key y) (c2:st=m∨en=m∨∀ x y,xs[en-1]?=some x→xs[st]?=some y→key x≤key y)
  (hr:∀ k,ys[k]?=qqs (fun k=>xs[k]?) st m en k):Srt key a st ys∧Srt key st mid ys∧Srt key mid en ys∧Srt key en b ys∧Crs key a mid b ys:=by
 have hmid:st+(en-m)=mid:=by omega
 have g1:∀ k,k<st→ys[k]?=xs[k]?:=fun k hk=>by rw [hr];unfold qqs;rw [if_neg (by omega),if_neg (by omega)]
 have g2:∀ k,st≤k→k<mid→ys[k]?=xs[m+(k-st)]?:=fun k h3 h4=>by rw [hr];unfold qqs;rw [if_pos (by omega)]
 have g3:∀ k,mid≤k→k<en→ys[k]?=xs[k-(en-m)]?:=fun k h3 h4=>by rw [hr];unfold qqs;rw [if_neg (by omega),if_pos (by omega)]
 have g4:∀ k,en≤k→ys[k]?=xs[k]?:=fun k hk=>by rw [hr];unfold qqs;rw [if_neg (by omega),if_neg (by omega)]
 have s1:Srt key a st ys:=(h1.sub (Nat.le_refl _) e1).same fun i _ hi=>g1 i hi
 have s4:Srt key en b ys:=(h2.sub e2 (Nat.le_refl _)).same fun i hi _=>g4 i hi
 have s2:Srt key st mid ys:=fun i j x y q1 q2 q3 hx hy=>h2 (m+(i-st)) (m+(j-st)) x y (by omega) (by omega) (by omega) (by rw [← g2 i q1 (by omega)];exact hx) (by rw [← g2 j (by omega) q3];exact hy)
 have s3:Srt key mid en ys:=fun i j x y q1 q2 q3 hx hy=>h1 (i-(en-m)) (j-(en-m)) x y (by omega) (by omega) (by omega) (by rw [← g3 i q1 (by omega)];exact hx) (by rw [← g3 j (by omega) q3];exact hy)
 refine ⟨s1,s2,s3,s4,fun p q x y q1 q2 q3 q4 hx hy=>?_⟩
 have get:∀ k,k<b→∃ z,xs[k]?=some z:=fun k hk=>⟨xs[k],List.getElem?_eq_getElem (by omega)⟩
 by_cases hp:p<st
 ·have hx':xs[p]?=some x:=by rw [← g1 p hp];exact hx
  by_cases hq:q<en
  ·have hy':xs[q-(en-m)]?=some y:=by rw [← g3 q q3 hq];exact hy
   exact h1.le q1 (by omega) (by omega) hx' hy'
  ·have hy':xs[q]?=some y:=by rw [← g4 q (by omega)];exact hy
   rcases c1 with c1|c1|c1
   ·omega
   ·omega
   ·obtain ⟨u,hu⟩:=get (st-1) (by omega)
    obtain ⟨v,hv⟩:=get en (by omega)
    exact Int.le_trans (h1.le q1 (by omega) (by omega) hx' hu) (Int.le_trans (c1 u v hu hv) (h2.le e2 (by omega) q4 hv hy'))
 ·have hx':xs[m+(p-st)]?=some x:=by rw [← g2 p (by omega) q2];exact hx
  by_cases hq:q<en
  ·have hy':xs[q-(en-m)]?=some y:=by rw [← g3 q q3 hq];exact hy
   rcases c2 with c2|c2|c2
   ·omega
   ·omega
   ·obtain ⟨u,hu⟩:=get (en-1) (by omega)
    obtain ⟨v,hv⟩:=get st (by omega)
    exact Int.le_trans (h2.le (by omega) (by omega) (by omega) hx' hu) (Int.le_trans (c2 u v hu hv) (h1.le e0 (by omega) (by omega) hv hy'))
  ·have hy':xs[q]?=some y:=by rw [← g4 q (by omega)];exact hy
   exact h2.le (by omega) (by omega) q4 hx' hy'
structure Rgt (key:α→Int) (a b i k:Nat) (x:α) (zs:List α):Prop where
 at_:zs[k]?=some x
 rest:∀ p q u v,a≤p→p<q→q<b→p≠k→q≠k→zs[p]?=some u→zs[q]?=some v→key u≤key v
 lo:∀ p u,a≤p→p<i→p≠k→zs[p]?=some u→key u≤key x
 hi:∀ p u,i≤p→p<b→zs[p]?=some u→key x≤key u
theorem Rgt.step {i k:Nat} {x y:α} (h:Rgt key a b i k x zs) (h1:a≤k) (h2:k+1<i) (h3:i≤b) (hy:zs[k+1]?=some y):Rgt key a b i (k+1) x ((zs.set k y).set (k+1) x):=by
 have hg:=qst h.at_ hy
 refine ⟨by rw [hg,if_pos rfl],fun p q u v f1 f2 f3 f4 f5 hu hv=>?_,fun p u f1 f2 f3 hu=>?_,fun p u f1 f2 hu=>?_⟩
 ·rw [hg,if_neg f4] at hu
  rw [hg,if_neg f5] at hv
  by_cases hp:p=k
  ·rw [if_pos hp] at hu;cases hu
   rw [if_neg (by omega)] at hv
   exact h.rest (k+1) q y v (by omega) (by omega) f3 (by omega) (by omega) hy hv
  ·rw [if_neg hp] at hu
   by_cases hq:q=k
   ·rw [if_pos hq] at hv;cases hv
    exact h.rest p (k+1) u y f1 (by omega) (by omega) hp (by omega) hu hy
   ·rw [if_neg hq] at hv
    exact h.rest p q u v f1 f2 f3 hp hq hu hv
 ·rw [hg,if_neg f3] at hu
  by_cases hp:p=k
  ·rw [if_pos hp] at hu;cases hu
   exact h.lo (k+1) y (by omega) h2 (by omega) hy
  ·rw [if_neg hp] at hu
   exact h.lo p u f1 f2 hp hu
 ·rw [hg,if_neg (by omega),if_neg (by omega)] at hu
  exact h.hi p u f1 f2 hu
theorem Rgt.done {i k:Nat} {x:α} (h:Rgt key a b i k x zs) (hk:k+1=i):Srt key a b zs:=fun p q u v f1 f2 f3 hu hv=>by
 by_cases hp:p=k
 ·subst hp;rw [h.at_] at hu;cases hu
  exact h.hi q v (by omega) f3 hv
 ·by_cases hq:q=k
  ·subst hq;rw [h.at_] at hv;cases hv
   exact h.lo p u f1 (by omega) hp hu
  ·exact h.rest p q u v f1 f2 f3 hp hq hu hv
structure Lft (key:α→Int) (a b i k:Nat) (x:α) (zs:List α):Prop where
 at_:zs[k]?=some x
 rest:∀ p q u v,a≤p→p<q→q<b→p≠k→q≠k→zs[p]?=some u→zs[q]?=some v→key u≤key v
 lo:∀ p u,a≤p→p<i→zs[p]?=some u→key u≤key x
 hi:∀ p u,i≤p→p<b→p≠k→zs[p]?=some u→key x≤key u
theorem Lft.step {i k:Nat} {x y:α} (h:Lft key a b i k x zs) (h0:a≤i) (h1:i<k) (h2:k<b) (hy:zs[k-1]?=some y):Lft key a b i (k-1) x ((zs.set k y).set (k-1) x):=by
 have hg:=qst h.at_ hy
 refine ⟨by rw [hg,if_pos rfl],fun p q u v f1 f2 f3 f4 f5 hu hv=>?_,fun p u f1 f2 hu=>?_,fun p u f1 f2 f3 hu=>?_⟩
 ·rw [hg,if_neg f4] at hu
  rw [hg,if_neg f5] at hv
  by_cases hp:p=k
  ·rw [if_pos hp] at hu;cases hu
   rw [if_neg (by omega)] at hv
   exact h.rest (k-1) q y v (by omega) (by omega) f3 (by omega) (by omega) hy hv
  ·rw [if_neg hp] at hu
   by_cases hq:q=k
   ·rw [if_pos hq] at hv;cases hv
    exact h.rest p (k-1) u y f1 (by omega) (by omega) hp (by omega) hu hy
   ·rw [if_neg hq] at hv
    exact h.rest p q u v f1 f2 f3 hp hq hu hv
 ·rw [hg,if_neg (by omega),if_neg (by omega)] at hu
  exact h.lo p u f1 f2 hu
 ·rw [hg,if_neg f3] at hu
  by_cases hp:p=k
  ·rw [if_pos hp] at hu;cases hu
   exact h.hi (k-1) y (by omega) (by omega) (by omega) hy
  ·rw [if_neg hp] at hu
   exact h.hi p u f1 f2 hp hu
theorem Lft.done {i:Nat} {x:α} (h:Lft key a b i i x zs):Srt key a b zs:=fun p q u v f1 f2 f3 hu hv=>by
 by_cases hp:p=i
 ·subst hp;rw [h.at_] at hu;cases hu
  exact h.hi q v (by omega) f3 (by omega) hv
 ·by_cases hq:q=i
  ·subst hq;rw [h.at_] at hv;cases hv
   exact h.lo p u f1 f2 hu
  ·exact h.rest p q u v f1 f2 f3 hp hq hu hv
def Blks (key:α→Int) (s n:Nat) (xs:List α):Prop:=∀ k,Srt key (k*s) (min ((k+1)*s) n) xs
theorem Blks.done {s n:Nat} (h:Blks key s n xs) (hs:n≤s):Srt key 0 n xs:=by
 have:=h 0
 rw [Nat.zero_mul,Nat.zero_add,Nat.one_mul,Nat.min_eq_right hs] at this
 exact this
end
section
variable {α:Type} {key:α→Int}
theorem qmg:∀ {xs ys:List α},xs.Perm ys→xs.Pairwise (fun x y=>key x<key y)→ys.Pairwise (fun x y=>key x<key y)→xs=ys
 | [],ys,h,_,_=>by rw [h.nil_eq]
 | x :: xs,[],h,_,_=>by exact absurd h.symm.nil_eq (by simp)
 | x :: xs,y :: ys,h,h1,h2=>by
  obtain ⟨a1,a2⟩:=List.pairwise_cons.1 h1
  obtain ⟨b1,b2⟩:=List.pairwise_cons.1 h2
  have hxy:x=y:=by
   rcases List.mem_cons.1 (h.mem_iff.1 (List.mem_cons_self ..)) with e|hx
   ·exact e
   ·rcases List.mem_cons.1 (h.mem_iff.2 (List.mem_cons_self ..)) with e|hy
    ·exact e.symm
    ·have:=b1 x hx
     have:=a1 y hy
     omega
  subst hxy
  rw [qmg ((List.perm_cons x).1 h) a2 b2]
theorem qz8 {xs:List α} (h:Srt key 0 xs.length xs) (hd:(xs.map key).Nodup):xs.Pairwise (fun x y=>key x<key y):=by
 rw [List.pairwise_iff_getElem]
 intro i j hi hj hij
 have h1:=h i j xs[i] xs[j] (Nat.zero_le _) hij hj (List.getElem?_eq_getElem hi) (List.getElem?_eq_getElem hj)
 have h2:key xs[i]≠key xs[j]:=fun e=>by
  have h3:=(List.getElem_inj (i:=i) (j:=j) (h₀:=by simpa using hi) (h₁:=by simpa using hj) hd).1 (by simpa using e)
  omega
 omega
end
section
variable {P:Program} {c:Ctx} {A:Nat→Option VP} {L:List Item} {d:Option Tmp} {ty:TypeId} {pos:String} {af:Array Edge} {g:Option (Nat×Bool)}
variable {α:Type} {T:Ty α} {xs ys:List α} {x y:Operand} {t u e:TypeId} {i:Option Addr×Nat} {n:Nat}
theorem OpS.conv {o:Oper} {L1:List Item} {ι:Type} {F:ι→VP} {L':ι→List Item} (hc:∀ φ w,HP c φ L w→HP c φ L1 w) (h:OpS P c o A L1 F L'):OpS P c o A L F L':=by
 intro φ a w K Q hm he hk
 refine h φ a w K Q (hc φ w hm) (fun x hx B hB=>?_) hk
 obtain ⟨D,h1,h2⟩:=hB
 exact h2 _ _ (hc φ w hm).mem.facts (he x hx D (.rfl' h1))
theorem OpP.conv {o:Oper} {L1:List Item} {F:VP} (hc:∀ φ w,HP c φ L w→HP c φ L1 w) (h:OpP P c o A L1 F):OpP P c o A L F:=by
 intro φ a w K Q hm he hk
 refine h φ a w K Q (hc φ w hm) (fun x hx B hB=>?_) hk
 obtain ⟨D,h1,h2⟩:=hB
 exact h2 _ _ (hc φ w hm).mem.facts (he x hx D (.rfl' h1))
theorem qva {φ:Fz} {w:World} (hm:HP c φ L w) (hL:buf (slV n i) e T xs∈L):n=xs.length∧n≤i.2∧i.2≤maxLen∧(i.1=none→i.2=0∧n=0):=by
 obtain ⟨flat,f1,f2,f3⟩:=qj7 (hm.mem.items _ hL)
 obtain ⟨a,cp⟩:=i
 rcases f3.2 with ⟨h1,h0⟩|⟨gg,cap,cur,e1,_,e2,e3,e4,e5,e6⟩
 ·unfold slV at h1
  injection h1 with h1 h2 h3
  dsimp only at h1 h2 h3
  subst h1 h2 h3
  exact ⟨h0.symm,Nat.le_refl _,Nat.zero_le _,fun _=>⟨rfl,rfl⟩⟩
 ·unfold slV at e1
  injection e1 with e7 e8 e9
  dsimp only at e7 e8 e9
  subst e7 e8 e9
  exact ⟨rfl,e3,e4,fun h=>by cases h⟩
theorem qnt {φ:Fz} {a:Act} {w:World} {lo hi:Option Operand} {l h:Nat} {ad:Option Addr} {m cp sz:Nat} (he:∀ v,v∈(Op.slice t x lo hi none).operands→∀ B,Ev A L v B→B.ok φ (a.eval v)) (hx:a.eval x = .slice ad m cp) (hu:P.underlying t=some (.slice e)) (hs:(P.info? e).map (·.size)=some sz) (hl:opN A L 0 lo l) (hh:opN A L m hi h) (h1:l≤h) (h2:h≤m) (h3:m≤cp) :
  (execOp a.eval ⟨d,.slice t x lo hi none,ty,pos,af,g⟩).run P w = .ok (.value (.slice (if cp=l then ad else ad.map (·.add (l*sz))) (h-l) (cp-l))) w:=by
 have hlo:∀ y,lo=some y→∃ k,a.eval y = .int k (l:Int):=fun y hy=>by
  subst hy
  obtain ⟨k,i,h3,h4⟩:=hl
  have h5:a.eval y = .int k i:=he y (by simp [Op.operands]) _ h3
  exact ⟨k,by rw [h5,h4]⟩
 have hhi:∀ y,hi=some y→∃ k,a.eval y = .int k (h:Int):=fun y hy=>by
  subst hy
  obtain ⟨k,i,h3,h4⟩:=hh
  have h5:a.eval y = .int k i:=he y (by simp [Op.operands]) _ h3
  exact ⟨k,by rw [h5,h4]⟩
 have hb:=qpn (P:=P) (a:=a) (lo:=lo) (hi:=hi) (l:=l) (h:=h) (n:=m) (cp:=cp) hlo (fun e=>by subst e;exact hl) hhi (fun e=>by subst e;exact hh) h1 h2 h3 w
 simp only [execOp,hx]
 refine qcg ?_
 simp only [Instr.sliceAt,Sem.run_bind,run_underlying hu,Result.andThen_ok,Instr.slice]
 simp only [Option.map_none] at hb ⊢
 simp only [hb,Result.andThen_ok,qby hs,Sem.run_pure]
theorem qyi {lo hi:Option Operand} {h sz:Nat} (hx:Ev A L x (Is (slV n i))) (hL:buf (slV n i) e T xs∈L) (hu:P.underlying t=some (.slice e)) (hs:(P.info? e).map (·.size)=some sz) (hl:opN A L 0 lo 0) (hh:opN A L n hi h) (h2:h≤n):OpP P c ⟨d,.slice t x lo hi none,ty,pos,af,g⟩ A L (Is (slV h i)):=
 opp fun φ a w hm he=>by
  obtain ⟨e1,e2,e3,e4⟩:=qva hm hL
  have h1:a.eval x=slV n i:=he x (by simp [Op.operands]) _ hx
  refine ⟨_,qnt (A:=A) (L:=L) (φ:=φ) he h1 hu hs hl hh (Nat.zero_le _) h2 e2,?_⟩
  show _=slV h i
  obtain ⟨ad,cp⟩:=i
  unfold slV
  dsimp only
  rw [Nat.sub_zero,Nat.sub_zero,Nat.zero_mul]
  cases ad with
  | none=>simp
  | some ad=>split <;> simp [Addr.add]
def ptV (n l sz:Nat) (i:Option Addr×Nat):Value:=.slice (if i.2=l then i.1 else i.1.map (·.add (l*sz))) (n-l) (i.2-l)
theorem qyj {lo hi:Option Operand} {l:Nat} (hx:Ev A L x (Is (slV n i))) (hL:buf (slV n i) e T xs∈L) (hu:P.underlying t=some (.slice e)) (hs:(P.info? e).map (·.size)=some T.size) (hl:opN A L 0 lo l) (hh:opN A L n hi n) (h2:l≤n):OpP P c ⟨d,.slice t x lo hi none,ty,pos,af,g⟩ A L (Is (ptV n l T.size i)):=
 opp fun φ a w hm he=>by
  obtain ⟨e1,e2,e3,e4⟩:=qva hm hL
  have h1:a.eval x=slV n i:=he x (by simp [Op.operands]) _ hx
  exact ⟨_,qnt (A:=A) (L:=L) (φ:=φ) he h1 hu hs hl hh h2 (Nat.le_refl _) e2,rfl⟩
theorem slV_own (n h:Nat) (i:Option Addr×Nat):(slV n i).ownBlock=(slV h i).ownBlock:=by
 obtain ⟨a,cp⟩:=i
 cases a <;> rfl
theorem HP.cutBuf {φ:Fz} {w:World} {h:Nat} {L':List Item} (hm:HP c φ L w) (hr:Repl L (buf (slV n i) e T xs) (buf (slV h i) e T (xs.take h)) L') (hh:h≤xs.length):HP c φ L' w:=by
 have hat:(buf (slV h i) e T (xs.take h)).at_=(buf (slV n i) e T xs).at_:=slV_own h n i
 refine hm.upd hr (Kpt.refl _ _) ?_ fun b hb=>.inr (hat ▸ hb)
 obtain ⟨⟨flat,f0,f1,f2,f3⟩,f4⟩:=hm.mem.items _ hr.mem
 have hl:(xs.take h).length=h:=by rw [List.length_take];omega
 have hle:h*T.size≤xs.length*T.size:=Nat.mul_le_mul_right _ hh
 refine ⟨⟨flat.take (h*T.size),by rw [List.length_take,f0,hl];omega,by rw [zca];exact f1.take _,f2.sub fun u hu=>List.mem_of_mem_take hu,?_⟩,fun b hb=>f4 b (hat ▸ hb)⟩
 rcases f3 with ⟨h1,h0⟩|⟨gg,cap,cur,e1,e2,e3,e4,e5,e6⟩
 ·refine .inl ⟨?_,by rw [hl];omega⟩
  unfold slV at h1 ⊢
  injection h1 with h1 h2 h3
  rw [h1,h3,show h=0 by omega]
 ·refine .inr ⟨gg,cap,cur,?_,by rw [hat];exact e2,by rw [hl];omega,e4,e5,?_⟩
  ·unfold slV at e1 ⊢
   injection e1 with e7 e8 e9
   rw [e7,e9,hl]
  ·rw [hl,← e6,List.take_take,Nat.min_eq_left hle]
theorem za7 {h:Nat} {L1:List Item} {L':Option Addr×Nat→List Item} (hx:Ev A L1 x (Is (slV h i))) (hr:Repl L (buf (slV n i) e T xs) (buf (slV h i) e T (xs.take h)) L1) (hh:h≤xs.length) (hr2:∀ j,Repl L1 (buf (slV h i) e T (xs.take h)) (buf (slV (xs.take h++ys).length j) e T (xs.take h++ys)) (L' j)) (hy:Ev A L1 y (qal T ys)) (hT:AppT P t e T.size) (hlen:xs.length+ys.length≤1048576) :
  OpS P c ⟨d,.call { callee:=.builtin .append,args:=#[x,y],argTypes:=#[t,t] },ty,pos,af,g⟩ A L (fun j=>Is (slV (xs.take h++ys).length j)) L':=
 OpS.conv (fun φ w hm=>hm.cutBuf hr hh) (qb9 hx hr2 hy hT (by rw [List.length_take];omega))
theorem qq4 {m size l:Nat} {As:List VP} (xs:List α) (hx:Ev A L x (qew m size As)) (hs:SubLs L As (xs.flatMap T.cells)) (hn:m=xs.length) (hsz:size=T.size) (hy:Ev A L y (Is (ptV n l T.size i))) (hL:buf (slV n i) e T ys∈L) (hl:l≤ys.length) (hT:AppT P t e T.size) (hlen:xs.length+ys.length≤1048576) :
  OpP P c ⟨d,.call { callee:=.builtin .append,args:=#[x,y],argTypes:=#[t,t] },ty,pos,af,g⟩ A L (qal T (xs++ys.drop l)):=
 opq fun φ a w hm he=>by
  obtain ⟨b,h1,h2,h3,h4⟩:(qew m size As).ok φ (a.eval x):=he x (by simp [Op.operands,Call.operands]) _ hx
  have h5:a.eval y=ptV n l T.size i:=he y (by simp [Op.operands,Call.operands]) _ hy
  obtain ⟨olds,f1,f2,f3,f4⟩:=qhv h2
  have f5:Alls φ (xs.flatMap T.cells) olds:=hs.alls hm.mem.facts f1
  obtain ⟨v1,v2,v3,v4⟩:=qva hm hL
  obtain ⟨z,bytes,t1,t2,t3⟩:=hT.hi
  obtain ⟨q,hq,hzz⟩:=Option.map_eq_some_iff.1 t1
  simp only [Prod.mk.injEq] at hzz
  obtain ⟨hz,hsi,hb⟩:=hzz
  subst hn hsz v1
  have hol:olds.length=xs.length*T.size:=by rw [f2,h3]
  by_cases h0:l=ys.length
  ·have hnil:ys.drop l=[]:=by rw [h0,List.drop_length]
   have h7:(#[x,y].map a.eval)=#[.slice (some ⟨b,0,none⟩) xs.length xs.length,.slice (if i.2=l then i.1 else i.1.map (·.add (l*T.size))) 0 (i.2-l)]:=by
    simp [h1,h5,ptV,h0]
   generalize (if i.2=l then i.1 else i.1.map (·.add (l*T.size)))=ad at h7
   generalize i.2-l=cp at h7
   refine ⟨.slice (some ⟨b,0,none⟩) xs.length xs.length,φ,w,?_,HP.start (L:=[]) ⟨hm.mem.base,by simp,List.Pairwise.nil⟩,?_⟩
   ·simp only [execOp,resolve,h7,Sem.run_bind,Sem.run_pure,Result.andThen_ok,invoke,builtin]
    cases ad <;> simp [Builtin.append_,run_underlying hT.ht,sizeOf,typeInfo,hq,Builtin.lenOf,Builtin.firstCells,storeCells,loadCells,loadCellsFrom]
   ·rw [hnil,List.append_nil]
    refine ⟨_,_,_,rfl,rfl,Nat.le_refl _,h4,.inr ⟨b,0,rfl,fun k v hk j B hB=>?_⟩⟩
    obtain ⟨u,k1,k2⟩:=qoe (flat:=olds) f5 hk hB
    exact ⟨u,by rw [Nat.zero_add];have:=f4 _ _ k1;rw [Nat.zero_add] at this;exact this,k2,f3 u (List.mem_of_getElem? k1)⟩
  ·have hlt:l<ys.length:=by omega
   obtain ⟨gg,cap,cur,rfl,_,w2,w3,w4,w5,flat,w6,w7,w8,w9⟩:=qkj hm hL hlt
   have hcl:¬ cap=l:=by omega
   have h7:(#[x,y].map a.eval)=#[.slice (some ⟨b,0,none⟩) xs.length xs.length,.slice (some ⟨gg,l*T.size,none⟩) (ys.drop l).length (cap-l)]:=by
    simp [h1,h5,ptV,hcl,qdm]
   have hnews:Alls φ ((ys.drop l).flatMap T.cells) (flat.drop (l*T.size)):=by
    have e1:(ys.take l).flatMap T.cells++(ys.drop l).flatMap T.cells=ys.flatMap T.cells:=by rw [← List.flatMap_append,List.take_append_drop]
    have e2:((ys.take l).flatMap T.cells).length=l*T.size:=by rw [qh2,List.length_take];congr 1;omega
    have e3:=w7.drop (l*T.size)
    rw [← e1,← e2,List.drop_left,e2] at e3
    exact e3
   have hnl:(flat.drop (l*T.size)).length=(ys.drop l).length*T.size:=by
    rw [← hnews.len,qh2]
   have hcell:∀ j u,(flat.drop (l*T.size))[j]?=some u→w.cell? ⟨gg,l*T.size+j,none⟩=some u:=fun j u hj=>by
    rw [List.getElem?_drop] at hj
    rw [cell_of_row w gg _ cur e _ w2]
    rw [← w6] at hj
    have hll:l*T.size+j<ys.length*T.size:=by
     have:=(List.getElem?_eq_some_iff.1 hj).1
     rw [List.length_take] at this;omega
    rw [List.getElem?_take_of_lt hll,Array.getElem?_toList] at hj
    exact hj
   have hdl:(ys.drop l).length=ys.length-l:=List.length_drop ..
   have hby:=Nat.mul_le_mul (show xs.length+(ys.drop l).length≤1048576 by omega) t3
   have hr:=run_append_grow (P:=P) w t ty e q z hT.ht hq hz ⟨b,0,none⟩ xs.length xs.length olds (by rw [hol,hsi])
    (fun j u hu=>by rw [qdm];exact hm.mem.base _ _ _ (f4 j u hu)) ⟨gg,l*T.size,none⟩ (ys.drop l).length (cap-l) (flat.drop (l*T.size)) (by rw [hnl,hsi]) (fun j u hu=>by rw [qdm];exact hcell j u hu) (by omega) (by omega)
    (growslice_fits (by omega) (by rw [hb];omega))
   have hd:HP c φ L w.drew:=hm.drew
   have hones:ones (flat.drop (l*T.size)):=w8.sub fun u hu=>List.mem_of_mem_drop hu
   obtain ⟨φ',g1,g2,g3⟩:=zbu (e:=e) (vs:=olds++flat.drop (l*T.size)) (rs:=(Builtin.zeroCells z.cells (grownCap w (xs.length+(ys.drop l).length) xs.length e-(xs.length+(ys.drop l).length))).toList) (As:=(xs++ys.drop l).flatMap T.cells) hd (by rw [List.flatMap_append];exact f5.append hnews) (fun u hu=>by
    rcases List.mem_append.1 hu with hu|hu
    ·exact f3 u hu
    ·exact hones u hu)
   have hw:olds.toArray++(flat.drop (l*T.size)).toArray++Builtin.zeroCells z.cells (grownCap w (xs.length+(ys.drop l).length) xs.length e-(xs.length+(ys.drop l).length))=((olds++flat.drop (l*T.size))++(Builtin.zeroCells z.cells (grownCap w (xs.length+(ys.drop l).length) xs.length e-(xs.length+(ys.drop l).length))).toList).toArray:=by simp
   rw [hw] at hr
   refine ⟨_,φ',_,?_,⟨g2.mem,⟨g2.kept.os,g2.kept.tape,g2.kept.output,g2.kept.size,g2.kept.block⟩,g2.mine,g2.old⟩,⟨some ⟨w.heap.size,0,none⟩,xs.length+(ys.drop l).length,grownCap w (xs.length+(ys.drop l).length) xs.length e,rfl,by rw [List.length_append],grownCap_ge w _ _ _,grownCap_le_maxLen w _ _ _ (by unfold maxLen;omega),.inr ⟨_,0,rfl,fun k v hk j B hB=>?_⟩⟩⟩
   ·simp only [execOp,resolve,h7,Sem.run_bind,Sem.run_pure,Result.andThen_ok,invoke,builtin,hr]
   ·have:=g3 _ B (qj4 hk hB)
    rw [← Nat.add_assoc] at this
    exact this
end
end Go.Proofs.YtmgoplaamlignaaGreat
