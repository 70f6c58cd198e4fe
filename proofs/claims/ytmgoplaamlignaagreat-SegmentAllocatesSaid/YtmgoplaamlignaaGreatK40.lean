/- Texts laid together: walks of functions, what they compute, and plain laws of it. Own work. -/
import Derived.Test.YtmgoplaamlignaaGreatK26
import Derived.Test.YtmgoplaamlignaaGreatK39
import Derived.Test.YtmgoplaamlignaaGreatK9
import Derived.Test.YtmgoplaamlignaaGreatK25
import Derived.Test.YtmgoplaamlignaaGreatK1
namespace Go.Proofs.YtmgoplaamlignaaGreat
open Go.RowKit Tryz
set_option linter.unusedVariables false
set_option linter.unusedSimpArgs false
set_option maxRecDepth 100000
set_option maxHeartbeats 4000000
structure Pq where
 kind:Int
 line:Int
 word:Int
 w:BitVec 64
def tPq:Ty Pq:=⟨4,fun a=>[Is (.int .i64 a.kind),Is (.int .i64 a.line),Is (.int .i64 a.word),Is (.int .u64 (UV a.w))],fun _=>rfl⟩
def Pg.setd (p:Pg) (j:Nat) (x:BitVec 64):Pg:=match j with
 | 0=>{ p with d0:=x }
 | 1=>{ p with d1:=x }
 | 2=>{ p with d2:=x }
 | 3=>{ p with d3:=x }
 | 4=>{ p with d4:=x }
 | 5=>{ p with d5:=x }
 | _=>{ p with d6:=x }
theorem qjs (p:Pg) {j:Nat} (x:BitVec 64) (hj:j<7):tPg.cells (p.setd j x)=ovr (tPg.cells p) (2+j) [Is (.int .u64 (UV x))]:=by
 match j,hj with
 | 0,_=>rfl
 | 1,_=>rfl
 | 2,_=>rfl
 | 3,_=>rfl
 | 4,_=>rfl
 | 5,_=>rfl
 | 6,_=>rfl
theorem qt0 (p:Pg) {j:Nat} (hj:j<7):∃ x:BitVec 64,(tPg.cells p)[2+j]?=some (Is (.int .u64 (UV x))):=by
 match j,hj with
 | 0,_=>exact ⟨_,rfl⟩
 | 1,_=>exact ⟨_,rfl⟩
 | 2,_=>exact ⟨_,rfl⟩
 | 3,_=>exact ⟨_,rfl⟩
 | 4,_=>exact ⟨_,rfl⟩
 | 5,_=>exact ⟨_,rfl⟩
 | 6,_=>exact ⟨_,rfl⟩
theorem qry {k j:Nat} (h:2+j+1≤9):(Nat.beq 1 1&&Nat.ble (2+j+1) 9)=true:=by
 rw [Nat.ble_eq_true_of_le h];rfl
theorem qk9 (p:Pg) (j:Nat) (x:BitVec 64):(p.setd j x).l=p.l:=by
 unfold Pg.setd;split <;> rfl
theorem qgj {H:List Pg} {k:Nat} {p q:Pg} (h:LnI H) (hp:H[k]?=some p) (hq:q.l=p.l):LnI (H.set k q):=fun i r hr=>by
 rcases Nat.lt_or_ge k H.length with hk|hk
 ·by_cases hi:k=i
  ·subst hi
   rw [List.getElem?_set_self hk] at hr
   cases hr
   rw [hq];exact h _ _ hp
  ·rw [List.getElem?_set_ne hi] at hr
   exact h i r hr
 ·rw [List.set_eq_of_length_le hk] at hr;exact h i r hr
theorem zbf (a:Int) {m:Int} (hm:0<m):∃ j:Nat,a % m=j∧(j:Int)<m:=
 ⟨(a % m).toNat,by have:=Int.emod_nonneg a (show m≠0 by omega);omega,by have:=Int.emod_nonneg a (show m≠0 by omega);have:=Int.emod_lt_of_pos a hm;omega⟩
section
variable {P:Program} {ops:Array Oper} {Q:Exit→Go.Act→World→Prop} {c:Ctx} {N:Nat} {rest:List Oper} {E:Env} {L:List Item}
theorem JL_mod {q:IntKind} {a m:Int} (t:Nat) (hl:look E t=some (Is (.int q (a % m)))) (hm:0<m) (h:∀ j:Nat,(j:Int)<m→JL P ops Q c N rest ((t,Is (.int q (j:Int))) :: E) L):JL P ops Q c N rest E L:=by
 obtain ⟨j,h1,h2⟩:=zbf a hm
 exact qge t (Is (.int q (j:Int))) hl (SubL.eq (by rw [h1])) (h j h2)
theorem JC_mod {q:IntKind} {a m:Int} {x:Code} (t:Nat) (hl:look E t=some (Is (.int q (a % m)))) (hm:0<m) (h:∀ j:Nat,(j:Int)<m→JC P c N x ((t,Is (.int q (j:Int))) :: E) L Q):JC P c N x E L Q:=by
 obtain ⟨j,h1,h2⟩:=zbf a hm
 exact qb0 t (Is (.int q (j:Int))) hl (SubL.eq (by rw [h1])) (h j h2)
end
theorem zc5 (n:Nat) (H0:List Pg) (l:List Pq) (hn:8≤n∧n≤200) (hH0:H0.length=n) (hln0:LnI H0) (hl:l.length≤1000):FnP Tryz.prog 30 [qal tPg H0,qal tPq l] (qek (fun r:List Pg=>r.length=n∧LnI r) fun r=>qal tPg r):=by
 refine FnP.enter func30 ntmps30 rfl rfl ?_
 intro c hX
 refine t7 ?_
 (refine qzh rfl (qbx tPg rfl rfl) ?_;intro i10)
 refine s1 ?_
 (refine qe6 rfl (qb9 (er rfl) (fun _=>qae) qar (by exact qep rfl rfl rfl) qbt) ?_;intro i12)
 refine t5 ?_
 rw [show ([]++H0:List Pg).length=n by rw [List.nil_append];exact hH0]
 refine t5 ?_
 refine qaz [(1,_),(4,_),(5,_)] [] (fun y:Nat×(List Pg)=>y.1≤(l).length∧(y.2.length=n∧LnI y.2)) (fun y=>[(6,Is (.int .i64 (y.1:Nat)))]) (fun y=>[buf (slV n i12) 53 tPg y.2]) (fun y=>(l).length-y.1) (0,([]++H0)) ?_ qah qab ?_
 ·exact ⟨by exact Nat.zero_le _,⟨hH0,hln0⟩⟩
 rintro ⟨k,H⟩ ⟨hk,hI⟩
 dsimp only at hk hI ⊢
 refine t9 ?_
 refine cN ?_ ?_ <;> intro h3
 ·have hlt:k<(l).length:=by have:=of_decide_eq_true h3;omega
  clear h3
  obtain ⟨z,hz⟩:∃ q,(l)[k]?=some q:=⟨_,List.getElem?_eq_getElem hlt⟩
  obtain ⟨hHn,hLn⟩:=hI
  refine t13 ?_
  refine qap rfl (by ((refine qac call9 (qd4 _ _ ?_ ?_) ⟨qar,⟨qar,trivial⟩⟩);all_goals (first|omega|(simp;done)|(simp;omega)|(refine Nat.le_trans (qai _ _) ?_;omega)|(refine Nat.le_trans (qai _ _) (Nat.le_trans (Nat.add_le_add_right (qai _ _) _) ?_);omega)))) ?_
  refine t4 ?_
  refine JC_mod (m:=(n:Int)) 7 rfl (by omega) (fun kk hkk=>?_)
  obtain ⟨p,hp⟩:∃ p,H[kk]?=some p:=⟨_,List.getElem?_eq_getElem (by omega)⟩
  have hof:∀ ww:Nat,kk*tPg.size+2+ww*1=kk*tPg.size+(2+ww):=fun ww=>by rw [Nat.mul_one,Nat.add_assoc]
  refine t6 ?_
  refine qap rfl (by ((refine qac call9 (qd4 _ _ ?_ ?_) ⟨qar,⟨qar,trivial⟩⟩);all_goals (first|omega|(simp;done)|(simp;omega)|(refine Nat.le_trans (qai _ _) ?_;omega)|(refine Nat.le_trans (qai _ _) (Nat.le_trans (Nat.add_le_add_right (qai _ _) _) ?_);omega)))) ?_
  refine t4 ?_
  refine JC_mod (m:=7) 8 rfl (by omega) (fun ww hw7'=>?_)
  have hw7:ww<7:=by omega
  replace hof:=hof ww
  obtain ⟨dx,hdx⟩:=qt0 p hw7
  refine t11 ?_
  refine qap rfl (by ((refine qac call9 (qd4 _ _ ?_ ?_) ⟨qar,⟨qar,trivial⟩⟩);all_goals (first|omega|(simp;done)|(simp;omega)|(refine Nat.le_trans (qai _ _) ?_;omega)|(refine Nat.le_trans (qai _ _) (Nat.le_trans (Nat.add_le_add_right (qai _ _) _) ?_);omega)))) ?_
  (refine JL_mod (m:=(n:Int)) 43 rfl (by omega) (fun jj hjj=>?_));obtain ⟨q,hq⟩:∃ q,H[jj]?=some q:=⟨_,List.getElem?_eq_getElem (by omega)⟩;obtain ⟨dy,hdy⟩:=qt0 q hw7
  refine qap rfl (by exact qao (k:=jj) (er rfl) qbp (er rfl) rfl rfl qca qbt) ?_
  refine qap rfl (by exact qbd (er rfl) qbp hq rfl rfl rfl) ?_
  refine s1 ?_
  intro i9
  refine t10 ?_
  refine qap rfl (by ((refine qac call9 (qd4 _ _ ?_ ?_) ⟨qar,⟨qar,trivial⟩⟩);all_goals (first|omega|(simp;done)|(simp;omega)|(refine Nat.le_trans (qai _ _) ?_;omega)|(refine Nat.le_trans (qai _ _) (Nat.le_trans (Nat.add_le_add_right (qai _ _) _) ?_);omega)))) ?_
  refine t9 ?_
  refine cN ?_ ?_ <;> intro h9
  ·refine qa0 rfl (by kernel_rfl) ?_
   refine qct [0,0,0,0,0,1,1,1,1,1,1,2] (by kernel_rfl) (by kernel_rfl) ?_
   refine qb7 (qay rfl) ?_
   refine qb7 (qay rfl) ?_
   refine qb7 (qay rfl) ?_
   refine qb7 (qay rfl) ?_
   refine qb7 (qay rfl) ?_
   refine qc4 (by exact qau (j:=_) (er rfl) (er rfl) rfl rfl rf hz) ?_
   refine qc4 (by exact qa1 (k:=3) (er rfl) rfl rfl rfl rfl qbo) ?_
   refine qc4 (by exact qbw (er rfl) rfl rfl rfl) ?_
   refine qc4 (by exact qao (k:=kk) (er rfl) qbp (er rfl) rfl rfl qca qbt) ?_
   refine qc4 (by exact qbg (k:=2) (er rfl) qbp qbt rfl rfl rfl rfl) ?_
   refine qc4 (qc5 (k:=ww) (sz:=1) (er rfl) qbp qbt (er rfl) rfl rfl qca (by omega)) ?_
   refine qiy (qb1 (T:=tPg) (m:=1) (Bs:=[Is (.int .u64 (UV z.w))]) (z':=p.setd ww z.w) (k:=kk) (o:=2+ww) (Ev.sub rfl (SubL.eq (congrArg Is (congrArg (bpt _) hof)))) qar qaf qae hp rfl (qry (k:=0) (j:=ww) (by omega)) (qjs p _ hw7)) ?_
   refine qeu ?_
   refine qat ?_
   refine t8 ?_
   refine qaa (k+1,_) ?_ ?_ qah qab
   ·exact ⟨by omega,by exact ⟨by rw [List.length_set];exact hHn,qgj hLn hp (qk9 _ _ _)⟩⟩
   ·exact (by omega)
  refine t6 ?_
  refine cN ?_ ?_ <;> intro h11
  ·obtain ⟨sh,hsh⟩:∃ q:Nat,(UV z.w).tmod 64=(q:Int):=⟨z.w.toNat % 64,by show ((z.w.toNat:Nat):Int).tmod 64=_;rw [Int.tmod_eq_emod_of_nonneg (by omega)];omega⟩
   refine qa0 rfl (by kernel_rfl) ?_
   refine qct [0,0,0,1,1,1,1,0,0,1,1,1,0,0,0,1,1,1,2] (by kernel_rfl) (by kernel_rfl) ?_
   refine qb7 (qay rfl) ?_
   refine qb7 (qay rfl) ?_
   refine qb7 (qay rfl) ?_
   refine qc4 (by exact qao (k:=kk) (er rfl) qbp (er rfl) rfl rfl qca qbt) ?_
   refine qc4 (by exact qbg (k:=2) (er rfl) qbp qbt rfl rfl rfl rfl) ?_
   refine qc4 (qc5 (k:=ww) (sz:=1) (er rfl) qbp qbt (er rfl) rfl rfl qca (by omega)) ?_
   refine qc4 (qer (T:=tPg) (k:=kk) (j:=2+ww) (Ev.sub rfl (SubL.eq (congrArg Is (congrArg (bpt _) hof)))) qbp hp rfl rfl hdx) ?_
   refine qb7 (qay rfl) ?_
   refine qb7 (qay rfl) ?_
   refine qc4 (by exact qau (j:=_) (er rfl) (er rfl) rfl rfl rf hz) ?_
   refine qc4 (by exact qa1 (k:=3) (er rfl) rfl rfl rfl rfl qbo) ?_
   refine qc4 (by exact qbw (er rfl) rfl rfl rfl) ?_
   refine qb7 (qkb (er rfl) (er rfl) (by omega) hsh) ?_
   refine qb7 (by exact qd5 (k:=sh) qgi (er rfl) (by omega) qca) ?_
   refine qb7 (by exact qea qgi qgi (by simp) (quu _ _)) ?_
   refine qc4 (by exact qao (k:=kk) (er rfl) qbp (er rfl) rfl rfl qca qbt) ?_
   refine qc4 (by exact qbg (k:=2) (er rfl) qbp qbt rfl rfl rfl rfl) ?_
   refine qc4 (qc5 (k:=ww) (sz:=1) (er rfl) qbp qbt (er rfl) rfl rfl qca (by omega)) ?_
   refine qiy (qb1 (T:=tPg) (m:=1) (Bs:=[Is (.int .u64 (UV (dx ^^^ _)))]) (z':=p.setd ww (dx ^^^ _)) (k:=kk) (o:=2+ww) (Ev.sub rfl (SubL.eq (congrArg Is (congrArg (bpt _) hof)))) qar qaf qae hp rfl (qry (k:=0) (j:=ww) (by omega)) (qjs p _ hw7)) ?_
   refine qeu ?_
   refine qat ?_
   refine t8 ?_
   refine qaa (k+1,_) ?_ ?_ qah qab
   ·exact ⟨by omega,by exact ⟨by rw [List.length_set];exact hHn,qgj hLn hp (qk9 _ _ _)⟩⟩
   ·exact (by omega)
  refine t7 ?_
  refine cN ?_ ?_ <;> intro h13
  ·refine t2 ?_
   refine cN ?_ ?_ <;> intro h13
   ·refine qa0 rfl (by kernel_rfl) ?_
    refine qct [0,0,0,0,1,1,1,0,0,0,0,1,1,1,0,0,1,1,2] (by kernel_rfl) (by kernel_rfl) ?_
    refine qb7 (qay rfl) ?_
    refine qb7 (qay rfl) ?_
    refine qb7 (qay rfl) ?_
    refine qb7 (qay rfl) ?_
    refine qc4 (by exact qao (k:=kk) (er rfl) qbp (er rfl) rfl rfl qca qbt) ?_
    refine qc4 (by exact qbg (k:=1) (er rfl) qbp qbt rfl rfl rfl rfl) ?_
    refine qc4 (by exact qer (er rfl) qbp hp rfl rfl rf) ?_
    refine qb7 (qi3 (er rfl) (er rfl) (by omega) qfv) ?_
    refine qb7 (by exact qs7 (er rfl) (er rfl) qfv) ?_
    refine qb7 (qay rfl) ?_
    refine qb7 (qay rfl) ?_
    refine qc4 (by exact qau (j:=_) (er rfl) (er rfl) rfl rfl rf hz) ?_
    refine qc4 (by exact qa1 (k:=3) (er rfl) rfl rfl rfl rfl qbo) ?_
    refine qc4 (by exact qbw (er rfl) rfl rfl rfl) ?_
    refine qb7 (qkb (er rfl) (er rfl) (by omega) rfl) ?_
    refine qb7 (qft (er rfl) (er rfl) (qh6 (wrr _)).symm) ?_
    refine qc4 (by exact qao (k:=kk) (er rfl) qbp (er rfl) rfl rfl qca qbt) ?_
    refine qc4 (by exact qbg (k:=1) (er rfl) qbp qbt rfl rfl rfl rfl) ?_
    refine qiy (by exact qb1 (z':={ p with h:=BitVec.ofInt 64 _ }) (er rfl) (er rfl) qaf qae hp rfl rf rf) ?_
    refine qeu ?_
    refine qat ?_
    refine t8 ?_
    refine qaa (k+1,_) ?_ ?_ qah qab
    ·exact ⟨by omega,by exact ⟨by rw [List.length_set];exact hHn,qgj hLn hp rfl⟩⟩
    ·exact (by omega)
   refine t6 ?_
   refine cN ?_ ?_ <;> intro h16
   ·refine t3 ?_
    refine qap rfl (by exact qbf (k:=2) (er rfl) rfl rfl rfl rfl) ?_
    refine s1 ?_
    refine qap rfl (by exact qao (k:=kk) (er rfl) qbp (er rfl) rfl rfl qca qbt) ?_
    refine qap rfl (by exact qbg (k:=2) (er rfl) qbp qbt rfl rfl rfl rfl) ?_
    refine qk0 (by exact qb1 (z':=(⟨p.l,p.h,q.d0,q.d1,q.d2,q.d3,q.d4,q.d5,q.d6⟩:Pg)) (er rfl) (er rfl) qaf qae hp rfl rf rf) ?_
    refine t9 ?_
    refine qaa (k+1,_) ?_ ?_ qah qab
    ·exact ⟨by omega,by exact ⟨by rw [List.length_set];exact hHn,qgj hLn hp rfl⟩⟩
    ·exact (by omega)
   refine t6 ?_
   refine cN ?_ ?_ <;> intro h18
   ·refine qa0 rfl (by kernel_rfl) ?_
    refine qct [0,0,0,0,1,1,1,1,1,1,2] (by kernel_rfl) (by kernel_rfl) ?_
    refine qb7 (qay rfl) ?_
    refine qb7 (qay rfl) ?_
    refine qb7 (qay rfl) ?_
    refine qb7 (qay rfl) ?_
    refine qc4 (by exact qbf (k:=2) (er rfl) rfl rfl rfl rfl) ?_
    refine qc4 (qan (k:=ww) (sz:=1) (er rfl) (er rfl) rfl rfl qca (by omega)) ?_
    refine qc4 (qd9 (o:=2+ww) (Ev.sub rfl (SubL.eq (congrArg Is (congrArg (fun o=>Value.pointer (some ⟨_,o,none⟩)) (show 2+ww*1=2+ww by omega))))) qbp rfl rfl hdy) ?_
    refine qc4 (by exact qao (k:=kk) (er rfl) qbp (er rfl) rfl rfl qca qbt) ?_
    refine qc4 (by exact qbg (k:=2) (er rfl) qbp qbt rfl rfl rfl rfl) ?_
    refine qc4 (qc5 (k:=ww) (sz:=1) (er rfl) qbp qbt (er rfl) rfl rfl qca (by omega)) ?_
    refine qiy (qb1 (T:=tPg) (m:=1) (Bs:=[Is (.int .u64 (UV dy))]) (z':=p.setd ww dy) (k:=kk) (o:=2+ww) (Ev.sub rfl (SubL.eq (congrArg Is (congrArg (bpt _) hof)))) qar qaf qae hp rfl (qry (k:=0) (j:=ww) (by omega)) (qjs p _ hw7)) ?_
    refine qeu ?_
    refine qat ?_
    refine t8 ?_
    refine qaa (k+1,_) ?_ ?_ qah qab
    ·exact ⟨by omega,by exact ⟨by rw [List.length_set];exact hHn,qgj hLn hp (qk9 _ _ _)⟩⟩
    ·exact (by omega)
   refine t6 ?_
   refine cN ?_ ?_ <;> intro h20
   ·refine t3 ?_
    refine qap rfl (qd6 (size:=1) (qs:=[]) rfl rfl rfl rfl trivial rf qbo) ?_
    refine qap rfl (by exact qao (k:=kk) (er rfl) qbp (er rfl) rfl rfl qca qbt) ?_
    refine qap rfl (by exact qbg (k:=2) (er rfl) qbp qbt rfl rfl rfl rfl) ?_
    refine qk0 (by exact qb1 (z':=(⟨p.l,p.h,0#64,0#64,0#64,0#64,0#64,0#64,0#64⟩:Pg)) (er rfl) (er rfl) qaf qae hp rfl rf rf) ?_
    refine t9 ?_
    refine qaa (k+1,_) ?_ ?_ qah qab
    ·exact ⟨by omega,by exact ⟨by rw [List.length_set];exact hHn,qgj hLn hp rfl⟩⟩
    ·exact (by omega)
   refine t6 ?_
   refine cN ?_ ?_ <;> intro h22
   ·refine qa0 rfl (by kernel_rfl) ?_
    refine qct [0,0,1,1,1,1,0,1,1,1,2] (by kernel_rfl) (by kernel_rfl) ?_
    refine qb7 (qay rfl) ?_
    refine qb7 (qay rfl) ?_
    refine qc4 (by exact qao (k:=kk) (er rfl) qbp (er rfl) rfl rfl qca qbt) ?_
    refine qc4 (by exact qbg (k:=2) (er rfl) qbp qbt rfl rfl rfl rfl) ?_
    refine qc4 (qc5 (k:=0) (sz:=1) (er rfl) qbp qbt (er rfl) rfl rfl qca (by omega)) ?_
    refine qc4 (by exact qer (er rfl) qbp hp rfl rfl rf) ?_
    refine qb7 (by exact qfe qgi qgi (qop _ _ _)) ?_
    refine qc4 (by exact qao (k:=kk) (er rfl) qbp (er rfl) rfl rfl qca qbt) ?_
    refine qc4 (by exact qbg (k:=2) (er rfl) qbp qbt rfl rfl rfl rfl) ?_
    refine qc4 (qc5 (k:=0) (sz:=1) (er rfl) qbp qbt (er rfl) rfl rfl qca (by omega)) ?_
    refine qiy (by exact qb1 (z':=(⟨p.l,p.h,p.d0+256#64,p.d1,p.d2,p.d3,p.d4,p.d5,p.d6⟩:Pg)) (er rfl) (er rfl) qaf qae hp rfl rf rf) ?_
    refine qeu ?_
    refine qat ?_
    refine t8 ?_
    refine qaa (k+1,_) ?_ ?_ qah qab
    ·exact ⟨by omega,by exact ⟨by rw [List.length_set];exact hHn,qgj hLn hp rfl⟩⟩
    ·exact (by omega)
   refine t9 ?_
   refine qaa (k+1,_) ?_ ?_ qah qab
   ·exact ⟨by omega,by exact ⟨hHn,hLn⟩⟩
   ·exact (by omega)
  refine t5 ?_
  refine cN ?_ ?_ <;> intro h14
  ·refine qa0 rfl (by kernel_rfl) ?_
   refine qct [0,0,0,0,1,1,1,0,0,0,0,1,1,1,0,0,1,1,2] (by kernel_rfl) (by kernel_rfl) ?_
   refine qb7 (qay rfl) ?_
   refine qb7 (qay rfl) ?_
   refine qb7 (qay rfl) ?_
   refine qb7 (qay rfl) ?_
   refine qc4 (by exact qao (k:=kk) (er rfl) qbp (er rfl) rfl rfl qca qbt) ?_
   refine qc4 (by exact qbg (k:=1) (er rfl) qbp qbt rfl rfl rfl rfl) ?_
   refine qc4 (by exact qer (er rfl) qbp hp rfl rfl rf) ?_
   refine qb7 (qi3 (er rfl) (er rfl) (by omega) qfv) ?_
   refine qb7 (by exact qs7 (er rfl) (er rfl) qfv) ?_
   refine qb7 (qay rfl) ?_
   refine qb7 (qay rfl) ?_
   refine qc4 (by exact qau (j:=_) (er rfl) (er rfl) rfl rfl rf hz) ?_
   refine qc4 (by exact qa1 (k:=3) (er rfl) rfl rfl rfl rfl qbo) ?_
   refine qc4 (by exact qbw (er rfl) rfl rfl rfl) ?_
   refine qb7 (qkb (er rfl) (er rfl) (by omega) rfl) ?_
   refine qb7 (qft (er rfl) (er rfl) (qh6 (wrr _)).symm) ?_
   refine qc4 (by exact qao (k:=kk) (er rfl) qbp (er rfl) rfl rfl qca qbt) ?_
   refine qc4 (by exact qbg (k:=1) (er rfl) qbp qbt rfl rfl rfl rfl) ?_
   refine qiy (by exact qb1 (z':={ p with h:=BitVec.ofInt 64 _ }) (er rfl) (er rfl) qaf qae hp rfl rf rf) ?_
   refine qeu ?_
   refine qat ?_
   refine t8 ?_
   refine qaa (k+1,_) ?_ ?_ qah qab
   ·exact ⟨by omega,by exact ⟨by rw [List.length_set];exact hHn,qgj hLn hp rfl⟩⟩
   ·exact (by omega)
  refine t6 ?_
  refine cN ?_ ?_ <;> intro h16
  ·refine t3 ?_
   refine qap rfl (by exact qbf (k:=2) (er rfl) rfl rfl rfl rfl) ?_
   refine s1 ?_
   refine qap rfl (by exact qao (k:=kk) (er rfl) qbp (er rfl) rfl rfl qca qbt) ?_
   refine qap rfl (by exact qbg (k:=2) (er rfl) qbp qbt rfl rfl rfl rfl) ?_
   refine qk0 (by exact qb1 (z':=(⟨p.l,p.h,q.d0,q.d1,q.d2,q.d3,q.d4,q.d5,q.d6⟩:Pg)) (er rfl) (er rfl) qaf qae hp rfl rf rf) ?_
   refine t9 ?_
   refine qaa (k+1,_) ?_ ?_ qah qab
   ·exact ⟨by omega,by exact ⟨by rw [List.length_set];exact hHn,qgj hLn hp rfl⟩⟩
   ·exact (by omega)
  refine t6 ?_
  refine cN ?_ ?_ <;> intro h18
  ·refine qa0 rfl (by kernel_rfl) ?_
   refine qct [0,0,0,0,1,1,1,1,1,1,2] (by kernel_rfl) (by kernel_rfl) ?_
   refine qb7 (qay rfl) ?_
   refine qb7 (qay rfl) ?_
   refine qb7 (qay rfl) ?_
   refine qb7 (qay rfl) ?_
   refine qc4 (by exact qbf (k:=2) (er rfl) rfl rfl rfl rfl) ?_
   refine qc4 (qan (k:=ww) (sz:=1) (er rfl) (er rfl) rfl rfl qca (by omega)) ?_
   refine qc4 (qd9 (o:=2+ww) (Ev.sub rfl (SubL.eq (congrArg Is (congrArg (fun o=>Value.pointer (some ⟨_,o,none⟩)) (show 2+ww*1=2+ww by omega))))) qbp rfl rfl hdy) ?_
   refine qc4 (by exact qao (k:=kk) (er rfl) qbp (er rfl) rfl rfl qca qbt) ?_
   refine qc4 (by exact qbg (k:=2) (er rfl) qbp qbt rfl rfl rfl rfl) ?_
   refine qc4 (qc5 (k:=ww) (sz:=1) (er rfl) qbp qbt (er rfl) rfl rfl qca (by omega)) ?_
   refine qiy (qb1 (T:=tPg) (m:=1) (Bs:=[Is (.int .u64 (UV dy))]) (z':=p.setd ww dy) (k:=kk) (o:=2+ww) (Ev.sub rfl (SubL.eq (congrArg Is (congrArg (bpt _) hof)))) qar qaf qae hp rfl (qry (k:=0) (j:=ww) (by omega)) (qjs p _ hw7)) ?_
   refine qeu ?_
   refine qat ?_
   refine t8 ?_
   refine qaa (k+1,_) ?_ ?_ qah qab
   ·exact ⟨by omega,by exact ⟨by rw [List.length_set];exact hHn,qgj hLn hp (qk9 _ _ _)⟩⟩
   ·exact (by omega)
  refine t6 ?_
  refine cN ?_ ?_ <;> intro h20
  ·refine t3 ?_
   refine qap rfl (qd6 (size:=1) (qs:=[]) rfl rfl rfl rfl trivial rf qbo) ?_
   refine qap rfl (by exact qao (k:=kk) (er rfl) qbp (er rfl) rfl rfl qca qbt) ?_
   refine qap rfl (by exact qbg (k:=2) (er rfl) qbp qbt rfl rfl rfl rfl) ?_
   refine qk0 (by exact qb1 (z':=(⟨p.l,p.h,0#64,0#64,0#64,0#64,0#64,0#64,0#64⟩:Pg)) (er rfl) (er rfl) qaf qae hp rfl rf rf) ?_
   refine t9 ?_
   refine qaa (k+1,_) ?_ ?_ qah qab
   ·exact ⟨by omega,by exact ⟨by rw [List.length_set];exact hHn,qgj hLn hp rfl⟩⟩
   ·exact (by omega)
  refine t6 ?_
  refine cN ?_ ?_ <;> intro h22
  ·refine qa0 rfl (by kernel_rfl) ?_
   refine qct [0,0,1,1,1,1,0,1,1,1,2] (by kernel_rfl) (by kernel_rfl) ?_
   refine qb7 (qay rfl) ?_
   refine qb7 (qay rfl) ?_
   refine qc4 (by exact qao (k:=kk) (er rfl) qbp (er rfl) rfl rfl qca qbt) ?_
   refine qc4 (by exact qbg (k:=2) (er rfl) qbp qbt rfl rfl rfl rfl) ?_
   refine qc4 (qc5 (k:=0) (sz:=1) (er rfl) qbp qbt (er rfl) rfl rfl qca (by omega)) ?_
   refine qc4 (by exact qer (er rfl) qbp hp rfl rfl rf) ?_
   refine qb7 (by exact qfe qgi qgi (qop _ _ _)) ?_
   refine qc4 (by exact qao (k:=kk) (er rfl) qbp (er rfl) rfl rfl qca qbt) ?_
   refine qc4 (by exact qbg (k:=2) (er rfl) qbp qbt rfl rfl rfl rfl) ?_
   refine qc4 (qc5 (k:=0) (sz:=1) (er rfl) qbp qbt (er rfl) rfl rfl qca (by omega)) ?_
   refine qiy (by exact qb1 (z':=(⟨p.l,p.h,p.d0+256#64,p.d1,p.d2,p.d3,p.d4,p.d5,p.d6⟩:Pg)) (er rfl) (er rfl) qaf qae hp rfl rf rf) ?_
   refine qeu ?_
   refine qat ?_
   refine t8 ?_
   refine qaa (k+1,_) ?_ ?_ qah qab
   ·exact ⟨by omega,by exact ⟨by rw [List.length_set];exact hHn,qgj hLn hp rfl⟩⟩
   ·exact (by omega)
  refine t9 ?_
  refine qaa (k+1,_) ?_ ?_ qah qab
  ·exact ⟨by omega,by exact ⟨hHn,hLn⟩⟩
  ·exact (by omega)
 have hke:k=(l).length:=by have:=of_decide_eq_false h3;omega
 clear h3
 subst hke
 obtain ⟨hHn,hLn⟩:=hI
 subst hHn
 refine qa8 hX (v:=slV _ i12) qae ?_
 refine t12 ?_
 exact rXF _ results30 (hp:=by exact ⟨rfl,hLn⟩) (hD0:=hX.2)
section
open Go.RowKit Go.ChangeShapes Go.WideShapes Go.ChangeAt
section
variable {H:Type} {enc:TypeId×Value→H} {w:World} {base:Nat} {sp:Nat→Bool} {held:Bool}
def Acn.wf (a:Acn):Prop:=qix a.kind∧qix a.client∧qix a.key∧qix a.a∧qix a.b∧qix a.n
theorem qff:Tryz.prog.cellsOf 127=6:=by kernel_rfl
theorem qgc:Tryz.prog.cellsOf 3=1:=by kernel_rfl
theorem rds_Act:Rds enc Tryz.prog w base sp held 127 tAct Acn.wf:=by
 intro fuel cs x h
 obtain ⟨xs,n,_,_,hlen,hxs,hf⟩:=DataW.trod_struct Tryz.underlying127 h
 rw [qff] at hlen
 match cs,hlen with
 | [c0,c1,c2,c3,c4,c5],_ =>
  match xs,hxs with
  | [x0,x1,x2,x3,x4,x5],_ =>
   have f0:DataW.trod enc Tryz.prog w base sp held n 3 (([c0,c1,c2,c3,c4,c5].drop 0).take (Tryz.prog.cellsOf 3))=some x0:=hf 0 _ rfl
   rw [qgc] at f0
   obtain ⟨a0,g0,o0,w0⟩:=(rds_i64 Tryz.underlying3) _ _ _ f0
   have f1:DataW.trod enc Tryz.prog w base sp held n 3 (([c0,c1,c2,c3,c4,c5].drop 1).take (Tryz.prog.cellsOf 3))=some x1:=hf 1 _ rfl
   rw [qgc] at f1
   obtain ⟨a1,g1,o1,w1⟩:=(rds_i64 Tryz.underlying3) _ _ _ f1
   have f2:DataW.trod enc Tryz.prog w base sp held n 3 (([c0,c1,c2,c3,c4,c5].drop 2).take (Tryz.prog.cellsOf 3))=some x2:=hf 2 _ rfl
   rw [qgc] at f2
   obtain ⟨a2,g2,o2,w2⟩:=(rds_i64 Tryz.underlying3) _ _ _ f2
   have f3:DataW.trod enc Tryz.prog w base sp held n 3 (([c0,c1,c2,c3,c4,c5].drop 3).take (Tryz.prog.cellsOf 3))=some x3:=hf 3 _ rfl
   rw [qgc] at f3
   obtain ⟨a3,g3,o3,w3⟩:=(rds_i64 Tryz.underlying3) _ _ _ f3
   have f4:DataW.trod enc Tryz.prog w base sp held n 3 (([c0,c1,c2,c3,c4,c5].drop 4).take (Tryz.prog.cellsOf 3))=some x4:=hf 4 _ rfl
   rw [qgc] at f4
   obtain ⟨a4,g4,o4,w4⟩:=(rds_i64 Tryz.underlying3) _ _ _ f4
   have f5:DataW.trod enc Tryz.prog w base sp held n 3 (([c0,c1,c2,c3,c4,c5].drop 5).take (Tryz.prog.cellsOf 3))=some x5:=hf 5 _ rfl
   rw [qgc] at f5
   obtain ⟨a5,g5,o5,w5⟩:=(rds_i64 Tryz.underlying3) _ _ _ f5
   exact ⟨⟨a0,a1,a2,a3,a4,a5⟩,(((((g0.append g1).append g2).append g3).append g4).append g5),(qd8 (qd8 (qd8 (qd8 (qd8 o0 o1) o2) o3) o4) o5),⟨w0,w1,w2,w3,w4,w5⟩⟩
def Pq.wf (a:Pq):Prop:=qix a.kind∧qix a.line∧qix a.word∧(fun _=>True) a.w
theorem qfa:Tryz.prog.cellsOf 147=4:=by kernel_rfl
theorem qt5:Tryz.prog.cellsOf 24=1:=by kernel_rfl
theorem rds_Pq:Rds enc Tryz.prog w base sp held 147 tPq Pq.wf:=by
 intro fuel cs x h
 obtain ⟨xs,n,_,_,hlen,hxs,hf⟩:=DataW.trod_struct Tryz.underlying147 h
 rw [qfa] at hlen
 match cs,hlen with
 | [c0,c1,c2,c3],_ =>
  match xs,hxs with
  | [x0,x1,x2,x3],_ =>
   have f0:DataW.trod enc Tryz.prog w base sp held n 3 (([c0,c1,c2,c3].drop 0).take (Tryz.prog.cellsOf 3))=some x0:=hf 0 _ rfl
   rw [qgc] at f0
   obtain ⟨a0,g0,o0,w0⟩:=(rds_i64 Tryz.underlying3) _ _ _ f0
   have f1:DataW.trod enc Tryz.prog w base sp held n 3 (([c0,c1,c2,c3].drop 1).take (Tryz.prog.cellsOf 3))=some x1:=hf 1 _ rfl
   rw [qgc] at f1
   obtain ⟨a1,g1,o1,w1⟩:=(rds_i64 Tryz.underlying3) _ _ _ f1
   have f2:DataW.trod enc Tryz.prog w base sp held n 3 (([c0,c1,c2,c3].drop 2).take (Tryz.prog.cellsOf 3))=some x2:=hf 2 _ rfl
   rw [qgc] at f2
   obtain ⟨a2,g2,o2,w2⟩:=(rds_i64 Tryz.underlying3) _ _ _ f2
   have f3:DataW.trod enc Tryz.prog w base sp held n 24 (([c0,c1,c2,c3].drop 3).take (Tryz.prog.cellsOf 24))=some x3:=hf 3 _ rfl
   rw [qt5] at f3
   obtain ⟨a3,g3,o3,w3⟩:=(rds_u64 Tryz.underlying24) _ _ _ f3
   exact ⟨⟨a0,a1,a2,a3⟩,(((g0.append g1).append g2).append g3),(qd8 (qd8 (qd8 o0 o1) o2) o3),⟨w0,w1,w2,w3⟩⟩
structure Cs20 where
 size:Int
 acts:List Acn
 pokes:List Pq
 mask:BitVec 64
def tCs20:Ty Cs20:=⟨4,fun a=>[Is (.int .i64 a.size),qal tAct a.acts,qal tPq a.pokes,Is (.int .u64 (UV a.mask))],fun _=>rfl⟩
@[reducible] def IsCs20 (a:Cs20):VP:=IsAgg (tCs20.cells a)
def Cs20.wf (a:Cs20):Prop:=qix a.size∧(fun xs=>∀ a∈xs,Acn.wf a) a.acts∧(fun xs=>∀ a∈xs,Pq.wf a) a.pokes∧(fun _=>True) a.mask
theorem qha:Tryz.prog.cellsOf 26=4:=by kernel_rfl
theorem qlq:Tryz.prog.cellsOf 22=1:=by kernel_rfl
theorem qku:Tryz.prog.cellsOf 23=1:=by kernel_rfl
theorem rds_Cs20:Rds enc Tryz.prog w base sp held 26 tCs20 Cs20.wf:=by
 intro fuel cs x h
 obtain ⟨xs,n,_,_,hlen,hxs,hf⟩:=DataW.trod_struct Tryz.underlying26 h
 rw [qha] at hlen
 match cs,hlen with
 | [c0,c1,c2,c3],_ =>
  match xs,hxs with
  | [x0,x1,x2,x3],_ =>
   have f0:DataW.trod enc Tryz.prog w base sp held n 3 (([c0,c1,c2,c3].drop 0).take (Tryz.prog.cellsOf 3))=some x0:=hf 0 _ rfl
   rw [qgc] at f0
   obtain ⟨a0,g0,o0,w0⟩:=(rds_i64 Tryz.underlying3) _ _ _ f0
   have f1:DataW.trod enc Tryz.prog w base sp held n 22 (([c0,c1,c2,c3].drop 1).take (Tryz.prog.cellsOf 22))=some x1:=hf 1 _ rfl
   rw [qlq] at f1
   obtain ⟨a1,g1,o1,w1⟩:=(rds_slice Tryz.underlying22 qff rfl rds_Act) _ _ _ f1
   have f2:DataW.trod enc Tryz.prog w base sp held n 23 (([c0,c1,c2,c3].drop 2).take (Tryz.prog.cellsOf 23))=some x2:=hf 2 _ rfl
   rw [qku] at f2
   obtain ⟨a2,g2,o2,w2⟩:=(rds_slice Tryz.underlying23 qfa rfl rds_Pq) _ _ _ f2
   have f3:DataW.trod enc Tryz.prog w base sp held n 24 (([c0,c1,c2,c3].drop 3).take (Tryz.prog.cellsOf 24))=some x3:=hf 3 _ rfl
   rw [qt5] at f3
   obtain ⟨a3,g3,o3,w3⟩:=(rds_u64 Tryz.underlying24) _ _ _ f3
   exact ⟨⟨a0,a1,a2,a3⟩,(((g0.append g1).append g2).append g3),(qd8 (qd8 (qd8 o0 o1) o2) o3),⟨w0,w1,w2,w3⟩⟩
structure Clm where
 client:Int
 inc:Int
 lines:Int
 from_:Int
def tClm:Ty Clm:=⟨4,fun a=>[Is (.int .i64 a.client),Is (.int .i64 a.inc),Is (.int .i64 a.lines),Is (.int .i64 a.from_)],fun _=>rfl⟩
@[reducible] def IsClm (a:Clm):VP:=IsAgg (tClm.cells a)
def Clm.wf (a:Clm):Prop:=qix a.client∧qix a.inc∧qix a.lines∧qix a.from_
theorem qij:Tryz.prog.cellsOf 28=4:=by kernel_rfl
theorem rds_Clm:Rds enc Tryz.prog w base sp held 28 tClm Clm.wf:=by
 intro fuel cs x h
 obtain ⟨xs,n,_,_,hlen,hxs,hf⟩:=DataW.trod_struct Tryz.underlying28 h
 rw [qij] at hlen
 match cs,hlen with
 | [c0,c1,c2,c3],_ =>
  match xs,hxs with
  | [x0,x1,x2,x3],_ =>
   have f0:DataW.trod enc Tryz.prog w base sp held n 3 (([c0,c1,c2,c3].drop 0).take (Tryz.prog.cellsOf 3))=some x0:=hf 0 _ rfl
   rw [qgc] at f0
   obtain ⟨a0,g0,o0,w0⟩:=(rds_i64 Tryz.underlying3) _ _ _ f0
   have f1:DataW.trod enc Tryz.prog w base sp held n 3 (([c0,c1,c2,c3].drop 1).take (Tryz.prog.cellsOf 3))=some x1:=hf 1 _ rfl
   rw [qgc] at f1
   obtain ⟨a1,g1,o1,w1⟩:=(rds_i64 Tryz.underlying3) _ _ _ f1
   have f2:DataW.trod enc Tryz.prog w base sp held n 3 (([c0,c1,c2,c3].drop 2).take (Tryz.prog.cellsOf 3))=some x2:=hf 2 _ rfl
   rw [qgc] at f2
   obtain ⟨a2,g2,o2,w2⟩:=(rds_i64 Tryz.underlying3) _ _ _ f2
   have f3:DataW.trod enc Tryz.prog w base sp held n 3 (([c0,c1,c2,c3].drop 3).take (Tryz.prog.cellsOf 3))=some x3:=hf 3 _ rfl
   rw [qgc] at f3
   obtain ⟨a3,g3,o3,w3⟩:=(rds_i64 Tryz.underlying3) _ _ _ f3
   exact ⟨⟨a0,a1,a2,a3⟩,(((g0.append g1).append g2).append g3),(qd8 (qd8 (qd8 o0 o1) o2) o3),⟨w0,w1,w2,w3⟩⟩
structure Rqs where
 client:Int
 lines:Int
 count:Int
def tRqs:Ty Rqs:=⟨3,fun a=>[Is (.int .i64 a.client),Is (.int .i64 a.lines),Is (.int .i64 a.count)],fun _=>rfl⟩
@[reducible] def IsRqs (a:Rqs):VP:=IsAgg (tRqs.cells a)
def Rqs.wf (a:Rqs):Prop:=qix a.client∧qix a.lines∧qix a.count
theorem qhk:Tryz.prog.cellsOf 80=3:=by kernel_rfl
theorem rds_Rqs:Rds enc Tryz.prog w base sp held 80 tRqs Rqs.wf:=by
 intro fuel cs x h
 obtain ⟨xs,n,_,_,hlen,hxs,hf⟩:=DataW.trod_struct Tryz.underlying80 h
 rw [qhk] at hlen
 match cs,hlen with
 | [c0,c1,c2],_ =>
  match xs,hxs with
  | [x0,x1,x2],_ =>
   have f0:DataW.trod enc Tryz.prog w base sp held n 3 (([c0,c1,c2].drop 0).take (Tryz.prog.cellsOf 3))=some x0:=hf 0 _ rfl
   rw [qgc] at f0
   obtain ⟨a0,g0,o0,w0⟩:=(rds_i64 Tryz.underlying3) _ _ _ f0
   have f1:DataW.trod enc Tryz.prog w base sp held n 3 (([c0,c1,c2].drop 1).take (Tryz.prog.cellsOf 3))=some x1:=hf 1 _ rfl
   rw [qgc] at f1
   obtain ⟨a1,g1,o1,w1⟩:=(rds_i64 Tryz.underlying3) _ _ _ f1
   have f2:DataW.trod enc Tryz.prog w base sp held n 3 (([c0,c1,c2].drop 2).take (Tryz.prog.cellsOf 3))=some x2:=hf 2 _ rfl
   rw [qgc] at f2
   obtain ⟨a2,g2,o2,w2⟩:=(rds_i64 Tryz.underlying3) _ _ _ f2
   exact ⟨⟨a0,a1,a2⟩,((g0.append g1).append g2),(qd8 (qd8 o0 o1) o2),⟨w0,w1,w2⟩⟩
end
end
theorem AcquireR_ok (ks:List Pg) (o inc lines fr:Int) (hks:ks.length≤10000):FnP Tryz.prog 12 [Is (.int .i64 o),Is (.int .i64 inc),Is (.int .i64 lines),Is (.int .i64 fr),qal tPg ks] (qza (acR ks o inc lines fr)):=
 (qo0 ks o inc lines fr hks).toP fun B φ v ⟨vs,e,k,o1⟩=>⟨vs,e,Subs.alls (show Subs ((tS19F B).cells (acR ks o inc lines fr)) (tS19.cells (acR ks o inc lines fr)) from ⟨Sub.rfl',Sub.rfl',fun φ v h=>SubL.fresh (L:=[]) φ v (fun _ hi=>absurd hi List.not_mem_nil) h,Sub.rfl',Sub.rfl',Sub.rfl',trivial⟩) k,o1⟩
theorem qvb {ks:List Pg} {o:Int} (h:0≤o∧o<6):Ln (qfs ks o).1:=by
 unfold qfs
 repeat' split
 all_goals exact qdd ks ⟨by omega,by omega⟩
theorem acW_wl {ks:List Pg} {o inc s:Int} {nd:Pg×Nd×Int} {wr:List Pg} {n:Nat} (hnd:Ln nd.1) (hwr:WL n wr):WL (n+2) (acW ks o inc s nd wr).writes:=
 qgf hwr (wl2 (n:=0) (qf9 _ hnd) (show Ln (hdA _ _) from qdd ks (qrg s))) (Nat.le_refl _)
theorem acT_wl {ks:List Pg} {o inc fr s:Int} {nd ot:Pg×Nd×Int} (hnd:Ln nd.1) (hot:Ln ot.1):WL 3 (acT ks o inc fr nd ot s).writes:=by
 unfold acT
 repeat' split
 all_goals first|exact wl0|exact acW_wl hnd (wl1 (n:=0) (show Ln (qvx _ _) from hot))
theorem acU_wl {ks:List Pg} {o inc s:Int} {nd:Pg×Nd×Int} (hnd:Ln nd.1):WL 3 (acU ks o inc nd s).writes:=by
 unfold acU
 split
 ·exact wl0
 ·exact acW_wl (n:=1) hnd wl0
theorem acR_wl (ks:List Pg) (o inc lines fr:Int):WL 3 (acR ks o inc lines fr).writes:=by
 unfold acR
 split
 ·exact wl0
 ·rename_i h1
  have hr:(0≤o∧o<6)∧fr<6:=by unfold clB at h1;simp at h1;omega
  split
  ·exact wl0
  ·split
   ·exact wl0
   ·split
    ·rename_i h2
     have h3:=of_decide_eq_true h2
     split
     ·exact wl0
     ·exact acT_wl (qvb hr.1) (qvb ⟨h3,hr.2⟩)
    ·split
     ·exact wl0
     ·exact acU_wl (qvb hr.1)
@[reducible] def IsS19T (B:Nat) (r:S19):VP:=IsAgg [Top,Top,qbe B (qal tPg r.writes),Top,Is (.int .i64 r.code),Top]
theorem zdm (ks:List Pg) (cl inc lines fr:Int) (hks:ks.length≤10000):FnF Tryz.prog 12 [Is (.int .i64 cl),Is (.int .i64 inc),Is (.int .i64 lines),Is (.int .i64 fr),qal tPg ks] (fun B=>qek (fun r:S19=>WL 3 r.writes) (IsS19T B)):=
 (qo0 ks cl inc lines fr hks).sub fun B φ v ⟨vs,e,k,o⟩=>⟨acR ks cl inc lines fr,acR_wl ks cl inc lines fr,vs,e,Subs.alls (show Subs ((tS19F B).cells (acR ks cl inc lines fr)) [Top,Top,qbe B (qal tPg (acR ks cl inc lines fr).writes),Top,Is (.int .i64 (acR ks cl inc lines fr).code),Top] from ⟨qfl,qfl,Sub.rfl',qfl,Sub.rfl',qfl,trivial⟩) k,o⟩
theorem qtt {p:S19→Prop}:qjn fun B=>qek p (IsS19T B):=qj2 fun r =>
 qj3 [fun _=>Top,fun _=>Top,fun B=>qbe B (qal tPg r.writes),fun _=>Top,fun _=>Is (.int .i64 r.code),fun _=>Top] ⟨qa6 qco,qa6 qco,qet,qa6 qco,qa6 qc3,qa6 qco,trivial⟩
theorem qx1 (b n:Nat) (s:Option Addr×Nat) (lines:Int) (x:Hs) (cl:Int) (hcl:0≤cl∧cl<6) (hn:8≤n∧n≤200) (hH:x.pages.length=n) (hln:LnI x.pages):FnX Tryz.prog 85 [Is (.pointer (some ⟨b,0,none⟩)),Is (.int .i64 cl)] [blk b 62 [Is (slV n s),Is (.int .i64 lines),Is (.int .i64 x.seq),qal tRw x.table,Is (.int .i64 x.cur.phase),Is (.int .i64 x.cur.level),Is (.int .u32 (UV x.cur.key))],buf (slV n s) 53 tPg x.pages]
  (fun i:List Pg=>i.length=n∧LnI i) (fun i=>qbv []) (fun i=>[blk b 62 [Is (slV n s),Is (.int .i64 lines),Is (.int .i64 x.seq),qal tRw x.table,Is (.int .i64 x.cur.phase),Is (.int .i64 x.cur.level),Is (.int .u32 (UV x.cur.key))],buf (slV n s) 53 tPg (i)]):=by
 refine Fn.enterB func85 ntmps85 rfl rfl ?_
 intro c hX hbelow
 refine s1 ?_
 refine qa0 rfl (by kernel_rfl) ?_
 refine qgl (its:=[]) ?_
 refine f1 0 ?_
 refine f1 1 ?_
 refine f1 2 ?_
 refine f1 3 ?_
 refine f1 4 ?_
 refine f1 5 ?_
 refine f1 6 ?_
 refine f1 7 ?_
 refine f1 8 ?_
 refine qm4 10 rfl (by kernel_rfl) (fun _=>(qbi rfl qbo rfl)) ?_
 (refine qy9 9 [0,1,2,3,4,5,6,7,8,9] rfl (by kernel_rfl) (by ((refine qc9 qga call12 (zdm x.pages _ _ _ _ ?_) ⟨qar,⟨qar,⟨qar,⟨qar,⟨qar,trivial⟩⟩⟩⟩⟩ (qtt));all_goals (first|omega|(simp;done)|(simp;omega)|(refine Nat.le_trans (qai _ _) ?_;omega)|(refine Nat.le_trans (qai _ _) (Nat.le_trans (Nat.add_le_add_right (qai _ _) _) ?_);omega)))) ?_;intro x14 hx14)
 (refine qgk 4 10 (by kernel_rfl) rfl rfl ?_;intro i4)
 refine qfi 11 [0,1,2,3,4,5,6,7,8,9,10,11] rfl (by kernel_rfl) (fun c'=>by exact qa9 (er rfl) (er rfl) qaf qae rf rf rf) ?_
 refine qeq (by kernel_rfl) rfl ?_
 show JQ _ _ _ _ _ _
 refine t9 ?_
 refine qb3 [(0,_),(1,_)] [] (fun yc:(List Pg)=>yc.length=n∧LnI yc) (fun yc=>[]) (fun yc=>[blk b 62 [Is (slV n s),Is (.int .i64 lines),Is (.int .i64 x.seq),qal tRw x.table,Is (.int .i64 x.cur.phase),Is (.int .i64 x.cur.level),Is (.int .u32 (UV x.cur.key))],buf (slV n s) 53 tPg (yc)]) qah qab ?_ ?_
 rotate_left
 focus
  refine cN ?_ ?_ <;> intro h1
  ·refine t4 ?_
   (refine qe6 rfl (qhx qbh qbh call23 (qh9 b n s _ _ _ _ _ _ x.pages x14.writes hH hn.2 hx14.2) ⟨qar,⟨qar,trivial⟩⟩) ?_;intro i21)
   refine s1 ?_
   refine qak _ ?_ qah qab
   ·exact (by exact ⟨by rw [qks];exact hH,qoh _ hln⟩)
  refine s1 ?_
  refine qak _ ?_ qah qab
  ·exact (by exact ⟨hH,hln⟩)
 rintro H hI
 refine t3 ?_
 (refine qe3 rfl (qds qbh qbh call88 (qoy b n s lines ⟨H,x.seq,x.table,x.cur⟩ cl hcl hn hI.1 hI.2) ⟨qar,⟨qar,trivial⟩⟩) ?_;intro x24 hx24)
 refine t2 ?_
 refine qax (Bs:=[]) _ ?_ rfl results85 trivial qab (hD0:=hX.2)
 exact hx24
theorem zc4 (b n:Nat) (s:Option Addr×Nat) (lines:Int) (x:Hs) (cl:Int) (hcl:0≤cl∧cl<6) (hn:8≤n∧n≤200) (hH:x.pages.length=n) (hln:LnI x.pages):FnX Tryz.prog 86 [Is (.pointer (some ⟨b,0,none⟩)),Is (.int .i64 cl)] [blk b 62 [Is (slV n s),Is (.int .i64 lines),Is (.int .i64 x.seq),qal tRw x.table,Is (.int .i64 x.cur.phase),Is (.int .i64 x.cur.level),Is (.int .u32 (UV x.cur.key))],buf (slV n s) 53 tPg x.pages]
  (fun i:List Pg×Cu=>i.1.length=n∧LnI i.1) (fun i=>qbv []) (fun i=>[blk b 62 [Is (slV n s),Is (.int .i64 lines),Is (.int .i64 x.seq),qal tRw x.table,Is (.int .i64 (i.2).phase),Is (.int .i64 (i.2).level),Is (.int .u32 (UV (i.2).key))],buf (slV n s) 53 tPg (i.1)]):=by
 refine Fn.enterB func86 ntmps86 rfl rfl ?_
 intro c hX hbelow
 refine s1 ?_
 refine qa0 rfl (by kernel_rfl) ?_
 refine qgl (its:=[]) ?_
 refine f1 0 ?_
 refine f1 1 ?_
 refine f1 2 ?_
 refine f1 3 ?_
 refine f1 4 ?_
 refine f1 5 ?_
 refine f1 6 ?_
 refine f1 7 ?_
 refine f1 8 ?_
 refine f1 9 ?_
 refine f1 10 ?_
 refine f1 11 ?_
 refine f1 12 ?_
 refine qm4 14 rfl (by kernel_rfl) (fun _=>(qbi rfl qbo rfl)) ?_
 (refine qy9 13 [0,1,2,3,4,5,6,7,8,9,10,11,12,13] rfl (by kernel_rfl) (by ((refine qc9 qga call107 (zc3 (⟨_,_,_⟩:Cu) _ _ x.pages ?_) ⟨qbb,⟨qbb,⟨qbb,⟨qbb,trivial⟩⟩⟩⟩ (zb2));all_goals (first|omega|(simp;done)|(simp;omega)|(refine Nat.le_trans (qai _ _) ?_;omega)|(refine Nat.le_trans (qai _ _) (Nat.le_trans (Nat.add_le_add_right (qai _ _) _) ?_);omega)))) ?_;intro x18 hx18)
 (refine qgk 4 14 (by kernel_rfl) rfl rfl ?_;intro i4)
 refine qfi 15 [0,1,2,3,4,5,6,7,8,9,10,11,12,13,14,15] rfl (by kernel_rfl) (fun c'=>by exact qa9 (er rfl) (er rfl) qaf qae rf rf rf) ?_
 refine qeq (by kernel_rfl) rfl ?_
 show JQ _ _ _ _ _ _
 refine t10 ?_
 refine cN ?_ ?_ <;> intro h1
 ·refine t4 ?_
  (refine qe3 rfl (qds qbh qbh call85 (qx1 b n s lines x cl hcl hn hH hln) ⟨qar,⟨qar,trivial⟩⟩) ?_;intro x25 hx25)
  refine t13 ?_
  refine qam (b:=b) (As':=[Is (slV n s),Is (.int .i64 lines),Is (.int .i64 x.seq),qal tRw x.table,Is (.int .i64 _),Is (.int .i64 _),Is (.int .u32 (UV _))]) qae qba ?_
  refine qax (Bs:=[]) (_,(⟨_,_,_⟩:Cu)) ?_ rfl results86 trivial qab (hD0:=hX.2)
  exact by exact hx25
 refine t18 ?_
 refine cN ?_ ?_ <;> intro h4
 ·refine t11 ?_
  refine qam (b:=b) (As':=[Is (slV n s),Is (.int .i64 lines),Is (.int .i64 x.seq),qal tRw x.table,Is (.int .i64 _),Is (.int .i64 _),Is (.int .u32 (UV _))]) qae qba ?_
  refine qax (Bs:=[]) (_,(⟨_,_,_⟩:Cu)) ?_ rfl results86 trivial qab (hD0:=hX.2)
  exact by exact ⟨hH,hln⟩
 refine t7 ?_
 (refine qe6 rfl (qhx qbh qbh call23 (qh9 b n s _ _ _ _ _ _ x.pages x18.writes hH hn.2 hx18.2) ⟨qar,⟨qar,trivial⟩⟩) ?_;intro i48)
 refine t12 ?_
 refine qam (b:=b) (As':=[Is (slV n s),Is (.int .i64 lines),Is (.int .i64 x.seq),qal tRw x.table,Is (.int .i64 _),Is (.int .i64 _),Is (.int .u32 (UV _))]) qae qba ?_
 refine qax (Bs:=[]) (_,(⟨_,_,_⟩:Cu)) ?_ rfl results86 trivial qab (hD0:=hX.2)
 exact by exact ⟨by rw [qks];exact hH,qoh _ hln⟩
end Go.Proofs.YtmgoplaamlignaaGreat
