/- Walks of functions and plain laws, laid together. Own work. -/
import Derived.Lib.BitFns
import Derived.Test.YtghkkdjbaehboaaGreatK5
namespace Go.Proofs.YtghkkdjbaehboaaGreat
open Go.RowKit Tryz
set_option linter.unusedVariables false
set_option linter.unusedSimpArgs false
set_option maxRecDepth 100000
set_option maxHeartbeats 4000000
theorem Fn.pgF {P:Program} {f:FuncId} {As:List VP} {n:Nat} {e:TypeId} {xs:List Pg} (h:Fn P f As [] (fun i:Option Addr×Nat=>Is (slV n i)) (fun i=>[buf (slV n i) e tPg xs])):FnF P f As (fun B=>qbd B (IsSl tPg xs)):=
 h.toF (fun _=>⟨qdd,qdd,qdd,qdd,qdd,qdd,qdd,qdd,qdd,trivial⟩) (fun i B φ v h1 h2=>by rw [show v=slV n i from h2];exact h1)
theorem Fn.pgP {P:Program} {f:FuncId} {As:List VP} {n:Nat} {e:TypeId} {xs:List Pg} (h:Fn P f As [] (fun i:Option Addr×Nat=>Is (slV n i)) (fun i=>[buf (slV n i) e tPg xs])):FnP P f As (IsSl tPg xs):=
 h.pgF.toP fun B φ v k=>(IsSl tPg xs).mono (qyv B φ) k
theorem Merge_ok (a b:List Pg) (hn:a.length+b.length≤19):FnP Tryz.prog 61 [IsSl tPg a,IsSl tPg b] (IsSl tPg (qb7 a b)):=(ze5 a b hn).pgP
theorem ql6 (a b:List Pg) (hn:a.length+b.length≤400000):FnP Tryz.prog 72 [IsSl tPg a,IsSl tPg b] (IsSl tPg (qb7 a b)):=(qqg a b hn).pgP
theorem qcf (a b:List Pg) (hn:a.length+b.length≤400000):FnF Tryz.prog 72 [IsSl tPg a,IsSl tPg b] (fun B=>qbd B (IsSl tPg (qb7 a b))):=(qqg a b hn).pgF
theorem quu (xs ys:List Pg):FnP Tryz.prog 14 [IsSl tPg xs,IsSl tPg ys] (Is (.bool (decide (xs=ys)))):=by
 refine FnP.enter func14 ntmps14 rfl rfl ?_
 intro c hX
 refine qgv (t:=0) rfl (fun hlen=>?_)
 refine t15 ?_
 refine cN ?_ ?_ <;> intro h1
 ·have e:xs≠ys:=by rintro rfl;simp at h1
  refine t7 ?_
  refine qay results14 rfl () (SubL.eq ?_) (List.nil_sublist _)
  rw [decide_eq_false e]
 have hl:xs.length=ys.length:=by simp at h1;omega
 clear h1
 refine t9 ?_
 refine qbg (fun k:Nat=>k≤xs.length∧xs.take k=ys.take k) (fun k=>[(0,IsSl tPg xs),(1,IsSl tPg ys),(5,Is (.int .i64 (k:Nat)))]) (fun _=>[]) (fun k=>xs.length-k) 0 ⟨Nat.zero_le _,rfl⟩ qbt qab ?_
 rintro k ⟨hk,hs⟩
 refine t9 ?_
 refine cN ?_ ?_ <;> intro h4
 ·have h':(k:Int)<xs.length:=of_decide_eq_true h4
  clear h4
  obtain ⟨mx,hx⟩:∃ m,xs[k]?=some m:=⟨xs[k],List.getElem?_eq_getElem (by omega)⟩
  obtain ⟨my,hy⟩:∃ m,ys[k]?=some m:=⟨ys[k],List.getElem?_eq_getElem (by omega)⟩
  have hsp:=same_pg mx my
  refine t5 ?_
  refine qaz rfl (by kernel_rfl) ?_
  refine qaf 37 (by kernel_rfl) ?_
  refine t2 ?_
  refine qbh (by first|exact qam (j:=_) (er rfl) (er rfl) rfl rfl (by first|rfl|omega) hx|exact qam (j:=_) (er rfl) (er rfl) rfl rfl (by first|rfl|omega) hy|exact qam (j:=_) (er rfl) (er rfl) rfl rfl (by first|rfl|omega) (by assumption)) ?_
  refine t4 ?_
  refine qbh (by first|exact qam (j:=_) (er rfl) (er rfl) rfl rfl (by first|rfl|omega) hx|exact qam (j:=_) (er rfl) (er rfl) rfl rfl (by first|rfl|omega) hy|exact qam (j:=_) (er rfl) (er rfl) rfl rfl (by first|rfl|omega) (by assumption)) ?_
  refine t6 ?_
  (first|refine qd2 rfl rfl (fun hg=>(by have hg0:=hg;(try simp at hg);first|exact qam (j:=_) evG evG rfl rfl (by first|rfl|omega) hx|exact qam (j:=_) evG evG rfl rfl (by first|rfl|omega) hy|exact qam (j:=_) evG evG rfl rfl (by first|rfl|omega) (by assumption))) ?_|refine zax rfl rfl (fun hp hg=>(by have hpg:=Bool.and_eq_true_iff.2 ⟨hp,hg⟩;have hg0:=hg;(try simp at hg);first|exact qam (j:=_) evG evG rfl rfl (by first|rfl|omega) hx|exact qam (j:=_) evG evG rfl rfl (by first|rfl|omega) hy|exact qam (j:=_) evG evG rfl rfl (by first|rfl|omega) (by assumption))) ?_)
  refine t4 ?_
  (first|refine qd2 rfl rfl (fun hg=>(by have hg0:=hg;(try simp at hg);first|exact qam (j:=_) evG evG rfl rfl (by first|rfl|omega) hx|exact qam (j:=_) evG evG rfl rfl (by first|rfl|omega) hy|exact qam (j:=_) evG evG rfl rfl (by first|rfl|omega) (by assumption))) ?_|refine zax rfl rfl (fun hp hg=>(by have hpg:=Bool.and_eq_true_iff.2 ⟨hp,hg⟩;have hg0:=hg;(try simp at hg);first|exact qam (j:=_) evG evG rfl rfl (by first|rfl|omega) hx|exact qam (j:=_) evG evG rfl rfl (by first|rfl|omega) hy|exact qam (j:=_) evG evG rfl rfl (by first|rfl|omega) (by assumption))) ?_)
  refine t7 ?_
  (first|refine qd2 rfl rfl (fun hg=>(by have hg0:=hg;(try simp at hg);first|exact qam (j:=_) evG evG rfl rfl (by first|rfl|omega) hx|exact qam (j:=_) evG evG rfl rfl (by first|rfl|omega) hy|exact qam (j:=_) evG evG rfl rfl (by first|rfl|omega) (by assumption))) ?_|refine zax rfl rfl (fun hp hg=>(by have hpg:=Bool.and_eq_true_iff.2 ⟨hp,hg⟩;have hg0:=hg;(try simp at hg);first|exact qam (j:=_) evG evG rfl rfl (by first|rfl|omega) hx|exact qam (j:=_) evG evG rfl rfl (by first|rfl|omega) hy|exact qam (j:=_) evG evG rfl rfl (by first|rfl|omega) (by assumption))) ?_)
  refine s1 ?_
  (first|refine qd2 rfl rfl (fun hg=>(by have hg0:=hg;(try simp at hg);first|exact qb2 (n:=7) evG rfl rfl rfl rf qbm|exact qbp (n:=7) evG qbw rf rf rf rf qbm)) ?_|refine zax rfl rfl (fun hp hg=>(by have hpg:=Bool.and_eq_true_iff.2 ⟨hp,hg⟩;have hg0:=hg;(try simp at hg);first|exact qb2 (n:=7) evG rfl rfl rfl rf qbm|exact qbp (n:=7) evG qbw rf rf rf rf qbm)) ?_)
  refine t2 ?_
  (first|refine qd2 rfl rfl (fun hg=>(by have hg0:=hg;(try simp at hg);first|exact qam (j:=_) evG evG rfl rfl (by first|rfl|omega) hx|exact qam (j:=_) evG evG rfl rfl (by first|rfl|omega) hy|exact qam (j:=_) evG evG rfl rfl (by first|rfl|omega) (by assumption))) ?_|refine zax rfl rfl (fun hp hg=>(by have hpg:=Bool.and_eq_true_iff.2 ⟨hp,hg⟩;have hg0:=hg;(try simp at hg);first|exact qam (j:=_) evG evG rfl rfl (by first|rfl|omega) hx|exact qam (j:=_) evG evG rfl rfl (by first|rfl|omega) hy|exact qam (j:=_) evG evG rfl rfl (by first|rfl|omega) (by assumption))) ?_)
  refine s1 ?_
  (first|refine qd2 rfl rfl (fun hg=>(by have hg0:=hg;(try simp at hg);first|exact qb2 (n:=7) evG rfl rfl rfl rf qbm|exact qbp (n:=7) evG qbw rf rf rf rf qbm)) ?_|refine zax rfl rfl (fun hp hg=>(by have hpg:=Bool.and_eq_true_iff.2 ⟨hp,hg⟩;have hg0:=hg;(try simp at hg);first|exact qb2 (n:=7) evG rfl rfl rfl rf qbm|exact qbp (n:=7) evG qbw rf rf rf rf qbm)) ?_)
  (first|refine qd2 rfl rfl (fun hg=>(by have hg0:=hg;(try simp at hg);exact qdu (vs:=qnd mx) (ws:=qnd my) evG evG (qoj _ _ _ mx my) (qwf mx my))) ?_|refine zax rfl rfl (fun hp hg=>(by have hpg:=Bool.and_eq_true_iff.2 ⟨hp,hg⟩;have hg0:=hg;(try simp at hg);exact qdu (vs:=qnd mx) (ws:=qnd my) evG evG (qoj _ _ _ mx my) (qwf mx my))) ?_)
  refine s1 ?_
  refine ⟨rfl,?_⟩
  refine qar ?_
  refine s1 ?_
  refine cN ?_ ?_ <;> intro h6
  ·have e:xs≠ys:=by
    rintro rfl
    rw [hx] at hy
    have hm:mx=my:=by simpa using hy
    subst hm
    rw [← Bool.or_assoc] at hsp
    rw [hsp] at h6
    simp at h6
   refine t11 ?_
   refine qay results14 rfl () (SubL.eq ?_) (List.nil_sublist _)
   rw [decide_eq_false e]
  have e:mx=my:=by
   rw [← Bool.or_assoc] at hsp
   rw [hsp] at h6
   simpa using h6
  clear h6
  refine t8 ?_
  exact qaa (k+1) ⟨by omega,(qmy hx hy hs).2 e⟩ (by omega) qbt qab
 have e:xs=ys:=by
  have h':¬ (k:Int)<xs.length:=of_decide_eq_false h4
  rw [List.take_of_length_le (by omega),List.take_of_length_le (by omega)] at hs
  exact hs
 clear h4
 refine t11 ?_
 refine qay results14 rfl () (SubL.eq ?_) (List.nil_sublist _)
 rw [decide_eq_true e]
theorem qoy (xs ys:List Int):FnP Tryz.prog 13 [IsSl tI64 xs,IsSl tI64 ys] (Is (.bool (decide (xs=ys)))):=by
 refine FnP.enter func13 ntmps13 rfl rfl ?_
 intro c hX
 refine qgv (t:=0) rfl (fun hlen=>?_)
 refine t15 ?_
 refine cN ?_ ?_ <;> intro h1
 ·have e:xs≠ys:=by rintro rfl;simp at h1
  refine t7 ?_
  refine qay results13 rfl () (SubL.eq ?_) (List.nil_sublist _)
  rw [decide_eq_false e]
 have hl:xs.length=ys.length:=by simp at h1;omega
 clear h1
 refine t9 ?_
 refine qbg (fun k:Nat=>k≤xs.length∧xs.take k=ys.take k) (fun k=>[(0,IsSl tI64 xs),(1,IsSl tI64 ys),(5,Is (.int .i64 (k:Nat)))]) (fun _=>[]) (fun k=>xs.length-k) 0 ⟨Nat.zero_le _,rfl⟩ qbt qab ?_
 rintro k ⟨hk,hs⟩
 refine t9 ?_
 refine cN ?_ ?_ <;> intro h4
 ·have h':(k:Int)<xs.length:=of_decide_eq_true h4
  clear h4
  obtain ⟨mx,hx⟩:∃ m,xs[k]?=some m:=⟨xs[k],List.getElem?_eq_getElem (by omega)⟩
  obtain ⟨my,hy⟩:∃ m,ys[k]?=some m:=⟨ys[k],List.getElem?_eq_getElem (by omega)⟩
  refine t5 ?_
  refine qaz rfl (by kernel_rfl) ?_
  refine qaf 9 (by kernel_rfl) ?_
  refine t2 ?_
  refine qbh (by first|exact qam (j:=_) (er rfl) (er rfl) rfl rfl (by first|rfl|omega) hx|exact qam (j:=_) (er rfl) (er rfl) rfl rfl (by first|rfl|omega) hy|exact qam (j:=_) (er rfl) (er rfl) rfl rfl (by first|rfl|omega) (by assumption)) ?_
  refine t3 ?_
  refine qbh (by first|exact qam (j:=_) (er rfl) (er rfl) rfl rfl (by first|rfl|omega) hx|exact qam (j:=_) (er rfl) (er rfl) rfl rfl (by first|rfl|omega) hy|exact qam (j:=_) (er rfl) (er rfl) rfl rfl (by first|rfl|omega) (by assumption)) ?_
  refine t2 ?_
  refine ⟨rfl,?_⟩
  refine qar ?_
  refine s1 ?_
  refine cN ?_ ?_ <;> intro h6
  ·have e:xs≠ys:=by
    rintro rfl
    rw [hx] at hy
    have hm:mx=my:=by simpa using hy
    subst hm
    simp at h6
   refine t11 ?_
   refine qay results13 rfl () (SubL.eq ?_) (List.nil_sublist _)
   rw [decide_eq_false e]
  have e:mx=my:=by simpa [qut] using h6
  clear h6
  refine t8 ?_
  exact qaa (k+1) ⟨by omega,(qmy hx hy hs).2 e⟩ (by omega) qbt qab
 have e:xs=ys:=by
  have h':¬ (k:Int)<xs.length:=of_decide_eq_false h4
  rw [List.take_of_length_le (by omega),List.take_of_length_le (by omega)] at hs
  exact hs
 clear h4
 refine t11 ?_
 refine qay results13 rfl () (SubL.eq ?_) (List.nil_sublist _)
 rw [decide_eq_true e]
section
variable {P:Program} {c:Ctx} {A:Nat→Option VP} {L:List Item} {d:Option Tmp} {ty:TypeId} {pos:String} {af:Array Edge} {g:Option (Nat×Bool)}
variable {α:Type} {T:Ty α}
end
def qvg (l:Int):Bool:=decide (l≥104)&&decide (l≤256)
def qk4 (l:Int):Bool:=decide (l≥0)&&decide (l<6)
def qo5 (l:Int):Bool:=decide (l≥98)&&decide (l<104)
def qgi (l:Int):Int:=if 104≤l∧l≤256 then (l-104) / 16 else 0
def qau (s:Int):Int:=if 0≤s∧s≤8 then 104+16*s else -1
def qp5 (l:Int):Bool:=decide (104≤l∧l<248∧(l-104) % 16=0)
def qdh (lines line:Int):Int×Int×Bool:=if 104≤line∧line<104+16*qgi lines∧(line-104) % 16≠0 then ((line-104) / 16,(line-104) % 16,true) else (0,0,false)
theorem qjp (l:Int):0≤qgi l∧qgi l≤9:=by unfold qgi;split <;> omega
theorem line_rng (s:Int):-1≤qau s∧qau s≤232:=by unfold qau;split <;> omega
theorem size_iff {l:Int}:qvg l=true↔104≤l∧l≤256:=by unfold qvg;simp
theorem size_not {l:Int}:qvg l=false↔¬ (104≤l∧l≤256):=by rw [← size_iff];simp
theorem qtw (l:Int):FnP Tryz.prog 89 [Is (.int .i64 l)] (Is (.bool (qvg l))):=by
 refine FnP.enter func89 ntmps89 rfl rfl ?_
 intro c hX
 refine t17 ?_
 refine qay results89 rfl () (SubL.eq ?_) (List.nil_sublist _)
 rfl
theorem qls (l:Int):FnP Tryz.prog 85 [Is (.int .i64 l)] (Is (.bool (qo5 l))):=by
 refine FnP.enter func85 ntmps85 rfl rfl ?_
 intro c hX
 refine t17 ?_
 refine qay results85 rfl () (SubL.eq ?_) (List.nil_sublist _)
 rfl
theorem qym (l:Int):FnP Tryz.prog 67 [Is (.int .i64 l)] (Is (.bool (qo5 l))):=by
 refine FnP.enter func67 ntmps67 rfl rfl ?_
 intro c hX
 refine t17 ?_
 refine qay results67 rfl () (SubL.eq ?_) (List.nil_sublist _)
 rfl
theorem que {l:Int} (h:104≤l∧l≤256):qgi l=IntKind.i64.wrap ((l-104).tdiv 16):=by
 unfold qgi
 rw [if_pos h,Int.tdiv_eq_ediv_of_nonneg (by omega),qpi (by omega)]
theorem Count_ok (l:Int):FnP Tryz.prog 136 [Is (.int .i64 l)] (Is (.int .i64 (qgi l))):=by
 refine FnP.enter func136 ntmps136 rfl rfl ?_
 intro c hX
 refine t9 ?_
 refine qap rfl (qad call89 (qtw _) ⟨evS,trivial⟩) ?_
 refine t3 ?_
 refine cN ?_ ?_ <;> intro h1
 ·have h:¬ (104≤l∧l≤256):=size_not.1 (by simpa using h1)
  refine t7 ?_
  refine qay results136 rfl () (SubL.eq ?_) (List.nil_sublist _)
  unfold qgi;rw [if_neg h]
 have h:104≤l∧l≤256:=size_iff.1 (by simpa using h1)
 refine t6 ?_
 refine qap rfl (qjb (er rfl) (er rfl) (by omega) rfl) ?_
 refine t4 ?_
 refine qay results136 rfl () (SubL.eq ?_) (List.nil_sublist _)
 rw [que h]
theorem qu0 (l:Int):FnP Tryz.prog 81 [Is (.int .i64 l)] (Is (.int .i64 (qgi l))):=by
 refine FnP.enter func81 ntmps81 rfl rfl ?_
 intro c hX
 refine t16 ?_
 refine cN ?_ ?_ <;> intro h1
 ·have h:¬ (104≤l∧l≤256):=by simp at h1;omega
  refine t7 ?_
  refine qay results81 rfl () (SubL.eq ?_) (List.nil_sublist _)
  unfold qgi;rw [if_neg h]
 have h:104≤l∧l≤256:=by simp at h1;omega
 refine t6 ?_
 refine qap rfl (qjb (er rfl) (er rfl) (by omega) rfl) ?_
 refine t4 ?_
 refine qay results81 rfl () (SubL.eq ?_) (List.nil_sublist _)
 rw [que h]
theorem ql8 (s:Int):FnP Tryz.prog 93 [Is (.int .i64 s)] (Is (.int .i64 (qau s))):=by
 refine FnP.enter func93 ntmps93 rfl rfl ?_
 intro c hX
 refine t16 ?_
 refine cN ?_ ?_ <;> intro h1
 ·have h:¬ (0≤s∧s≤8):=by simp at h1;omega
  refine t7 ?_
  refine qay results93 rfl () (SubL.eq ?_) (List.nil_sublist _)
  unfold qau;rw [if_neg h]
 have h:0≤s∧s≤8:=by simp at h1;omega
 refine t11 ?_
 refine qay results93 rfl () (SubL.eq ?_) (List.nil_sublist _)
 unfold qau;rw [if_pos h,Int.mul_comm]
theorem qcb (s:Int):FnP Tryz.prog 82 [Is (.int .i64 s)] (Is (.int .i64 (qau s))):=by
 refine FnP.enter func82 ntmps82 rfl rfl ?_
 intro c hX
 refine t16 ?_
 refine cN ?_ ?_ <;> intro h1
 ·have h:¬ (0≤s∧s≤8):=by simp at h1;omega
  refine t7 ?_
  refine qay results82 rfl () (SubL.eq ?_) (List.nil_sublist _)
  unfold qau;rw [if_neg h]
 have h:0≤s∧s≤8:=by simp at h1;omega
 refine t11 ?_
 refine qay results82 rfl () (SubL.eq ?_) (List.nil_sublist _)
 unfold qau;rw [if_pos h]
theorem quv (lines line:Int):FnP Tryz.prog 90 [Is (.int .i64 lines),Is (.int .i64 line)] (qbu [Is (.int .i64 (qdh lines line).1),Is (.int .i64 (qdh lines line).2.1),Is (.bool (qdh lines line).2.2)]):=by
 have hc:=qjp lines
 refine FnP.enter func90 ntmps90 rfl rfl ?_
 intro c hX
 refine t15 ?_
 (refine qcp rfl rfl rfl (fun hg=>(by have hg0:=hg;(try simp at hg);exact qad call136 (Count_ok _) ⟨evS,trivial⟩)) ?_)
 refine t6 ?_
 refine cN ?_ ?_ <;> intro h1
 ·have h:qdh lines line=(0,0,false):=by
   unfold qdh
   rw [if_neg]
   simp at h1
   omega
  rw [h]
  refine t9 ?_
  exact qan (Bs:=[Is (.int .i64 0),Is (.int .i64 0),Is (.bool false)]) results90 eT () SubL.rfl' (List.nil_sublist _)
 have h:104≤line∧line<104+16*qgi lines:=by simp at h1;omega
 have q1:IntKind.i64.wrap ((line-104).tdiv 16)=(line-104) / 16:=by rw [Int.tdiv_eq_ediv_of_nonneg (by omega),qpi (by omega)]
 have q2:(line-104).tmod 16=(line-104) % 16:=Int.tmod_eq_emod_of_nonneg (by omega)
 clear h1
 refine t6 ?_
 refine qap rfl (qjb (er rfl) (er rfl) (by omega) rfl) ?_
 refine t9 ?_
 rw [q1,q2]
 refine t5 ?_
 refine cN ?_ ?_ <;> intro h4
 ·have h5:qdh lines line=(0,0,false):=by
   unfold qdh
   rw [if_neg]
   have h6:(line-104) % 16=0:=by simpa using h4
   omega
  rw [h5]
  refine t9 ?_
  exact qan (Bs:=[Is (.int .i64 0),Is (.int .i64 0),Is (.bool false)]) results90 eT () SubL.rfl' (List.nil_sublist _)
 have h5:qdh lines line=((line-104) / 16,(line-104) % 16,true):=by
  unfold qdh
  rw [if_pos]
  have h6:¬ (line-104) % 16=0:=by simpa using h4
  exact ⟨h.1,h.2,h6⟩
 rw [h5]
 refine t12 ?_
 exact qan (Bs:=[Is (.int .i64 ((line-104) / 16)),Is (.int .i64 ((line-104) % 16)),Is (.bool true)]) results90 eT () SubL.rfl' (List.nil_sublist _)
theorem qmv (lines line:Int):FnP Tryz.prog 112 [Is (.int .i64 lines),Is (.int .i64 line)] (qbu [Is (.int .i64 (qdh lines line).1),Is (.int .i64 (qdh lines line).2.1),Is (.bool (qdh lines line).2.2)]):=by
 have hc:=qjp lines
 refine FnP.enter func112 ntmps112 rfl rfl ?_
 intro c hX
 refine t14 ?_
 refine qbg (fun k:Nat=>(k:Int)≤qgi lines∧∀ j:Nat,j<k→¬ (104+16*(j:Int)<line∧line<104+16*(j:Int)+16)) (fun k=>[(0,Is (.int .i64 lines)),(1,Is (.int .i64 line)),(7,Is (.int .i64 (k:Nat)))]) (fun _=>[]) (fun k=>9-k) 0 ⟨by omega,fun j hj=>by omega⟩ qbt qab ?_
 rintro k ⟨hk,hs⟩
 refine t5 ?_
 refine qap rfl (qad call81 (qu0 _) ⟨evS,trivial⟩) ?_
 refine t3 ?_
 refine cN ?_ ?_ <;> intro h2
 ·have hlt:(k:Int)<qgi lines:=of_decide_eq_true h2
  have hline:qau (k:Int)=104+16*k:=by unfold qau;rw [if_pos (by omega)]
  clear h2
  refine t8 ?_
  refine qap rfl (qad call82 (qcb _) ⟨evS,trivial⟩) ?_
  refine qap rfl (qkm (er rfl) (er rfl) rfl) ?_
  rw [hline]
  refine t7 ?_
  refine qap rfl (qad call82 (qcb _) ⟨evS,trivial⟩) ?_
  refine t4 ?_
  (refine qcp rfl rfl rfl (fun hg=>(by have hg0:=hg;(try simp at hg);exact qad call82 (qcb _) ⟨evS,trivial⟩)) ?_)
  refine t5 ?_
  refine cN ?_ ?_ <;> intro h5
  ·have h6:104+16*(k:Int)<line∧line<104+16*(k:Int)+16:=by rw [hline] at h5;simp at h5;omega
   have e:qdh lines line=((k:Int),line-(104+16*(k:Int)),true):=by
    unfold qdh
    rw [if_pos (by omega)]
    have e1:(line-104) / 16=k:=by omega
    have e2:(line-104) % 16=line-(104+16*(k:Int)):=by omega
    rw [e1,e2]
   have hw:IntKind.i64.wrap (line-(104+16*(k:Int)))=line-(104+16*(k:Int)):=qpi (by omega)
   rw [e,hw]
   refine t15 ?_
   exact qan (Bs:=[Is (.int .i64 (k:Int)),Is (.int .i64 (line-(104+16*(k:Int)))),Is (.bool true)]) results112 eT () SubL.rfl' (List.nil_sublist _)
  have h6:¬ (104+16*(k:Int)<line∧line<104+16*(k:Int)+16):=by rw [hline] at h5;simp at h5;omega
  clear h5
  refine t8 ?_
  exact qaa (k+1) ⟨by omega,fun j hj=>by
   by_cases hjk:j=k
   ·subst hjk;exact h6
   ·exact hs j (by omega)⟩ (by omega) qbt qab
 have hge:qgi lines≤k:=by have:=of_decide_eq_false h2;omega
 have e:qdh lines line=(0,0,false):=by
  unfold qdh
  rw [if_neg]
  rintro ⟨g1,g2,g3⟩
  have:=hs ((line-104) / 16).toNat (by omega)
  omega
 rw [e]
 refine t13 ?_
 exact qan (Bs:=[Is (.int .i64 0),Is (.int .i64 0),Is (.bool false)]) results112 eT () SubL.rfl' (List.nil_sublist _)
section
variable {P:Program} {c:Ctx} {A:Nat→Option VP} {L:List Item} {d:Option Tmp} {ty:TypeId} {pos:String} {af:Array Edge} {g:Option (Nat×Bool)}
theorem qdo {t e:TypeId} {len size:Nat} {ps:Array (Nat×Operand)} {zs:List Value} {qs:List (Nat×List VP)} {Rs Rs':List VP} (hu:P.underlying t=some (.array len e)) (hs:(P.info? e).map (·.size)=some size) (hz:(P.info? t).map (·.zero)=some (some (.agg zs.toArray))) (h1:(zs.all Value.oneCell')=true)
  (hq:PartsE A L ps.toList qs) (hf:qlu (fun i=>some (i*size,size)) (zs.map Is) qs=some Rs) (hR:Rs=Rs'):OpP P c ⟨d,.build t ps,ty,pos,af,g⟩ A L (IsAgg Rs'):=by
 subst hR
 exact opp fun φ a w hm he=>by
  have hp:=hq.at_ (φ:=φ) (a:=a) fun i x hx=>he x (by simp only [Op.operands];simp;exact ⟨i,by simpa using hx⟩)
  obtain ⟨rs,g1,g2⟩:=qog (qh0 (φ:=φ) zs) (qit h1) hp hf
  refine ⟨.agg rs.toArray,?_,⟨rs,rfl,g2⟩⟩
  simp only [execOp]
  refine qcl ?_
  have h3:(ps.map fun x=>(x.1,a.eval x.2)).toList=ps.toList.map fun p=>(p.1,a.eval p.2):=by simp
  simp only [Instr.build,Sem.run_bind,qj5 hz,Result.andThen_ok,run_underlying hu,qb5 hs]
  rw [h3]
  show (match Instr.fill (fun i=>some (i*size,size)) zs.toArray (ps.toList.map fun p=>(p.1,a.eval p.2)) with|some cells=>pure (.agg cells)|_=>stuck _:Sem Value).run P w=_
  rw [g1];rfl
end
theorem qte {P:Program} {c:Ctx} {A:Nat→Option VP} {L:List Item} {d:Option Tmp} {ty:TypeId} {pos:String} {af:Array Edge} {g:Option (Nat×Bool)} {α:Type} {T:Ty α} (xs:List α) {x y:Operand} {t e:TypeId} {n l:Nat} {k1:IntKind} {i1:Int} {As:List VP} (hx:Ev A L x (qc4 As)) (hu:P.underlying t=some (.array n e)) (hs:(P.info? e).map (·.size)=some T.size) (hy:Ev A L y (Is (.int k1 i1)))
  (e1:i1=l) (h1:l≤n) (hn:xs.length=n) (hm:Nat.ble n maxLen=true) (h:SubLs L (As.take (n*T.size)) (xs.flatMap T.cells)) :
  OpP P c ⟨d,.slice t x (some y) none none,ty,pos,af,g⟩ A L (IsSl T (xs.drop l)):=by
 intro φ a w K Q hh he hk
 obtain ⟨b,o,f1,f2⟩:(qc4 As).ok φ (a.eval x):=he x (by simp [Op.operands]) _ hx
 have g1:a.eval y = .int k1 i1:=he y (by simp [Op.operands]) _ hy
 have hat:SlAt T φ (some ⟨b,o,none⟩) n n xs:=by
  refine ⟨hn.symm,Nat.le_refl _,Nat.le_of_ble_eq_true hm,.inr ⟨b,o,rfl,fun k z hj j B hB=>?_⟩⟩
  obtain ⟨D,h3,h4⟩:=qlg (Bs:=[]) h (qkf hj hB)
  have h5:As[k*T.size+j]?=some D:=by
   rw [List.getElem?_take] at h3
   split at h3
   ·exact h3
   ·cases h3
  obtain ⟨v,h6,h7,h8⟩:=f2 _ D h5
  exact ⟨v,by rw [Nat.add_assoc];exact h6,h4 φ v hh.mem.facts h7,h8⟩
 have hrun:(execOp a.eval ⟨d,.slice t x (some y) none none,ty,pos,af,g⟩).run P w = .ok (.value (.slice (if n=l then some ⟨b,o,none⟩ else (some ⟨b,o,none⟩:Option Addr).map (·.add (l*T.size))) (n-l) (n-l))) w:=by
  simp only [execOp,f1]
  refine qcl ?_
  simp only [Instr.sliceAt,Sem.run_bind,run_underlying hu,Result.andThen_ok,Instr.sureAddr,Sem.run_pure,Option.map_none,Option.map_some,Instr.sliceBounds,g1,qh6 (P:=P) (y:=k1) (k:=k1) e1 h1,qb5 hs]
  by_cases hc:n=l <;> simp [hc]
 unfold Oper.wp
 rw [hrun]
 have hcut:=hat.cut h1 (Nat.le_refl n)
 rw [List.take_of_length_le (by omega)] at hcut
 exact hk φ _ w hh.idle ⟨_,_,_,rfl,hcut⟩
theorem qqb (a b:BitVec 32):Op.intBits .andNot .u32 (UV a) (UV b)=pure (.int .u32 (UV (a &&& ~~~b))):=by
 rw [intBits_andNot];congr 2
 show IntKind.u32.wrap ((BitVec.ofInt 32 (UV a) &&& ~~~ BitVec.ofInt 32 (UV b)).toNat:Int)=_
 rw [qlp,qlp,qnu];rfl
theorem hdr_val (l:Int) (h:104≤l∧l<248):qp5 l=((l-104).tmod 16==0):=by
 unfold qp5
 rw [Int.tmod_eq_emod_of_nonneg (by omega),Bool.eq_iff_iff]
 simp
 omega
theorem qji (l:Int):FnP Tryz.prog 143 [Is (.int .i64 l)] (Is (.bool (qp5 l))):=by
 refine FnP.enter func143 ntmps143 rfl rfl ?_
 intro c hX
 refine t23 ?_
 refine qay results143 rfl () (SubL.eq ?_) (List.nil_sublist _)
 congr 2
 by_cases h:104≤l∧l<248
 ·rw [hdr_val l h,decide_eq_true (by omega:l≥104),decide_eq_true (by omega:l<248)];simp
 ·have e:qp5 l=false:=by unfold qp5;rw [decide_eq_false];omega
  rw [e]
  by_cases h1:l≥104
  ·rw [decide_eq_false (by omega:¬ l<248)];simp
  ·rw [decide_eq_false h1];simp
theorem qty (l:Int):FnP Tryz.prog 132 [Is (.int .i64 l)] (Is (.bool (qp5 l))):=by
 refine FnP.enter func132 ntmps132 rfl rfl ?_
 intro c hX
 refine t12 ?_
 refine qbg (fun k:Nat=>k≤9∧∀ j:Nat,j<k→l≠104+16*(j:Int)) (fun k=>[(0,Is (.int .i64 l)),(3,Is (.int .i64 (k:Nat)))]) (fun _=>[]) (fun k=>9-k) 0 ⟨by omega,fun j hj=>by omega⟩ qbt qab ?_
 rintro k ⟨hk,hs⟩
 refine t7 ?_
 refine cN ?_ ?_ <;> intro h2
 ·have hlt:k≤8:=by have:=of_decide_eq_true h2;omega
  have hline:qau (k:Int)=104+16*k:=by unfold qau;rw [if_pos (by omega)]
  clear h2
  refine t8 ?_
  refine qap rfl (qad call82 (qcb _) ⟨evS,trivial⟩) ?_
  refine t3 ?_
  refine cN ?_ ?_ <;> intro h4
  ·have h5:l=104+16*(k:Int):=by rw [hline] at h4;simpa using h4
   have e:qp5 l=true:=by unfold qp5;rw [decide_eq_true];omega
   refine t11 ?_
   refine qay results132 rfl () (SubL.eq ?_) (List.nil_sublist _)
   rw [e]
  have h5:l≠104+16*(k:Int):=by rw [hline] at h4;simpa using h4
  clear h4
  refine t8 ?_
  exact qaa (k+1) ⟨by omega,fun j hj=>by
   by_cases hjk:j=k
   ·subst hjk;exact h5
   ·exact hs j (by omega)⟩ (by omega) qbt qab
 have hge:9≤k:=by have:=of_decide_eq_false h2;omega
 have e:qp5 l=false:=by
  unfold qp5
  rw [decide_eq_false]
  rintro ⟨g1,g2,g3⟩
  have:=hs ((l-104) / 16).toNat (by omega)
  omega
 refine t11 ?_
 refine qay results132 rfl () (SubL.eq ?_) (List.nil_sublist _)
 rw [e]
def idxU:List (BitVec 64)→Nat→Int
 | [],_=>-1
 | x :: xs,k=>if x=0#64 then idxU xs (k+1) else (k:Int)
theorem qys:∀ (xs:List (BitVec 64)) (k:Nat),decide (idxU xs k≥0)=xs.any fun x=>decide (x≠0#64)
 | [],k=>rfl
 | x :: xs,k=>by
  unfold idxU
  by_cases h:x=0#64
  ·rw [if_pos h,qys xs];simp [h]
  ·rw [if_neg h]
   simp [h]
theorem za4 (x:BitVec 64):FnP Tryz.prog 233 [Is (.int .u64 (UV x))] (Is (.bool (decide (x≠0#64)))):=by
 refine FnP.enter func233 ntmps233 rfl rfl ?_
 intro c hX
 refine t13 ?_
 refine qay results233 rfl () (SubL.eq ?_) (List.nil_sublist _)
 congr 2
 rw [show (0:Int)=UV 0#64 from rfl,Bool.eq_iff_iff]
 simp [qut]
theorem zfl (xs:List (BitVec 64)):FnP Tryz.prog 251 [IsSl qu4 xs,Is (.func (.func 233) #[] #[])] (Is (.int .i64 (idxU xs 0))):=by
 refine FnP.enter func251 ntmps251 rfl rfl ?_
 intro c hX
 refine qgv (t:=0) rfl (fun hlen=>?_)
 refine t14 ?_
 refine qbg (fun k:Nat=>k≤xs.length∧idxU xs 0=idxU (xs.drop k) k) (fun k=>[(0,IsSl qu4 xs),(1,Is (.func (.func 233) #[] #[])),(7,Is (.int .i64 xs.length)),(8,Is (.int .i64 (k:Nat)))]) (fun _=>[]) (fun k=>xs.length-k) 0 ⟨Nat.zero_le _,rfl⟩ qbt qab ?_
 rintro k ⟨hk,hs⟩
 refine t6 ?_
 refine cN ?_ ?_ <;> intro h2
 ·have hlt:k<xs.length:=by have:=of_decide_eq_true h2;omega
  clear h2
  obtain ⟨z,hz⟩:∃ z,xs[k]?=some z:=⟨xs[k],List.getElem?_eq_getElem hlt⟩
  have hd:xs.drop k=z :: xs.drop (k+1):=by
   rw [List.drop_eq_getElem_cons hlt]
   congr 1
   rw [List.getElem?_eq_getElem hlt] at hz
   exact Option.some.inj hz
  have e2:idxU (z :: xs.drop (k+1)) k=if z=0#64 then idxU (xs.drop (k+1)) (k+1) else (k:Int):=rfl
  rw [hd,e2] at hs
  refine t17 ?_
  refine qap rfl (qn7 (er rfl) call233 (za4 _) ⟨evS,trivial⟩) ?_
  refine t2 ?_
  refine cN ?_ ?_ <;> intro h4
  ·have h5:¬ z=0#64:=of_decide_eq_true h4
   rw [if_neg h5] at hs
   refine t12 ?_
   refine qay results251 rfl () (SubL.eq ?_) (List.nil_sublist _)
   rw [hs]
  have h5:z=0#64:=Classical.not_not.1 (of_decide_eq_false h4)
  rw [if_pos h5] at hs
  refine t7 ?_
  exact qaa (k+1) ⟨by omega,hs⟩ (by omega) qbt qab
 have hge:k=xs.length:=by have:=of_decide_eq_false h2;omega
 subst hge
 rw [List.drop_length] at hs
 refine t11 ?_
 refine qay results251 rfl () (SubL.eq ?_) (List.nil_sublist _)
 rw [hs];rfl
theorem qu2 (xs:List (BitVec 64)):FnP Tryz.prog 232 [IsSl qu4 xs,Is (.func (.func 233) #[] #[])] (Is (.bool (xs.any fun x=>decide (x≠0#64)))):=by
 refine FnP.enter func232 ntmps232 rfl rfl ?_
 intro c hX
 refine t9 ?_
 refine qap rfl (qad call251 (zfl _) ⟨evS,⟨evS,trivial⟩⟩) ?_
 refine t5 ?_
 refine qay results232 rfl () (SubL.eq ?_) (List.nil_sublist _)
 rw [qys]
theorem zeros_ok (xs:List (BitVec 64)):FnP Tryz.prog 174 [IsSl qu4 xs] (Is (.bool (!xs.any fun x=>decide (x≠0#64)))):=by
 refine FnP.enter func174 ntmps174 rfl rfl ?_
 intro c hX
 refine t8 ?_
 refine qap rfl (qad call232 (qu2 _) ⟨evS,⟨evS,trivial⟩⟩) ?_
 refine t5 ?_
 refine qay results174 rfl () (SubL.eq ?_) (List.nil_sublist _)
 rfl
def dat (p:Pg):List (BitVec 64):=[p.d0,p.d1,p.d2,p.d3,p.d4,p.d5,p.d6]
def qwg (p:Pg) (k:Nat):BitVec 64:=(dat p).getD k 0#64
def zB (p:Pg):Bool:=decide (p.d2=0#64)&&(decide (p.d3=0#64)&&(decide (p.d4=0#64)&&(decide (p.d5=0#64)&&decide (p.d6=0#64))))
def zbb (p:Pg):Bool:=decide (UV p.d0>6)||UV (p.d1 &&& ~~~BitVec.ofInt 64 65534) != 0
def qcv (p:Pg):Hd×Int:=if qp5 p.l=true then (if (zbb p || !zB p)=true then (Hd.nil,14) else (⟨UV p.d0-1,p.d1.setWidth 32⟩,0)) else (Hd.nil,1)
theorem zB_any (p:Pg):(!((dat p).drop 2).any fun x=>decide (x≠0#64))=zB p:=by
 unfold zB dat
 simp only [List.drop_succ_cons,List.drop_zero,List.any_cons,List.any_nil,decide_not]
 simp only [Bool.or_false,Bool.not_or,Bool.not_not]
theorem zba {p:Pg} (h:zbb p=false):UV p.d0≤6:=by
 unfold zbb at h
 simp at h
 exact h.1
theorem qsk (p:Pg):FnP Tryz.prog 140 [qcr p] (qbu [qpg (qcv p).1,Is (.int .i64 (qcv p).2)]):=by
 have h0:=qbq p.d0
 have hd0:(dat p)[0]?=some p.d0:=rfl
 have hd1:(dat p)[1]?=some p.d1:=rfl
 refine FnP.enter func140 ntmps140 rfl rfl ?_
 intro c hX
 refine t3 ?_
 intro i1
 refine s1 ?_
 intro i2
 refine t5 ?_
 refine qd8 hX (b:=i1) qae ?_
 refine qb0 1 (qc4 (tPg.cells p)) rfl (SubL.fact qbw) ?_
 refine t3 ?_
 refine qap rfl (qad call143 (qji _) ⟨evS,trivial⟩) ?_
 refine t3 ?_
 refine cN ?_ ?_ <;> intro h1
 ·have e:qcv p=(Hd.nil,1):=by unfold qcv;rw [if_neg (by simpa using h1)]
  rw [e]
  refine t9 ?_
  exact qan (Bs:=[qpg Hd.nil,Is (.int .i64 1)]) results140 eT () SubL.rfl' (List.nil_sublist _)
 have hl:qp5 p.l=true:=by simpa using h1
 refine t6 ?_
 refine qap rfl (by exact qen (j:=0) (T:=qu4) (dat p) (er rfl) (er rfl) rfl rfl rf qex rf hd0) ?_
 refine t4 ?_
 (refine qcp rfl rfl rfl (fun hg=>(by have hg0:=hg;(try simp at hg);exact qen (j:=1) (T:=qu4) (dat p) evG evG rfl rfl rf qex rf hd1)) ?_)
 refine t6 ?_
 (refine qcp rfl rfl rfl (fun hg=>(by have hg0:=hg;(try simp at hg);exact qte (T:=qu4) (dat p) (l:=2) evG rfl rfl (er rfl) rfl (by omega) rfl rf subzT)) ?_)
 (refine qcp rfl rfl rfl (fun hg=>(by have hg0:=hg;(try simp at hg);exact qad call174 (zeros_ok _) ⟨evS,trivial⟩)) ?_)
 refine t4 ?_
 refine cN ?_ ?_ <;> intro h3
 ·have e:qcv p=(Hd.nil,14):=by
   unfold qcv
   rw [if_pos hl,if_pos]
   rw [← zB_any]
   exact h3
  rw [e]
  refine t9 ?_
  exact qan (Bs:=[qpg Hd.nil,Is (.int .i64 14)]) results140 eT () SubL.rfl' (List.nil_sublist _)
 have h4:(zbb p || !zB p)=false:=by rw [← zB_any];exact h3
 have e:qcv p=(⟨UV p.d0-1,p.d1.setWidth 32⟩,0):=by
  unfold qcv
  rw [if_pos hl,if_neg (by rw [h4];simp)]
 have hr:=zba (p:=p) (by revert h4;cases zbb p <;> simp)
 rw [e]
 clear h3
 refine t5 ?_
 refine qap rfl (by exact qen (j:=0) (T:=qu4) (dat p) (er rfl) (er rfl) rfl rfl rf qex rf hd0) ?_
 refine t4 ?_
 refine qap rfl (by exact qen (j:=1) (T:=qu4) (dat p) (er rfl) (er rfl) rfl rfl rf qex rf hd1) ?_
 refine t8 ?_
 exact qan (Bs:=[qpg ⟨UV p.d0-1,p.d1.setWidth 32⟩,Is (.int .i64 0)]) results140 eT () SubL.rfl' (List.nil_sublist _)
theorem dat_at (p:Pg) (k:Nat) (h:k<7):(dat p)[k]?=some (qwg p k):=by
 unfold qwg
 rw [List.getD_eq_getElem?_getD,List.getElem?_eq_getElem (by simpa [dat] using h)];rfl
theorem zB_iff {p:Pg}:zB p=true↔∀ k:Nat,2≤k→k<7→qwg p k=0#64:=by
 unfold zB
 simp only [Bool.and_eq_true,decide_eq_true_eq]
 constructor
 ·rintro ⟨h2,h3,h4,h5,h6⟩ k hk hk7
  have:k=2∨k=3∨k=4∨k=5∨k=6:=by omega
  rcases this with rfl|rfl|rfl|rfl|rfl <;> simp [qwg,dat,h2,h3,h4,h5,h6]
 ·intro h
  exact ⟨h 2 (by omega) (by omega),h 3 (by omega) (by omega),h 4 (by omega) (by omega),h 5 (by omega) (by omega),h 6 (by omega) (by omega)⟩
theorem uv0_iff {w:Nat} {x:BitVec w}:UV x=0↔x=0#w:=by
 constructor
 ·intro h
  have:UV x=UV (0#w):=by rw [h];simp [UV]
  rw [qut] at this;exact this
 ·rintro rfl;simp [UV]
theorem qgb (p:Pg):FnP Tryz.prog 83 [qcr p] (qbu [qpg (qcv p).1,Is (.int .i64 (qcv p).2)]):=by
 have h0:=qbq p.d0
 have hd0:(dat p)[0]?=some p.d0:=rfl
 have hd1:(dat p)[1]?=some p.d1:=rfl
 refine FnP.enter func83 ntmps83 rfl rfl ?_
 intro c hX
 refine t3 ?_
 intro i1
 refine s1 ?_
 intro i2
 refine t5 ?_
 refine qd8 hX (b:=i1) qae ?_
 refine qb0 1 (qc4 (tPg.cells p)) rfl (SubL.fact qbw) ?_
 refine t3 ?_
 refine qap rfl (qad call132 (qty _) ⟨evS,trivial⟩) ?_
 refine t3 ?_
 refine cN ?_ ?_ <;> intro h1
 ·have e:qcv p=(Hd.nil,1):=by unfold qcv;rw [if_neg (by simpa using h1)]
  rw [e]
  refine t9 ?_
  exact qan (Bs:=[qpg Hd.nil,Is (.int .i64 1)]) results83 eT () SubL.rfl' (List.nil_sublist _)
 have hl:qp5 p.l=true:=by simpa using h1
 refine t9 ?_
 refine qbg (fun k:Nat=>2≤k∧k≤7∧∀ j:Nat,2≤j→j<k→qwg p j=0#64) (fun k=>[(1,qc4 (tPg.cells p)),(2,Is (.pointer (some ⟨i2,0,none⟩))),(4,Is (.int .i64 (k:Nat)))]) (fun _=>[blk i2 173 (tHd.cells Hd.nil)]) (fun k=>7-k) 2 ⟨by omega,by omega,fun j hj=>by omega⟩ qbt qab ?_
 rintro k ⟨hk2,hk7,hs⟩
 refine t7 ?_
 refine cN ?_ ?_ <;> intro h4
 ·have hlt:k<7:=by have:=of_decide_eq_true h4;omega
  have hdk:=dat_at p k hlt
  clear h4
  refine t8 ?_
  refine qap rfl (by exact qen (j:=k) (T:=qu4) (dat p) (er rfl) (er rfl) rfl rfl rf qex rf hdk) ?_
  refine t4 ?_
  refine cN ?_ ?_ <;> intro h6
  ·have h7:¬ qwg p k=0#64:=by rw [← uv0_iff];simpa using h6
   have e:qcv p=(Hd.nil,14):=by
    unfold qcv
    rw [if_pos hl,if_pos]
    have:zB p=false:=by
     cases hz:zB p with
     | false=>rfl
     | true=>exact absurd (zB_iff.1 hz k hk2 hlt) h7
    rw [this];simp
   rw [e]
   refine t13 ?_
   exact qan (Bs:=[qpg Hd.nil,Is (.int .i64 14)]) results83 eT () SubL.rfl' (List.nil_sublist _)
  have h7:qwg p k=0#64:=by rw [← uv0_iff];simpa using h6
  clear h6
  refine t8 ?_
  exact qaa (k+1) ⟨by omega,by omega,fun j hj hjk=>by
   by_cases hjk2:j=k
   ·subst hjk2;exact h7
   ·exact hs j hj (by omega)⟩ (by omega) qbt qab
 have hk:k=7:=by have:=of_decide_eq_false h4;omega
 subst hk
 have hz:zB p=true:=zB_iff.2 hs
 clear h4
 refine t9 ?_
 refine qap rfl (by exact qen (j:=0) (T:=qu4) (dat p) (er rfl) (er rfl) rfl rfl rf qex rf hd0) ?_
 refine t4 ?_
 (refine qcp rfl rfl rfl (fun hg=>(by have hg0:=hg;(try simp at hg);exact qen (j:=1) (T:=qu4) (dat p) evG evG rfl rfl rf qex rf hd1)) ?_)
 refine t6 ?_
 refine cN ?_ ?_ <;> intro h8
 ·have h9:zbb p=true:=h8
  have e:qcv p=(Hd.nil,14):=by unfold qcv;rw [if_pos hl,if_pos (by rw [h9];simp)]
  rw [e]
  refine t9 ?_
  exact qan (Bs:=[qpg Hd.nil,Is (.int .i64 14)]) results83 eT () SubL.rfl' (List.nil_sublist _)
 have h9:zbb p=false:=h8
 have hr:=zba h9
 have e:qcv p=(⟨UV p.d0-1,p.d1.setWidth 32⟩,0):=by unfold qcv;rw [if_pos hl,if_neg (by rw [h9,hz];simp)]
 rw [e]
 clear h8
 refine t5 ?_
 refine qap rfl (by exact qen (j:=0) (T:=qu4) (dat p) (er rfl) (er rfl) rfl rfl rf qex rf hd0) ?_
 refine t4 ?_
 refine qap rfl (by exact qen (j:=1) (T:=qu4) (dat p) (er rfl) (er rfl) rfl rfl rf qex rf hd1) ?_
 refine t8 ?_
 exact qan (Bs:=[qpg ⟨UV p.d0-1,p.d1.setWidth 32⟩,Is (.int .i64 0)]) results83 eT () SubL.rfl' (List.nil_sublist _)
def qrp (p:Pg) (h:Hd):Bool:=(!qp5 p.l||decide (h.owner < -1))||decide (h.owner≥6)||UV (h.used &&& ~~~BitVec.ofInt 32 65534) != 0
def qoe (p:Pg) (h:Hd):Pg:={ Pg.nil with l:=p.l,h:=p.h,d0:=BitVec.ofInt 64 (h.owner+1),d1:=h.used.setWidth 64 }
def qfn (p:Pg) (h:Hd):Pg×Int:=if qrp p h=true then (Pg.nil,1) else (qoe p h,0)
theorem hd_rng {p:Pg} {h:Hd} (e:qrp p h=false):-1≤h.owner∧h.owner<6:=by
 unfold qrp at e
 simp at e
 omega
theorem qpc (p:Pg) (h:Hd):FnP Tryz.prog 98 [qcr p,qpg h] (qbu [qcr (qfn p h).1,Is (.int .i64 (qfn p h).2)]):=by
 refine FnP.enter func98 ntmps98 rfl rfl ?_
 intro c hX
 refine t3 ?_
 intro i2
 refine s1 ?_
 intro i3
 refine s1 ?_
 intro i4
 refine t8 ?_
 refine qap rfl (qad call143 (qji _) ⟨evS,trivial⟩) ?_
 refine t14 ?_
 (refine qcp rfl rfl rfl (fun hg=>(by have hg0:=hg;(try simp at hg);exact qeh qi5 qi5 (by simp) (qqb _ _))) ?_)
 refine t4 ?_
 refine cN ?_ ?_ <;> intro h1
 ·have e:qfn p h=(Pg.nil,1):=by unfold qfn;rw [if_pos];exact h1
  rw [e]
  refine t9 ?_
  exact qan (Bs:=[qcr Pg.nil,Is (.int .i64 1)]) results98 eT () SubL.rfl' (List.nil_sublist _)
 have h2:qrp p h=false:=h1
 have hr:=hd_rng h2
 have e:qfn p h=(qoe p h,0):=by unfold qfn;rw [if_neg (by rw [h2];simp)]
 rw [e]
 clear h1
 refine t8 ?_
 refine qi1 30 (Is (.int .u64 (UV (BitVec.ofInt 64 (h.owner+1))))) rfl (SubL.eq (congrArg Is (qda (by omega)))) ?_
 refine t3 ?_
 refine qap rfl (qdo (size:=1) (qs:=[(0,_),(1,_)]) rfl rfl rfl rfl ⟨⟨rfl,_,(er rfl),qa6⟩,⟨⟨rfl,_,(er rfl),qa6⟩,trivial⟩⟩ rf qbm) ?_
 refine t12 ?_
 exact qan (Bs:=[qcr (qoe p h),Is (.int .i64 0)]) results98 eT () SubL.rfl' (List.nil_sublist _)
@[reducible] def qn5 (x:BitVec 32) (y:BitVec 64):BitVec 64:=x.setWidth 64|||y<<<32
theorem zcn (x:BitVec 32) (y:BitVec 64):x.setWidth 64&&&y<<<32=0#64:=by
 apply BitVec.eq_of_getLsbD_eq
 intro i hi
 simp only [BitVec.getLsbD_and,BitVec.getLsbD_setWidth,BitVec.getLsbD_shiftLeft]
 rcases Nat.lt_or_ge i 32 with h|h
 ·simp [h]
 ·rw [BitVec.getLsbD_of_ge x i h];simp
theorem add_or (x:BitVec 32) (y:BitVec 64):x.setWidth 64+y<<<32=qn5 x y:=BitVec.add_eq_or_of_and_eq_zero _ _ (zcn x y)
theorem pack_low (x:BitVec 32) (y:BitVec 64):(qn5 x y).setWidth 32=x:=by
 apply BitVec.eq_of_getLsbD_eq
 intro i hi
 simp only [qn5,BitVec.getLsbD_setWidth,BitVec.getLsbD_or,BitVec.getLsbD_shiftLeft]
 simp [hi,show i<64 by omega]
theorem zcm (x z:BitVec 32):qn5 x (z.setWidth 64)>>>32=z.setWidth 64:=by
 apply BitVec.eq_of_getLsbD_eq
 intro i hi
 simp only [qn5,BitVec.getLsbD_ushiftRight,BitVec.getLsbD_setWidth,BitVec.getLsbD_or,BitVec.getLsbD_shiftLeft]
 rw [BitVec.getLsbD_of_ge x (32+i) (by omega)]
 rcases Nat.lt_or_ge i 32 with h|h
 ·simp [hi,h,show 32+i<64 by omega,show 32+i-32=i by omega]
 ·rw [BitVec.getLsbD_of_ge z i h];simp;omega
theorem qlj (z:BitVec 32):(z.setWidth 64).setWidth 32=z:=by
 apply BitVec.eq_of_toNat_eq
 simp only [BitVec.toNat_setWidth]
 have:=z.isLt
 omega
def qqw (w:BitVec 64):Re:=if w=0#64 then Re.nil else ⟨qd3 (w.setWidth 32),(w>>>32).setWidth 32⟩
def qkk (w:BitVec 64):Bool:=decide (w=0#64)||qc5 (qd3 (w.setWidth 32))
theorem qnb {w:BitVec 64} (h:w=0#64):qqw w=Re.nil∧qkk w=true:=by
 refine ⟨by unfold qqw;rw [if_pos h],by unfold qkk;rw [decide_eq_true h];rfl⟩
theorem qi9 {w:BitVec 64} (h:¬ w=0#64):qqw w=⟨qd3 (w.setWidth 32),(w>>>32).setWidth 32⟩∧qkk w=qc5 (qd3 (w.setWidth 32)):=by
 refine ⟨by unfold qqw;rw [if_neg h],by unfold qkk;rw [decide_eq_false h];rfl⟩
theorem qna (w:BitVec 64):FnP Tryz.prog 86 [Is (.int .u64 (UV w))] (qbu [IsRe (qqw w),Is (.bool (qkk w))]):=by
 refine FnP.enter func86 ntmps86 rfl rfl ?_
 intro c hX
 refine t3 ?_
 intro i2
 refine t10 ?_
 refine cN ?_ ?_ <;> intro h1
 ·have h:w=0#64:=by rw [← uv0_iff];simpa using h1
  rw [(qnb h).1,(qnb h).2]
  refine t9 ?_
  exact qan (Bs:=[IsRe Re.nil,Is (.bool true)]) results86 eT () SubL.rfl' (List.nil_sublist _)
 have h:¬ w=0#64:=by rw [← uv0_iff];simpa using h1
 rw [(qi9 h).1,(qi9 h).2]
 refine t6 ?_
 refine qap rfl (qad call134 (zex _) ⟨evS,trivial⟩) ?_
 refine s1 ?_
 refine qap rfl (by exact qhw (k:=32) qgp (er rfl) (by omega) qct) ?_
 refine t3 ?_
 intro i4
 refine t4 ?_
 refine qaz rfl (by kernel_rfl) ?_
 refine qc0 (it:=blk i2 _ _) (by repeat (first|exact Drop1.here _ _|apply Drop1.next)) ?_
 refine qc3 (its:=[_]) 6 (by kernel_rfl) ?_
 refine t3 ?_
 refine qbh (qad call84 (qjt _) ⟨evS,trivial⟩) ?_
 refine qcz (s:=19) rfl rfl rfl (by kernel_rfl) (fun c'=>by exact qa2 (er rfl) (er rfl) qa6 qae rf rf rf) ?_
 refine s1 ?_
 refine ⟨rfl,?_⟩
 intro _
 refine qar ?_
 refine t2 ?_
 exact qan (Bs:=[IsRe ⟨qd3 (w.setWidth 32),(w>>>32).setWidth 32⟩,Is (.bool (qc5 (qd3 (w.setWidth 32))))]) results86 eT () SubL.rfl' (List.nil_sublist _)
def qxm (p:Pg):Bool:=decide (UV p.d0>0)
def epV (p:Pg):BitVec 32:=if UV p.d0>0 then (p.d0-1#64).setWidth 32 else 0#32
def reK (k j:Nat) (r:Re):Re:=if j<k then r else Re.nil
def ndK (p:Pg) (k:Nat):Nd:=⟨qxm p,epV p,p.d1.setWidth 32,UV p.d2,reK k 0 (qqw p.d3),reK k 1 (qqw p.d4),reK k 2 (qqw p.d5),reK k 3 (qqw p.d6)⟩
def okN (p:Pg) (k:Nat):Bool:=match k with
 | 0=>true
 | 1=>qkk p.d3
 | 2=>qkk p.d3&&qkk p.d4
 | 3=>qkk p.d3&&qkk p.d4&&qkk p.d5
 | _=>qkk p.d3&&qkk p.d4&&qkk p.d5&&qkk p.d6
def qu8 (p:Pg):Bool:=decide (UV p.d0>4294967296)||decide (UV p.d1>511)||decide (UV p.d2>59)
def qc1 (p:Pg):Nd×Int:=if qo5 p.l=true then (if qu8 p=true then (Nd.nil,14) else if okN p 4=true then (ndK p 4,0) else (Nd.nil,14)) else (Nd.nil,1)
theorem qwm {p:Pg} (h:qu8 p=false):UV p.d0≤4294967296∧UV p.d1≤511∧UV p.d2≤59:=by
 unfold qu8 at h
 simp at h
 omega
theorem qvo {p:Pg} (h:qo5 p.l=false):qc1 p=(Nd.nil,1):=by unfold qc1;rw [if_neg (by rw [h];simp)]
theorem qqx {p:Pg} (h:qo5 p.l=true) (h1:qu8 p=true):qc1 p=(Nd.nil,14):=by unfold qc1;rw [if_pos h,if_pos h1]
theorem qvn {p:Pg} (h:qo5 p.l=true) (h1:qu8 p=false) (h2:okN p 4=false):qc1 p=(Nd.nil,14):=by unfold qc1;rw [if_pos h,if_neg (by rw [h1];simp),if_neg (by rw [h2];simp)]
theorem qqy {p:Pg} (h:qo5 p.l=true) (h1:qu8 p=false) (h2:okN p 4=true):qc1 p=(ndK p 4,0):=by unfold qc1;rw [if_pos h,if_neg (by rw [h1];simp),if_pos h2]
theorem qyb {p:Pg} (h:qkk p.d3=false):okN p 4=false:=by unfold okN;simp [h]
theorem qrc {p:Pg} (h0:okN p 0=true) (h:qkk p.d3=true):okN p 1=true:=by unfold okN at h0 ⊢;simp_all
theorem qya {p:Pg} (h:qkk p.d4=false):okN p 4=false:=by unfold okN;simp [h]
theorem qrb {p:Pg} (h0:okN p 1=true) (h:qkk p.d4=true):okN p 2=true:=by unfold okN at h0 ⊢;simp_all
theorem qx9 {p:Pg} (h:qkk p.d5=false):okN p 4=false:=by unfold okN;simp [h]
theorem qra {p:Pg} (h0:okN p 2=true) (h:qkk p.d5=true):okN p 3=true:=by unfold okN at h0 ⊢;simp_all
theorem qx8 {p:Pg} (h:qkk p.d6=false):okN p 4=false:=by unfold okN;simp [h]
theorem qq9 {p:Pg} (h0:okN p 3=true) (h:qkk p.d6=true):okN p 4=true:=by unfold okN at h0 ⊢;simp_all
set_option maxHeartbeats 8000000 in
theorem qwu (p:Pg):FnP Tryz.prog 55 [qcr p] (qbu [qik (qc1 p).1,Is (.int .i64 (qc1 p).2)]):=by
 have z2:=qbq p.d2
 refine FnP.enter func55 ntmps55 rfl rfl ?_
 intro c hX
 refine t3 ?_
 intro i1
 refine s1 ?_
 intro i2
 refine t8 ?_
 refine qap rfl (qad call85 (qls _) ⟨evS,trivial⟩) ?_
 refine t3 ?_
 refine cN ?_ ?_ <;> intro h1
 ·have hl:qo5 p.l=false:=by simpa using h1
  rw [qvo hl]
  refine t9 ?_
  exact qan (Bs:=[qik Nd.nil,Is (.int .i64 1)]) results55 eT () SubL.rfl' (List.nil_sublist _)
 have hl:qo5 p.l=true:=by simpa using h1
 refine t23 ?_
 refine cN ?_ ?_ <;> intro h3
 ·have hb:qu8 p=true:=by rw [← h3];unfold qu8;congr 2
  rw [qqx hl hb]
  refine t9 ?_
  exact qan (Bs:=[qik Nd.nil,Is (.int .i64 14)]) results55 eT () SubL.rfl' (List.nil_sublist _)
 have hb:qu8 p=false:=by rw [← h3];unfold qu8;congr 2
 clear h3
 obtain ⟨b0,b1,b2⟩:=qwm hb
 refine t14 ?_
 intro i4
 refine t12 ?_
 refine qgs (fun _:Unit=>True) (fun _=>[(1,Is (.pointer (some ⟨i1,0,none⟩))),(2,Is (.pointer (some ⟨i2,0,none⟩))),(4,Is (.pointer (some ⟨i4,0,none⟩)))]) (fun _=>[blk i4 94 (tNd.cells (ndK p 0)),blk i2 94 (tNd.cells Nd.nil),blk i1 48 (tPg.cells p)]) ?_ ?_
 rotate_left
 focus
  refine cN ?_ ?_ <;> intro h6
  ·have h7:UV p.d0>0:=of_decide_eq_true h6
   have e1:qxm p=true:=h6
   have e2:epV p=(p.d0-1#64).setWidth 32:=by unfold epV;rw [if_pos h7]
   clear h6
   refine qaz rfl (by kernel_rfl) ?_
   refine qc0 (it:=blk i4 _ _) (by repeat (exact Drop1.here _ _)) ?_
   refine qc3 (its:=[_]) 9 (by kernel_rfl) ?_
   refine t6 ?_
   refine qcz (s:=71) rfl rfl rfl (by kernel_rfl) (fun c'=>by exact qa2 (er rfl) (er rfl) qa6 qae rf rf rf) ?_
   refine s1 ?_
   refine qcz (s:=71) rfl rfl rfl (by kernel_rfl) (fun c'=>by exact qa2 (er rfl) (er rfl) qa6 qae rf rf rf) ?_
   refine ⟨rfl,?_⟩
   intro _
   refine qar ?_
   refine qao (b:=i4) (As':=tNd.cells (ndK p 0)) qae (by show SubLs _ _ [Is (.bool (qxm p)),Is (.int .u32 (UV (epV p))),_,_,_,_,_,_,_,_,_,_,_,_,_,_];rw [e1,e2];exact qex) ?_
   exact qai () trivial qbt qab
  have h7:¬ UV p.d0>0:=of_decide_eq_false h6
  have e1:qxm p=false:=h6
  have e2:epV p=0#32:=by unfold epV;rw [if_neg h7]
  clear h6
  refine s1 ?_
  refine qao (b:=i4) (As':=tNd.cells (ndK p 0)) qae (by show SubLs _ _ [Is (.bool (qxm p)),Is (.int .u32 (UV (epV p))),_,_,_,_,_,_,_,_,_,_,_,_,_,_];rw [e1,e2];exact qex) ?_
  exact qai () trivial qbt qab
 rintro _ _
 refine t7 ?_
 refine qbg (fun k:Nat=>k≤4∧okN p k=true) (fun k=>[(1,Is (.pointer (some ⟨i1,0,none⟩))),(2,Is (.pointer (some ⟨i2,0,none⟩))),(4,Is (.pointer (some ⟨i4,0,none⟩))),(50,Is (.int .i64 (k:Nat)))]) (fun k=>[blk i4 94 (tNd.cells (ndK p k)),blk i2 94 (tNd.cells Nd.nil),blk i1 48 (tPg.cells p)]) (fun k=>4-k) 0 ⟨Nat.zero_le _,rfl⟩ qbt qab ?_
 rintro k ⟨hk,hok⟩
 refine t6 ?_
 refine cN ?_ ?_ <;> intro h9
 ·have hk4:k=0∨k=1∨k=2∨k=3:=by have:=of_decide_eq_true h9;omega
  clear h9
  rcases hk4 with rfl|rfl|rfl|rfl
  all_goals
   refine t15 ?_
   refine qap rfl (by first|exact qal (k:=3) (sz:=1) (er rfl) (er rfl) rfl rfl (by decide) (by decide)|exact qal (k:=4) (sz:=1) (er rfl) (er rfl) rfl rfl (by decide) (by decide)|exact qal (k:=5) (sz:=1) (er rfl) (er rfl) rfl rfl (by decide) (by decide)|exact qal (k:=6) (sz:=1) (er rfl) (er rfl) rfl rfl (by decide) (by decide)) ?_
   refine s1 ?_
   refine qap rfl (qad call86 (qna _) ⟨evS,trivial⟩) ?_
   refine t4 ?_
   intro i6
   refine t11 ?_
   refine cN ?_ ?_ <;> intro h12
   ·have hbad:okN p 4=false:=by first|exact qyb (by simpa using h12)|exact qya (by simpa using h12)|exact qx9 (by simpa using h12)|exact qx8 (by simpa using h12)
    rw [qvn hl hb hbad]
    refine t14 ?_
    exact qan (Bs:=[qik Nd.nil,Is (.int .i64 14)]) results55 eT () SubL.rfl' (List.nil_sublist _)
   refine t6 ?_
   refine qap rfl (by first|exact qal (k:=0) (sz:=3) (er rfl) (er rfl) rfl rfl (by decide) (by decide)|exact qal (k:=1) (sz:=3) (er rfl) (er rfl) rfl rfl (by decide) (by decide)|exact qal (k:=2) (sz:=3) (er rfl) (er rfl) rfl rfl (by decide) (by decide)|exact qal (k:=3) (sz:=3) (er rfl) (er rfl) rfl rfl (by decide) (by decide)) ?_
   refine t8 ?_
   first|exact qaa 1 ⟨by omega,qrc (by assumption) (by simpa using h12)⟩ (by omega) qbt qab|exact qaa 2 ⟨by omega,qrb (by assumption) (by simpa using h12)⟩ (by omega) qbt qab|exact qaa 3 ⟨by omega,qra (by assumption) (by simpa using h12)⟩ (by omega) qbt qab|exact qaa 4 ⟨by omega,qq9 (by assumption) (by simpa using h12)⟩ (by omega) qbt qab
 have hk4:k=4:=by have:=of_decide_eq_false h9;omega
 subst hk4
 rw [qqy hl hb hok]
 refine t13 ?_
 exact qan (Bs:=[qik (ndK p 4),Is (.int .i64 0)]) results55 eT () SubL.rfl' (List.nil_sublist _)
theorem d1_low {p:Pg} (h:UV p.d1≤511):UV (BitVec.ofInt 32 ((UV p.d1).tmod 512))=UV (p.d1.setWidth 32):=by
 have h0:=qbq p.d1
 rw [Int.tmod_eq_emod_of_nonneg h0,show UV p.d1 % 512=UV p.d1 by omega]
 unfold UV at *
 rw [BitVec.toNat_ofInt,BitVec.toNat_setWidth]
 omega
theorem ndK_nil0 {p:Pg} (h:qqw p.d3=Re.nil):ndK p 1=ndK p 0:=by unfold ndK reK;simp [h]
theorem ndK_re0 {p:Pg} (h:¬ p.d3=0#64):ndK p 1={ ndK p 0 with r0:=⟨qd3 (p.d3.setWidth 32),(p.d3>>>32).setWidth 32⟩ }:=by unfold ndK reK;simp [(qi9 h).1]
theorem ndK_nil1 {p:Pg} (h:qqw p.d4=Re.nil):ndK p 2=ndK p 1:=by unfold ndK reK;simp [h]
theorem ndK_re1 {p:Pg} (h:¬ p.d4=0#64):ndK p 2={ ndK p 1 with r1:=⟨qd3 (p.d4.setWidth 32),(p.d4>>>32).setWidth 32⟩ }:=by unfold ndK reK;simp [(qi9 h).1]
theorem ndK_nil2 {p:Pg} (h:qqw p.d5=Re.nil):ndK p 3=ndK p 2:=by unfold ndK reK;simp [h]
theorem ndK_re2 {p:Pg} (h:¬ p.d5=0#64):ndK p 3={ ndK p 2 with r2:=⟨qd3 (p.d5.setWidth 32),(p.d5>>>32).setWidth 32⟩ }:=by unfold ndK reK;simp [(qi9 h).1]
theorem ndK_nil3 {p:Pg} (h:qqw p.d6=Re.nil):ndK p 4=ndK p 3:=by unfold ndK reK;simp [h]
theorem ndK_re3 {p:Pg} (h:¬ p.d6=0#64):ndK p 4={ ndK p 3 with r3:=⟨qd3 (p.d6.setWidth 32),(p.d6>>>32).setWidth 32⟩ }:=by unfold ndK reK;simp [(qi9 h).1]
theorem zeroK {x:BitVec 64} (h:(UV x==0)=true):x=0#64:=by rw [← uv0_iff];simpa using h
theorem nzK {x:BitVec 64} (h:(UV x==0)=false):¬ x=0#64:=by rw [← uv0_iff];simpa using h
set_option maxHeartbeats 8000000 in
theorem qm8 (p:Pg):FnP Tryz.prog 35 [qcr p] (qbu [qik (qc1 p).1,Is (.int .i64 (qc1 p).2)]):=by
 have z2:=qbq p.d2
 have z1:=qbq p.d1
 refine FnP.enter func35 ntmps35 rfl rfl ?_
 intro c hX
 refine t3 ?_
 intro i1
 refine s1 ?_
 intro i2
 refine t8 ?_
 refine qap rfl (qad call67 (qym _) ⟨evS,trivial⟩) ?_
 refine t3 ?_
 refine cN ?_ ?_ <;> intro h1
 ·have hl:qo5 p.l=false:=by simpa using h1
  rw [qvo hl]
  refine t9 ?_
  exact qan (Bs:=[qik Nd.nil,Is (.int .i64 1)]) results35 eT () SubL.rfl' (List.nil_sublist _)
 have hl:qo5 p.l=true:=by simpa using h1
 have q1:0≤(UV p.d1).tmod 512∧(UV p.d1).tmod 512<512:=by rw [Int.tmod_eq_emod_of_nonneg z1];omega
 have q2:0≤(UV p.d2).tmod 1024∧(UV p.d2).tmod 1024<1024:=by rw [Int.tmod_eq_emod_of_nonneg z2];omega
 refine t8 ?_
 refine qap rfl (qfg (er rfl) rfl rfl (wU32 (by omega))) ?_
 refine t4 ?_
 refine qap rfl (qfg (er rfl) rfl rfl (qpi (by omega))) ?_
 refine t2 ?_
 intro i4
 refine t24 ?_
 refine cN ?_ ?_ <;> intro h4
 ·have hb:qu8 p=true:=h4
  rw [qqx hl hb]
  refine t9 ?_
  exact qan (Bs:=[qik Nd.nil,Is (.int .i64 14)]) results35 eT () SubL.rfl' (List.nil_sublist _)
 have hb:qu8 p=false:=h4
 clear h4
 obtain ⟨b0,b1,b2⟩:=qwm hb
 have e3:Value.int .u32 ((UV p.d1).tmod 512) = .int .u32 (UV (p.d1.setWidth 32)):=by rw [← d1_low b1,qki (by omega)]
 have e4:(UV p.d2).tmod 1024=UV p.d2:=by rw [Int.tmod_eq_emod_of_nonneg z2];omega
 rw [e3,e4]
 refine t11 ?_
 refine qgs (fun _:Unit=>True) (fun _=>[(1,Is (.pointer (some ⟨i1,0,none⟩))),(2,Is (.pointer (some ⟨i2,0,none⟩))),(4,Is (.pointer (some ⟨i4,0,none⟩)))]) (fun _=>[blk i4 110 (tNd.cells (ndK p 0)),blk i2 110 (tNd.cells Nd.nil),blk i1 48 (tPg.cells p)]) ?_ ?_
 rotate_left
 focus
  refine cN ?_ ?_ <;> intro h6
  ·have h7:UV p.d0>0:=of_decide_eq_true h6
   have e1:qxm p=true:=h6
   have e2:epV p=(p.d0-1#64).setWidth 32:=by unfold epV;rw [if_pos h7]
   clear h6
   refine t15 ?_
   refine qao (b:=i4) (As':=tNd.cells (ndK p 0)) qae (by show SubLs _ _ [Is (.bool (qxm p)),Is (.int .u32 (UV (epV p))),_,_,_,_,_,_,_,_,_,_,_,_,_,_];rw [e1,e2];exact qex) ?_
   exact qai () trivial qbt qab
  have h7:¬ UV p.d0>0:=of_decide_eq_false h6
  have e1:qxm p=false:=h6
  have e2:epV p=0#32:=by unfold epV;rw [if_neg h7]
  clear h6
  refine s1 ?_
  refine qao (b:=i4) (As':=tNd.cells (ndK p 0)) qae (by show SubLs _ _ [Is (.bool (qxm p)),Is (.int .u32 (UV (epV p))),_,_,_,_,_,_,_,_,_,_,_,_,_,_];rw [e1,e2];exact qex) ?_
  exact qai () trivial qbt qab
 rintro _ _
 refine t7 ?_
 refine qbg (fun k:Nat=>k≤4∧okN p k=true) (fun k=>[(1,Is (.pointer (some ⟨i1,0,none⟩))),(2,Is (.pointer (some ⟨i2,0,none⟩))),(4,Is (.pointer (some ⟨i4,0,none⟩))),(5,Is (.int .i64 (k:Nat)))]) (fun k=>[blk i4 110 (tNd.cells (ndK p k)),blk i2 110 (tNd.cells Nd.nil),blk i1 48 (tPg.cells p)]) (fun k=>4-k) 0 ⟨Nat.zero_le _,rfl⟩ qbt qab ?_
 rintro k ⟨hk,hok⟩
 refine t7 ?_
 refine cN ?_ ?_ <;> intro h10
 ·have hk4:k=0∨k=1∨k=2∨k=3:=by have:=of_decide_eq_true h10;omega
  clear h10
  rcases hk4 with rfl|rfl|rfl|rfl
  all_goals
   refine t9 ?_
   refine qap rfl (by first|exact qal (k:=3) (sz:=1) (er rfl) (er rfl) rfl rfl (by decide) (by decide)|exact qal (k:=4) (sz:=1) (er rfl) (er rfl) rfl rfl (by decide) (by decide)|exact qal (k:=5) (sz:=1) (er rfl) (er rfl) rfl rfl (by decide) (by decide)|exact qal (k:=6) (sz:=1) (er rfl) (er rfl) rfl rfl (by decide) (by decide)) ?_
   refine t11 ?_
   refine cN ?_ ?_ <;> intro h13
   ·have hz:=zeroK h13
    refine t9 ?_
    first|(refine qao (b:=i4) (As':=tNd.cells (ndK p 1)) qae (by rw [ndK_nil0 (qnb hz).1];exact SubLs.rfl') ?_;exact qaa 1 ⟨by omega,qrc hok (qnb hz).2⟩ (by omega) qbt qab)|(refine qao (b:=i4) (As':=tNd.cells (ndK p 2)) qae (by rw [ndK_nil1 (qnb hz).1];exact SubLs.rfl') ?_;exact qaa 2 ⟨by omega,qrb hok (qnb hz).2⟩ (by omega) qbt qab)|(refine qao (b:=i4) (As':=tNd.cells (ndK p 3)) qae (by rw [ndK_nil2 (qnb hz).1];exact SubLs.rfl') ?_;exact qaa 3 ⟨by omega,qra hok (qnb hz).2⟩ (by omega) qbt qab)|(refine qao (b:=i4) (As':=tNd.cells (ndK p 4)) qae (by rw [ndK_nil3 (qnb hz).1];exact SubLs.rfl') ?_;exact qaa 4 ⟨by omega,qq9 hok (qnb hz).2⟩ (by omega) qbt qab)
   have hz:=nzK h13
   refine t6 ?_
   refine qap rfl (qad call68 (qfk _) ⟨evS,trivial⟩) ?_
   refine s1 ?_
   intro i7
   refine t7 ?_
   refine qap rfl (qad call65 (qch _) ⟨evS,trivial⟩) ?_
   refine t3 ?_
   refine cN ?_ ?_ <;> intro h15
   ·have hbad:okN p 4=false:=by first|exact qyb (by rw [(qi9 hz).2];simpa using h15)|exact qya (by rw [(qi9 hz).2];simpa using h15)|exact qx9 (by rw [(qi9 hz).2];simpa using h15)|exact qx8 (by rw [(qi9 hz).2];simpa using h15)
    rw [qvn hl hb hbad]
    refine t14 ?_
    exact qan (Bs:=[qik Nd.nil,Is (.int .i64 14)]) results35 eT () SubL.rfl' (List.nil_sublist _)
   refine t6 ?_
   refine qap rfl (by exact qhw (k:=32) qgp (er rfl) (by omega) qct) ?_
   refine t3 ?_
   refine qap rfl (by first|exact qal (k:=0) (sz:=3) (er rfl) (er rfl) rfl rfl (by decide) (by decide)|exact qal (k:=1) (sz:=3) (er rfl) (er rfl) rfl rfl (by decide) (by decide)|exact qal (k:=2) (sz:=3) (er rfl) (er rfl) rfl rfl (by decide) (by decide)|exact qal (k:=3) (sz:=3) (er rfl) (er rfl) rfl rfl (by decide) (by decide)) ?_
   refine t9 ?_
   first|(refine qao (b:=i4) (As':=tNd.cells (ndK p 1)) qae (by rw [ndK_re0 hz];exact qex) ?_;exact qaa 1 ⟨by omega,qrc hok (by rw [(qi9 hz).2];simpa using h15)⟩ (by omega) qbt qab)|(refine qao (b:=i4) (As':=tNd.cells (ndK p 2)) qae (by rw [ndK_re1 hz];exact qex) ?_;exact qaa 2 ⟨by omega,qrb hok (by rw [(qi9 hz).2];simpa using h15)⟩ (by omega) qbt qab)|(refine qao (b:=i4) (As':=tNd.cells (ndK p 3)) qae (by rw [ndK_re2 hz];exact qex) ?_;exact qaa 3 ⟨by omega,qra hok (by rw [(qi9 hz).2];simpa using h15)⟩ (by omega) qbt qab)|(refine qao (b:=i4) (As':=tNd.cells (ndK p 4)) qae (by rw [ndK_re3 hz];exact qex) ?_;exact qaa 4 ⟨by omega,qq9 hok (by rw [(qi9 hz).2];simpa using h15)⟩ (by omega) qbt qab)
 have hk4:k=4:=by have:=of_decide_eq_false h10;omega
 subst hk4
 rw [qqy hl hb hok]
 refine t13 ?_
 exact qan (Bs:=[qik (ndK p 4),Is (.int .i64 0)]) results35 eT () SubL.rfl' (List.nil_sublist _)
def rwV (r:Re):BitVec 64:=if r=Re.nil then 0#64 else qn5 (qhu r.to) (r.ep.setWidth 64)
def rwB (r:Re):Bool:=decide (r=Re.nil)||qc5 r.to
def rwK (k j:Nat) (w:BitVec 64):BitVec 64:=if j<k then w else 0#64
def qu7 (n:Nd):BitVec 64:=if n.pin=true then n.ep.setWidth 64+1#64 else 0#64
def pgK (p:Pg) (n:Nd) (k:Nat):Pg:=⟨p.l,p.h,qu7 n,n.sg.setWidth 64,BitVec.ofInt 64 n.inc,rwK k 0 (rwV n.r0),rwK k 1 (rwV n.r1),rwK k 2 (rwV n.r2),rwK k 3 (rwV n.r3)⟩
def okR (n:Nd) (k:Nat):Bool:=match k with
 | 0=>true
 | 1=>rwB n.r0
 | 2=>rwB n.r0&&rwB n.r1
 | 3=>rwB n.r0&&rwB n.r1&&rwB n.r2
 | _=>rwB n.r0&&rwB n.r1&&rwB n.r2&&rwB n.r3
def qr5 (p:Pg) (n:Nd):Bool:=!qo5 p.l||((!n.pin&&UV n.ep != 0)||(decide (UV n.sg>511)||(decide (n.inc<0)||decide (n.inc>59))))
def qck (p:Pg) (n:Nd):Pg×Int:=if qr5 p n=true then (Pg.nil,1) else if okR n 4=true then (pgK p n 4,0) else (Pg.nil,1)
theorem qr4 {p:Pg} {n:Nd} (h:qr5 p n=false):0≤n.inc∧n.inc≤59∧UV n.sg≤511:=by
 unfold qr5 at h
 simp at h
 omega
theorem qqo {p:Pg} {n:Nd} (h:qr5 p n=true):qck p n=(Pg.nil,1):=by unfold qck;rw [if_pos h]
theorem qqn {p:Pg} {n:Nd} (h:qr5 p n=false) (h2:okR n 4=false):qck p n=(Pg.nil,1):=by unfold qck;rw [if_neg (by rw [h];simp),if_neg (by rw [h2];simp)]
theorem qqp {p:Pg} {n:Nd} (h:qr5 p n=false) (h2:okR n 4=true):qck p n=(pgK p n 4,0):=by unfold qck;rw [if_neg (by rw [h];simp),if_pos h2]
theorem qx7 {n:Nd} (h:rwB n.r0=false):okR n 4=false:=by unfold okR;simp [h]
theorem qnm {n:Nd} (h0:okR n 0=true) (h:rwB n.r0=true):okR n 1=true:=by unfold okR at h0 ⊢;simp_all
theorem qxr {p:Pg} {n:Nd} (h:n.r0=Re.nil):pgK p n 1=pgK p n 0:=by unfold pgK rwK rwV;simp [h]
theorem zcf {p:Pg} {n:Nd} (h:¬ n.r0=Re.nil):pgK p n 1={ pgK p n 0 with d3:=qn5 (qhu n.r0.to) (n.r0.ep.setWidth 64) }:=by unfold pgK rwK rwV;simp [h]
theorem qx6 {n:Nd} (h:rwB n.r1=false):okR n 4=false:=by unfold okR;simp [h]
theorem qnl {n:Nd} (h0:okR n 1=true) (h:rwB n.r1=true):okR n 2=true:=by unfold okR at h0 ⊢;simp_all
theorem qxq {p:Pg} {n:Nd} (h:n.r1=Re.nil):pgK p n 2=pgK p n 1:=by unfold pgK rwK rwV;simp [h]
theorem zce {p:Pg} {n:Nd} (h:¬ n.r1=Re.nil):pgK p n 2={ pgK p n 1 with d4:=qn5 (qhu n.r1.to) (n.r1.ep.setWidth 64) }:=by unfold pgK rwK rwV;simp [h]
theorem qx5 {n:Nd} (h:rwB n.r2=false):okR n 4=false:=by unfold okR;simp [h]
theorem qnk {n:Nd} (h0:okR n 2=true) (h:rwB n.r2=true):okR n 3=true:=by unfold okR at h0 ⊢;simp_all
theorem qxp {p:Pg} {n:Nd} (h:n.r2=Re.nil):pgK p n 3=pgK p n 2:=by unfold pgK rwK rwV;simp [h]
theorem zcd {p:Pg} {n:Nd} (h:¬ n.r2=Re.nil):pgK p n 3={ pgK p n 2 with d5:=qn5 (qhu n.r2.to) (n.r2.ep.setWidth 64) }:=by unfold pgK rwK rwV;simp [h]
theorem qx4 {n:Nd} (h:rwB n.r3=false):okR n 4=false:=by unfold okR;simp [h]
theorem qnj {n:Nd} (h0:okR n 3=true) (h:rwB n.r3=true):okR n 4=true:=by unfold okR at h0 ⊢;simp_all
theorem qxo {p:Pg} {n:Nd} (h:n.r3=Re.nil):pgK p n 4=pgK p n 3:=by unfold pgK rwK rwV;simp [h]
theorem zcc {p:Pg} {n:Nd} (h:¬ n.r3=Re.nil):pgK p n 4={ pgK p n 3 with d6:=qn5 (qhu n.r3.to) (n.r3.ep.setWidth 64) }:=by unfold pgK rwK rwV;simp [h]
theorem nilB {r:Re} (h:decide (r=Re.nil)=true):r=Re.nil:=of_decide_eq_true h
theorem nnilB {r:Re} (h:decide (r=Re.nil)=false):¬ r=Re.nil:=of_decide_eq_false h
theorem qhs {r:Re} (h:r=Re.nil):rwB r=true:=by unfold rwB;rw [decide_eq_true h];rfl
theorem qgc {r:Re} (h:¬ r=Re.nil):rwB r=qc5 r.to:=by unfold rwB;rw [decide_eq_false h];rfl
theorem quk (p:Pg) (n:Nd):((((!qo5 p.l||(!n.pin&&UV n.ep != 0))||decide (UV n.sg≥512))||decide (n.inc<0))||decide (n.inc>59))=qr5 p n:=by
 have:decide (UV n.sg≥512)=decide (UV n.sg>511):=by rw [Bool.eq_iff_iff];simp;omega
 unfold qr5
 rw [this,Bool.or_assoc,Bool.or_assoc,Bool.or_assoc]
set_option maxHeartbeats 8000000 in
theorem qur (p:Pg) (n:Nd):FnP Tryz.prog 87 [qcr p,qik n] (qbu [qcr (qck p n).1,Is (.int .i64 (qck p n).2)]):=by
 refine FnP.enter func87 ntmps87 rfl rfl ?_
 intro c hX
 refine t3 ?_
 intro i2
 refine s1 ?_
 intro i3
 refine s1 ?_
 intro i4
 refine t8 ?_
 refine qap rfl (qad call85 (qls _) ⟨evS,trivial⟩) ?_
 refine t28 ?_
 refine cN ?_ ?_ <;> intro h1
 ·have hb:qr5 p n=true:=by rw [← quk];exact h1
  rw [qqo hb]
  refine t9 ?_
  exact qan (Bs:=[qcr Pg.nil,Is (.int .i64 1)]) results87 eT () SubL.rfl' (List.nil_sublist _)
 have hb:qr5 p n=false:=by rw [← quk];exact h1
 clear h1
 obtain ⟨b0,b1,b2⟩:=qr4 hb
 refine t10 ?_
 refine qi1 43 (Is (.int .u64 (UV (BitVec.ofInt 64 n.inc)))) rfl (SubL.eq (congrArg Is (qda (by omega)))) ?_
 refine qap rfl (qdo (size:=1) (qs:=[(0,_),(1,_),(2,_)]) rfl rfl rfl rfl ⟨⟨rfl,_,(er rfl),qa6⟩,⟨⟨rfl,_,(er rfl),qa6⟩,⟨⟨rfl,_,(er rfl),qa6⟩,trivial⟩⟩⟩ rf qbm) ?_
 refine t11 ?_
 refine qgs (fun _:Unit=>True) (fun _=>[(2,Is (.pointer (some ⟨i2,0,none⟩))),(3,Is (.pointer (some ⟨i3,0,none⟩))),(4,Is (.pointer (some ⟨i4,0,none⟩)))]) (fun _=>[blk i2 48 (tPg.cells (pgK p n 0)),blk i4 48 (tPg.cells Pg.nil),blk i3 94 (tNd.cells n)]) ?_ ?_
 rotate_left
 focus
  refine cN ?_ ?_ <;> intro h4
  ·have e1:qu7 n=n.ep.setWidth 64+1#64:=by unfold qu7;rw [if_pos h4]
   refine t9 ?_
   refine qao (b:=i2) (As':=tPg.cells (pgK p n 0)) qae (by show SubLs _ _ [_,_,Is (.int .u64 (UV (qu7 n))),_,_,_,_,_,_];rw [e1];exact qex) ?_
   exact qai () trivial qbt qab
  have e1:qu7 n=0#64:=by unfold qu7;rw [if_neg (by rw [h4];simp)]
  refine s1 ?_
  refine qao (b:=i2) (As':=tPg.cells (pgK p n 0)) qae (by show SubLs _ _ [_,_,Is (.int .u64 (UV (qu7 n))),_,_,_,_,_,_];rw [e1];exact qex) ?_
  exact qai () trivial qbt qab
 rintro _ _
 refine t9 ?_
 refine qbg (fun k:Nat=>k≤4∧okR n k=true) (fun k=>[(2,Is (.pointer (some ⟨i2,0,none⟩))),(4,Is (.pointer (some ⟨i4,0,none⟩))),(55,IsAgg ((tNd.cells n).drop 4)),(56,Is (.int .i64 (k:Nat)))]) (fun k=>[blk i2 48 (tPg.cells (pgK p n k)),blk i4 48 (tPg.cells Pg.nil)]) (fun k=>4-k) 0 ⟨Nat.zero_le _,rfl⟩ qbt qab ?_
 rintro k ⟨hk,hok⟩
 refine t6 ?_
 refine cN ?_ ?_ <;> intro h7
 ·have hk4:k=0∨k=1∨k=2∨k=3:=by have:=of_decide_eq_true h7;omega
  clear h7
  rcases hk4 with rfl|rfl|rfl|rfl
  all_goals
   refine t7 ?_
   refine qap rfl (by first|exact qhc (k:=0) (sz:=3) (er rfl) (er rfl) rfl rfl rfl rfl (by decide) (by decide) qbm|exact qhc (k:=1) (sz:=3) (er rfl) (er rfl) rfl rfl rfl rfl (by decide) (by decide) qbm|exact qhc (k:=2) (sz:=3) (er rfl) (er rfl) rfl rfl rfl rfl (by decide) (by decide) qbm|exact qhc (k:=3) (sz:=3) (er rfl) (er rfl) rfl rfl rfl rfl (by decide) (by decide) qbm) ?_
   refine s1 ?_
   intro i7
   refine t9 ?_
   refine qap rfl (by first|exact qdu (vs:=Re.cells n.r0) (ws:=Re.cells Re.nil) (er rfl) evS (qf3 _ _ _ n.r0 Re.nil) (qkg n.r0 Re.nil)|exact qdu (vs:=Re.cells n.r1) (ws:=Re.cells Re.nil) (er rfl) evS (qf3 _ _ _ n.r1 Re.nil) (qkg n.r1 Re.nil)|exact qdu (vs:=Re.cells n.r2) (ws:=Re.cells Re.nil) (er rfl) evS (qf3 _ _ _ n.r2 Re.nil) (qkg n.r2 Re.nil)|exact qdu (vs:=Re.cells n.r3) (ws:=Re.cells Re.nil) (er rfl) evS (qf3 _ _ _ n.r3 Re.nil) (qkg n.r3 Re.nil)) ?_
   refine t3 ?_
   refine cN ?_ ?_ <;> intro h10
   ·have hz:=nilB h10
    refine t8 ?_
    first|(refine qao (b:=i2) (As':=tPg.cells (pgK p n 1)) qae (by rw [qxr hz];exact SubLs.rfl') ?_;exact qaa 1 ⟨by omega,qnm hok (qhs hz)⟩ (by omega) qbt qab)|(refine qao (b:=i2) (As':=tPg.cells (pgK p n 2)) qae (by rw [qxq hz];exact SubLs.rfl') ?_;exact qaa 2 ⟨by omega,qnl hok (qhs hz)⟩ (by omega) qbt qab)|(refine qao (b:=i2) (As':=tPg.cells (pgK p n 3)) qae (by rw [qxp hz];exact SubLs.rfl') ?_;exact qaa 3 ⟨by omega,qnk hok (qhs hz)⟩ (by omega) qbt qab)|(refine qao (b:=i2) (As':=tPg.cells (pgK p n 4)) qae (by rw [qxo hz];exact SubLs.rfl') ?_;exact qaa 4 ⟨by omega,qnj hok (qhs hz)⟩ (by omega) qbt qab)
   have hz:=nnilB h10
   refine t4 ?_
   refine qap rfl (qad call84 (qjt _) ⟨evS,trivial⟩) ?_
   refine t3 ?_
   refine cN ?_ ?_ <;> intro h11
   ·refine qaz rfl (by kernel_rfl) ?_
    refine qdm [0,0,1,1,1,0,1,1,0,0,0,1,1,2] (by kernel_rfl) (by kernel_rfl) ?_
    refine qc7 (qbb rfl) ?_
    refine qc7 (qjd (er rfl) (er rfl) qil) ?_
    refine qd6 (by exact qbe (k:=0) (er rfl) rfl rfl rfl rfl) ?_
    refine qd6 (by exact qbp (n:=2) (er rfl) qbw rf rf rf rf qbm) ?_
    refine qd6 (qad call135 (Pack_ok _) ⟨evS,trivial⟩) ?_
    refine qc7 (qfg (er rfl) rfl rfl zam) ?_
    refine qd6 (by exact qbe (k:=2) (er rfl) rfl rfl rfl rfl) ?_
    refine qd6 (by exact qeg (er rfl) qbw rf rf rf) ?_
    refine qc7 (qfg (er rfl) rfl rfl zam) ?_
    refine qc7 (by exact qed (k:=32) qgp (er rfl) (by omega) qct) ?_
    refine qc7 (by exact qeh qgp qgp (by simp) (zcq _ _)) ?_
    refine qd6 (by exact qbe (k:=2) (er rfl) rfl rfl rfl rfl) ?_
    refine qd6 (by first|exact qal (k:=3) (sz:=1) (er rfl) (er rfl) rfl rfl (by decide) (by decide)|exact qal (k:=4) (sz:=1) (er rfl) (er rfl) rfl rfl (by decide) (by decide)|exact qal (k:=5) (sz:=1) (er rfl) (er rfl) rfl rfl (by decide) (by decide)|exact qal (k:=6) (sz:=1) (er rfl) (er rfl) rfl rfl (by decide) (by decide)) ?_
    refine qlb (qas (er rfl) (er rfl) qa6 qae qbm rf rf rf) ?_
    refine qfl ?_
    refine qar ?_
    refine t7 ?_
    first|(refine qao (b:=i2) (As':=tPg.cells (pgK p n 1)) qae (by rw [zcf hz];exact qex) ?_;exact qaa 1 ⟨by omega,qnm hok (by rw [qgc hz];exact h11)⟩ (by omega) qbt qab)|(refine qao (b:=i2) (As':=tPg.cells (pgK p n 2)) qae (by rw [zce hz];exact qex) ?_;exact qaa 2 ⟨by omega,qnl hok (by rw [qgc hz];exact h11)⟩ (by omega) qbt qab)|(refine qao (b:=i2) (As':=tPg.cells (pgK p n 3)) qae (by rw [zcd hz];exact qex) ?_;exact qaa 3 ⟨by omega,qnk hok (by rw [qgc hz];exact h11)⟩ (by omega) qbt qab)|(refine qao (b:=i2) (As':=tPg.cells (pgK p n 4)) qae (by rw [zcc hz];exact qex) ?_;exact qaa 4 ⟨by omega,qnj hok (by rw [qgc hz];exact h11)⟩ (by omega) qbt qab)
   have hbad:okR n 4=false:=by first|exact qx7 (by rw [qgc hz];exact h11)|exact qx6 (by rw [qgc hz];exact h11)|exact qx5 (by rw [qgc hz];exact h11)|exact qx4 (by rw [qgc hz];exact h11)
   rw [qqn hb hbad]
   refine t14 ?_
   exact qan (Bs:=[qcr Pg.nil,Is (.int .i64 1)]) results87 eT () SubL.rfl' (List.nil_sublist _)
 have hk4:k=4:=by have:=of_decide_eq_false h7;omega
 subst hk4
 rw [qqp hb hok]
 refine t13 ?_
 exact qan (Bs:=[qcr (pgK p n 4),Is (.int .i64 0)]) results87 eT () SubL.rfl' (List.nil_sublist _)
theorem qy9 (p:Pg) (n:Nd):((((!qo5 p.l||decide (UV n.sg>511))||decide (n.inc<0))||decide (n.inc>59))||(!n.pin&&UV n.ep != 0))=qr5 p n:=by
 unfold qr5
 cases qo5 p.l <;> cases decide (UV n.sg>511) <;> cases decide (n.inc<0) <;> cases decide (n.inc>59) <;> simp
set_option maxHeartbeats 8000000 in
theorem qep (p:Pg) (n:Nd):FnP Tryz.prog 39 [qcr p,qik n] (qbu [qcr (qck p n).1,Is (.int .i64 (qck p n).2)]):=by
 refine FnP.enter func39 ntmps39 rfl rfl ?_
 intro c hX
 refine t3 ?_
 intro i2
 refine s1 ?_
 intro i3
 refine s1 ?_
 intro i4
 refine t8 ?_
 refine qap rfl (qad call67 (qym _) ⟨evS,trivial⟩) ?_
 refine t28 ?_
 refine cN ?_ ?_ <;> intro h1
 ·have hb:qr5 p n=true:=by rw [← qy9];exact h1
  rw [qqo hb]
  refine t9 ?_
  exact qan (Bs:=[qcr Pg.nil,Is (.int .i64 1)]) results39 eT () SubL.rfl' (List.nil_sublist _)
 have hb:qr5 p n=false:=by rw [← qy9];exact h1
 clear h1
 obtain ⟨b0,b1,b2⟩:=qr4 hb
 refine t10 ?_
 intro i6
 refine t10 ?_
 refine qgs (fun _:Unit=>True) (fun _=>[(3,Is (.pointer (some ⟨i3,0,none⟩))),(4,Is (.pointer (some ⟨i4,0,none⟩))),(6,Is (.pointer (some ⟨i6,0,none⟩)))]) (fun _=>[blk i6 48 [Is (.int .i64 p.l),Is (.int .u64 (UV p.h)),Is (.int .u64 (UV (qu7 n))),Is (.int .u64 0),Is (.int .u64 0),Is (.int .u64 0),Is (.int .u64 0),Is (.int .u64 0),Is (.int .u64 0)],blk i4 48 (tPg.cells Pg.nil),blk i3 110 (tNd.cells n)]) ?_ ?_
 rotate_left
 focus
  refine cN ?_ ?_ <;> intro h4
  ·have e1:qu7 n=n.ep.setWidth 64+1#64:=by unfold qu7;rw [if_pos h4]
   refine t9 ?_
   rw [e1]
   exact qai () trivial qbt qab
  have e1:qu7 n=0#64:=by unfold qu7;rw [if_neg (by rw [h4];simp)]
  refine s1 ?_
  rw [e1]
  exact qai () trivial qbt qab
 rintro _ _
 refine t15 ?_
 refine qi1 59 (Is (.int .u64 (UV (BitVec.ofInt 64 n.inc)))) rfl (SubL.eq (congrArg Is (qda (by omega)))) ?_
 refine t7 ?_
 refine qbr (b:=i6) (As':=tPg.cells (pgK p n 0)) qae qex ?_
 refine t5 ?_
 refine qbg (fun k:Nat=>k≤4∧okR n k=true) (fun k=>[(3,Is (.pointer (some ⟨i3,0,none⟩))),(4,Is (.pointer (some ⟨i4,0,none⟩))),(6,Is (.pointer (some ⟨i6,0,none⟩))),(7,Is (.int .i64 (k:Nat)))]) (fun k=>[blk i6 48 (tPg.cells (pgK p n k)),blk i4 48 (tPg.cells Pg.nil),blk i3 110 (tNd.cells n)]) (fun k=>4-k) 0 ⟨Nat.zero_le _,rfl⟩ qbt qab ?_
 rintro k ⟨hk,hok⟩
 refine t7 ?_
 refine cN ?_ ?_ <;> intro h9
 ·have hk4:k=0∨k=1∨k=2∨k=3:=by have:=of_decide_eq_true h9;omega
  clear h9
  rcases hk4 with rfl|rfl|rfl|rfl
  all_goals
   refine t8 ?_
   refine qap rfl (by first|exact qal (k:=0) (sz:=3) (er rfl) (er rfl) rfl rfl (by decide) (by decide)|exact qal (k:=1) (sz:=3) (er rfl) (er rfl) rfl rfl (by decide) (by decide)|exact qal (k:=2) (sz:=3) (er rfl) (er rfl) rfl rfl (by decide) (by decide)|exact qal (k:=3) (sz:=3) (er rfl) (er rfl) rfl rfl (by decide) (by decide)) ?_
   refine t2 ?_
   intro i8
   refine t8 ?_
   refine qap rfl (by first|exact qdu (vs:=Re.cells n.r0) (ws:=Re.cells Re.nil) (er rfl) evS (qf4 _ _ _ n.r0 Re.nil) (qjm n.r0 Re.nil)|exact qdu (vs:=Re.cells n.r1) (ws:=Re.cells Re.nil) (er rfl) evS (qf4 _ _ _ n.r1 Re.nil) (qjm n.r1 Re.nil)|exact qdu (vs:=Re.cells n.r2) (ws:=Re.cells Re.nil) (er rfl) evS (qf4 _ _ _ n.r2 Re.nil) (qjm n.r2 Re.nil)|exact qdu (vs:=Re.cells n.r3) (ws:=Re.cells Re.nil) (er rfl) evS (qf4 _ _ _ n.r3 Re.nil) (qjm n.r3 Re.nil)) ?_
   refine t2 ?_
   refine cN ?_ ?_ <;> intro h12
   ·have hz:=nilB h12
    refine t9 ?_
    first|(refine qao (b:=i6) (As':=tPg.cells (pgK p n 1)) qae (by rw [qxr hz];exact SubLs.rfl') ?_;exact qaa 1 ⟨by omega,qnm hok (qhs hz)⟩ (by omega) qbt qab)|(refine qao (b:=i6) (As':=tPg.cells (pgK p n 2)) qae (by rw [qxq hz];exact SubLs.rfl') ?_;exact qaa 2 ⟨by omega,qnl hok (qhs hz)⟩ (by omega) qbt qab)|(refine qao (b:=i6) (As':=tPg.cells (pgK p n 3)) qae (by rw [qxp hz];exact SubLs.rfl') ?_;exact qaa 3 ⟨by omega,qnk hok (qhs hz)⟩ (by omega) qbt qab)|(refine qao (b:=i6) (As':=tPg.cells (pgK p n 4)) qae (by rw [qxo hz];exact SubLs.rfl') ?_;exact qaa 4 ⟨by omega,qnj hok (qhs hz)⟩ (by omega) qbt qab)
   have hz:=nnilB h12
   refine t7 ?_
   refine qap rfl (qad call65 (qch _) ⟨evS,trivial⟩) ?_
   refine t3 ?_
   refine cN ?_ ?_ <;> intro h13
   ·have hbad:okR n 4=false:=by first|exact qx7 (by rw [qgc hz];simpa using h13)|exact qx6 (by rw [qgc hz];simpa using h13)|exact qx5 (by rw [qgc hz];simpa using h13)|exact qx4 (by rw [qgc hz];simpa using h13)
    rw [qqn hb hbad]
    refine t14 ?_
    exact qan (Bs:=[qcr Pg.nil,Is (.int .i64 1)]) results39 eT () SubL.rfl' (List.nil_sublist _)
   refine t2 ?_
   refine qaz rfl (by kernel_rfl) ?_
   refine qdm [0,0,1,1,1,0,1,1,0,0,0,1,1,2] (by kernel_rfl) (by kernel_rfl) ?_
   refine qc7 (qbb rfl) ?_
   refine qc7 (qjd (er rfl) (er rfl) qil) ?_
   refine qd6 (by exact qbe (k:=0) (er rfl) rfl rfl rfl rfl) ?_
   refine qd6 (by exact qbp (n:=2) (er rfl) qbw rf rf rf rf qbm) ?_
   refine qd6 (qad call73 (qfw _) ⟨evS,trivial⟩) ?_
   refine qc7 (qfg (er rfl) rfl rfl zam) ?_
   refine qd6 (by exact qbe (k:=2) (er rfl) rfl rfl rfl rfl) ?_
   refine qd6 (by exact qeg (er rfl) qbw rf rf rf) ?_
   refine qc7 (qfg (er rfl) rfl rfl zam) ?_
   refine qc7 (by exact qed (k:=32) qgp (er rfl) (by omega) qct) ?_
   refine qc7 (by exact qfh qgp qgp (qot _ _ _)) ?_
   refine qd6 (by exact qbe (k:=2) (er rfl) rfl rfl rfl rfl) ?_
   refine qd6 (by first|exact qal (k:=3) (sz:=1) (er rfl) (er rfl) rfl rfl (by decide) (by decide)|exact qal (k:=4) (sz:=1) (er rfl) (er rfl) rfl rfl (by decide) (by decide)|exact qal (k:=5) (sz:=1) (er rfl) (er rfl) rfl rfl (by decide) (by decide)|exact qal (k:=6) (sz:=1) (er rfl) (er rfl) rfl rfl (by decide) (by decide)) ?_
   refine qlb (qas (er rfl) (er rfl) qa6 qae qbm rf rf rf) ?_
   refine qfl ?_
   refine qar ?_
   refine t2 ?_
   rw [add_or]
   refine t5 ?_
   first|(refine qao (b:=i6) (As':=tPg.cells (pgK p n 1)) qae (by rw [zcf hz];exact qex) ?_;exact qaa 1 ⟨by omega,qnm hok (by rw [qgc hz];simpa using h13)⟩ (by omega) qbt qab)|(refine qao (b:=i6) (As':=tPg.cells (pgK p n 2)) qae (by rw [zce hz];exact qex) ?_;exact qaa 2 ⟨by omega,qnl hok (by rw [qgc hz];simpa using h13)⟩ (by omega) qbt qab)|(refine qao (b:=i6) (As':=tPg.cells (pgK p n 3)) qae (by rw [zcd hz];exact qex) ?_;exact qaa 3 ⟨by omega,qnk hok (by rw [qgc hz];simpa using h13)⟩ (by omega) qbt qab)|(refine qao (b:=i6) (As':=tPg.cells (pgK p n 4)) qae (by rw [zcc hz];exact qex) ?_;exact qaa 4 ⟨by omega,qnj hok (by rw [qgc hz];simpa using h13)⟩ (by omega) qbt qab)
 have hk4:k=4:=by have:=of_decide_eq_false h9;omega
 subst hk4
 rw [qqp hb hok]
 refine t13 ?_
 exact qan (Bs:=[qcr (pgK p n 4),Is (.int .i64 0)]) results39 eT () SubL.rfl' (List.nil_sublist _)
theorem qf2 {P:Program} {c:Ctx} {A:Nat→Option VP} {L:List Item} {d:Option Tmp} {ty:TypeId} {pos:String} {af:Array Edge} {g:Option (Nat×Bool)} {t:TypeId} {s:ByteArray} {y:Operand} {q:IntKind} {j:Int} {k:Nat} {b:UInt8} (hu:P.underlying t=some .string) (hy:Ev A L y (Is (.int q j))) (hj:j=k) (hb:s[k]?=some b) :
  OpP P c ⟨d,.index t (.const (.string s)) y,ty,pos,af,g⟩ A L (Is (.int .u8 b.toNat)):=
 opp fun φ a w hm he=>by
  have h1:a.eval y = .int q j:=he y (by simp [Op.operands]) _ hy
  refine ⟨_,?_,rfl⟩
  have h2:a.eval (.const (.string s)) = .string s:=rfl
  subst hj
  simp only [execOp,h1,h2]
  refine qcl ?_
  simp only [Instr.index,asIntOf,Sem.run_bind,Sem.run_pure,Result.andThen_ok,run_underlying hu]
  rw [if_pos (by omega)]
  simp only [Int.toNat_natCast,hb]
  rfl
theorem Len64_0:FnP Tryz.prog 110 [Is (.int .u64 0)] (Is (.int .i64 0)):=by
 refine FnP.enter func110 ntmps110 rfl rfl ?_
 intro c hX
 refine t12 ?_
 refine cN ?_ ?_ <;> intro h1
 ·exact absurd (of_decide_eq_true h1) (by omega)
 refine t9 ?_
 refine cN ?_ ?_ <;> intro h4
 ·exact absurd (of_decide_eq_true h4) (by omega)
 refine t9 ?_
 refine cN ?_ ?_ <;> intro h7
 ·exact absurd (of_decide_eq_true h7) (by omega)
 refine t7 ?_
 refine qap rfl (qf2 (k:=0) (b:=0) rfl (er rfl) rfl rfl) ?_
 refine t6 ?_
 refine qay results110 rfl () (SubL.eq ?_) (List.nil_sublist _)
 rfl
theorem Len_0:FnP Tryz.prog 63 [Is (.int .u64 0)] (Is (.int .i64 0)):=by
 refine FnP.enter func63 ntmps63 rfl rfl ?_
 intro c hX
 refine t6 ?_
 refine cN ?_ ?_ <;> intro h0
 ·exact absurd h0 (by simp)
 refine t5 ?_
 refine qap rfl (qad call110 (Len64_0) ⟨evS,trivial⟩) ?_
 refine t4 ?_
 refine qay results63 rfl () (SubL.eq ?_) (List.nil_sublist _)
 rfl
theorem Len64_1:FnP Tryz.prog 110 [Is (.int .u64 1)] (Is (.int .i64 1)):=by
 refine FnP.enter func110 ntmps110 rfl rfl ?_
 intro c hX
 refine t12 ?_
 refine cN ?_ ?_ <;> intro h1
 ·exact absurd (of_decide_eq_true h1) (by omega)
 refine t9 ?_
 refine cN ?_ ?_ <;> intro h4
 ·exact absurd (of_decide_eq_true h4) (by omega)
 refine t9 ?_
 refine cN ?_ ?_ <;> intro h7
 ·exact absurd (of_decide_eq_true h7) (by omega)
 refine t7 ?_
 refine qap rfl (qf2 (k:=1) (b:=1) rfl (er rfl) rfl rfl) ?_
 refine t6 ?_
 refine qay results110 rfl () (SubL.eq ?_) (List.nil_sublist _)
 rfl
theorem Len_1:FnP Tryz.prog 63 [Is (.int .u64 1)] (Is (.int .i64 1)):=by
 refine FnP.enter func63 ntmps63 rfl rfl ?_
 intro c hX
 refine t6 ?_
 refine cN ?_ ?_ <;> intro h0
 ·exact absurd h0 (by simp)
 refine t5 ?_
 refine qap rfl (qad call110 (Len64_1) ⟨evS,trivial⟩) ?_
 refine t4 ?_
 refine qay results63 rfl () (SubL.eq ?_) (List.nil_sublist _)
 rfl
theorem insI_ok (n:Nat) (i:Option Addr×Nat) (hn:n≤1):FnP Tryz.prog 223 [Is (slV n i),Is (.int .i64 0),Is (.int .i64 (n:Nat))] (qbu []):=by
 refine FnP.enter func223 ntmps223 rfl rfl ?_
 intro c hX
 refine t8 ?_
 refine qbg (fun _:Unit=>True) (fun _=>[(2,Is (.int .i64 (n:Nat))),(6,Is (.int .i64 1))]) (fun _=>[]) (fun _=>0) () trivial qbt qab ?_
 rintro _ _
 refine t8 ?_
 refine cN ?_ ?_ <;> intro h1
 ·exact absurd (of_decide_eq_true h1) (by omega)
 refine t5 ?_
 exact qbv (Bs:=[]) results223 trivial () SubL.rfl' qab
theorem zcj (n:Nat) (i:Option Addr×Nat) (hn:n≤1):FnP Tryz.prog 173 [Is (slV n i),Is (.int .i64 0),Is (.int .i64 (n:Nat)),Is (.int .i64 (n:Nat))] (qbu []):=by
 refine FnP.enter func173 ntmps173 rfl rfl ?_
 intro c hX
 refine t11 ?_
 refine qbg (fun _:Unit=>True) (fun _=>[(0,Is (slV n i)),(1,Is (.int .i64 0)),(2,Is (.int .i64 (n:Nat)))]) (fun _=>[]) (fun _=>0) () trivial qbt qab ?_
 rintro _ _
 refine t16 ?_
 refine cN ?_ ?_ <;> intro h3
 ·refine t5 ?_
  refine qap rfl (qad call223 (insI_ok n i hn) ⟨evS,⟨evS,⟨evS,trivial⟩⟩⟩) ?_
  refine t7 ?_
  exact qbv (Bs:=[]) results173 trivial () SubL.rfl' qab
 exact absurd (of_decide_eq_false h3) (by omega)
theorem SortI_0 (i:Option Addr×Nat):FnP Tryz.prog 138 [Is (slV 0 i)] (qbu []):=by
 refine FnP.enter func138 ntmps138 rfl rfl ?_
 intro c hX
 refine t11 ?_
 refine qap rfl (qfg (er rfl) rfl rfl rfl) ?_
 refine qap rfl (qad call63 (Len_0) ⟨evS,trivial⟩) ?_
 refine qap rfl (by ((refine qad call173 (zcj 0 i ?_) ⟨evS,⟨evS,⟨evS,⟨evS,trivial⟩⟩⟩⟩);all_goals (decide))) ?_
 refine t2 ?_
 exact qbv (Bs:=[]) results138 trivial () SubL.rfl' qab
theorem SortI_1 (i:Option Addr×Nat):FnP Tryz.prog 138 [Is (slV 1 i)] (qbu []):=by
 refine FnP.enter func138 ntmps138 rfl rfl ?_
 intro c hX
 refine t11 ?_
 refine qap rfl (qfg (er rfl) rfl rfl rfl) ?_
 refine qap rfl (qad call63 (Len_1) ⟨evS,trivial⟩) ?_
 refine qap rfl (by ((refine qad call173 (zcj 1 i ?_) ⟨evS,⟨evS,⟨evS,⟨evS,trivial⟩⟩⟩⟩);all_goals (decide))) ?_
 refine t2 ?_
 exact qbv (Bs:=[]) results138 trivial () SubL.rfl' qab
theorem SortI_ok (n:Nat) (i:Option Addr×Nat) (hn:n≤1):FnP Tryz.prog 138 [Is (slV n i)] (qbu []):=by
 match n,hn with
 | 0,_=>exact SortI_0 i
 | 1,_=>exact SortI_1 i
theorem qw2 (n:Nat) (i:Option Addr×Nat) (hn:n≤1):FnP Tryz.prog 139 [Is (slV n i)] (Is (slV n i)):=by
 refine FnP.enter func139 ntmps139 rfl rfl ?_
 intro c hX
 refine t13 ?_
 refine cN ?_ ?_ <;> intro h1
 ·refine t8 ?_
  exact qbv (Bs:=[Is (slV n i)]) results139 eT () SubL.rfl' qab
 exact absurd (of_decide_eq_false h1) (by omega)
def qg3 (xs:List Pg) (l:Int):Option Pg:=(xs.filter fun p=>decide (p.l=l)).getLast?
theorem lat_hit {xs:List Pg} {k:Nat} {l:Int} {p:Pg} (h:xs[k]?=some p) (hl:p.l=l) (hs:∀ (j:Nat) q,k<j→xs[j]?=some q→q.l≠l):qg3 xs l=some p:=by
 obtain ⟨hk,rfl⟩:=List.getElem?_eq_some_iff.1 h
 have e:xs=xs.take k++(xs[k] :: xs.drop (k+1)):=by rw [List.getElem_cons_drop,List.take_append_drop]
 have e2:(xs.drop (k+1)).filter (fun p=>decide (p.l=l))=[]:=List.filter_eq_nil_iff.2 fun q hq=>by
  obtain ⟨j,hj,rfl⟩:=List.getElem_of_mem hq
  have:=hs (k+1+j) (xs.drop (k+1))[j] (by omega) (by rw [← List.getElem?_drop,List.getElem?_eq_getElem hj])
  simpa using this
 unfold qg3
 conv=>lhs;rw [e]
 rw [List.filter_append,List.filter_cons,e2]
 simp [hl]
theorem lat_none {xs:List Pg} {l:Int} (hs:∀ (j:Nat) q,xs[j]?=some q→q.l≠l):qg3 xs l=none:=by
 unfold qg3
 rw [List.getLast?_eq_none_iff,List.filter_eq_nil_iff]
 intro q hq
 obtain ⟨j,hj,rfl⟩:=List.getElem_of_mem hq
 simpa using hs j _ (List.getElem?_eq_getElem hj)
theorem qo0 (xs:List Pg) (l:Int):FnP Tryz.prog 52 [IsSl tPg xs,Is (.int .i64 l)] (qbu [qcr ((qg3 xs l).getD Pg.nil),Is (.bool (qg3 xs l).isSome)]):=by
 refine FnP.enter func52 ntmps52 rfl rfl ?_
 intro c hX
 refine qgv (t:=0) rfl (fun hlen=>?_)
 refine t3 ?_
 intro i4
 refine t8 ?_
 refine qap rfl (qkm (er rfl) (er rfl) rfl) ?_
 refine t4 ?_
 refine qbg (fun k:Nat=>k≤xs.length∧∀ (j:Nat) q,k≤j→xs[j]?=some q→q.l≠l) (fun k=>[(0,IsSl tPg xs),(1,Is (.int .i64 l)),(4,Is (.pointer (some ⟨i4,0,none⟩))),(6,Is (.int .i64 ((k:Int)-1)))]) (fun _=>[blk i4 48 (tPg.cells Pg.nil)]) (fun k=>k) xs.length ⟨Nat.le_refl _,fun j q hj hq=>absurd (List.getElem?_eq_some_iff.1 hq).1 (by omega)⟩ ⟨⟨_,rfl,SubL.rfl'⟩,⟨_,rfl,SubL.rfl'⟩,⟨_,rfl,SubL.rfl'⟩,⟨_,rfl,SubL.eq (ieq (qpi (by omega)))⟩,trivial⟩ qab ?_
 rintro k ⟨hk,hs⟩
 refine t7 ?_
 refine cN ?_ ?_ <;> intro h2
 ·have h':0<k:=by have:=of_decide_eq_true h2;omega
  clear h2
  obtain ⟨k,rfl⟩:∃ j,k=j+1:=⟨k-1,by omega⟩
  obtain ⟨z,hz⟩:∃ z,xs[k]?=some z:=⟨xs[k],List.getElem?_eq_getElem (by omega)⟩
  refine t8 ?_
  refine qap rfl (by exact qam (j:=_) (er rfl) (er rfl) rfl rfl (by omega) hz) ?_
  refine t6 ?_
  refine cN ?_ ?_ <;> intro h4
  ·have hzl:z.l=l:=by simpa using h4
   clear h4
   have e:qg3 xs l=some z:=lat_hit hz hzl fun j q hj hq=>hs j q (by omega) hq
   refine t4 ?_
   refine qap rfl (by exact qam (j:=_) (er rfl) (er rfl) rfl rfl (by omega) hz) ?_
   refine t11 ?_
   exact qan (Bs:=[qcr z,Is (.bool true)]) results52 eT () (SubL.eq (by rw [e];rfl)) (List.nil_sublist _)
  have hzl:¬ z.l=l:=by simpa using h4
  clear h4
  refine t5 ?_
  refine qap rfl (qkm (er rfl) (er rfl) rfl) ?_
  refine t2 ?_
  exact qaa k ⟨by omega,fun j q hj hq=>by
   by_cases hjk:j=k
   ·subst hjk;rw [hz] at hq;cases hq;exact hzl
   ·exact hs j q (by omega) hq⟩ (by omega) ⟨⟨_,rfl,SubL.rfl'⟩,⟨_,rfl,SubL.rfl'⟩,⟨_,rfl,SubL.rfl'⟩,⟨_,rfl,SubL.eq (ieq (by rw [qpi (by omega)];omega))⟩,trivial⟩ qab
 have h':k=0:=by have:=of_decide_eq_false h2;omega
 subst h'
 clear h2
 have e:qg3 xs l=none:=lat_none fun j q hq=>hs j q (Nat.zero_le _) hq
 refine t13 ?_
 exact qan (Bs:=[qcr Pg.nil,Is (.bool false)]) results52 eT () (SubL.eq (by rw [e];rfl)) (List.nil_sublist _)
theorem qoz (p:Pg):FnP Tryz.prog 53 [qcr p] (Is (.bool (UV (p.h&&&255#64) != 0))):=by
 refine FnP.enter func53 ntmps53 rfl rfl ?_
 intro c hX
 refine t3 ?_
 intro i1
 refine t13 ?_
 refine qay results53 rfl () (SubL.eq ?_) (List.nil_sublist _)
 rfl
def qhn (ks:List Pg) (ls:List Int):List Int:=ls.filter fun l=>(qg3 ks l).isNone
theorem qtr {ks:List Pg} {ls:List Int} {k:Nat} {l:Int} (h:ls[k]?=some l):qhn ks (ls.take (k+1))=if (qg3 ks l).isNone=true then qhn ks (ls.take k)++[l] else qhn ks (ls.take k):=by
 unfold qhn
 rw [List.take_add_one,h,List.filter_append]
 by_cases g:(qg3 ks l).isNone=true
 ·rw [if_pos g];simp [g]
 ·rw [if_neg g];simp [g]
def qp9 (bm:BitVec 32) (s:Nat):Bool:=UV ((bm>>>s)&&&1#32)==1
def qla (bm:BitVec 32):Nat→List Int
 | 0=>[]
 | n+1=>if qp9 bm n=true then qla bm n++[(n:Int)] else qla bm n
theorem qq6 (bm:BitVec 32):∀ n:Nat,(qla bm n).length≤n
 | 0=>Nat.le_refl _
 | n+1=>by
  have:=qq6 bm n
  unfold qla
  split
  ·rw [List.length_append,List.length_singleton];omega
  ·omega
def qef (p:Pg):Bool:=UV (p.h&&&255#64) != 0
def qbk (ks:List Pg) (l:Int):Pg:=(qg3 ks l).getD Pg.nil
def qhh (ks:List Pg) (l:Int):Bool:=(qg3 ks l).isSome
def qd5 (ks:List Pg) (s:Int):Pg×Hd×Bool×Int:=
 if qhh ks (qau s)=true then (if qef (qbk ks (qau s))=true then (Pg.nil,Hd.nil,true,3) else (qbk ks (qau s),(qcv (qbk ks (qau s))).1,true,(qcv (qbk ks (qau s))).2)) else (Pg.nil,Hd.nil,false,0)
@[reducible] def IsHead (r:Pg×Hd×Bool×Int):VP:=qbu [qcr r.1,qpg r.2.1,Is (.bool r.2.2.1),Is (.int .i64 r.2.2.2)]
theorem zdq (ks:List Pg) (m:Int):FnP Tryz.prog 96 [IsSl tPg ks,Is (.int .i64 m)] (IsHead (qd5 ks m)):=by
 refine FnP.enter func96 ntmps96 rfl rfl ?_
 intro c hX
 refine t3 ?_
 intro i4
 refine s1 ?_
 intro i5
 refine t8 ?_
 refine qap rfl (qad call93 (ql8 _) ⟨evS,trivial⟩) ?_
 refine qap rfl (qad call52 (qo0 _ _) ⟨evS,⟨evS,trivial⟩⟩) ?_
 refine t14 ?_
 refine cN ?_ ?_ <;> intro h2
 ·have g:qhh ks (qau m)=false:=by unfold qhh;simpa using h2
  have q:qd5 ks m=(Pg.nil,Hd.nil,false,0):=by unfold qd5;rw [if_neg (by rw [g];simp)]
  rw [q]
  refine t12 ?_
  exact qan (Bs:=[qcr Pg.nil,qpg Hd.nil,Is (.bool false),Is (.int .i64 0)]) results96 eT () SubL.rfl' (List.nil_sublist _)
 have g:qhh ks (qau m)=true:=by unfold qhh;simpa using h2
 refine t6 ?_
 refine qap rfl (qad call53 (qoz _) ⟨evS,trivial⟩) ?_
 refine t2 ?_
 refine cN ?_ ?_ <;> intro h4
 ·have g2:qef (qbk ks (qau m))=true:=h4
  have q:qd5 ks m=(Pg.nil,Hd.nil,true,3):=by unfold qd5;rw [if_pos g,if_pos g2]
  rw [q]
  refine t12 ?_
  exact qan (Bs:=[qcr Pg.nil,qpg Hd.nil,Is (.bool true),Is (.int .i64 3)]) results96 eT () SubL.rfl' (List.nil_sublist _)
 have g2:¬ qef (qbk ks (qau m))=true:=fun e=>Bool.noConfusion ((show false=true from h4.symm.trans e))
 have q:qd5 ks m=(qbk ks (qau m),(qcv (qbk ks (qau m))).1,true,(qcv (qbk ks (qau m))).2):=by unfold qd5;rw [if_pos g,if_neg g2]
 rw [q]
 clear h4
 refine t5 ?_
 refine qap rfl (qad call140 (qsk _) ⟨evS,trivial⟩) ?_
 refine t8 ?_
 refine qaz rfl (by kernel_rfl) ?_
 refine qdm [1,1,0,1,1,0,0] (by kernel_rfl) (by kernel_rfl) ?_
 refine qd6 (by exact qbp (n:=9) (er rfl) qbw rf rf rf rf qbm) ?_
 refine qd6 (by exact qbp (n:=2) (er rfl) qbw rf rf rf rf qbm) ?_
 refine qc7 (qbb rfl) ?_
 refine PW_3 (qas (er rfl) (er rfl) qa6 qae qbm rf rf rf) ?_
 refine PW_3 (qas (er rfl) (er rfl) qa6 qae qbm rf rf rf) ?_
 refine qc7 (qei rfl) ?_
 refine qc7 (qei rfl) ?_
 refine qfl ?_
 refine qar ?_
 refine t2 ?_
 exact qan (Bs:=[qcr (qbk ks (qau m)),qpg (qcv (qbk ks (qau m))).1,Is (.bool true),Is (.int .i64 (qcv (qbk ks (qau m))).2)]) results96 eT () SubL.rfl' (List.nil_sublist _)
def qb4 (l:Int):Nat:=(qgi l).toNat
theorem qe2 (l:Int):qb4 l≤9:=by unfold qb4;have:=qjp l;omega
def pgN (k:Nat):Pg:=⟨96+k,256#64,0#64,0#64,0#64,0#64,0#64,0#64,0#64⟩
def qz5:Nat→List Pg
 | 0=>[]
 | n+1=>qz5 n++[pgN n]
theorem qj9:∀ n:Nat,(qz5 n).length=n
 | 0=>rfl
 | n+1=>by unfold qz5;rw [List.length_append,qj9 n];rfl
theorem zc3 (n:Nat):qz5 (n+1)=qz5 n++[pgN n]:=rfl
@[reducible] def heapC (pv:Value) (lines:Int):List VP:=[Is pv,Is (.int .i64 lines),Is (.int .i64 0),Is (.slice none 0 0),Is (.int .i64 1),Is (.int .i64 0),Is (.int .u32 1)]
theorem New_ok (n:Nat) (hn:n≤200):Fn Tryz.prog 17 [Is (.int .i64 (96+(n:Int)))] [] (fun i:Nat×(Option Addr×Nat)=>Is (.pointer (some ⟨i.1,0,none⟩))) (fun i=>[blk i.1 42 (heapC (slV n i.2) (96+(n:Int))),buf (slV n i.2) 48 tPg (qz5 n)]):=by
 refine Fn.enterN func17 ntmps17 rfl rfl ?_
 intro c hX
 refine t11 ?_
 intro i8
 refine t5 ?_
 refine qcd 48 tPg ?_
 refine t5 ?_
 refine qbg (fun z:Nat×(Option Addr×Nat)=>z.1≤n) (fun z=>[(0,Is (.int .i64 (96+(n:Int)))),(3,Is (.pointer (some ⟨i8,0,none⟩))),(4,Is (.int .i64 (96+(z.1:Int))))]) (fun z=>[blk i8 42 (heapC (slV (qz5 z.1).length z.2) (96+(n:Int))),buf (slV (qz5 z.1).length z.2) 48 tPg (qz5 z.1)]) (fun z=>n-z.1) (0,(none,0)) (Nat.zero_le _) qbt qab ?_
 rintro ⟨k,s⟩ hk
 dsimp only at hk ⊢
 have hkl:=qj9 k
 refine t8 ?_
 refine cN ?_ ?_ <;> intro h3
 ·have hlt:k<n:=by have:=of_decide_eq_true h3;omega
  clear h3
  refine t12 ?_
  refine qap rfl (qcm (size:=9) (qs:=[(0,_)]) rfl rfl rfl ⟨⟨rfl,_,(er rfl),qa6⟩,trivial⟩ rf rf) ?_
  (refine qew rfl (qb6 (er rfl) (fun _=>qae) (by exact Ev.sub rfl (by exact SubL.row (xs:=[pgN k]) rf rf qex)) (by exact qej rfl rfl rfl) qb8) ?_;intro i22)
  refine t11 ?_
  rw [← zc3]
  exact qaa (k+1,i22) (by dsimp only;omega) (by dsimp only;omega) ⟨⟨_,rfl,SubL.rfl'⟩,⟨_,rfl,SubL.rfl'⟩,⟨_,rfl,SubL.eq (ieq (by omega))⟩,trivial⟩ qab
 have hke:k=n:=by have:=of_decide_eq_false h3;omega
 subst hke
 clear h3
 rw [hkl]
 refine t12 ?_
 exact qbv (Bs:=[Is (.pointer (some ⟨i8,0,none⟩))]) results17 eT (i8,s) SubL.rfl' qab
theorem zb8 (n k:Int) (h:1≤k):(n.tmod k+k) % k=n % k:=by
 rw [Int.add_emod_right,Int.tmod_eq_emod]
 split
 ·show (n % k-0) % k=_;rw [Int.sub_zero,Int.emod_emod_of_dvd _ (Int.dvd_refl k)]
 ·rw [Int.natAbs_of_nonneg (by omega),Int.sub_emod,Int.emod_self];simp
theorem zb7 (n k:Int) (h:1≤k):(n.tmod k+k).tmod k=n % k:=by
 have h2:=Int.lt_tmod_of_pos n (show 0<k by omega)
 rw [Int.tmod_eq_emod_of_nonneg (by omega),zb8 n k h]
theorem qc9 (n k:Int) (hb:1≤k) (hb2:k≤4611686018427387903):FnP Tryz.prog 7 [Is (.int .i64 n),Is (.int .i64 k)] (Is (.int .i64 (n % k))):=by
 have h1:=Int.tmod_lt_of_pos n (show 0<k by omega)
 have h2:=Int.lt_tmod_of_pos n (show 0<k by omega)
 refine FnP.enter func7 ntmps7 rfl rfl ?_
 intro c hX
 (refine qzk ?_)
 refine t3 ?_
 (repeat with_reducible first|refine qzk ?_|refine qo1 ?_)
 (skip)
 refine t4 ?_
 (refine qo1 ?_)
 refine zfc (er rfl) (fun h=>absurd (of_decide_eq_true h) (by omega)) (fun h=>?_)
 (repeat with_reducible first|refine qzk ?_|refine qo1 ?_|refine zfa ?_)
 refine t10 ?_
 (repeat with_reducible first|refine qo1 ?_|refine JC_ret ?_)
 exact qay results7 rfl () (SubL.eq (by rw [zb7 n k hb])) (List.nil_sublist _)
theorem qih {n:Int} (h:0≤n∧n<18446744073709551616):UV (BitVec.ofInt 64 n)=n:=by
 unfold UV;rw [BitVec.toNat_ofInt];simp;omega
theorem wrr (n:Int):0≤IntKind.u64.wrap n∧IntKind.u64.wrap n<18446744073709551616:=by
 rw [qdi];omega
theorem qzg (x:BitVec 32):UV (x.setWidth 64)=UV x:=by
 unfold UV
 rw [BitVec.toNat_setWidth]
 have:=x.isLt
 congr 1
 omega
theorem qwn {p:Pg} {h:Hd} (e:(qfn p h).2=0):qcv (qfn p h).1=(h,0)∧(qfn p h).1.l=p.l∧(qfn p h).1.h=p.h:=by
 unfold qfn at e ⊢
 split at e
 ·exact absurd e (by decide)
 ·rename_i hb
  rw [if_neg hb]
  have hb':qrp p h=false:=by simpa using hb
  obtain ⟨r1,r2⟩:=hd_rng hb'
  have hl:qp5 p.l=true:=by
   unfold qrp at hb'
   simp only [Bool.or_eq_false_iff,Bool.not_eq_false'] at hb'
   exact hb'.1.1.1
  have hu:UV (h.used &&& ~~~BitVec.ofInt 32 65534)=0:=by
   unfold qrp at hb'
   simp only [Bool.or_eq_false_iff] at hb'
   simpa using hb'.2
  refine ⟨?_,rfl,rfl⟩
  have hd0:UV (qoe p h).d0=h.owner+1:=qih (by omega)
  have hd1:UV ((qoe p h).d1 &&& ~~~BitVec.ofInt 64 65534)=0:=by
   rw [uv0_iff] at hu ⊢
   show h.used.setWidth 64 &&& ~~~BitVec.ofInt 64 65534=0#64
   apply BitVec.eq_of_getLsbD_eq
   intro i hi
   rw [BitVec.getLsbD_and,BitVec.getLsbD_setWidth]
   rcases Nat.lt_or_ge i 32 with h32|h32
   ·have h1:=congrArg (fun x:BitVec 32=>x.getLsbD i) hu
    simp only [BitVec.getLsbD_and,BitVec.getLsbD_not,h32,decide_true,Bool.true_and] at h1
    simp only [BitVec.getLsbD_not,hi,decide_true,Bool.true_and]
    have h2:(BitVec.ofInt 64 65534).getLsbD i=(BitVec.ofInt 32 65534).getLsbD i:=by
     have h3:BitVec.ofInt 32 65534=(BitVec.ofInt 64 65534).setWidth 32:=by decide
     rw [h3,BitVec.getLsbD_setWidth];simp [h32]
    rw [h2];simpa using h1
   ·rw [BitVec.getLsbD_of_ge h.used i h32];simp
  have hub:zbb (qoe p h)=false:=by
   unfold zbb
   rw [hd0,hd1]
   simp;omega
  have hz:zB (qoe p h)=true:=by
   unfold zB qoe Pg.nil;rfl
  unfold qcv
  rw [if_pos (show qp5 (qoe p h).l=true from hl),if_neg (by rw [hub,hz];simp),hd0]
  have e1:h.owner+1-1=h.owner:=by omega
  have e2:(qoe p h).d1.setWidth 32=h.used:=qlj h.used
  rw [e1,e2]
theorem qqz {r:Re} (h:rwB r=true):qqw (rwV r)=r∧qkk (rwV r)=true:=by
 by_cases hr:r=Re.nil
 ·subst hr
  exact qnb (by unfold rwV;rw [if_pos rfl])
 ·have hv:qc5 r.to=true:=by rw [qgc hr] at h;exact h
  have e:rwV r=qn5 (qhu r.to) (r.ep.setWidth 64):=by unfold rwV;rw [if_neg hr]
  have e1:(rwV r).setWidth 32=qhu r.to:=by rw [e];exact pack_low _ _
  have e2:(rwV r>>>32).setWidth 32=r.ep:=by rw [e,zcm];exact qlj _
  have hne:¬ rwV r=0#64:=fun h0=>by
   rw [h0] at e1
   exact pack_ne hv e1.symm
  obtain ⟨h1,h2⟩:=qi9 hne
  rw [h1,h2,e1,e2,qvd hv]
  exact ⟨rfl,hv⟩
theorem okR_all {n:Nd} (h:okR n 4=true):rwB n.r0=true∧rwB n.r1=true∧rwB n.r2=true∧rwB n.r3=true:=by
 unfold okR at h
 simp only [Bool.and_eq_true] at h
 simp_all
theorem zen {p:Pg} {n:Nd} (e:(qck p n).2=0):qc1 (qck p n).1=(n,0)∧(qck p n).1.l=p.l∧(qck p n).1.h=p.h:=by
 cases hb:qr5 p n with
 | true=>rw [qqo hb] at e;exact absurd e (by decide)
 | false =>
  cases hk:okR n 4 with
  | false=>rw [qqn hb hk] at e;exact absurd e (by decide)
  | true =>
   rw [qqp hb hk]
   refine ⟨?_,rfl,rfl⟩
   obtain ⟨i1,i2,i3⟩:=qr4 hb
   have hl:qo5 p.l=true:=by
    unfold qr5 at hb
    simp only [Bool.or_eq_false_iff,Bool.not_eq_false'] at hb
    exact hb.1
   have hpin:n.pin=false→UV n.ep=0:=fun h=>by
    unfold qr5 at hb
    simp only [Bool.or_eq_false_iff] at hb
    have:=hb.2.1
    rw [h] at this
    simpa using this
   obtain ⟨k0,k1,k2,k3⟩:=okR_all hk
   obtain ⟨a0,b0⟩:=qqz k0
   obtain ⟨a1,b1⟩:=qqz k1
   obtain ⟨a2,b2⟩:=qqz k2
   obtain ⟨a3,b3⟩:=qqz k3
   have hep:=qzg n.ep
   have hepr:0≤UV n.ep∧UV n.ep<4294967296:=by unfold UV;have:=n.ep.isLt;omega
   have d0:UV (pgK p n 4).d0=if n.pin=true then UV n.ep+1 else 0:=by
    show UV (qu7 n)=_
    unfold qu7
    split
    ·unfold UV
     rw [BitVec.toNat_add,BitVec.toNat_setWidth]
     have:=n.ep.isLt
     simp
     omega
    ·rfl
   have d1:UV (pgK p n 4).d1=UV n.sg:=qzg n.sg
   have d2:UV (pgK p n 4).d2=n.inc:=qih (by omega)
   have hbad:qu8 (pgK p n 4)=false:=by
    unfold qu8
    rw [d0,d1,d2]
    simp only [Bool.or_eq_false_iff,decide_eq_false_iff_not]
    refine ⟨⟨?_,by omega⟩,by omega⟩
    split <;> omega
   have hok:okN (pgK p n 4) 4=true:=by
    unfold okN
    show _=_
    have c0:qkk (pgK p n 4).d3=true:=b0
    have c1:qkk (pgK p n 4).d4=true:=b1
    have c2:qkk (pgK p n 4).d5=true:=b2
    have c3:qkk (pgK p n 4).d6=true:=b3
    simp [c0,c1,c2,c3]
   rw [qqy (show qo5 (pgK p n 4).l=true from hl) hbad hok]
   have f0:qxm (pgK p n 4)=n.pin:=by
    unfold qxm
    rw [d0]
    cases n.pin <;> simp;omega
   have f1:epV (pgK p n 4)=n.ep:=by
    unfold epV
    rw [d0]
    cases hp:n.pin with
    | true =>
     rw [if_pos rfl,if_pos (by omega)]
     show (qu7 n-1#64).setWidth 32=n.ep
     unfold qu7
     rw [if_pos hp,BitVec.add_sub_cancel]
     exact qlj _
    | false =>
     have:=(uv0_iff).1 (hpin hp)
     simp [this]
   have f2:(pgK p n 4).d1.setWidth 32=n.sg:=qlj n.sg
   have g0:reK 4 0 (qqw (pgK p n 4).d3)=n.r0:=a0
   have g1:reK 4 1 (qqw (pgK p n 4).d4)=n.r1:=a1
   have g2:reK 4 2 (qqw (pgK p n 4).d5)=n.r2:=a2
   have g3:reK 4 3 (qqw (pgK p n 4).d6)=n.r3:=a3
   unfold ndK
   rw [f0,f1,f2,d2,g0,g1,g2,g3]
structure Tg where
 kind:Int
 gen:Int
 aux:BitVec 32
@[reducible] def tTg:Ty Tg:=⟨3,fun t=>[Is (.int .i64 t.kind),Is (.int .i64 t.gen),Is (.int .u32 (UV t.aux))],fun _=>rfl⟩
@[reducible] def IsTg (t:Tg):VP:=IsAgg (tTg.cells t)
def qhx (x:BitVec 64):Int:=UV (x&&&BitVec.ofInt 64 255)
def qlt (x:BitVec 64):Int:=UV (x>>>8&&&BitVec.ofInt 64 16777215)
def auxV (x:BitVec 64):BitVec 32:=(x>>>32).setWidth 32
theorem zde (x:BitVec 64):qhx x=UV x % 256:=by
 unfold qhx;rw [qm7 64 8 x _ rfl];rfl
theorem qyu (x:BitVec 64):qlt x=UV x / 256 % 16777216:=by
 unfold qlt;rw [qm7 64 24 _ _ rfl,qzf];rfl
theorem kind_in (x:BitVec 64):-9223372036854775808≤UV (x&&&BitVec.ofInt 64 255)∧UV (x&&&BitVec.ofInt 64 255)≤9223372036854775807:=by
 have:=zde x
 unfold qhx at this
 omega
theorem gen_in (x:BitVec 64):-9223372036854775808≤UV (x>>>8&&&BitVec.ofInt 64 16777215)∧UV (x>>>8&&&BitVec.ofInt 64 16777215)≤9223372036854775807:=by
 have:=qyu x
 unfold qlt at this
 omega
def qmd (x:BitVec 64):Tg:=⟨qhx x,qlt x,auxV x⟩
theorem qm6 (x:BitVec 64):FnP Tryz.prog 95 [Is (.int .u64 (UV x))] (IsTg (qmd x)):=by
 have h1:=kind_in x
 have h2:=gen_in x
 refine FnP.enter func95 ntmps95 rfl rfl ?_
 intro c hX
 refine t3 ?_
 intro i2
 refine t8 ?_
 refine qap rfl (by exact qhw (k:=8) qgp (er rfl) (by omega) qct) ?_
 refine t3 ?_
 refine qap rfl (by exact qhw (k:=32) qgp (er rfl) (by omega) qct) ?_
 refine t6 ?_
 exact qan (Bs:=[IsTg (qmd x)]) results95 eT () SubL.rfl' (List.nil_sublist _)
def packT (t:Tg):BitVec 64:=(BitVec.ofInt 64 t.kind&&&BitVec.ofInt 64 255)|||((BitVec.ofInt 64 t.gen&&&BitVec.ofInt 64 16777215)<<<8)|||(t.aux.setWidth 64<<<32)
theorem zau (t:Tg):FnP Tryz.prog 175 [IsTg t] (Is (.int .u64 (UV (packT t)))):=by
 refine FnP.enter func175 ntmps175 rfl rfl ?_
 intro c hX
 refine t3 ?_
 intro i1
 refine t25 ?_
 refine qap rfl (by exact qed (k:=8) qgp (er rfl) (by omega) qct) ?_
 refine t4 ?_
 refine qap rfl (by exact qed (k:=32) qgp (er rfl) (by omega) qct) ?_
 refine t5 ?_
 refine qay results175 rfl () (SubL.eq ?_) (List.nil_sublist _)
 rfl
theorem tagOf_ok (p:Pg):FnP Tryz.prog 141 [qcr p] (IsTg (qmd p.d0)):=by
 have hd0:(dat p)[0]?=some p.d0:=rfl
 refine FnP.enter func141 ntmps141 rfl rfl ?_
 intro c hX
 refine t3 ?_
 intro i1
 refine s1 ?_
 intro i2
 refine t7 ?_
 refine qap rfl (qad call95 (qm6 _) ⟨evS,trivial⟩) ?_
 refine t4 ?_
 exact qan (Bs:=[IsTg (qmd p.d0)]) results141 eT () SubL.rfl' (List.nil_sublist _)
def tagP (p:Pg) (g:Tg):Pg:=⟨p.l,p.h,packT g,0#64,0#64,0#64,0#64,0#64,0#64⟩
theorem zbm (p:Pg) (g:Tg):FnP Tryz.prog 142 [qcr p,IsTg g] (qcr (tagP p g)):=by
 refine FnP.enter func142 ntmps142 rfl rfl ?_
 intro c hX
 refine t3 ?_
 intro i2
 refine s1 ?_
 intro i3
 refine s1 ?_
 intro i4
 refine t10 ?_
 intro i5
 refine t6 ?_
 refine qap rfl (qad call175 (zau g) ⟨evS,trivial⟩) ?_
 refine t12 ?_
 exact qan (Bs:=[qcr (tagP p g)]) results142 eT () SubL.rfl' (List.nil_sublist _)
def qu6 (p:Pg):Pg×Int:=
 if qmk p.l=true then (if qef p=true then (Pg.nil,3) else if qhx p.d0=0 then (Pg.nil,16) else (tagP p ⟨0,qlt p.d0,0#32⟩,0)) else (Pg.nil,1)
theorem zat (p:Pg):FnP Tryz.prog 97 [qcr p] (qbu [qcr (qu6 p).1,Is (.int .i64 (qu6 p).2)]):=by
 refine FnP.enter func97 ntmps97 rfl rfl ?_
 intro c hX
 refine t3 ?_
 intro i1
 refine s1 ?_
 intro i2
 refine t6 ?_
 refine qap rfl (qad call141 (tagOf_ok p) ⟨evS,trivial⟩) ?_
 refine s1 ?_
 intro i4
 refine t9 ?_
 refine qap rfl (qad call133 (qt0 _) ⟨evS,trivial⟩) ?_
 refine t4 ?_
 refine cN ?_ ?_ <;> intro h2
 ·have e:qu6 p=(Pg.nil,1):=by unfold qu6;rw [if_neg (by simpa using h2)]
  rw [e]
  refine t10 ?_
  exact qan (Bs:=[qcr Pg.nil,Is (.int .i64 1)]) results97 eT () SubL.rfl' (List.nil_sublist _)
 have g1:qmk p.l=true:=by simpa using h2
 refine t3 ?_
 refine qap rfl (qad call53 (qoz _) ⟨evS,trivial⟩) ?_
 refine t3 ?_
 refine cN ?_ ?_ <;> intro h4
 ·have e:qu6 p=(Pg.nil,3):=by unfold qu6;rw [if_pos g1,if_pos (show qef p=true from h4)]
  rw [e]
  refine t10 ?_
  exact qan (Bs:=[qcr Pg.nil,Is (.int .i64 3)]) results97 eT () SubL.rfl' (List.nil_sublist _)
 have g2:¬ qef p=true:=fun e=>Bool.noConfusion (show false=true from h4.symm.trans e)
 refine t8 ?_
 refine cN ?_ ?_ <;> intro h6
 ·have g3:qhx p.d0=0:=by simpa [qmd] using h6
  have e:qu6 p=(Pg.nil,16):=by unfold qu6;rw [if_pos g1,if_neg g2,if_pos g3]
  rw [e]
  refine t10 ?_
  exact qan (Bs:=[qcr Pg.nil,Is (.int .i64 16)]) results97 eT () SubL.rfl' (List.nil_sublist _)
 have g3:¬ qhx p.d0=0:=by simpa [qmd] using h6
 have e:qu6 p=(tagP p ⟨0,qlt p.d0,0#32⟩,0):=by unfold qu6;rw [if_pos g1,if_neg g2,if_neg g3]
 rw [e]
 clear h6
 refine t9 ?_
 refine qap rfl (qad call142 (zbm p ⟨0,qlt p.d0,0#32⟩) ⟨evS,⟨evS,trivial⟩⟩) ?_
 refine t5 ?_
 exact qan (Bs:=[qcr (tagP p ⟨0,qlt p.d0,0#32⟩),Is (.int .i64 0)]) results97 eT () SubL.rfl' (List.nil_sublist _)
def qz4 (x:BitVec 64):BitVec 64:=BitVec.ofInt 64 (IntKind.u64.wrap (IntKind.u64.wrap (IntKind.u64.wrap ((UV x).tdiv 256)+1)*256))
def qnr (H:List Pg) (w:Pg):List Pg:=if 96≤w.l∧w.l<96+(H.length:Int) then H.set (w.l-96).toNat { w with h:=qz4 (H.getD (w.l-96).toNat Pg.nil).h } else H
theorem qy5 (H:List Pg) (w:Pg):(qnr H w).length=H.length:=by unfold qnr;split <;> simp
theorem qk3:∀ (ws H:List Pg),(ws.foldl qnr H).length=H.length
 | [],H=>rfl
 | w :: ws,H=>by rw [List.foldl_cons,qk3 ws,qy5]
theorem com_take {ws H:List Pg} {k:Nat} {w:Pg} (h:ws[k]?=some w):(ws.take (k+1)).foldl qnr H=qnr ((ws.take k).foldl qnr H) w:=by
 rw [List.take_add_one,h,List.foldl_append];rfl
theorem nextH_eq (x:BitVec 64):IntKind.u64.wrap (IntKind.u64.wrap (IntKind.u64.wrap ((UV x).tdiv 256)+1)*256)=UV (qz4 x):=(qih (wrr _)).symm
section
variable {P:Program} {c:Ctx} {A:Nat→Option VP} {L:List Item} {d:Option Tmp} {ty:TypeId} {pos:String} {af:Array Edge} {g:Option (Nat×Bool)} {α:Type} {V:α→VP} {l:List (Int×α)} {b:Nat} {t kt et:TypeId} {x y:Operand}
theorem qe7 {k:Int} {zv:Value} {v:α} (hv:qfy l k=some v) (hx:Ev A L x (Is (.map (some b)))) (hL:mp b V l∈L) (hy:Ev A L y (Is (.int .i64 k))) (hu:P.underlying t=some (.map kt et)) (hk:P.underlying kt=some (.int .i64)) (hz:(P.info? et).map (·.zero)=some (some zv)) :
  OpP P c ⟨d,.lookup t x y false,ty,pos,af,g⟩ A L (V v):=by
 have h:=zcv (P:=P) (c:=c) (d:=d) (ty:=ty) (pos:=pos) (af:=af) (g:=g) hx hL hy hu hk hz
 rw [hv] at h
 exact h
end
theorem qvv {bm:BitVec 32} {x:Int}:∀ {n:Nat},x∈qla bm n→0≤x∧x<n
 | 0,h=>by cases h
 | n+1,h=>by
  unfold qla at h
  split at h
  ·rcases List.mem_append.1 h with h|h
   ·have:=qvv h;omega
   ·simp at h;omega
  ·have:=qvv h;omega
theorem qmw (xs:List Pg) (l:Int):FnP Tryz.prog 52 [IsSl tPg xs,Is (.int .i64 l)] (qbu [qcr (qbk xs l),Is (.bool (qhh xs l))]):=qo0 xs l
theorem qqh (p:Pg):FnP Tryz.prog 53 [qcr p] (Is (.bool (qef p))):=qoz p
section
variable {P:Program} {c:Ctx} {A:Nat→Option VP} {L:List Item} {d:Option Tmp} {ty:TypeId} {pos:String} {af:Array Edge} {g:Option (Nat×Bool)} {α:Type} {V:α→VP} {l:List (Int×α)} {b:Nat} {t kt et:TypeId} {x y:Operand}
theorem qv0 {k:Int} {zv:Value} (z:α) (hz0:∀ φ,(V z).ok φ zv) (hx:Ev A L x (Is (.map (some b)))) (hL:mp b V l∈L) (hy:Ev A L y (Is (.int .i64 k))) (hu:P.underlying t=some (.map kt et)) (hk:P.underlying kt=some (.int .i64)) (hz:(P.info? et).map (·.zero)=some (some zv)) :
  OpP P c ⟨d,.lookup t x y true,ty,pos,af,g⟩ A L (qbu [V ((qfy l k).getD z),Is (.bool (qfy l k).isSome)]):=by
 have h:=qz0 (P:=P) (c:=c) (d:=d) (ty:=ty) (pos:=pos) (af:=af) (g:=g) hx hL hy hu hk hz
 intro φ a w K Q hm he hk'
 refine h φ a w K Q hm he fun φ' v w' hp hf=>hk' φ' v w' hp ?_
 obtain ⟨vs,e,k1⟩:=hf
 refine ⟨vs,e,?_⟩
 match vs,k1 with
 | [u1,u2],⟨a1,a2,_⟩ =>
  refine ⟨?_,a2,trivial⟩
  cases hq:qfy l k with
  | none =>
   rw [hq] at a1
   have a1':u1=zv:=a1
   rw [a1']
   exact hz0 φ'
  | some v=>rw [hq] at a1;exact a1
end
theorem hd_zero (φ:Fz):(qpg Hd.nil).ok φ (.agg #[.int .i64 0,.int .u32 0]):=⟨[_,_],rfl,⟨rfl,rfl,trivial⟩,qje rfl (qje rfl qf8)⟩
theorem qeo {α:Type} {S:List α} {k:Nat} {s:α} (hz:S[k]?=some s):S.drop k=s :: S.drop (k+1):=by
 obtain ⟨hk,e⟩:=List.getElem?_eq_some_iff.1 hz
 rw [List.drop_eq_getElem_cons hk,e]
end Go.Proofs.YtghkkdjbaehboaaGreat
