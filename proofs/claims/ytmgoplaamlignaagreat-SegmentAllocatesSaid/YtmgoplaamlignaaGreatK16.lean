/- Texts laid together: walks of functions, what they compute, and plain laws of it. Own work. -/
import Derived.Test.YtmgoplaamlignaaGreatK15
import Derived.Test.YtmgoplaamlignaaGreatK7
import Derived.Test.YtmgoplaamlignaaGreatK10
import Derived.Test.YtmgoplaamlignaaGreatK8
import Derived.Test.YtmgoplaamlignaaGreatK1
namespace Go.Proofs.YtmgoplaamlignaaGreat
open Go.RowKit Tryz
set_option linter.unusedVariables false
set_option linter.unusedSimpArgs false
set_option maxRecDepth 100000
set_option maxHeartbeats 4000000
theorem Fn.pgF {P:Program} {f:FuncId} {As:List VP} {n:Nat} {e:TypeId} {xs:List Pg} (h:Fn P f As [] (fun i:Option Addr×Nat=>Is (slV n i)) (fun i=>[buf (slV n i) e tPg xs])):FnF P f As (fun B=>qbe B (qal tPg xs)):=
 h.toF (fun _=>⟨qc3,qc3,qc3,qc3,qc3,qc3,qc3,qc3,qc3,trivial⟩) (fun i B φ v h1 h2=>by rw [show v=slV n i from h2];exact h1)
theorem Fn.pgP {P:Program} {f:FuncId} {As:List VP} {n:Nat} {e:TypeId} {xs:List Pg} (h:Fn P f As [] (fun i:Option Addr×Nat=>Is (slV n i)) (fun i=>[buf (slV n i) e tPg xs])):FnP P f As (qal tPg xs):=
 h.pgF.toP fun B φ v k=>(qal tPg xs).mono (qxl B φ) k
theorem qlx (a b:List Pg) (hn:a.length+b.length≤400000):FnP Tryz.prog 52 [qal tPg a,qal tPg b] (qal tPg (qcx a b)):=(qqg a b hn).pgP
theorem qcc (a b:List Pg) (hn:a.length+b.length≤400000):FnF Tryz.prog 52 [qal tPg a,qal tPg b] (fun B=>qbe B (qal tPg (qcx a b))):=(qqg a b hn).pgF
set_option maxHeartbeats 1000000 in
theorem SamePages_ok (xs ys:List Pg):FnP Tryz.prog 14 [qal tPg xs,qal tPg ys] (Is (.bool (decide (xs=ys)))):=by
 refine FnP.enter func14 ntmps14 rfl rfl ?_
 intro c hX
 refine qgn (t:=0) rfl (fun hlen=>?_)
 refine t15 ?_
 refine cN ?_ ?_ <;> intro h1
 ·have e:xs≠ys:=by rintro rfl;simp at h1
  refine t7 ?_
  refine qa4 results14 rfl () (SubL.eq ?_) (List.nil_sublist _)
  rw [decide_eq_false e]
 have hl:xs.length=ys.length:=by simp at h1;omega
 clear h1
 refine t9 ?_
 refine qbr (fun k:Nat=>k≤xs.length∧xs.take k=ys.take k) (fun k=>[(0,qal tPg xs),(1,qal tPg ys),(5,Is (.int .i64 (k:Nat)))]) (fun _=>[]) (fun k=>xs.length-k) 0 ⟨Nat.zero_le _,rfl⟩ qbl qab ?_
 rintro k ⟨hk,hs⟩
 refine t9 ?_
 refine cN ?_ ?_ <;> intro h4
 ·have h':(k:Int)<xs.length:=of_decide_eq_true h4
  clear h4
  obtain ⟨mx,hx⟩:∃ m,xs[k]?=some m:=⟨xs[k],List.getElem?_eq_getElem (by omega)⟩
  obtain ⟨my,hy⟩:∃ m,ys[k]?=some m:=⟨ys[k],List.getElem?_eq_getElem (by omega)⟩
  have hsp:=same_pg mx my
  refine t5 ?_
  refine qa0 rfl (by kernel_rfl) ?_
  refine qag 37 (by kernel_rfl) ?_
  refine t2 ?_
  refine qbc (by exact qau (j:=_) (er rfl) (er rfl) rfl rfl rf hx) ?_
  refine t4 ?_
  refine qbc (by exact qau (j:=_) (er rfl) (er rfl) rfl rfl rf hy) ?_
  refine t6 ?_
  (refine qem rfl rfl (fun hg=>(by have hg0:=hg;(try simp at hg);exact qau (j:=_) evG evG rfl rfl rf hx)) ?_)
  refine t4 ?_
  (refine qem rfl rfl (fun hg=>(by have hg0:=hg;(try simp at hg);exact qau (j:=_) evG evG rfl rfl rf hy)) ?_)
  refine t7 ?_
  (refine qem rfl rfl (fun hg=>(by have hg0:=hg;(try simp at hg);exact qau (j:=_) evG evG rfl rfl rf hx)) ?_)
  refine s1 ?_
  (refine qem rfl rfl (fun hg=>(by have hg0:=hg;(try simp at hg);exact qcm (n:=7) evG rfl rfl rfl rf qbo)) ?_)
  refine t2 ?_
  (refine qem rfl rfl (fun hg=>(by have hg0:=hg;(try simp at hg);exact qau (j:=_) evG evG rfl rfl rf hy)) ?_)
  refine s1 ?_
  (refine qem rfl rfl (fun hg=>(by have hg0:=hg;(try simp at hg);exact qcm (n:=7) evG rfl rfl rfl rf qbo)) ?_)
  (refine qem rfl rfl (fun hg=>(by have hg0:=hg;(try simp at hg);exact qes (vs:=qt1 mx) (ws:=qt1 my) evG evG (zch _ _ _ mx my) (eqD_neq mx my))) ?_)
  refine s1 ?_
  refine ⟨rfl,?_⟩
  refine qat ?_
  refine s1 ?_
  refine cN ?_ ?_ <;> intro h6
  ·have e:xs≠ys:=by
    rintro rfl
    rw [hx] at hy
    have hm:mx=my:=by simpa using hy
    subst hm
    rw [← Bool.or_assoc] at hsp
    rw [hsp] at h6
    simp at h6
   refine t11 ?_
   refine qa4 results14 rfl () (SubL.eq ?_) (List.nil_sublist _)
   rw [decide_eq_false e]
  have e:mx=my:=by
   rw [← Bool.or_assoc] at hsp
   rw [hsp] at h6
   simpa using h6
  clear h6
  refine t8 ?_
  exact qaa (k+1) ⟨by omega,(qmm hx hy hs).2 e⟩ (by omega) qbl qab
 have e:xs=ys:=by
  have h':¬ (k:Int)<xs.length:=of_decide_eq_false h4
  rw [List.take_of_length_le (by omega),List.take_of_length_le (by omega)] at hs
  exact hs
 clear h4
 refine t11 ?_
 refine qa4 results14 rfl () (SubL.eq ?_) (List.nil_sublist _)
 rw [decide_eq_true e]
set_option maxHeartbeats 1000000 in
theorem SameInts_ok (xs ys:List Int):FnP Tryz.prog 13 [qal tI64 xs,qal tI64 ys] (Is (.bool (decide (xs=ys)))):=by
 refine FnP.enter func13 ntmps13 rfl rfl ?_
 intro c hX
 refine qgn (t:=0) rfl (fun hlen=>?_)
 refine t15 ?_
 refine cN ?_ ?_ <;> intro h1
 ·have e:xs≠ys:=by rintro rfl;simp at h1
  refine t7 ?_
  refine qa4 results13 rfl () (SubL.eq ?_) (List.nil_sublist _)
  rw [decide_eq_false e]
 have hl:xs.length=ys.length:=by simp at h1;omega
 clear h1
 refine t9 ?_
 refine qbr (fun k:Nat=>k≤xs.length∧xs.take k=ys.take k) (fun k=>[(0,qal tI64 xs),(1,qal tI64 ys),(5,Is (.int .i64 (k:Nat)))]) (fun _=>[]) (fun k=>xs.length-k) 0 ⟨Nat.zero_le _,rfl⟩ qbl qab ?_
 rintro k ⟨hk,hs⟩
 refine t9 ?_
 refine cN ?_ ?_ <;> intro h4
 ·have h':(k:Int)<xs.length:=of_decide_eq_true h4
  clear h4
  obtain ⟨mx,hx⟩:∃ m,xs[k]?=some m:=⟨xs[k],List.getElem?_eq_getElem (by omega)⟩
  obtain ⟨my,hy⟩:∃ m,ys[k]?=some m:=⟨ys[k],List.getElem?_eq_getElem (by omega)⟩
  refine t5 ?_
  refine qa0 rfl (by kernel_rfl) ?_
  refine qag 9 (by kernel_rfl) ?_
  refine t2 ?_
  refine qbc (by exact qau (j:=_) (er rfl) (er rfl) rfl rfl rf hx) ?_
  refine t3 ?_
  refine qbc (by exact qau (j:=_) (er rfl) (er rfl) rfl rfl rf hy) ?_
  refine t2 ?_
  refine ⟨rfl,?_⟩
  refine qat ?_
  refine s1 ?_
  refine cN ?_ ?_ <;> intro h6
  ·have e:xs≠ys:=by
    rintro rfl
    rw [hx] at hy
    have hm:mx=my:=by simpa using hy
    subst hm
    simp at h6
   refine t11 ?_
   refine qa4 results13 rfl () (SubL.eq ?_) (List.nil_sublist _)
   rw [decide_eq_false e]
  have e:mx=my:=by simpa [qug] using h6
  clear h6
  refine t8 ?_
  exact qaa (k+1) ⟨by omega,(qmm hx hy hs).2 e⟩ (by omega) qbl qab
 have e:xs=ys:=by
  have h':¬ (k:Int)<xs.length:=of_decide_eq_false h4
  rw [List.take_of_length_le (by omega),List.take_of_length_le (by omega)] at hs
  exact hs
 clear h4
 refine t11 ?_
 refine qa4 results13 rfl () (SubL.eq ?_) (List.nil_sublist _)
 rw [decide_eq_true e]
section
variable {P:Program} {c:Ctx} {A:Nat→Option VP} {L:List Item} {d:Option Tmp} {ty:TypeId} {pos:String} {af:Array Edge} {g:Option (Nat×Bool)}
variable {α:Type} {T:Ty α}
end
def qqp (l:Int):Bool:=decide (l≥104)&&decide (l≤256)
def qkt (l:Int):Bool:=decide (l≥0)&&decide (l<6)
def qmo (l:Int):Bool:=decide (l≥98)&&decide (l<104)
def qfu (l:Int):Int:=if 104≤l∧l≤256 then (l-104) / 16 else 0
def qas (s:Int):Int:=if 0≤s∧s≤8 then 104+16*s else -1
def qp1 (l:Int):Bool:=decide (104≤l∧l<248∧(l-104) % 16=0)
def qg9 (lines line:Int):Int×Int×Bool:=if 104≤line∧line<104+16*qfu lines∧(line-104) % 16≠0 then ((line-104) / 16,(line-104) % 16,true) else (0,0,false)
theorem qh5 (l:Int):0≤qfu l∧qfu l≤9:=by unfold qfu;split <;> omega
theorem line_rng (s:Int):-1≤qas s∧qas s≤232:=by unfold qas;split <;> omega
theorem size_iff {l:Int}:qqp l=true↔104≤l∧l≤256:=by unfold qqp;simp
theorem size_not {l:Int}:qqp l=false↔¬ (104≤l∧l≤256):=by rw [← size_iff];simp
theorem qlj (l:Int):FnP Tryz.prog 32 [Is (.int .i64 l)] (Is (.bool (qqp l))):=by
 refine FnP.enter func32 ntmps32 rfl rfl ?_
 intro c hX
 refine t17 ?_
 refine qa4 results32 rfl () (SubL.eq ?_) (List.nil_sublist _)
 rfl
theorem qko (l:Int):FnP Tryz.prog 31 [Is (.int .i64 l)] (Is (.bool (qkt l))):=by
 refine FnP.enter func31 ntmps31 rfl rfl ?_
 intro c hX
 refine t17 ?_
 refine qa4 results31 rfl () (SubL.eq ?_) (List.nil_sublist _)
 rfl
theorem qlk (l:Int):FnP Tryz.prog 55 [Is (.int .i64 l)] (Is (.bool (qmo l))):=by
 refine FnP.enter func55 ntmps55 rfl rfl ?_
 intro c hX
 refine t17 ?_
 refine qa4 results55 rfl () (SubL.eq ?_) (List.nil_sublist _)
 rfl
theorem qw9 (l:Int):FnP Tryz.prog 81 [Is (.int .i64 l)] (Is (.bool (qmo l))):=by
 refine FnP.enter func81 ntmps81 rfl rfl ?_
 intro c hX
 refine t17 ?_
 refine qa4 results81 rfl () (SubL.eq ?_) (List.nil_sublist _)
 rfl
theorem qt2 {l:Int} (h:104≤l∧l≤256):qfu l=IntKind.i64.wrap ((l-104).tdiv 16):=by
 unfold qfu
 rw [if_pos h,Int.tdiv_eq_ediv_of_nonneg (by omega),qo3 (by omega)]
theorem qx4 (l:Int):FnP Tryz.prog 35 [Is (.int .i64 l)] (Is (.int .i64 (qfu l))):=by
 refine FnP.enter func35 ntmps35 rfl rfl ?_
 intro c hX
 refine t9 ?_
 refine qap rfl (qac call32 (qlj _) ⟨evS,trivial⟩) ?_
 refine t3 ?_
 refine cN ?_ ?_ <;> intro h1
 ·have h:¬ (104≤l∧l≤256):=size_not.1 (by simpa using h1)
  refine t7 ?_
  refine qa4 results35 rfl () (SubL.eq ?_) (List.nil_sublist _)
  unfold qfu;rw [if_neg h]
 have h:104≤l∧l≤256:=size_iff.1 (by simpa using h1)
 refine t6 ?_
 refine qap rfl (qi3 (er rfl) (er rfl) (by omega) rfl) ?_
 refine t4 ?_
 refine qa4 results35 rfl () (SubL.eq ?_) (List.nil_sublist _)
 rw [qt2 h]
theorem qun (l:Int):FnP Tryz.prog 47 [Is (.int .i64 l)] (Is (.int .i64 (qfu l))):=by
 refine FnP.enter func47 ntmps47 rfl rfl ?_
 intro c hX
 refine t16 ?_
 refine cN ?_ ?_ <;> intro h1
 ·have h:¬ (104≤l∧l≤256):=by simp at h1;omega
  refine t7 ?_
  refine qa4 results47 rfl () (SubL.eq ?_) (List.nil_sublist _)
  unfold qfu;rw [if_neg h]
 have h:104≤l∧l≤256:=by simp at h1;omega
 refine t6 ?_
 refine qap rfl (qi3 (er rfl) (er rfl) (by omega) rfl) ?_
 refine t4 ?_
 refine qa4 results47 rfl () (SubL.eq ?_) (List.nil_sublist _)
 rw [qt2 h]
theorem qio (s:Int):FnP Tryz.prog 21 [Is (.int .i64 s)] (Is (.int .i64 (qas s))):=by
 refine FnP.enter func21 ntmps21 rfl rfl ?_
 intro c hX
 refine t16 ?_
 refine cN ?_ ?_ <;> intro h1
 ·have h:¬ (0≤s∧s≤8):=by simp at h1;omega
  refine t7 ?_
  refine qa4 results21 rfl () (SubL.eq ?_) (List.nil_sublist _)
  unfold qas;rw [if_neg h]
 have h:0≤s∧s≤8:=by simp at h1;omega
 refine t11 ?_
 refine qa4 results21 rfl () (SubL.eq ?_) (List.nil_sublist _)
 unfold qas;rw [if_pos h,Int.mul_comm]
theorem qb2 (s:Int):FnP Tryz.prog 48 [Is (.int .i64 s)] (Is (.int .i64 (qas s))):=by
 refine FnP.enter func48 ntmps48 rfl rfl ?_
 intro c hX
 refine t16 ?_
 refine cN ?_ ?_ <;> intro h1
 ·have h:¬ (0≤s∧s≤8):=by simp at h1;omega
  refine t7 ?_
  refine qa4 results48 rfl () (SubL.eq ?_) (List.nil_sublist _)
  unfold qas;rw [if_neg h]
 have h:0≤s∧s≤8:=by simp at h1;omega
 refine t11 ?_
 refine qa4 results48 rfl () (SubL.eq ?_) (List.nil_sublist _)
 unfold qas;rw [if_pos h]
theorem Locate_ok (lines line:Int):FnP Tryz.prog 65 [Is (.int .i64 lines),Is (.int .i64 line)] (qbv [Is (.int .i64 (qg9 lines line).1),Is (.int .i64 (qg9 lines line).2.1),Is (.bool (qg9 lines line).2.2)]):=by
 have hc:=qh5 lines
 refine FnP.enter func65 ntmps65 rfl rfl ?_
 intro c hX
 refine t15 ?_
 (refine qcq rfl rfl rfl (fun hg=>(by have hg0:=hg;(try simp at hg);exact qac call35 (qx4 _) ⟨evS,trivial⟩)) ?_)
 refine t6 ?_
 refine cN ?_ ?_ <;> intro h1
 ·have h:qg9 lines line=(0,0,false):=by
   unfold qg9
   rw [if_neg]
   simp at h1
   omega
  rw [h]
  refine t9 ?_
  exact qaq (Bs:=[Is (.int .i64 0),Is (.int .i64 0),Is (.bool false)]) results65 eT () SubL.rfl' (List.nil_sublist _)
 have h:104≤line∧line<104+16*qfu lines:=by simp at h1;omega
 have q1:IntKind.i64.wrap ((line-104).tdiv 16)=(line-104) / 16:=by rw [Int.tdiv_eq_ediv_of_nonneg (by omega),qo3 (by omega)]
 have q2:(line-104).tmod 16=(line-104) % 16:=Int.tmod_eq_emod_of_nonneg (by omega)
 clear h1
 refine t6 ?_
 refine qap rfl (qi3 (er rfl) (er rfl) (by omega) rfl) ?_
 refine t9 ?_
 rw [q1,q2]
 refine t5 ?_
 refine cN ?_ ?_ <;> intro h4
 ·have h5:qg9 lines line=(0,0,false):=by
   unfold qg9
   rw [if_neg]
   have h6:(line-104) % 16=0:=by simpa using h4
   omega
  rw [h5]
  refine t9 ?_
  exact qaq (Bs:=[Is (.int .i64 0),Is (.int .i64 0),Is (.bool false)]) results65 eT () SubL.rfl' (List.nil_sublist _)
 have h5:qg9 lines line=((line-104) / 16,(line-104) % 16,true):=by
  unfold qg9
  rw [if_pos]
  have h6:¬ (line-104) % 16=0:=by simpa using h4
  exact ⟨h.1,h.2,h6⟩
 rw [h5]
 refine t12 ?_
 exact qaq (Bs:=[Is (.int .i64 ((line-104) / 16)),Is (.int .i64 ((line-104) % 16)),Is (.bool true)]) results65 eT () SubL.rfl' (List.nil_sublist _)
theorem qmk (lines line:Int):FnP Tryz.prog 64 [Is (.int .i64 lines),Is (.int .i64 line)] (qbv [Is (.int .i64 (qg9 lines line).1),Is (.int .i64 (qg9 lines line).2.1),Is (.bool (qg9 lines line).2.2)]):=by
 have hc:=qh5 lines
 refine FnP.enter func64 ntmps64 rfl rfl ?_
 intro c hX
 refine t14 ?_
 refine qbr (fun k:Nat=>(k:Int)≤qfu lines∧∀ j:Nat,j<k→¬ (104+16*(j:Int)<line∧line<104+16*(j:Int)+16)) (fun k=>[(0,Is (.int .i64 lines)),(1,Is (.int .i64 line)),(7,Is (.int .i64 (k:Nat)))]) (fun _=>[]) (fun k=>9-k) 0 ⟨by omega,fun j hj=>by omega⟩ qbl qab ?_
 rintro k ⟨hk,hs⟩
 refine t5 ?_
 refine qap rfl (qac call47 (qun _) ⟨evS,trivial⟩) ?_
 refine t3 ?_
 refine cN ?_ ?_ <;> intro h2
 ·have hlt:(k:Int)<qfu lines:=of_decide_eq_true h2
  have hline:qas (k:Int)=104+16*k:=by unfold qas;rw [if_pos (by omega)]
  clear h2
  refine t8 ?_
  refine qap rfl (qac call48 (qb2 _) ⟨evS,trivial⟩) ?_
  refine qap rfl (qip (er rfl) (er rfl) rfl) ?_
  rw [hline]
  refine t7 ?_
  refine qap rfl (qac call48 (qb2 _) ⟨evS,trivial⟩) ?_
  refine t4 ?_
  (refine qcq rfl rfl rfl (fun hg=>(by have hg0:=hg;(try simp at hg);exact qac call48 (qb2 _) ⟨evS,trivial⟩)) ?_)
  refine t5 ?_
  refine cN ?_ ?_ <;> intro h5
  ·have h6:104+16*(k:Int)<line∧line<104+16*(k:Int)+16:=by rw [hline] at h5;simp at h5;omega
   have e:qg9 lines line=((k:Int),line-(104+16*(k:Int)),true):=by
    unfold qg9
    rw [if_pos (by omega)]
    have e1:(line-104) / 16=k:=by omega
    have e2:(line-104) % 16=line-(104+16*(k:Int)):=by omega
    rw [e1,e2]
   have hw:IntKind.i64.wrap (line-(104+16*(k:Int)))=line-(104+16*(k:Int)):=qo3 (by omega)
   rw [e,hw]
   refine t15 ?_
   exact qaq (Bs:=[Is (.int .i64 (k:Int)),Is (.int .i64 (line-(104+16*(k:Int)))),Is (.bool true)]) results64 eT () SubL.rfl' (List.nil_sublist _)
  have h6:¬ (104+16*(k:Int)<line∧line<104+16*(k:Int)+16):=by rw [hline] at h5;simp at h5;omega
  clear h5
  refine t8 ?_
  exact qaa (k+1) ⟨by omega,fun j hj=>by
   by_cases hjk:j=k
   ·subst hjk;exact h6
   ·exact hs j (by omega)⟩ (by omega) qbl qab
 have hge:qfu lines≤k:=by have:=of_decide_eq_false h2;omega
 have e:qg9 lines line=(0,0,false):=by
  unfold qg9
  rw [if_neg]
  rintro ⟨g1,g2,g3⟩
  have:=hs ((line-104) / 16).toNat (by omega)
  omega
 rw [e]
 refine t13 ?_
 exact qaq (Bs:=[Is (.int .i64 0),Is (.int .i64 0),Is (.bool false)]) results64 eT () SubL.rfl' (List.nil_sublist _)
section
variable {P:Program} {c:Ctx} {A:Nat→Option VP} {L:List Item} {d:Option Tmp} {ty:TypeId} {pos:String} {af:Array Edge} {g:Option (Nat×Bool)}
theorem qd6 {t e:TypeId} {len size:Nat} {ps:Array (Nat×Operand)} {zs:List Value} {qs:List (Nat×List VP)} {Rs Rs':List VP} (hu:P.underlying t=some (.array len e)) (hs:(P.info? e).map (·.size)=some size) (hz:(P.info? t).map (·.zero)=some (some (.agg zs.toArray))) (h1:(zs.all Value.oneCell')=true)
  (hq:PartsE A L ps.toList qs) (hf:qkp (fun i=>some (i*size,size)) (zs.map Is) qs=some Rs) (hR:Rs=Rs'):OpP P c ⟨d,.build t ps,ty,pos,af,g⟩ A L (IsAgg Rs'):=by
 subst hR
 exact opp fun φ a w hm he=>by
  have hp:=hq.at_ (φ:=φ) (a:=a) fun i x hx=>he x (by simp only [Op.operands];simp;exact ⟨i,by simpa using hx⟩)
  obtain ⟨rs,g1,g2⟩:=qme (qhl (φ:=φ) zs) (qhd h1) hp hf
  refine ⟨.agg rs.toArray,?_,⟨rs,rfl,g2⟩⟩
  simp only [execOp]
  refine qcg ?_
  have h3:(ps.map fun x=>(x.1,a.eval x.2)).toList=ps.toList.map fun p=>(p.1,a.eval p.2):=by simp
  simp only [Instr.build,Sem.run_bind,qia hz,Result.andThen_ok,run_underlying hu,qby hs]
  rw [h3]
  show (match Instr.fill (fun i=>some (i*size,size)) zs.toArray (ps.toList.map fun p=>(p.1,a.eval p.2)) with|some cells=>pure (.agg cells)|_=>stuck _:Sem Value).run P w=_
  rw [g1];rfl
end
theorem qs5 {P:Program} {c:Ctx} {A:Nat→Option VP} {L:List Item} {d:Option Tmp} {ty:TypeId} {pos:String} {af:Array Edge} {g:Option (Nat×Bool)} {α:Type} {T:Ty α} (xs:List α) {x y:Operand} {t e:TypeId} {n l:Nat} {k1:IntKind} {i1:Int} {As:List VP} (hx:Ev A L x (qdo As)) (hu:P.underlying t=some (.array n e)) (hs:(P.info? e).map (·.size)=some T.size) (hy:Ev A L y (Is (.int k1 i1)))
  (e1:i1=l) (h1:l≤n) (hn:xs.length=n) (hm:Nat.ble n maxLen=true) (h:SubLs L (As.take (n*T.size)) (xs.flatMap T.cells)) :
  OpP P c ⟨d,.slice t x (some y) none none,ty,pos,af,g⟩ A L (qal T (xs.drop l)):=by
 intro φ a w K Q hh he hk
 obtain ⟨b,o,f1,f2⟩:(qdo As).ok φ (a.eval x):=he x (by simp [Op.operands]) _ hx
 have g1:a.eval y = .int k1 i1:=he y (by simp [Op.operands]) _ hy
 have hat:SlAt T φ (some ⟨b,o,none⟩) n n xs:=by
  refine ⟨hn.symm,Nat.le_refl _,Nat.le_of_ble_eq_true hm,.inr ⟨b,o,rfl,fun k z hj j B hB=>?_⟩⟩
  obtain ⟨D,h3,h4⟩:=qk7 (Bs:=[]) h (qj4 hj hB)
  have h5:As[k*T.size+j]?=some D:=by
   rw [List.getElem?_take] at h3
   split at h3
   ·exact h3
   ·cases h3
  obtain ⟨v,h6,h7,h8⟩:=f2 _ D h5
  exact ⟨v,by rw [Nat.add_assoc];exact h6,h4 φ v hh.mem.facts h7,h8⟩
 have hrun:(execOp a.eval ⟨d,.slice t x (some y) none none,ty,pos,af,g⟩).run P w = .ok (.value (.slice (if n=l then some ⟨b,o,none⟩ else (some ⟨b,o,none⟩:Option Addr).map (·.add (l*T.size))) (n-l) (n-l))) w:=by
  simp only [execOp,f1]
  refine qcg ?_
  simp only [Instr.sliceAt,Sem.run_bind,run_underlying hu,Result.andThen_ok,Instr.sureAddr,Sem.run_pure,Option.map_none,Option.map_some,Instr.sliceBounds,g1,qhu (P:=P) (y:=k1) (k:=k1) e1 h1,qby hs]
  by_cases hc:n=l <;> simp [hc]
 unfold Oper.wp
 rw [hrun]
 have hcut:=hat.cut h1 (Nat.le_refl n)
 rw [List.take_of_length_le (by omega)] at hcut
 exact hk φ _ w hh.idle ⟨_,_,_,rfl,hcut⟩
theorem qqa (a b:BitVec 32):Op.intBits .andNot .u32 (UV a) (UV b)=pure (.int .u32 (UV (a &&& ~~~b))):=by
 rw [intBits_andNot];congr 2
 show IntKind.u32.wrap ((BitVec.ofInt 32 (UV a) &&& ~~~ BitVec.ofInt 32 (UV b)).toNat:Int)=_
 rw [qjw,qjw,qno];rfl
theorem hdr_val (l:Int) (h:104≤l∧l<248):qp1 l=((l-104).tmod 16==0):=by
 unfold qp1
 rw [Int.tmod_eq_emod_of_nonneg (by omega),Bool.eq_iff_iff]
 simp
 omega
theorem qi9 (l:Int):FnP Tryz.prog 57 [Is (.int .i64 l)] (Is (.bool (qp1 l))):=by
 refine FnP.enter func57 ntmps57 rfl rfl ?_
 intro c hX
 refine t23 ?_
 refine qa4 results57 rfl () (SubL.eq ?_) (List.nil_sublist _)
 congr 2
 by_cases h:104≤l∧l<248
 ·rw [hdr_val l h,decide_eq_true (by omega:l≥104),decide_eq_true (by omega:l<248)];simp
 ·have e:qp1 l=false:=by unfold qp1;rw [decide_eq_false];omega
  rw [e]
  by_cases h1:l≥104
  ·rw [decide_eq_false (by omega:¬ l<248)];simp
  ·rw [decide_eq_false h1];simp
theorem qto (l:Int):FnP Tryz.prog 80 [Is (.int .i64 l)] (Is (.bool (qp1 l))):=by
 refine FnP.enter func80 ntmps80 rfl rfl ?_
 intro c hX
 refine t12 ?_
 refine qbr (fun k:Nat=>k≤9∧∀ j:Nat,j<k→l≠104+16*(j:Int)) (fun k=>[(0,Is (.int .i64 l)),(3,Is (.int .i64 (k:Nat)))]) (fun _=>[]) (fun k=>9-k) 0 ⟨by omega,fun j hj=>by omega⟩ qbl qab ?_
 rintro k ⟨hk,hs⟩
 refine t7 ?_
 refine cN ?_ ?_ <;> intro h2
 ·have hlt:k≤8:=by have:=of_decide_eq_true h2;omega
  have hline:qas (k:Int)=104+16*k:=by unfold qas;rw [if_pos (by omega)]
  clear h2
  refine t8 ?_
  refine qap rfl (qac call48 (qb2 _) ⟨evS,trivial⟩) ?_
  refine t3 ?_
  refine cN ?_ ?_ <;> intro h4
  ·have h5:l=104+16*(k:Int):=by rw [hline] at h4;simpa using h4
   have e:qp1 l=true:=by unfold qp1;rw [decide_eq_true];omega
   refine t11 ?_
   refine qa4 results80 rfl () (SubL.eq ?_) (List.nil_sublist _)
   rw [e]
  have h5:l≠104+16*(k:Int):=by rw [hline] at h4;simpa using h4
  clear h4
  refine t8 ?_
  exact qaa (k+1) ⟨by omega,fun j hj=>by
   by_cases hjk:j=k
   ·subst hjk;exact h5
   ·exact hs j (by omega)⟩ (by omega) qbl qab
 have hge:9≤k:=by have:=of_decide_eq_false h2;omega
 have e:qp1 l=false:=by
  unfold qp1
  rw [decide_eq_false]
  rintro ⟨g1,g2,g3⟩
  have:=hs ((l-104) / 16).toNat (by omega)
  omega
 refine t11 ?_
 refine qa4 results80 rfl () (SubL.eq ?_) (List.nil_sublist _)
 rw [e]
def idxU:List (BitVec 64)→Nat→Int
 | [],_=>-1
 | x :: xs,k=>if x=0#64 then idxU xs (k+1) else (k:Int)
theorem qxg:∀ (xs:List (BitVec 64)) (k:Nat),decide (idxU xs k≥0)=xs.any fun x=>decide (x≠0#64)
 | [],k=>rfl
 | x :: xs,k=>by
  unfold idxU
  by_cases h:x=0#64
  ·rw [if_pos h,qxg xs];simp [h]
  ·rw [if_neg h]
   simp [h]
theorem qzi (x:BitVec 64):FnP Tryz.prog 91 [Is (.int .u64 (UV x))] (Is (.bool (decide (x≠0#64)))):=by
 refine FnP.enter func91 ntmps91 rfl rfl ?_
 intro c hX
 refine t13 ?_
 refine qa4 results91 rfl () (SubL.eq ?_) (List.nil_sublist _)
 congr 2
 rw [show (0:Int)=UV 0#64 from rfl,Bool.eq_iff_iff]
 simp [qug]
theorem zdi (xs:List (BitVec 64)):FnP Tryz.prog 109 [qal qur xs,Is (.func (.func 91) #[] #[])] (Is (.int .i64 (idxU xs 0))):=by
 refine FnP.enter func109 ntmps109 rfl rfl ?_
 intro c hX
 refine qgn (t:=0) rfl (fun hlen=>?_)
 refine t14 ?_
 refine qbr (fun k:Nat=>k≤xs.length∧idxU xs 0=idxU (xs.drop k) k) (fun k=>[(0,qal qur xs),(1,Is (.func (.func 91) #[] #[])),(7,Is (.int .i64 xs.length)),(8,Is (.int .i64 (k:Nat)))]) (fun _=>[]) (fun k=>xs.length-k) 0 ⟨Nat.zero_le _,rfl⟩ qbl qab ?_
 rintro k ⟨hk,hs⟩
 refine t6 ?_
 refine cN ?_ ?_ <;> intro h2
 ·have hlt:k<xs.length:=by have:=of_decide_eq_true h2;omega
  clear h2
  obtain ⟨z,hz⟩:∃ z,xs[k]?=some z:=⟨xs[k],List.getElem?_eq_getElem hlt⟩
  have hd:xs.drop k=z :: xs.drop (k+1):=by
   rw [List.drop_eq_getElem_cons hlt]
   congr 1
   rw [List.getElem?_eq_getElem hlt] at hz
   exact Option.some.inj hz
  have e2:idxU (z :: xs.drop (k+1)) k=if z=0#64 then idxU (xs.drop (k+1)) (k+1) else (k:Int):=rfl
  rw [hd,e2] at hs
  refine t17 ?_
  refine qap rfl (qi4 (er rfl) call91 (qzi _) ⟨evS,trivial⟩) ?_
  refine t2 ?_
  refine cN ?_ ?_ <;> intro h4
  ·have h5:¬ z=0#64:=of_decide_eq_true h4
   rw [if_neg h5] at hs
   refine t12 ?_
   refine qa4 results109 rfl () (SubL.eq ?_) (List.nil_sublist _)
   rw [hs]
  have h5:z=0#64:=Classical.not_not.1 (of_decide_eq_false h4)
  rw [if_pos h5] at hs
  refine t7 ?_
  exact qaa (k+1) ⟨by omega,hs⟩ (by omega) qbl qab
 have hge:k=xs.length:=by have:=of_decide_eq_false h2;omega
 subst hge
 rw [List.drop_length] at hs
 refine t11 ?_
 refine qa4 results109 rfl () (SubL.eq ?_) (List.nil_sublist _)
 rw [hs];rfl
theorem qup (xs:List (BitVec 64)):FnP Tryz.prog 90 [qal qur xs,Is (.func (.func 91) #[] #[])] (Is (.bool (xs.any fun x=>decide (x≠0#64)))):=by
 refine FnP.enter func90 ntmps90 rfl rfl ?_
 intro c hX
 refine t9 ?_
 refine qap rfl (qac call109 (zdi _) ⟨evS,⟨evS,trivial⟩⟩) ?_
 refine t5 ?_
 refine qa4 results90 rfl () (SubL.eq ?_) (List.nil_sublist _)
 rw [qxg]
theorem zeros_ok (xs:List (BitVec 64)):FnP Tryz.prog 58 [qal qur xs] (Is (.bool (!xs.any fun x=>decide (x≠0#64)))):=by
 refine FnP.enter func58 ntmps58 rfl rfl ?_
 intro c hX
 refine t8 ?_
 refine qap rfl (qac call90 (qup _) ⟨evS,⟨evS,trivial⟩⟩) ?_
 refine t5 ?_
 refine qa4 results58 rfl () (SubL.eq ?_) (List.nil_sublist _)
 rfl
def dat (p:Pg):List (BitVec 64):=[p.d0,p.d1,p.d2,p.d3,p.d4,p.d5,p.d6]
def qvv (p:Pg) (k:Nat):BitVec 64:=(dat p).getD k 0#64
def zB (p:Pg):Bool:=decide (p.d2=0#64)&&(decide (p.d3=0#64)&&(decide (p.d4=0#64)&&(decide (p.d5=0#64)&&decide (p.d6=0#64))))
def qzq (p:Pg):Bool:=decide (UV p.d0>6)||UV (p.d1 &&& ~~~BitVec.ofInt 64 65534) != 0
def qcj (p:Pg):Hd×Int:=if qp1 p.l=true then (if (qzq p || !zB p)=true then (Hd.nil,14) else (⟨UV p.d0-1,p.d1.setWidth 32⟩,0)) else (Hd.nil,1)
theorem zB_any (p:Pg):(!((dat p).drop 2).any fun x=>decide (x≠0#64))=zB p:=by
 unfold zB dat
 simp only [List.drop_succ_cons,List.drop_zero,List.any_cons,List.any_nil,decide_not]
 simp only [Bool.or_false,Bool.not_or,Bool.not_not]
theorem qzp {p:Pg} (h:qzq p=false):UV p.d0≤6:=by
 unfold qzq at h
 simp at h
 exact h.1
set_option maxHeartbeats 1000000 in
theorem qsf (p:Pg):FnP Tryz.prog 22 [qdw p] (qbv [qut (qcj p).1,Is (.int .i64 (qcj p).2)]):=by
 have h0:=qbj p.d0
 have hd0:(dat p)[0]?=some p.d0:=rfl
 have hd1:(dat p)[1]?=some p.d1:=rfl
 refine FnP.enter func22 ntmps22 rfl rfl ?_
 intro c hX
 refine t3 ?_
 intro i1
 refine s1 ?_
 intro i2
 refine t5 ?_
 refine qd2 hX (b:=i1) qae ?_
 refine qb0 1 (qdo (tPg.cells p)) rfl (SubL.fact qbp) ?_
 refine t3 ?_
 refine qap rfl (qac call57 (qi9 _) ⟨evS,trivial⟩) ?_
 refine t3 ?_
 refine cN ?_ ?_ <;> intro h1
 ·have e:qcj p=(Hd.nil,1):=by unfold qcj;rw [if_neg (by simpa using h1)]
  rw [e]
  refine t9 ?_
  exact qaq (Bs:=[qut Hd.nil,Is (.int .i64 1)]) results22 eT () SubL.rfl' (List.nil_sublist _)
 have hl:qp1 p.l=true:=by simpa using h1
 refine t6 ?_
 refine qap rfl (by exact qej (j:=0) (T:=qur) (dat p) (er rfl) (er rfl) rfl rfl rf qev rf hd0) ?_
 refine t4 ?_
 (refine qcq rfl rfl rfl (fun hg=>(by have hg0:=hg;(try simp at hg);exact qej (j:=1) (T:=qur) (dat p) evG evG rfl rfl rf qev rf hd1)) ?_)
 refine t6 ?_
 (refine qcq rfl rfl rfl (fun hg=>(by have hg0:=hg;(try simp at hg);exact qs5 (T:=qur) (dat p) (l:=2) evG rfl rfl (er rfl) rfl (by omega) rfl rf qz3)) ?_)
 (refine qcq rfl rfl rfl (fun hg=>(by have hg0:=hg;(try simp at hg);exact qac call58 (zeros_ok _) ⟨evS,trivial⟩)) ?_)
 refine t4 ?_
 refine cN ?_ ?_ <;> intro h3
 ·have e:qcj p=(Hd.nil,14):=by
   unfold qcj
   rw [if_pos hl,if_pos]
   rw [← zB_any]
   exact h3
  rw [e]
  refine t9 ?_
  exact qaq (Bs:=[qut Hd.nil,Is (.int .i64 14)]) results22 eT () SubL.rfl' (List.nil_sublist _)
 have h4:(qzq p || !zB p)=false:=by rw [← zB_any];exact h3
 have e:qcj p=(⟨UV p.d0-1,p.d1.setWidth 32⟩,0):=by
  unfold qcj
  rw [if_pos hl,if_neg (by rw [h4];simp)]
 have hr:=qzp (p:=p) (by revert h4;cases qzq p <;> simp)
 rw [e]
 clear h3
 refine t5 ?_
 refine qap rfl (by exact qej (j:=0) (T:=qur) (dat p) (er rfl) (er rfl) rfl rfl rf qev rf hd0) ?_
 refine t4 ?_
 refine qap rfl (by exact qej (j:=1) (T:=qur) (dat p) (er rfl) (er rfl) rfl rfl rf qev rf hd1) ?_
 refine t8 ?_
 exact qaq (Bs:=[qut ⟨UV p.d0-1,p.d1.setWidth 32⟩,Is (.int .i64 0)]) results22 eT () SubL.rfl' (List.nil_sublist _)
theorem dat_at (p:Pg) (k:Nat) (h:k<7):(dat p)[k]?=some (qvv p k):=by
 unfold qvv
 rw [List.getD_eq_getElem?_getD,List.getElem?_eq_getElem (by simpa [dat] using h)];rfl
theorem zB_iff {p:Pg}:zB p=true↔∀ k:Nat,2≤k→k<7→qvv p k=0#64:=by
 unfold zB
 simp only [Bool.and_eq_true,decide_eq_true_eq]
 constructor
 ·rintro ⟨h2,h3,h4,h5,h6⟩ k hk hk7
  have:k=2∨k=3∨k=4∨k=5∨k=6:=by omega
  rcases this with rfl|rfl|rfl|rfl|rfl <;> simp [qvv,dat,h2,h3,h4,h5,h6]
 ·intro h
  exact ⟨h 2 (by omega) (by omega),h 3 (by omega) (by omega),h 4 (by omega) (by omega),h 5 (by omega) (by omega),h 6 (by omega) (by omega)⟩
theorem uv0_iff {w:Nat} {x:BitVec w}:UV x=0↔x=0#w:=by
 constructor
 ·intro h
  have:UV x=UV (0#w):=by rw [h];simp [UV]
  rw [qug] at this;exact this
 ·rintro rfl;simp [UV]
set_option maxHeartbeats 1000000 in
theorem qf6 (p:Pg):FnP Tryz.prog 50 [qdw p] (qbv [qut (qcj p).1,Is (.int .i64 (qcj p).2)]):=by
 have h0:=qbj p.d0
 have hd0:(dat p)[0]?=some p.d0:=rfl
 have hd1:(dat p)[1]?=some p.d1:=rfl
 refine FnP.enter func50 ntmps50 rfl rfl ?_
 intro c hX
 refine t3 ?_
 intro i1
 refine s1 ?_
 intro i2
 refine t5 ?_
 refine qd2 hX (b:=i1) qae ?_
 refine qb0 1 (qdo (tPg.cells p)) rfl (SubL.fact qbp) ?_
 refine t3 ?_
 refine qap rfl (qac call80 (qto _) ⟨evS,trivial⟩) ?_
 refine t3 ?_
 refine cN ?_ ?_ <;> intro h1
 ·have e:qcj p=(Hd.nil,1):=by unfold qcj;rw [if_neg (by simpa using h1)]
  rw [e]
  refine t9 ?_
  exact qaq (Bs:=[qut Hd.nil,Is (.int .i64 1)]) results50 eT () SubL.rfl' (List.nil_sublist _)
 have hl:qp1 p.l=true:=by simpa using h1
 refine t9 ?_
 refine qbr (fun k:Nat=>2≤k∧k≤7∧∀ j:Nat,2≤j→j<k→qvv p j=0#64) (fun k=>[(1,qdo (tPg.cells p)),(2,Is (.pointer (some ⟨i2,0,none⟩))),(4,Is (.int .i64 (k:Nat)))]) (fun _=>[blk i2 119 (tHd.cells Hd.nil)]) (fun k=>7-k) 2 ⟨by omega,by omega,fun j hj=>by omega⟩ qbl qab ?_
 rintro k ⟨hk2,hk7,hs⟩
 refine t7 ?_
 refine cN ?_ ?_ <;> intro h4
 ·have hlt:k<7:=by have:=of_decide_eq_true h4;omega
  have hdk:=dat_at p k hlt
  clear h4
  refine t8 ?_
  refine qap rfl (by exact qej (j:=k) (T:=qur) (dat p) (er rfl) (er rfl) rfl rfl rf qev rf hdk) ?_
  refine t4 ?_
  refine cN ?_ ?_ <;> intro h6
  ·have h7:¬ qvv p k=0#64:=by rw [← uv0_iff];simpa using h6
   have e:qcj p=(Hd.nil,14):=by
    unfold qcj
    rw [if_pos hl,if_pos]
    have:zB p=false:=by
     cases hz:zB p with
     | false=>rfl
     | true=>exact absurd (zB_iff.1 hz k hk2 hlt) h7
    rw [this];simp
   rw [e]
   refine t13 ?_
   exact qaq (Bs:=[qut Hd.nil,Is (.int .i64 14)]) results50 eT () SubL.rfl' (List.nil_sublist _)
  have h7:qvv p k=0#64:=by rw [← uv0_iff];simpa using h6
  clear h6
  refine t8 ?_
  exact qaa (k+1) ⟨by omega,by omega,fun j hj hjk=>by
   by_cases hjk2:j=k
   ·subst hjk2;exact h7
   ·exact hs j hj (by omega)⟩ (by omega) qbl qab
 have hk:k=7:=by have:=of_decide_eq_false h4;omega
 subst hk
 have hz:zB p=true:=zB_iff.2 hs
 clear h4
 refine t9 ?_
 refine qap rfl (by exact qej (j:=0) (T:=qur) (dat p) (er rfl) (er rfl) rfl rfl rf qev rf hd0) ?_
 refine t4 ?_
 (refine qcq rfl rfl rfl (fun hg=>(by have hg0:=hg;(try simp at hg);exact qej (j:=1) (T:=qur) (dat p) evG evG rfl rfl rf qev rf hd1)) ?_)
 refine t6 ?_
 refine cN ?_ ?_ <;> intro h8
 ·have h9:qzq p=true:=h8
  have e:qcj p=(Hd.nil,14):=by unfold qcj;rw [if_pos hl,if_pos (by rw [h9];simp)]
  rw [e]
  refine t9 ?_
  exact qaq (Bs:=[qut Hd.nil,Is (.int .i64 14)]) results50 eT () SubL.rfl' (List.nil_sublist _)
 have h9:qzq p=false:=h8
 have hr:=qzp h9
 have e:qcj p=(⟨UV p.d0-1,p.d1.setWidth 32⟩,0):=by unfold qcj;rw [if_pos hl,if_neg (by rw [h9,hz];simp)]
 rw [e]
 clear h8
 refine t5 ?_
 refine qap rfl (by exact qej (j:=0) (T:=qur) (dat p) (er rfl) (er rfl) rfl rfl rf qev rf hd0) ?_
 refine t4 ?_
 refine qap rfl (by exact qej (j:=1) (T:=qur) (dat p) (er rfl) (er rfl) rfl rfl rf qev rf hd1) ?_
 refine t8 ?_
 exact qaq (Bs:=[qut ⟨UV p.d0-1,p.d1.setWidth 32⟩,Is (.int .i64 0)]) results50 eT () SubL.rfl' (List.nil_sublist _)
def qrm (p:Pg) (h:Hd):Bool:=(!qp1 p.l||decide (h.owner < -1))||decide (h.owner≥6)||UV (h.used &&& ~~~BitVec.ofInt 32 65534) != 0
def qoc (p:Pg) (h:Hd):Pg:={ Pg.nil with l:=p.l,h:=p.h,d0:=BitVec.ofInt 64 (h.owner+1),d1:=h.used.setWidth 64 }
def qfk (p:Pg) (h:Hd):Pg×Int:=if qrm p h=true then (Pg.nil,1) else (qoc p h,0)
theorem hd_rng {p:Pg} {h:Hd} (e:qrm p h=false):-1≤h.owner∧h.owner<6:=by
 unfold qrm at e
 simp at e
 omega
set_option maxHeartbeats 1000000 in
theorem qhm (p:Pg) (h:Hd):FnP Tryz.prog 41 [qdw p,qut h] (qbv [qdw (qfk p h).1,Is (.int .i64 (qfk p h).2)]):=by
 refine FnP.enter func41 ntmps41 rfl rfl ?_
 intro c hX
 refine t3 ?_
 intro i2
 refine s1 ?_
 intro i3
 refine s1 ?_
 intro i4
 refine t8 ?_
 refine qap rfl (qac call57 (qi9 _) ⟨evS,trivial⟩) ?_
 refine t14 ?_
 (refine qcq rfl rfl rfl (fun hg=>(by have hg0:=hg;(try simp at hg);exact qea qiw qiw (by simp) (qqa _ _))) ?_)
 refine t4 ?_
 refine cN ?_ ?_ <;> intro h1
 ·have e:qfk p h=(Pg.nil,1):=by unfold qfk;rw [if_pos];exact h1
  rw [e]
  refine t9 ?_
  exact qaq (Bs:=[qdw Pg.nil,Is (.int .i64 1)]) results41 eT () SubL.rfl' (List.nil_sublist _)
 have h2:qrm p h=false:=h1
 have hr:=hd_rng h2
 have e:qfk p h=(qoc p h,0):=by unfold qfk;rw [if_neg (by rw [h2];simp)]
 rw [e]
 clear h1
 refine t8 ?_
 refine qge 30 (Is (.int .u64 (UV (BitVec.ofInt 64 (h.owner+1))))) rfl (SubL.eq (congrArg Is (qcz (by omega)))) ?_
 refine t3 ?_
 refine qap rfl (qd6 (size:=1) (qs:=[(0,_),(1,_)]) rfl rfl rfl rfl ⟨⟨rfl,_,(er rfl),qbn⟩,⟨⟨rfl,_,(er rfl),qbn⟩,trivial⟩⟩ rf qbo) ?_
 refine t12 ?_
 exact qaq (Bs:=[qdw (qoc p h),Is (.int .i64 0)]) results41 eT () SubL.rfl' (List.nil_sublist _)
@[reducible] def qm1 (x:BitVec 32) (y:BitVec 64):BitVec 64:=x.setWidth 64|||y<<<32
theorem zax (x:BitVec 32) (y:BitVec 64):x.setWidth 64&&&y<<<32=0#64:=by
 apply BitVec.eq_of_getLsbD_eq
 intro i hi
 simp only [BitVec.getLsbD_and,BitVec.getLsbD_setWidth,BitVec.getLsbD_shiftLeft]
 rcases Nat.lt_or_ge i 32 with h|h
 ·simp [h]
 ·rw [BitVec.getLsbD_of_ge x i h];simp
theorem add_or (x:BitVec 32) (y:BitVec 64):x.setWidth 64+y<<<32=qm1 x y:=BitVec.add_eq_or_of_and_eq_zero _ _ (zax x y)
theorem pack_low (x:BitVec 32) (y:BitVec 64):(qm1 x y).setWidth 32=x:=by
 apply BitVec.eq_of_getLsbD_eq
 intro i hi
 simp only [qm1,BitVec.getLsbD_setWidth,BitVec.getLsbD_or,BitVec.getLsbD_shiftLeft]
 simp [hi,show i<64 by omega]
theorem zaw (x z:BitVec 32):qm1 x (z.setWidth 64)>>>32=z.setWidth 64:=by
 apply BitVec.eq_of_getLsbD_eq
 intro i hi
 simp only [qm1,BitVec.getLsbD_ushiftRight,BitVec.getLsbD_setWidth,BitVec.getLsbD_or,BitVec.getLsbD_shiftLeft]
 rw [BitVec.getLsbD_of_ge x (32+i) (by omega)]
 rcases Nat.lt_or_ge i 32 with h|h
 ·simp [hi,h,show 32+i<64 by omega,show 32+i-32=i by omega]
 ·rw [BitVec.getLsbD_of_ge z i h];simp;omega
theorem qla (z:BitVec 32):(z.setWidth 64).setWidth 32=z:=by
 apply BitVec.eq_of_toNat_eq
 simp only [BitVec.toNat_setWidth]
 have:=z.isLt
 omega
end Go.Proofs.YtmgoplaamlignaaGreat
