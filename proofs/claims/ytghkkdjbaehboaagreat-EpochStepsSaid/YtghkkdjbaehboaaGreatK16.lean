/- Walks of functions and plain laws, laid together. Own work. -/
import Derived.Test.YtghkkdjbaehboaaGreatK15
namespace Go.Proofs.YtghkkdjbaehboaaGreat
open Go.RowKit Tryz
set_option linter.unusedVariables false
set_option linter.unusedSimpArgs false
set_option maxRecDepth 100000
set_option maxHeartbeats 4000000
def vS (s:St29):Bool:=
 if (!qrm s.kind 1 9||decide (UV s.key<1)||decide (UV s.key>4294967294) || !decide (s=qn3 s))=true then false else
 if (qrm s.kind 6 8&&(decide (UV s.last<UV s.key)||decide (UV s.last>4294967294)))=true then false else
 if (!qrm s.col 0 2 || !qrm s.where_.col 0 2 || !qrm s.where_.op 0 6 || !qrm s.limit 0 64)=true then false else
 if (s.where_.op==0 && !decide (s.where_=⟨0,0,0⟩))=true then false else (s.kind != 9||decide (s.where_.op>0))
theorem vS_col {s:St29} (h:vS s=true):0≤s.col∧s.col≤2:=by
 unfold vS at h
 split at h
 ·cases h
 ·split at h
  ·cases h
  ·split at h
   ·cases h
   ·rename_i h3
    unfold qrm at h3
    simp at h3
    omega
theorem qms (s:St29):FnP Tryz.prog 160 [qo2 s] (Is (.bool (vS s))):=by
 obtain ⟨W,hE⟩:∃ W,vS s=W:=⟨_,rfl⟩
 rw [hE]
 unfold vS at hE
 refine FnP.enter func160 ntmps160 rfl rfl ?_
 intro c hX
 refine t3 ?_
 intro i1
 refine t5 ?_
 refine qaz rfl (by kernel_rfl) ?_
 refine qaf 20 (by kernel_rfl) ?_
 refine t2 ?_
 refine qbh (qad call161 (qwb _ _ _) ⟨qaq,⟨qaq,⟨qaq,trivial⟩⟩⟩) ?_
 refine t14 ?_
 (refine qd2 rfl rfl (fun hg=>(by have hg0:=hg;(try simp at hg);exact qad call190 (plain_ok s) ⟨qaq,trivial⟩)) ?_)
 (refine qd2 rfl rfl (fun hg=>(by have hg0:=hg;(try simp at hg);exact qdu (vs:=s.vals) (ws:=(qn3 s).vals) evG evG (zag _ _ _ s (qn3 s)) (eqSt_neq s (qn3 s)))) ?_)
 refine s1 ?_
 refine ⟨rfl,?_⟩
 refine qar ?_
 refine s1 ?_
 refine cN ?_ ?_ <;> intro h1
 ·replace hE:=qa4 hE h1
  refine t7 ?_
  subst hE
  exact qan (Bs:=[_]) results160 eRF () SubL.rfl' (List.nil_sublist _)
 replace hE:=qba hE h1
 clear h1
 refine t7 ?_
 refine kRF call161 (qwb _ _ _) ?_
 refine t14 ?_
 refine cN ?_ ?_ <;> intro h3
 ·replace hE:=qa4 hE h3
  refine t7 ?_
  subst hE
  exact qan (Bs:=[_]) results160 eRF () SubL.rfl' (List.nil_sublist _)
 replace hE:=qba hE h3
 refine t7 ?_
 refine kRF call161 (qwb _ _ _) ?_
 refine t5 ?_
 (refine qcp rfl rfl rfl (fun hg=>(by have hg0:=hg;(try simp at hg);exact qad call161 (qwb _ _ _) ⟨qaq,⟨qaq,⟨qaq,trivial⟩⟩⟩)) ?_)
 refine t6 ?_
 (refine qcp rfl rfl rfl (fun hg=>(by have hg0:=hg;(try simp at hg);exact qad call161 (qwb _ _ _) ⟨qaq,⟨qaq,⟨qaq,trivial⟩⟩⟩)) ?_)
 refine t5 ?_
 (refine qcp rfl rfl rfl (fun hg=>(by have hg0:=hg;(try simp at hg);exact qad call161 (qwb _ _ _) ⟨qaq,⟨qaq,⟨qaq,trivial⟩⟩⟩)) ?_)
 refine t4 ?_
 refine cN ?_ ?_ <;> intro h5
 ·replace hE:=qa4 hE h5
  refine t7 ?_
  subst hE
  exact qan (Bs:=[_]) results160 eRF () SubL.rfl' (List.nil_sublist _)
 replace hE:=qba hE h5
 refine t13 ?_
 (refine qcp rfl rfl rfl (fun hg=>(by have hg0:=hg;(try simp at hg);exact qdu (vs:=s.where_.vals) (ws:=Co.vals ⟨0,0,0⟩) evG evG (zaj _ _ _ s.where_ ⟨0,0,0⟩) (eqCo_neq s.where_ ⟨0,0,0⟩))) ?_)
 refine t3 ?_
 refine cN ?_ ?_ <;> intro h7
 ·replace hE:=qa4 hE h7
  refine t7 ?_
  subst hE
  exact qan (Bs:=[_]) results160 eRF () SubL.rfl' (List.nil_sublist _)
 replace hE:=qba hE h7
 refine t17 ?_
 subst hE
 exact qan (Bs:=[_]) results160 eRF () SubL.rfl' (List.nil_sublist _)
def vPL:List St29→Bool
 | []=>true
 | s :: r=>if (!vS s)=true then false else vPL r
def vP (l:List St29):Bool:=if (decide ((l.length:Int)<1)||decide ((l.length:Int)>8))=true then false else vPL l
theorem za8:∀ {l:List St29},vPL l=true→∀ s,s∈l→vS s=true
 | s :: r,h,x,hx=>by
  unfold vPL at h
  split at h
  ·cases h
  ·rename_i h1
   rcases List.mem_cons.1 hx with rfl|hx
   ·simpa using h1
   ·exact za8 h x hx
theorem za7 {l:List St29} (h:vP l=true):l.length≤8∧∀ s,s∈l→vS s=true:=by
 unfold vP at h
 split at h
 ·cases h
 ·rename_i h1
  simp at h1
  exact ⟨by omega,za8 h⟩
theorem qjs (l:List St29):FnP Tryz.prog 120 [IsSl tSt29 l] (Is (.bool (vP l))):=by
 obtain ⟨W,hE⟩:∃ W,vP l=W:=⟨_,rfl⟩
 rw [hE]
 unfold vP at hE
 refine FnP.enter func120 ntmps120 rfl rfl ?_
 intro c hX
 refine t18 ?_
 refine cN ?_ ?_ <;> intro h1
 ·replace hE:=qa4 hE h1
  refine t7 ?_
  subst hE
  exact qan (Bs:=[_]) results120 eRF () SubL.rfl' (List.nil_sublist _)
 rw [ifF h1] at hE
 have hl8:l.length≤8:=by
  rw [Bool.or_eq_false_iff] at h1
  have:=of_decide_eq_false h1.2
  omega
 clear h1
 refine t9 ?_
 refine qav [(0,_),(2,_)] [] (fun k:Nat=>k≤(l).length∧vPL (List.drop k (l))=W) (fun k=>[(3,Is (.int .i64 (k:Nat)))]) (fun k=>[]) (fun k=>(l).length-k) 0 ⟨by exact Nat.zero_le _,hE⟩ qa9 qab ?_
 clear hE
 rintro k ⟨hk,hE⟩
 refine t9 ?_
 refine cN ?_ ?_ <;> intro h4
 ·have hlt:k<(l).length:=by have:=of_decide_eq_true h4;omega
  clear h4
  obtain ⟨z,hz⟩:∃ q,(l)[k]?=some q:=⟨_,List.getElem?_eq_getElem hlt⟩
  rw [qeo hz,vPL] at hE
  (try dsimp only at hE)
  refine t10 ?_
  refine kRF call160 (qms z) ?_
  refine t3 ?_
  refine cN ?_ ?_ <;> intro h6
  ·replace hE:=qa4 hE h6
   refine t11 ?_
   subst hE
   exact qan (Bs:=[_]) results120 eRF () SubL.rfl' (List.nil_sublist _)
  replace hE:=qba hE h6
  refine t8 ?_
  exact qaa (k+1) ⟨by omega,hE⟩ (by omega) qa9 qab
 have hke:k=(l).length:=by have:=of_decide_eq_false h4;omega
 clear h4
 subst hke
 rw [List.drop_length,vPL] at hE
 (try dsimp only at hE)
 refine t11 ?_
 subst hE
 exact qan (Bs:=[_]) results120 eRF () SubL.rfl' (List.nil_sublist _)
theorem zar (s:St29):FnP Tryz.prog 153 [qo2 s] (Is (.bool (qrm s.kind 1 4))):=by
 refine FnP.enter func153 ntmps153 rfl rfl ?_
 intro c hX
 refine t3 ?_
 intro i1
 refine t7 ?_
 refine kRF call161 (qwb _ _ _) ?_
 refine t4 ?_
 refine qay results153 rfl () (SubL.eq ?_) (List.nil_sublist _)
 rfl
theorem qsd (t:List Rw) (ht:t.length≤10000):FnP Tryz.prog 119 [IsSl tRw t] (VEx fun b:Bool=>Is (.bool b)):=by
 refine FnP.enter func119 ntmps119 rfl rfl ?_
 intro c hX
 refine t12 ?_
 refine qav [(0,_),(2,_)] [] (fun k:Nat=>k≤(t).length) (fun k=>[(3,Is (.int .i64 (k:Nat)))]) (fun k=>[]) (fun k=>(t).length-k) 0 (Nat.zero_le _) qaj qab ?_
 rintro k hk
 refine t9 ?_
 refine cN ?_ ?_ <;> intro h2
 ·have hlt:k<(t).length:=by have:=of_decide_eq_true h2;omega
  clear h2
  obtain ⟨z,hz⟩:∃ q,(t)[k]?=some q:=⟨_,List.getElem?_eq_getElem hlt⟩
  obtain ⟨q,hq0⟩:∃ q,t.getD (k-1) Rw.nil=q:=⟨_,rfl⟩
  have hq:0<k→t[k-1]?=some q:=fun h=>by rw [← hq0,List.getD_eq_getElem?_getD,List.getElem?_eq_getElem (by omega)];rfl
  refine t5 ?_
  refine qaz rfl (by kernel_rfl) ?_
  refine qaf 32 (by kernel_rfl) ?_
  refine t21 ?_
  (refine zax rfl rfl (fun hp hg=>(by have hpg:=Bool.and_eq_true_iff.2 ⟨hp,hg⟩;have hg0:=hg;(try simp at hg);exact qam (j:=k-1) evG evG rfl rfl (by omega) (hq (by omega)))) ?_)
  refine t10 ?_
  refine ⟨rfl,?_⟩
  refine qar ?_
  refine s1 ?_
  refine cN ?_ ?_ <;> intro h4
  ·refine t11 ?_
   exact qcj (Bs:=[_]) _ rfl results119 eXF (List.nil_sublist _)
  refine t8 ?_
  exact qaa (k+1) (by omega) (by omega) qaj qab
 have hke:k=(t).length:=by have:=of_decide_eq_false h2;omega
 clear h2
 subst hke
 refine t11 ?_
 exact qcj (Bs:=[_]) _ rfl results119 eXF (List.nil_sublist _)
theorem find_ok (t:List Rw) (key:BitVec 32) (ht:t.length≤10000):FnP Tryz.prog 121 [IsSl tRw t,Is (.int .u32 (UV key))] (qes (fun r:Nat×Bool=>r.1≤t.length∧(r.2=true→r.1<t.length)) fun r=>qbu [Is (.int .i64 (r.1:Nat)),Is (.bool r.2)]):=by
 refine FnP.enter func121 ntmps121 rfl rfl ?_
 intro c hX
 refine t13 ?_
 refine qav [(0,_),(1,_),(4,_),(5,_)] [] (fun k:Nat=>k≤(t).length) (fun k=>[(6,Is (.int .i64 (k:Nat)))]) (fun k=>[]) (fun k=>(t).length-k) 0 (Nat.zero_le _) qaj qab ?_
 rintro k hk
 refine t9 ?_
 refine cN ?_ ?_ <;> intro h2
 ·have hlt:k<(t).length:=by have:=of_decide_eq_true h2;omega
  clear h2
  obtain ⟨z,hz⟩:∃ q,(t)[k]?=some q:=⟨_,List.getElem?_eq_getElem hlt⟩
  refine t15 ?_
  refine cN ?_ ?_ <;> intro h4
  ·refine s1 ?_
   refine qaz rfl (by kernel_rfl) ?_
   refine qaf 10 (by kernel_rfl) ?_
   refine t10 ?_
   refine ⟨rfl,?_⟩
   refine qar ?_
   refine t7 ?_
   exact qn2 (_,_) results121 (hp:=by exact ⟨by omega,fun _=>by omega⟩)
  refine t8 ?_
  exact qaa (k+1) (by omega) (by omega) qaj qab
 have hke:k=(t).length:=by have:=of_decide_eq_false h2;omega
 clear h2
 subst hke
 refine t14 ?_
 exact qn2 (_,_) results121 (hp:=by exact ⟨Nat.le_refl _,fun h=>Bool.noConfusion h⟩)
def addS (a b:Int):Int×Bool:=if ((decide (b>0)&&decide (a>IntKind.i64.wrap (9223372036854775807-b)))||(decide (b<0)&&decide (a<IntKind.i64.wrap (-9223372036854775808-b))))=true then (0,false) else (IntKind.i64.wrap (a+b),true)
theorem Add29_ok (a b:Int):FnP Tryz.prog 162 [Is (.int .i64 a),Is (.int .i64 b)] (qbu [Is (.int .i64 (addS a b).1),Is (.bool (addS a b).2)]):=by
 obtain ⟨W,hE⟩:∃ W,addS a b=W:=⟨_,rfl⟩
 rw [hE]
 unfold addS at hE
 refine FnP.enter func162 ntmps162 rfl rfl ?_
 intro c hX
 refine t29 ?_
 refine cN ?_ ?_ <;> intro h1
 ·replace hE:=qa4 hE h1
  refine t8 ?_
  subst hE
  exact qan (Bs:=[_,_]) results162 eRF () SubL.rfl' (List.nil_sublist _)
 replace hE:=qba hE h1
 refine t12 ?_
 subst hE
 exact qan (Bs:=[_,_]) results162 eRF () SubL.rfl' (List.nil_sublist _)
def colAt (r:Rw):Nat→Int
 | 0=>r.cols0
 | 1=>r.cols1
 | _=>r.cols2
def zbw (r:Rw) (k:Nat) (v:Int):Rw:=match k with
 | 0=>{ r with cols0:=v }
 | 1=>{ r with cols1:=v }
 | _=>{ r with cols2:=v }
theorem e3 {k:Nat} (hk:k<3):k=0∨k=1∨k=2:=by omega
theorem col_idx (r:Rw) {k:Nat} (hk:k<3):(tRw.cells r)[0+1+k*1]?=some (Is (.int .i64 (colAt r k))):=by
 rcases e3 hk with rfl|rfl|rfl <;> rfl
theorem zec (r:Rw) (v:Int) {k:Nat} (hk:k<3):ovr (tRw.cells r) (0+1+k*1) [Is (.int .i64 v)]=tRw.cells (zbw r k v):=by
 rcases e3 hk with rfl|rfl|rfl <;> rfl
theorem zee (r:Rw) {k:Nat} (hk:k<3):Nat.ble (0+1+k*1+1) (tRw.cells r).length=true:=Nat.ble_eq_true_of_le (by rw [tRw.len];show _≤4;omega)
theorem qu3 (s:St29) (r:Rw) (hc:0≤s.col∧s.col≤2):FnP Tryz.prog 123 [qo2 s,IsRw r] (VEx fun x:Rw×Int=>qbu [IsRw x.1,Is (.int .i64 x.2)]):=by
 obtain ⟨j,hj,hj3⟩:∃ j:Nat,s.col=(j:Int)∧j<3:=⟨s.col.toNat,by omega,by omega⟩
 refine FnP.enter func123 ntmps123 rfl rfl ?_
 intro c hX
 refine t3 ?_
 intro i2
 refine s1 ?_
 intro i3
 refine s1 ?_
 intro i4
 refine t11 ?_
 refine cN ?_ ?_ <;> intro h1
 ·refine t7 ?_
  refine qap rfl (qal (k:=j) (sz:=1) (er rfl) (er rfl) rfl rfl hj hj3) ?_
  refine qkl (qas (Rs:=tRw.cells (zbw r j s.value)) (er rfl) (er rfl) qag qae (zec _ _ hj3) rf rf (zee _ hj3)) ?_
  refine t11 ?_
  exact qcj (Bs:=[_,_]) ((⟨_,_,_,_⟩:Rw),_) rfl results123 eXF (List.nil_sublist _)
 refine t3 ?_
 refine qaz rfl (by kernel_rfl) ?_
 refine qaf 13 (by kernel_rfl) ?_
 refine t3 ?_
 refine qbh (qal (k:=j) (sz:=1) (er rfl) (er rfl) rfl rfl hj hj3) ?_
 refine qbh (qir (er rfl) qbw rf rf (col_idx _ hj3)) ?_
 refine t2 ?_
 refine qbh (qad call162 (Add29_ok _ _) ⟨qaq,⟨qaq,trivial⟩⟩) ?_
 refine t5 ?_
 refine ⟨rfl,?_⟩
 refine qar ?_
 refine t8 ?_
 refine cN ?_ ?_ <;> intro h5
 ·refine t9 ?_
  exact qcj (Bs:=[_,_]) ((⟨_,_,_,_⟩:Rw),_) rfl results123 eXF (List.nil_sublist _)
 refine t8 ?_
 refine qap rfl (qal (k:=j) (sz:=1) (er rfl) (er rfl) rfl rfl hj hj3) ?_
 refine qkl (qas (Rs:=tRw.cells (zbw r j (addS (colAt r j) s.value).1)) (er rfl) (er rfl) qag qae (zec _ _ hj3) rf rf (zee _ hj3)) ?_
 refine t10 ?_
 exact qcj (Bs:=[_,_]) ((⟨_,_,_,_⟩:Rw),_) rfl results123 eXF (List.nil_sublist _)
theorem Apply_ok (t:List Rw) (pr:List St29) (ht:t.length≤9000) (hkd:∀ s,s∈pr→1≤s.kind∧s.kind≤4):FnP Tryz.prog 76 [IsSl tRw t,IsSl tSt29 pr] (qes (fun r:List Rw=>r.length≤t.length+pr.length) fun r=>qbu [IsSl tRw r,Top,Top,Top]):=by
 refine FnP.enter func76 ntmps76 rfl rfl ?_
 intro c hX
 refine t12 ?_
 refine qap rfl (by ((refine qad call119 (qsd _ ?_) ⟨qaq,trivial⟩);all_goals (omega))) ?_
 (refine qgm 19 rfl ?_;intro x19)
 refine t3 ?_
 (refine qcp rfl rfl rfl (fun hg=>(by have hg0:=hg;(try simp at hg);exact qad call120 (qjs _) ⟨qaq,trivial⟩)) ?_)
 refine t4 ?_
 refine cN ?_ ?_ <;> intro h1
 ·refine t11 ?_
  exact qcg (Bs:=[_,_,_,_]) _ rfl results76 eXF (List.nil_sublist _) (by exact by omega)
 have hv:vP pr=true:=by
  cases hq:vP pr
  ·rw [hq] at h1;simp at h1
  ·rfl
 obtain ⟨hl8,hvs⟩:=za7 hv
 clear h1
 refine t4 ?_
 (refine qwx rfl (qb3 tRw rfl rfl) ?_;intro i27)
 refine s1 ?_
 (refine qew rfl (qb6 (er rfl) (fun _=>qae) qaq (by exact qej rfl rfl rfl) qb8) ?_;intro i29)
 refine t4 ?_
 refine qa7 hX (v:=slV _ i29) qae ?_
 refine qb0 8 (IsSl tRw t) rfl (by simpa using qgw) ?_
 refine t11 ?_
 refine qcd 212 tRs29 ?_
 refine qav [(0,_),(1,_),(4,_),(5,_),(6,_),(7,_)] [] (fun y:Nat×(List Rw)×(List Rs29)×(Option Addr×Nat)=>y.1≤(pr).length∧(y.2.1.length≤t.length+y.1∧y.2.2.1.length≤y.1)) (fun y=>[(8,IsSl tRw y.2.1),(9,Is (slV (y.2.2.1).length y.2.2.2)),(10,Is (.int .i64 (y.1:Nat)))]) (fun y=>[buf (slV (y.2.2.1).length y.2.2.2) 212 tRs29 (y.2.2.1)]) (fun y=>(pr).length-y.1) (0,t,[],(none,0)) ?_ qaj qab ?_
 ·exact ⟨by exact Nat.zero_le _,⟨Nat.le_refl _,Nat.le_refl 0⟩⟩
 rintro ⟨k,now,rs,v_0⟩ ⟨hk,hI⟩
 dsimp only at hk hI ⊢
 refine t9 ?_
 refine cN ?_ ?_ <;> intro h6
 ·have hlt:k<(pr).length:=by have:=of_decide_eq_true h6;omega
  clear h6
  obtain ⟨z,hz⟩:∃ q,(pr)[k]?=some q:=⟨_,List.getElem?_eq_getElem hlt⟩
  obtain ⟨hI1,hIr⟩:=hI
  have hkz:=hkd z (List.mem_of_getElem? hz)
  have hcz:=vS_col (hvs z (List.mem_of_getElem? hz))
  refine t11 ?_
  intro i11
  refine t8 ?_
  refine qap rfl (by ((refine qad call121 (find_ok _ _ ?_) ⟨qaq,⟨qaq,trivial⟩⟩);all_goals (omega))) ?_
  (refine qa5 44 rfl ?_;intro x44 hx44)
  refine t8 ?_
  obtain ⟨hf1,hf2⟩:=hx44
  refine t8 ?_
  intro i15
  refine t10 ?_
  refine qb1 [(0,_),(1,_),(4,_),(5,_),(6,_),(7,_),(9,_),(10,_),(11,_),(12,_),(13,_),(15,_),(30,_),(31,_),(32,_),(36,_),(37,_),(38,_),(39,_),(40,_),(41,_),(42,_),(43,_),(44,_),(45,_),(46,_),(47,_),(48,_),(49,_)] [blk i15 _ _,blk i11 _ _,buf _ _ _ _] (fun yc:(List Rw)×Int=>yc.1.length≤t.length+(k+1)) (fun yc=>[(8,IsSl tRw yc.1),(14,Is (.int .i64 yc.2))]) (fun yc=>[]) qaj qab ?_ ?_
  rotate_left
  focus
   refine t7 ?_
   refine cN ?_ ?_ <;> intro h20
   ·refine t5 ?_
    refine cN ?_ ?_ <;> intro h21
    ·refine t4 ?_
     refine qai (_,_) ?_ qaj qab
     ·exact (by (simp;omega))
    refine qaz rfl (by kernel_rfl) ?_
    refine qaf 16 (by kernel_rfl) ?_
    refine qkq (qb3 tRw rfl rfl) ?_
    refine t2 ?_
    refine qbh (qcx (er rfl) rfl rfl rfl ⟨_,_,(er rfl),rf⟩ (by omega) (by omega)) ?_
    refine qd7 rfl rfl rfl rf (by kernel_rfl) (qd4 qaq (by exact qej rfl rfl rfl) qb8) ?_
    refine t5 ?_
    refine qbh (OpP.to (qac (size:=4) (qs:=[(0,_)]) rfl rfl rfl ⟨⟨rfl,_,(er rfl),qag⟩,trivial⟩ rf rf) (SubL.row1 (T:=tRw) (x:=(⟨_,_,_,_⟩:Rw)) rf rf rf qak)) ?_
    refine qd7 rfl rfl rfl rf (by kernel_rfl) (qd4 (by exact er rfl) (by exact qej rfl rfl rfl) qb8) ?_
    refine t2 ?_
    refine qbh (qcx (er rfl) rfl rfl ⟨_,_,(er rfl),rf⟩ rfl (by omega) (by omega)) ?_
    refine qd7 rfl rfl rfl rf (by kernel_rfl) (qd4 qaq (by exact qej rfl rfl rfl) qb8) ?_
    refine ⟨rfl,?_⟩
    intro i105
    refine JD_1 (by kernel_rfl) rfl rfl (qei rfl) ?_
    refine qar ?_
    refine s1 ?_
    refine qgl hX (v:=slV _ i105) qae ?_
    refine qai (_,_) ?_ qaj qab
    ·exact (by (simp;omega))
   have hk1:z.kind≠1:=by simpa using h20
   refine t7 ?_
   refine qb1 [(0,_),(1,_),(4,_),(5,_),(6,_),(7,_),(8,_),(9,_),(10,_),(11,_),(12,_),(13,_),(14,_),(15,_),(30,_),(31,_),(32,_),(36,_),(37,_),(38,_),(39,_),(40,_),(41,_),(42,_),(43,_),(44,_),(45,_),(46,_),(47,_),(48,_),(49,_),(88,_),(107,_)] [blk i15 _ _,blk i11 _ _,buf _ _ _ _] (fun yc:Bool=>yc=true) (fun yc=>[(106,Is (.bool yc))]) (fun yc=>[]) qaj qab ?_ ?_
   rotate_left
   focus
    refine cN ?_ ?_ <;> intro h24
    ·skip
     refine s1 ?_
     refine qai _ ?_ qaj qab
     ·exact (by exact h24)
    have hk2:z.kind≠2:=by simpa using h24
    refine t6 ?_
    refine cN ?_ ?_ <;> intro h25
    ·refine s1 ?_
     refine qai _ ?_ qaj qab
     ·exact (by exact h25)
    have hk3:z.kind≠3:=by simpa using h25
    refine t6 ?_
    refine cN ?_ ?_ <;> intro h26
    ·refine s1 ?_
     refine qai _ ?_ qaj qab
     ·exact (by exact h26)
    exact absurd (show z.kind=4 by omega) (by simpa using h26)
   rintro b hI
   refine cN ?_ ?_ <;> intro h24b
   ·clear hI
    refine t8 ?_
    refine cN ?_ ?_ <;> intro h30
    ·refine t5 ?_
     refine qai (_,_) ?_ qaj qab
     ·exact (by (simp;omega))
    have hlt:x44.1<now.length:=hf2 (by simpa using h30)
    refine t8 ?_
    refine cN ?_ ?_ <;> intro h32
    ·refine qaz rfl (by kernel_rfl) ?_
     refine qaf 10 (by kernel_rfl) ?_
     refine qkq (qb3 tRw rfl rfl) ?_
     refine t2 ?_
     refine qbh (qcx (er rfl) rfl rfl rfl ⟨_,_,(er rfl),rf⟩ (by omega) (by omega)) ?_
     refine qd7 rfl rfl rfl rf (by kernel_rfl) (qd4 qaq (by exact qej rfl rfl rfl) qb8) ?_
     refine t3 ?_
     refine qbh (qcx (er rfl) rfl rfl ⟨_,_,(er rfl),(show _=((x44.1+1:Nat):Int) by rfl)⟩ rfl (by omega) (by omega)) ?_
     refine qd7 rfl rfl rfl rf (by kernel_rfl) (qd4 qaq (by exact qej rfl rfl rfl) qb8) ?_
     refine ⟨rfl,?_⟩
     intro i142
     refine JD_1 (by kernel_rfl) rfl rfl (qei rfl) ?_
     refine qar ?_
     refine t2 ?_
     refine qgl hX (v:=slV _ i142) qae ?_
     refine qai (_,_) ?_ qaj qab
     ·exact (by (simp;omega))
    refine t8 ?_
    refine cN ?_ ?_ <;> intro h34
    ·exact absurd (show z.kind=9 by simpa using h34) (by omega)
    refine t2 ?_
    (refine qwx rfl (qb3 tRw rfl rfl) ?_;intro i111)
    refine s1 ?_
    (refine qew rfl (qb6 (er rfl) (fun _=>qae) qaq (by exact qej rfl rfl rfl) qb8) ?_;intro i113)
    refine t3 ?_
    obtain ⟨rz,hrz⟩:∃ q,([]++now)[x44.1]?=some q:=⟨_,List.getElem?_eq_getElem (by simpa using hlt)⟩
    refine qaz rfl (by kernel_rfl) ?_
    refine qfi (its:=[]) ?_
    refine qfz 0 rfl (by kernel_rfl) (fun _=>(qbb rfl)) ?_
    refine qfz 1 rfl (by kernel_rfl) (fun _=>(qbb rfl)) ?_
    refine f1 2 ?_
    refine f1 3 ?_
    refine f1 4 ?_
    refine qkr 5 rfl (by kernel_rfl) (by exact qax (k:=x44.1) (er rfl) qbw (er rfl) rfl rfl qct qb8) ?_
    refine qkr 6 rfl (by kernel_rfl) (by exact qde (er rfl) qbw hrz rfl rfl rfl) ?_
    (refine JF_xe 7 [2,3,4,5,6,7] rfl (by kernel_rfl) (qad call123 (qu3 _ (⟨_,_,_,_⟩:Rw) hcz) ⟨qbc,⟨qbc,trivial⟩⟩) ?_;intro x122)
    refine f1 8 ?_
    refine f1 9 ?_
    refine qfz 10 rfl (by kernel_rfl) (fun _=>(qj7 (er rfl) rfl)) ?_
    refine qkr 11 rfl (by kernel_rfl) (by exact qax (k:=x44.1) (er rfl) qbw (er rfl) rfl rfl qct qb8) ?_
    refine qe6 12 [0,1,2,3,4,5,6,7,8,9,11,12] rfl (by kernel_rfl) (fun c'=>by exact qge (z':=x122.1) (er rfl) (er rfl) qag qae hrz rfl rf rf) ?_
    refine f1 13 ?_
    refine qd0 (by kernel_rfl) rfl ?_
    show JQ _ _ _ _ _ _
    refine t2 ?_
    refine qgl hX (v:=slV _ i113) qae ?_
    refine qai (_,_) ?_ qaj qab
    ·exact (by (simp;omega))
   exact absurd h24b (by rw [hI];decide)
  rintro ⟨nw,cd⟩ hI
  dsimp only at hI ⊢
  refine t7 ?_
  refine cN ?_ ?_ <;> intro h40
  ·refine t18 ?_
   exact qcg (Bs:=[_,_,_,_]) _ rfl results76 eXF (List.nil_sublist _) (by exact by omega)
  refine t5 ?_
  refine qap rfl (OpP.to (qac (size:=2) (qs:=[(0,_)]) rfl rfl rfl ⟨⟨rfl,_,(er rfl),qag⟩,trivial⟩ rf rf) (SubL.row1 (T:=tRs29) (x:=(⟨_,_⟩:Rs29)) rf rf rf qak)) ?_
  (refine qew rfl (qb6 (er rfl) (fun _=>qae) (by exact er rfl) (by exact qej rfl rfl rfl) qb8) ?_;intro i172)
  refine t9 ?_
  refine qaa (k+1,_,_,_) ?_ ?_ qaj qab
  ·exact ⟨by omega,⟨hI,by simp;omega⟩⟩
  ·exact (by omega)
 have hke:k=(pr).length:=by have:=of_decide_eq_false h6;omega
 clear h6
 subst hke
 refine t16 ?_
 exact qcg (Bs:=[_,_,_,_]) _ rfl results76 eXF (List.nil_sublist _) (by exact by omega)
section
variable {P:Program} {c:Ctx} {A:Nat→Option VP} {L:List Item} {d:Option Tmp} {ty:TypeId} {pos:String} {af:Array Edge} {g:Option (Nat×Bool)}
theorem op_notX {x:Operand} {t:TypeId} (hx:Ev A L x IsB):OpP P c ⟨d,.unOp .not t x,ty,pos,af,g⟩ A L IsB:=
 opp fun φ a w hm he=>by
  obtain ⟨p,h1⟩:IsB.ok φ (a.eval x):=he x (by simp [Op.operands]) _ hx
  have h1':a.eval x = .bool p:=h1
  exact ⟨_,by simp [execOp,h1',Op.unary],⟨!p,rfl⟩⟩
theorem op_orX {x y:Operand} {p:Bool} {Y:VP} (hx:Ev A L x (Is (.bool p))) (hy:evA A y=some Y) (hs:p=false→SubL L Y IsB):OpP P c ⟨d,.pick x (.const (.bool true)) y,ty,pos,af,g⟩ A L IsB:=
 opp fun φ a w hm he=>by
  have h1:a.eval x = .bool p:=he x (by simp [Op.operands]) _ hx
  cases p with
  | true =>
   have hc:a.eval (.const (.bool true)) = .bool true:=rfl
   exact ⟨.bool true,by simp [execOp,h1,hc,asBool],⟨true,rfl⟩⟩
  | false =>
   obtain ⟨q,h2⟩:IsB.ok φ (a.eval y):=hs rfl φ _ hm.mem.facts (he y (by simp [Op.operands]) _ ⟨Y,hy,SubL.rfl'⟩)
   have h2':a.eval y = .bool q:=h2
   exact ⟨.bool q,by simp [execOp,h1,h2',asBool],⟨q,rfl⟩⟩
end
theorem qou (p:Pg) (v:Vs):FnP Tryz.prog 183 [qcr p,IsVs v] (qes (fun r:Pg×Int=>Ln p→Ln r.1) fun r=>qbu [qcr r.1,Is (.int .i64 r.2)]):=by
 refine FnP.enter func183 ntmps183 rfl rfl ?_
 intro c hX
 refine t3 ?_
 intro i2
 refine s1 ?_
 intro i3
 refine s1 ?_
 intro i4
 refine t7 ?_
 refine kXF call208 (qfe (⟨(⟨_,_,_,_⟩:Rw),_,_,_,(⟨_,_⟩:Pt)⟩:Vs)) ?_
 (refine qgm 10 rfl ?_;intro x10)
 refine t3 ?_
 (refine qcp rfl rfl rfl (fun hg=>(by have hg0:=hg;(try simp at hg);exact qad call113 (qeq _) ⟨qaq,trivial⟩)) ?_)
 refine t4 ?_
 refine cN ?_ ?_ <;> intro h1
 ·refine t9 ?_
  exact qn2 ((⟨_,_,_,_,_,_,_,_,_⟩:Pg),_) results183 (hp:=by exact fun _=>ln0)
 refine t10 ?_
 intro i6
 refine t15 ?_
 refine qb1 [(2,_),(3,_),(4,_),(5,_),(6,_)] [blk i6 _ _,blk i4 _ _,blk i3 _ _,blk i2 _ _] (fun yc:(BitVec 32)=>True) (fun yc=>[(7,Is (.int .u32 (UV yc)))]) (fun yc=>[]) qaj qab ?_ ?_
 rotate_left
 focus
  refine cN ?_ ?_ <;> intro h5
  ·refine t3 ?_
   exact qai _ (trivial) qaj qab
  refine s1 ?_
  exact qai _ (trivial) qaj qab
 rintro a _
 refine t3 ?_
 refine kRF call8 (qgt _) ?_
 refine s1 ?_
 refine kRF call152 (qmt _ _ _) ?_
 refine t6 ?_
 refine qaz rfl (by kernel_rfl) ?_
 refine qaf 12 (by kernel_rfl) ?_
 refine t6 ?_
 refine qbh (qad call73 (qfw _) ⟨qaq,trivial⟩) ?_
 refine s1 ?_
 refine qbh (by exact qed (k:=32) qgp (er rfl) (by omega) qct) ?_
 refine t3 ?_
 refine ⟨rfl,?_⟩
 refine qeb (by kernel_rfl) rfl (qas (er rfl) (er rfl) qag qae qbm rf rf rf) ?_
 refine qar ?_
 refine t8 ?_
 refine qb1 [(3,_),(4,_),(5,_),(6,_)] [blk i4 _ _,blk i3 _ _] (fun yc:Pg=>yc.l=p.l) (fun yc=>[]) (fun yc=>[blk i6 48 (tPg.cells yc)]) qaj qab ?_ ?_
 rotate_left
 focus
  refine cN ?_ ?_ <;> intro h9
  ·refine t8 ?_
   refine qao (b:=i6) (As':=tPg.cells (⟨_,_,_,_,_,_,_,_,_⟩:Pg)) qae qbf ?_
   refine qai (⟨_,_,_,_,_,_,_,_,_⟩:Pg) ?_ qaj qab
   ·exact (by exact rfl)
  refine t6 ?_
  refine qbr (b:=i6) (As':=tPg.cells (⟨_,_,_,_,_,_,_,_,_⟩:Pg)) qae qbf ?_
  refine qav [(3,_),(4,_),(5,_),(6,_)] [blk i4 _ _,blk i3 _ _] (fun y:Nat×Pg=>y.1≤3∧(y.2.l=p.l)) (fun y=>[(8,Is (.int .i64 (y.1:Nat)))]) (fun y=>[blk i6 48 (tPg.cells y.2)]) (fun y=>3-y.1) (0,(⟨_,_,_,_,_,_,_,_,_⟩:Pg)) ?_ qaj qab ?_
  ·exact ⟨by exact Nat.zero_le _,rfl⟩
  rintro ⟨k,q2⟩ ⟨hk,hI⟩
  dsimp only at hk hI ⊢
  refine t7 ?_
  refine cN ?_ ?_ <;> intro h12
  ·have hlt:k<3:=by have:=of_decide_eq_true h12;omega
   clear h12
   rcases (show k=0∨k=1∨k=2 by omega) with rfl|rfl|rfl
   all_goals
    refine t10 ?_
    refine qap rfl (qal (k:=_) (sz:=1) (er rfl) (er rfl) rfl rfl qct (by decide)) ?_
    refine s1 ?_
    refine qap rfl (qfg (er rfl) rfl rfl (qh4 _)) ?_
    refine s1 ?_
    refine qap rfl (qal (k:=_) (sz:=1) (er rfl) (er rfl) rfl rfl qct (by decide)) ?_
    refine t9 ?_
    refine qao (b:=i6) (As':=tPg.cells (⟨_,_,_,_,_,_,_,_,_⟩:Pg)) qae qbf ?_
    first|((guard_hyp hlt:(0:Nat)<3);refine qaa (1,(⟨_,_,_,_,_,_,_,_,_⟩:Pg)) ?_ ?_ qaj qab)|((guard_hyp hlt:(1:Nat)<3);refine qaa (2,(⟨_,_,_,_,_,_,_,_,_⟩:Pg)) ?_ ?_ qaj qab)|((guard_hyp hlt:(2:Nat)<3);refine qaa (3,(⟨_,_,_,_,_,_,_,_,_⟩:Pg)) ?_ ?_ qaj qab)
    ·exact ⟨by omega,hI⟩
    ·exact (by omega)
  have hke:k=3:=by have:=of_decide_eq_false h12;omega
  clear h12
  subst hke
  refine t4 ?_
  refine qao (b:=i6) (As':=tPg.cells (⟨_,_,_,_,_,_,_,_,_⟩:Pg)) qae qbf ?_
  refine qai (⟨_,_,_,_,_,_,_,_,_⟩:Pg) ?_ qaj qab
  ·exact (by exact hI)
 rintro q hI
 refine t17 ?_
 exact qn2 ((⟨_,_,_,_,_,_,_,_,_⟩:Pg),_) results183 (hp:=by exact zab hI)
theorem qfv (p:Pg) (v:Vs) (hp:Ln p):FnP Tryz.prog 183 [qcr p,IsVs v] (qbu [qwy,IsIX]):=(qou p v).px hp
theorem zas (p q:Pg) (v:Vs) (hp:Ln p) (hq:Ln q):FnP Tryz.prog 187 [qcr p,qcr q,IsVs v] (qes (fun r:List Pg×Int=>WL 2 r.1) fun r=>qbu [IsSl tPg r.1,Is (.int .i64 r.2)]):=by
 refine FnP.enter func187 ntmps187 rfl rfl ?_
 intro c hX
 refine t3 ?_
 intro i3
 refine s1 ?_
 intro i4
 refine s1 ?_
 intro i5
 refine t8 ?_
 refine kRF call33 (qcc _) ?_
 refine t2 ?_
 (refine qcp rfl rfl rfl (fun hg=>(by have hg0:=hg;(try simp at hg);exact qad call33 (qcc _) ⟨qaq,trivial⟩)) ?_)
 refine t3 ?_
 refine cN ?_ ?_ <;> intro h1
 ·refine t8 ?_
  exact qn2 (_,_) results187 (hp:=by exact wl0)
 refine t5 ?_
 refine kRF call168 (qh2 _) ?_
 (refine qgm 22 rfl ?_;intro x22)
 refine t4 ?_
 intro i8
 refine t11 ?_
 refine cN ?_ ?_ <;> intro h4
 ·refine t8 ?_
  exact qn2 (_,_) results187 (hp:=by exact wl0)
 refine t5 ?_
 refine kRF call186 (qhr _) ?_
 refine t8 ?_
 refine kRF call113 (qeq _) ?_
 refine t4 ?_
 (refine qcp rfl rfl rfl (fun hg=>(by have hg0:=hg;(try simp at hg);exact qad call111 (qkc _) ⟨qaq,trivial⟩)) ?_)
 refine t20 ?_
 (refine qcp rfl rfl rfl (fun hg=>(by have hg0:=hg;(try simp at hg);exact qad call208 (qfe (⟨(⟨_,_,_,_⟩:Rw),_,_,_,(⟨_,_⟩:Pt)⟩:Vs)) ⟨qbc,trivial⟩)) ?_)
 (refine qcp rfl rfl rfl (fun hg=>(by have hg0:=hg;(try simp at hg);exact op_notX (Ev.sub rfl (SubL.iteT (by assumption) SubL.rfl')))) ?_)
 refine qap rfl (op_orX (er rfl) rfl (fun h=>SubL.iteT (by rw [h];rfl) SubL.rfl')) ?_
 (refine qgm 59 rfl ?_;intro b59)
 refine t3 ?_
 (refine qcp rfl rfl rfl (fun hg=>(by have hg0:=hg;(try simp at hg);exact qad call65 (qch _) ⟨qaq,trivial⟩)) ?_)
 refine t4 ?_
 refine cN ?_ ?_ <;> intro h7
 ·refine t8 ?_
  exact qn2 (_,_) results187 (hp:=by exact wl0)
 refine t6 ?_
 refine qap rfl (by ((refine qad call183 (qfv _ (⟨(⟨_,_,_,_⟩:Rw),_,_,_,(⟨_,_⟩:Pt)⟩:Vs) ?_) ⟨qbc,⟨qbc,trivial⟩⟩);all_goals (first|first|assumption|exact qfb _ _ _ _|exact qdl _ ⟨by decide,by decide⟩))) ?_
 refine t4 ?_
 intro i10
 refine t5 ?_
 refine qc8 (b:=i10) (fun _=>qae) ?_
 intro p10 hln10
 refine t3 ?_
 refine qap rfl (by ((refine qad call183 (qfv _ (⟨(⟨_,_,_,_⟩:Rw),_,_,_,(⟨_,_⟩:Pt)⟩:Vs) ?_) ⟨qbc,⟨qbc,trivial⟩⟩);all_goals (first|first|assumption|exact qfb _ _ _ _|exact qdl _ ⟨by decide,by decide⟩))) ?_
 refine t4 ?_
 intro i12
 refine t5 ?_
 refine qc8 (b:=i12) (fun _=>qae) ?_
 intro p12 hln12
 refine t3 ?_
 refine qap rfl (OpP.fr (qa3 (size:=9) (qs:=[(0,_),(1,_)]) rfl rfl rfl ⟨⟨rfl,_,(er rfl),qag⟩,⟨⟨rfl,_,(er rfl),qag⟩,trivial⟩⟩ rf rf) qcq (SubL.row2 (T:=tPg) (x:=(⟨_,_,_,_,_,_,_,_,_⟩:Pg)) (y:=(⟨_,_,_,_,_,_,_,_,_⟩:Pg)) rf rf rf rf qak qak)) ?_
 refine qap rfl (by ((refine qaw call72 (qcf _ _ ?_) ⟨qaq,⟨qaq,trivial⟩⟩);all_goals ((simp;done)))) ?_
 refine t5 ?_
 exact qn2 (qb7 [] [p10,p12],_) results187 (hp:=by exact qgn (n:=0) wl0 (wl2 (n:=0) hln10 hln12) (by decide))
def stpB (nd:List Int) (cd:Int):Bool:=decide ((nd.length:Int)>0)||(cd != 0)
def stp (r:Run31):Bool:=stpB r.need r.code
def RI (n:Nat) (r:Run31):Prop:=r.job.snapshot=false∧r.known.length≤300∧WL n r.w∧r.c.length≤n
theorem RI.mono {n m:Nat} {r:Run31} (h:RI n r) (k:n≤m):RI m r:=⟨h.1,h.2.1,h.2.2.1.mono k,Nat.le_trans h.2.2.2 k⟩
theorem RI.vw {n:Nat} {r:Run31} (h:RI n r):r.known.length+r.w.length≤300+n:=by
 have h1:=h.2.1
 have h2:=h.2.2.1.1
 omega
theorem qsz {nd:List Int} {cd:Int} (h:stpB nd cd=false):nd=[]∧cd=0:=by
 unfold stpB at h
 rw [Bool.or_eq_false_iff] at h
 have h1:=of_decide_eq_false h.1
 exact ⟨List.eq_nil_of_length_eq_zero (by omega),by simpa using h.2⟩
theorem qws (j:J31):FnP Tryz.prog 115 [IsJ31 j] (qes (fun r:Bool=>r=true→vP j.program=true∧j.access.length=j.program.length) fun r=>Is (.bool r)):=by
 refine FnP.enter func115 ntmps115 rfl rfl ?_
 intro c hX
 refine t3 ?_
 intro i1
 refine t36 ?_
 refine cN ?_ ?_ <;> intro h1
 ·refine t7 ?_
  exact rXF _ results115 (hp:=by exact fun h=>Bool.noConfusion h)
 refine t7 ?_
 refine kRF call120 (qjs _) ?_
 refine t12 ?_
 refine cN ?_ ?_ <;> intro h3
 ·refine t7 ?_
  exact rXF _ results115 (hp:=by exact fun h=>Bool.noConfusion h)
 rw [Bool.or_eq_false_iff] at h3
 have hvp:vP j.program=true:=by simpa using h3.1
 have hac:j.access.length=j.program.length:=by
  have h9:=h3.2
  simp at h9
  omega
 obtain ⟨hl8,_⟩:=za7 hvp
 clear h3
 refine t9 ?_
 refine qav [(1,_),(2,_)] [blk i1 _ _] (fun k:Nat=>k≤(j.program).length) (fun k=>[(3,Is (.int .i64 (k:Nat)))]) (fun k=>[]) (fun k=>(j.program).length-k) 0 (Nat.zero_le _) qaj qab ?_
 rintro k hk
 refine t10 ?_
 refine cN ?_ ?_ <;> intro h6
 ·have hlt:k<(j.program).length:=by have:=of_decide_eq_true h6;omega
  clear h6
  obtain ⟨z,hz⟩:∃ q,(j.program)[k]?=some q:=⟨_,List.getElem?_eq_getElem hlt⟩
  obtain ⟨za,hza⟩:∃ q,j.access[k]?=some q:=⟨_,List.getElem?_eq_getElem (by omega)⟩
  refine t12 ?_
  intro i4
  refine t22 ?_
  refine qap rfl (by exact qam (j:=_) (er rfl) (er rfl) rfl rfl rf hza) ?_
  refine t7 ?_
  (refine qcp rfl rfl rfl (fun hg=>(by have hg0:=hg;(try simp at hg);exact qam (j:=_) evG evG rfl rfl rf hza)) ?_)
  refine t7 ?_
  (refine qcp rfl rfl rfl (fun hg=>(by have hg0:=hg;(try simp at hg);exact qam (j:=_) evG evG rfl rfl rf hza)) ?_)
  refine t8 ?_
  (refine JL_i rfl rfl rfl (fun hp hg=>(by have hpg:=Bool.and_eq_true_iff.2 ⟨hp,hg⟩;have hg0:=hg;(try simp at hg);exact qad call153 (zar z) ⟨qaq,trivial⟩)) ?_)
  refine t4 ?_
  refine cN ?_ ?_ <;> intro h10
  ·refine t11 ?_
   exact rXF _ results115 (hp:=by exact fun h=>Bool.noConfusion h)
  refine t8 ?_
  exact qaa (k+1) (by omega) (by omega) qaj qab
 have hke:k=(j.program).length:=by have:=of_decide_eq_false h6;omega
 clear h6
 subst hke
 refine t11 ?_
 exact rXF _ results115 (hp:=by exact fun _=>⟨hvp,hac⟩)
theorem qh1 (B0:Nat) {G0 G1 G2 G3 G4 G5 G6 G7 G8 G9 G10 G11 G14 G15 G16 G17 G18 G19 G20 G21 G22 G23 G24 G25:VP} {ks w:List Pg} (h:ks.length+w.length≤400000):FnF Tryz.prog 154 [qc4 [G0,G1,G2,G3,G4,G5,G6,G7,G8,G9,G10,G11,IsSl tPg (ks),qbd B0 (IsSl tPg (w)),G14,G15,G16,G17,G18,G19,G20,G21,G22,G23,G24,G25]] (fun B=>qbd B (IsSl tPg (qb7 ks w))):=by
 refine FnF.enter func154 ntmps154 rfl rfl ?_
 intro c hX
 refine t6 ?_
 refine qaz rfl (by kernel_rfl) ?_
 refine qaf 10 (by kernel_rfl) ?_
 refine t8 ?_
 refine qbh (qaw call72 (qcf _ _ h) ⟨qaq,⟨qaq,trivial⟩⟩) ?_
 refine s1 ?_
 refine ⟨rfl,?_⟩
 refine qar ?_
 refine t2 ?_
 exact qan (Bs:=[_]) results154 eRF () SubL.rfl' (List.nil_sublist _)
theorem qe9 {G0 G1 G2 G3 G4 G5 G6 G7 G8 G9 G10 G11 G12 G13 G14 G17 G18 G19 G20 G21 G22 G23 G24 G25:VP} (nd:List Int) (cd:Int):FnP Tryz.prog 157 [qc4 [G0,G1,G2,G3,G4,G5,G6,G7,G8,G9,G10,G11,G12,G13,G14,IsSl tI64 (nd),Is (.int .i64 (cd)),G17,G18,G19,G20,G21,G22,G23,G24,G25]] (Is (.bool (stpB nd cd))):=by
 refine FnP.enter func157 ntmps157 rfl rfl ?_
 intro c hX
 refine t24 ?_
 refine qay results157 rfl () (SubL.eq ?_) (List.nil_sublist _)
 rfl
theorem qk8 (b:Nat) {G0 G1 G2 G3 G4 G6 G7 G8 G9 G10 G11 G12 G13 G15 G16 G17 G18 G19 G20 G21 G22 G23 G24 G25:VP} {sn:Bool} {cs:List Int} (ls:List Int) (hs:sn=false) (hl:cs.length+ls.length≤100000):FnX Tryz.prog 178 [Is (.pointer (some ⟨b,0,none⟩)),IsSl tI64 ls] [blk b 209 [G0,G1,G2,G3,G4,Is (.bool (sn)),G6,G7,G8,G9,G10,G11,G12,G13,IsSl tI64 (cs),G15,G16,G17,G18,G19,G20,G21,G22,G23,G24,G25]] (fun cc:List Int=>cc.length≤cs.length+ls.length) (fun _=>qbu []) (fun cc=>[blk b 209 [G0,G1,G2,G3,G4,Is (.bool (sn)),G6,G7,G8,G9,G10,G11,G12,G13,IsSl tI64 (cc),G15,G16,G17,G18,G19,G20,G21,G22,G23,G24,G25]]):=by
 refine Fn.enterB func178 ntmps178 rfl rfl ?_
 intro c hX hbelow
 refine t6 ?_
 refine qav [(0,_),(1,_)] [] (fun y:Nat×(List Int)=>y.1≤(ls).length∧(y.2.length≤cs.length+y.1)) (fun y=>[(4,Is (.int .i64 (y.1:Nat)))]) (fun y=>[blk b 209 [G0,G1,G2,G3,G4,Is (.bool (sn)),G6,G7,G8,G9,G10,G11,G12,G13,IsSl tI64 (y.2),G15,G16,G17,G18,G19,G20,G21,G22,G23,G24,G25]]) (fun y=>(ls).length-y.1) (0,cs) ?_ qaj qab ?_
 ·exact ⟨by exact Nat.zero_le _,Nat.le_refl _⟩
 rintro ⟨k,cc⟩ ⟨hk,hI⟩
 dsimp only at hk hI ⊢
 refine t17 ?_
 refine cN ?_ ?_ <;> intro h1
 ·rw [Bool.and_eq_true] at h1
  have hlt:k<ls.length:=by have:=of_decide_eq_true h1.1;omega
  obtain ⟨z,hz⟩:∃ q,ls[k]?=some q:=⟨_,List.getElem?_eq_getElem hlt⟩
  clear h1
  refine t4 ?_
  refine qaz rfl (by kernel_rfl) ?_
  refine qaf 12 (by kernel_rfl) ?_
  refine t9 ?_
  refine qbh (by ((refine qad call66 (qiz cc z ?_) ⟨qaq,⟨qaq,trivial⟩⟩);all_goals (omega))) ?_
  refine t2 ?_
  refine ⟨rfl,?_⟩
  refine qeb (by kernel_rfl) rfl (qas (er rfl) (er rfl) qag qae qbm rf rf rf) ?_
  refine qar ?_
  refine t7 ?_
  refine qaa (k+1,_) ?_ ?_ qaj qab
  ·exact ⟨by omega,Nat.le_trans (qhe _ _) (by omega)⟩
  ·exact (by omega)
 have hke:k=ls.length:=by
  rw [hs] at h1
  have:¬ (k:Int)<ls.length:=by simpa using h1
  omega
 clear h1
 subst hke
 refine t5 ?_
 refine qat (Bs:=[]) _ ?_ rfl results178 trivial qab
 exact hI
theorem PageR_ok (B0 b:Nat) {G0 G1 G2 G3 G4 G5 G6 G7 G8 G9 G10 G11 G14 G16 G17 G18 G19 G20 G21 G22 G23 G24 G25:VP} {ks w:List Pg} {nd:List Int} (line:Int) (hr:ks.length+w.length≤400000) (hn:nd.length≤1000) (hl:-1≤line∧line≤255):FnX Tryz.prog 116 [Is (.pointer (some ⟨b,0,none⟩)),Is (.int .i64 line)] [blk b 209 [G0,G1,G2,G3,G4,G5,G6,G7,G8,G9,G10,G11,IsSl tPg (ks),qbd B0 (IsSl tPg (w)),G14,IsSl tI64 (nd),G16,G17,G18,G19,G20,G21,G22,G23,G24,G25]] (fun i:List Int×Pg=>i.1.length≤nd.length+1∧Ln i.2) (fun i=>qcr i.2) (fun i=>[blk b 209 [G0,G1,G2,G3,G4,G5,G6,G7,G8,G9,G10,G11,IsSl tPg (ks),qbd B0 (IsSl tPg (w)),G14,IsSl tI64 (i.1),G16,G17,G18,G19,G20,G21,G22,G23,G24,G25]]):=by
 refine Fn.enterB func116 ntmps116 rfl rfl ?_
 intro c hX hbelow
 refine t3 ?_
 intro i4
 refine t5 ?_
 refine qap rfl (by ((refine qdj qgg call154 (qh1 B0 hr) ⟨qaq,trivial⟩ (qev)))) ?_
 refine s1 ?_
 refine kRF call32 (qby _ _) ?_
 refine t4 ?_
 intro i5
 refine t11 ?_
 refine cN ?_ ?_ <;> intro h2
 ·refine t7 ?_
  refine qap rfl (by ((refine qad call66 (qiz nd line ?_) ⟨qaq,⟨qaq,trivial⟩⟩);all_goals (omega))) ?_
  refine t12 ?_
  refine qat (Bs:=[_]) (_,(⟨_,_,_,_,_,_,_,_,_⟩:Pg)) ?_ rfl results116 eXF qab
  exact ⟨by exact qhe _ _,qdl _ hl⟩
 refine t9 ?_
 refine qat (Bs:=[_]) (_,(⟨_,_,_,_,_,_,_,_,_⟩:Pg)) ?_ rfl results116 eXF qab
 exact ⟨by exact Nat.le_succ _,qdl _ hl⟩
theorem qqf (B0 b:Nat) {G0 G1 G2 G3 G4 G6 G7 G8 G9 G10 G11 G17 G18 G19 G20 G21 G22 G23 G24 G25:VP} {sn:Bool} {ks w:List Pg} {cs nd:List Int} {cd:Int} (to:Pt) (key:BitVec 32) (hs:sn=false) (hr:ks.length+w.length≤400000) (hc:cs.length≤10000):FnX Tryz.prog 181 [Is (.pointer (some ⟨b,0,none⟩)),qks to,Is (.int .u32 (UV key))] [blk b 209 [G0,G1,G2,G3,G4,Is (.bool (sn)),G6,G7,G8,G9,G10,G11,IsSl tPg (ks),qbd B0 (IsSl tPg (w)),IsSl tI64 (cs),IsSl tI64 (nd),Is (.int .i64 (cd)),G17,G18,G19,G20,G21,G22,G23,G24,G25]]
  (fun i:Int×List Int×List Int×Pg×Vs=>i.2.2.1.length≤cs.length+1∧Ln i.2.2.2.1) (fun i=>qbu [qcr i.2.2.2.1,IsVs i.2.2.2.2]) (fun i=>[blk b 209 [G0,G1,G2,G3,G4,Is (.bool (sn)),G6,G7,G8,G9,G10,G11,IsSl tPg (ks),qbd B0 (IsSl tPg (w)),IsSl tI64 (i.2.2.1),IsSl tI64 (i.2.1),Is (.int .i64 (i.1)),G17,G18,G19,G20,G21,G22,G23,G24,G25]]):=by
 refine Fn.enterB func181 ntmps181 rfl rfl ?_
 intro c hX hbelow
 refine t3 ?_
 intro i4
 refine s1 ?_
 intro i6
 refine s1 ?_
 intro i7
 refine t3 ?_
 refine qaz rfl (by kernel_rfl) ?_
 refine qaf 12 (by kernel_rfl) ?_
 refine s1 ?_
 refine qbh (by ((refine qdj qgg call154 (qh1 B0 hr) ⟨qaq,trivial⟩ (qev)))) ?_
 refine s1 ?_
 refine qbh (qad call167 (qh3 _ to 1 true) ⟨qaq,⟨qaq,⟨qaq,⟨qaq,trivial⟩⟩⟩⟩) ?_
 refine t4 ?_
 refine qkq (qbl rfl qbm rfl) ?_
 refine qcy rfl rfl rfl (by kernel_rfl) (qca qaq qag rfl rfl rfl qbm) ?_
 refine t2 ?_
 refine ⟨rfl,?_⟩
 intro i8
 refine qar ?_
 refine t8 ?_
 refine cN ?_ ?_ <;> intro h2
 ·refine t19 ?_
  refine qat (Bs:=[_,_]) (_,_,_,(⟨_,_,_,_,_,_,_,_,_⟩:Pg),(⟨(⟨_,_,_,_⟩:Rw),_,_,_,(⟨_,_⟩:Pt)⟩:Vs)) ?_ rfl results181 eXF qab
  exact ⟨by exact Nat.le_succ _,qfb _ _ _ _⟩
 refine t9 ?_
 refine cN ?_ ?_ <;> intro h5
 ·refine t5 ?_
  refine qap rfl (OpP.to (qac (size:=1) (qs:=[(0,_)]) rfl rfl rfl ⟨⟨rfl,_,(er rfl),qag⟩,trivial⟩ rf rf) (SubL.row1 (T:=tI64) (x:=_) rf rf rf qak)) ?_
  refine t15 ?_
  refine qat (Bs:=[_,_]) (_,_,_,(⟨_,_,_,_,_,_,_,_,_⟩:Pg),(⟨(⟨_,_,_,_⟩:Rw),_,_,_,(⟨_,_⟩:Pt)⟩:Vs)) ?_ rfl results181 eXF qab
  exact ⟨by exact Nat.le_succ _,qfb _ _ _ _⟩
 refine t5 ?_
 refine kRF call168 (qh2 _) ?_
 (refine qgm 41 rfl ?_;intro x41)
 refine t4 ?_
 intro i11
 refine t18 ?_
 refine cN ?_ ?_ <;> intro h9
 ·refine t18 ?_
  refine qat (Bs:=[_,_]) (_,_,_,(⟨_,_,_,_,_,_,_,_,_⟩:Pg),(⟨(⟨_,_,_,_⟩:Rw),_,_,_,(⟨_,_⟩:Pt)⟩:Vs)) ?_ rfl results181 eXF qab
  exact ⟨by exact Nat.le_succ _,qfb _ _ _ _⟩
 refine t7 ?_
 refine qap rfl (OpP.to (qac (size:=1) (qs:=[(0,_)]) rfl rfl rfl ⟨⟨rfl,_,(er rfl),qag⟩,trivial⟩ rf rf) (SubL.row1 (T:=tI64) (x:=_) rf rf rf qak)) ?_
 (refine qe5 rfl (by ((refine qci qbs call178 (qk8 b [to.line] hs ?_) ⟨qaq,⟨qaq,trivial⟩⟩);all_goals (simp;omega))) ?_;intro x62 hx62)
 refine t3 ?_
 refine qaz rfl (by kernel_rfl) ?_
 refine qc0 (it:=blk i7 _ _) (by repeat (first|exact Drop1.here _ _|apply Drop1.next)) ?_
 refine qc0 (it:=blk i6 _ _) (by repeat (first|exact Drop1.here _ _|apply Drop1.next)) ?_
 refine qc3 (its:=[_,_]) 4 (by kernel_rfl) ?_
 refine t2 ?_
 refine qcz (s:=65) rfl rfl rfl (by kernel_rfl) (fun c'=>by exact qa2 (er rfl) (er rfl) qag qae rf rf rf) ?_
 refine qcz (s:=66) rfl rfl rfl (by kernel_rfl) (fun c'=>by exact qa2 (er rfl) (er rfl) qag qae rf rf rf) ?_
 refine ⟨rfl,?_⟩
 intro _ _
 refine qar ?_
 refine t2 ?_
 refine qat (Bs:=[_,_]) (_,_,_,(⟨_,_,_,_,_,_,_,_,_⟩:Pg),(⟨(⟨_,_,_,_⟩:Rw),_,_,_,(⟨_,_⟩:Pt)⟩:Vs)) ?_ rfl results181 eXF qab
 exact ⟨by exact hx62,qfb _ _ _ _⟩
theorem qmb (B0 b:Nat) {G1 G3 G4 G5 G6 G7 G8 G9 G10 G11 G14 G17 G18 G20 G21 G22 G23 G24 G25:VP} {ocl oln owt cd:Int} {ks w:List Pg} {nd:List Int} (cnt:Int) (n:Nat) (hB:B0≤b) (hr:ks.length+w.length≤9000) (hw:WL n w) (hst:stpB nd cd=false):FnX Tryz.prog 184 [Is (.pointer (some ⟨b,0,none⟩)),Is (.int .i64 cnt)] [blk b 209 [Is (.int .i64 (ocl)),G1,Is (.int .i64 (oln)),G3,G4,G5,G6,G7,G8,G9,G10,G11,IsSl tPg (ks),qbd B0 (IsSl tPg (w)),G14,IsSl tI64 (nd),Is (.int .i64 (cd)),G17,G18,Is (.int .i64 (owt)),G20,G21,G22,G23,G24,G25]]
  (fun i:List Int×Int×List Pg×Int×List Pg=>WL (n+12) i.2.2.1∧(stpB i.1 i.2.1=false→(i.2.2.2.2.length:Int)=cnt)) (fun i=>IsSl tPg i.2.2.2.2) (fun i=>[blk b 209 [Is (.int .i64 (ocl)),G1,Is (.int .i64 (oln)),G3,G4,G5,G6,G7,G8,G9,G10,G11,IsSl tPg (ks),qbd B0 (IsSl tPg (i.2.2.1)),G14,IsSl tI64 (i.1),Is (.int .i64 (i.2.1)),G17,G18,Is (.int .i64 (i.2.2.2.1)),G20,G21,G22,G23,G24,G25]]):=by
 obtain ⟨hn0,hc0⟩:=qsz hst
 have hvl:=qah ks w
 refine Fn.enterB func184 ntmps184 rfl rfl ?_
 intro c hX hbelow
 have hBw:B0≤c.w.heap.size:=by
  have:=hbelow b (mem_names.2 ⟨_,List.mem_cons_self ..,rfl⟩)
  omega
 refine t6 ?_
 refine qaz rfl (by kernel_rfl) ?_
 refine qfi (its:=[]) ?_
 refine f1 0 ?_
 refine f1 1 ?_
 refine f1 2 ?_
 refine f1 3 ?_
 refine f1 4 ?_
 refine f1 5 ?_
 refine f1 6 ?_
 refine f1 7 ?_
 refine f1 8 ?_
 refine f1 9 ?_
 refine f1 10 ?_
 refine f1 11 ?_
 refine qkr 12 rfl (by kernel_rfl) (by ((refine qdj qgg call154 (qh1 B0 ?_) ⟨qaq,trivial⟩ (qev));all_goals (omega))) ?_
 refine qne 14 rfl (by kernel_rfl) (fun _=>(qbl rfl qbm rfl)) ?_
 (refine zay 13 [0,1,2,3,4,5,6,7,8,9,10,11,12,13] rfl (by kernel_rfl) (by ((refine qad call172 (qj1 (qb7 ks w) _ _ cnt ?_) ⟨qaq,⟨qaq,⟨qaq,⟨qaq,trivial⟩⟩⟩⟩);all_goals (omega))) ?_;intro x19 hx19)
 (refine qgr 5 14 (by kernel_rfl) rfl rfl ?_;intro i5)
 refine qe6 15 [0,1,2,3,4,5,6,7,8,9,10,11,12,13,14,15] rfl (by kernel_rfl) (fun c'=>by exact qa2 (er rfl) (er rfl) qag qae rf rf rf) ?_
 refine qd0 (by kernel_rfl) rfl ?_
 show JQ _ _ _ _ _ _
 refine t3 ?_
 obtain ⟨ha1,ha2,ha3,ha4⟩:=hx19
 have ha5:=ha1.1
 have hw1:=hw.1
 refine t6 ?_
 refine cN ?_ ?_ <;> intro h2
 ·have hov:x19.over=false:=by simpa using h2
  have hne:=ha3 hov
  refine t17 ?_
  refine qao (b:=b) (As':=[Is (.int .i64 (_)),G1,Is (.int .i64 (_)),G3,G4,G5,G6,G7,G8,G9,G10,G11,IsSl tPg (_),qbd B0 (IsSl tPg (_)),G14,IsSl tI64 (_),Is (.int .i64 (_)),G17,G18,Is (.int .i64 (_)),G20,G21,G22,G23,G24,G25]) qae qbf ?_
  refine qat (Bs:=[_]) (_,_,_,_,_) ?_ rfl results184 eXF qab
  exact ⟨hw.mono (by omega),fun h=>by
 have h8:=qsz h
 first
 | exact absurd h8.1 hne
 | exact absurd h8.2 hce⟩
 have hov:x19.over=true:=by simpa using h2
 refine t10 ?_
 refine cN ?_ ?_ <;> intro h5
 ·have hce:x19.code≠0:=by simpa using h5
  refine t18 ?_
  refine cN ?_ ?_ <;> intro h7
  ·refine t15 ?_
   refine qao (b:=b) (As':=[Is (.int .i64 (_)),G1,Is (.int .i64 (_)),G3,G4,G5,G6,G7,G8,G9,G10,G11,IsSl tPg (_),qbd B0 (IsSl tPg (_)),G14,IsSl tI64 (_),Is (.int .i64 (_)),G17,G18,Is (.int .i64 (_)),G20,G21,G22,G23,G24,G25]) qae qbf ?_
   refine qat (Bs:=[_]) (_,_,_,_,_) ?_ rfl results184 eXF qab
   exact ⟨hw.mono (by omega),fun h=>by
 have h8:=qsz h
 first
 | exact absurd h8.1 hne
 | exact absurd h8.2 hce⟩
  refine t9 ?_
  refine qao (b:=b) (As':=[Is (.int .i64 (_)),G1,Is (.int .i64 (_)),G3,G4,G5,G6,G7,G8,G9,G10,G11,IsSl tPg (_),qbd B0 (IsSl tPg (_)),G14,IsSl tI64 (_),Is (.int .i64 (_)),G17,G18,Is (.int .i64 (_)),G20,G21,G22,G23,G24,G25]) qae qbf ?_
  refine qat (Bs:=[_]) (_,_,_,_,_) ?_ rfl results184 eXF qab
  exact ⟨hw.mono (by omega),fun h=>by
 have h8:=qsz h
 first
 | exact absurd h8.1 hne
 | exact absurd h8.2 hce⟩
 have hce:x19.code=0:=by simpa using h5
 refine t3 ?_
 refine qaz rfl (by kernel_rfl) ?_
 refine qaf 10 (by kernel_rfl) ?_
 refine t7 ?_
 refine qbh (by ((refine qaw call72 (qcf _ _ ?_) ⟨qaq,⟨qaq,trivial⟩⟩);all_goals (omega))) ?_
 refine t2 ?_
 refine ⟨rfl,?_⟩
 refine qeb (by kernel_rfl) rfl (qas (er rfl) (er rfl) qag qae qbm rf rf rf) ?_
 refine qar ?_
 refine t9 ?_
 refine qao (b:=b) (As':=[Is (.int .i64 (_)),G1,Is (.int .i64 (_)),G3,G4,G5,G6,G7,G8,G9,G10,G11,IsSl tPg (_),qbd B0 (IsSl tPg (_)),G14,IsSl tI64 (_),Is (.int .i64 (_)),G17,G18,Is (.int .i64 (_)),G20,G21,G22,G23,G24,G25]) qae qbf ?_
 refine qat (Bs:=[_]) (_,_,_,_,_) ?_ rfl results184 eXF qab
 exact ⟨qgn hw ha1 (Nat.le_refl _),fun _=>ha2 hov hce⟩
theorem LocR_ok (B0 b:Nat) (r:Run31) (key:BitVec 32) (acc:Int) (n:Nat) (hn:n≤5000) (hr:RI n r):FnX Tryz.prog 156 [Is (.pointer (some ⟨b,0,none⟩)),Is (.int .u32 (UV key)),Is (.int .i64 acc)] [blk b 209 [Is (.int .i64 r.job.client),Is (.int .i64 r.job.seq),Is (.int .i64 r.job.lines),IsSl tSt29 r.job.program,IsSl tI64 r.job.access,Is (.bool r.job.snapshot),Is (.int .u64 (UV r.job.vector0)),Is (.int .u64 (UV r.job.vector1)),Is (.int .u64 (UV r.job.vector2)),Is (.int .u64 (UV r.job.vector3)),Is (.int .u64 (UV r.job.vector4)),Is (.int .u64 (UV r.job.vector5)),IsSl tPg r.known,qbd B0 (IsSl tPg r.w),IsSl tI64 r.c,IsSl tI64 r.need,Is (.int .i64 r.code),Is (.int .i64 r.out.code),Is (.int .i64 r.out.statement),Is (.int .i64 r.out.want),IsSl tRs29 r.out.results,Is (.slice none 0 0),Is (.bool r.out.hint),Is (.bool r.out.deep),Is (.bool r.out.unposted),Is (.bool r.out.dead)]]
  (fun i:Run31×Fd31=>RI (n+302) i.1∧Ln i.2.page) (fun i=>IsFd31 i.2) (fun i=>[blk b 209 [Is (.int .i64 i.1.job.client),Is (.int .i64 i.1.job.seq),Is (.int .i64 i.1.job.lines),IsSl tSt29 i.1.job.program,IsSl tI64 i.1.job.access,Is (.bool i.1.job.snapshot),Is (.int .u64 (UV i.1.job.vector0)),Is (.int .u64 (UV i.1.job.vector1)),Is (.int .u64 (UV i.1.job.vector2)),Is (.int .u64 (UV i.1.job.vector3)),Is (.int .u64 (UV i.1.job.vector4)),Is (.int .u64 (UV i.1.job.vector5)),IsSl tPg i.1.known,qbd B0 (IsSl tPg i.1.w),IsSl tI64 i.1.c,IsSl tI64 i.1.need,Is (.int .i64 i.1.code),Is (.int .i64 i.1.out.code),Is (.int .i64 i.1.out.statement),Is (.int .i64 i.1.out.want),IsSl tRs29 i.1.out.results,Is (.slice none 0 0),Is (.bool i.1.out.hint),Is (.bool i.1.out.deep),Is (.bool i.1.out.unposted),Is (.bool i.1.out.dead)]]):=by
 have hvw:=hr.vw
 obtain ⟨hs,hks,hw,hc⟩:=hr
 have hwl:=hw.1
 have hvv:r.known.length+r.w.length≤400000:=by omega
 refine Fn.enterB func156 ntmps156 rfl rfl ?_
 intro c hX hbelow
 refine t3 ?_
 intro i6
 refine t6 ?_
 intro i7
 refine t6 ?_
 intro i8
 refine t9 ?_
 refine cN ?_ ?_ <;> intro h3
 ·refine t5 ?_
  refine qap rfl (by ((refine qdj qgg call154 (qh1 B0 hvv) ⟨qaq,trivial⟩ (qev)))) ?_
  refine qap rfl (qaw call169 (qhj _ _ (⟨_,_⟩:Pt) _ _) ⟨qbc,⟨qbc,⟨qbc,⟨qbc,⟨qbc,trivial⟩⟩⟩⟩⟩) ?_
  (refine qa5 18 rfl ?_;intro x18 hx18)
  refine s1 ?_
  intro i9
  refine t5 ?_
  obtain ⟨hp1,hp2,hp3⟩:=hx18
  have hcc:r.c.length+x18.out.check.length≤100000:=by omega
  refine t6 ?_
  refine cN ?_ ?_ <;> intro h5
  ·refine t19 ?_
   refine qdb (B0:=B0) (b:=b) ?_
   refine qat (Bs:=[_]) ((⟨⟨_,_,_,_,_,_,_,_,_,_,_,_⟩,_,_,_,_,_,⟨_,_,_,_,[],_,_,_,_⟩⟩:Run31),(⟨_,(⟨_,_,_,_,_,_,_,_,_⟩:Pg),(⟨(⟨_,_,_,_⟩:Rw),_,_,_,(⟨_,_⟩:Pt)⟩:Vs),_⟩:Fd31)) ?_ rfl results156 eXF qab (hD0:=hX.2)
   exact ⟨⟨hs,hks,hw.mono (by omega),by exact Nat.le_trans hc (by omega)⟩,by exact ln0⟩
  refine t11 ?_
  refine cN ?_ ?_ <;> intro h8
  ·refine t20 ?_
   refine qdb (B0:=B0) (b:=b) ?_
   refine qat (Bs:=[_]) ((⟨⟨_,_,_,_,_,_,_,_,_,_,_,_⟩,_,_,_,_,_,⟨_,_,_,_,[],_,_,_,_⟩⟩:Run31),(⟨_,(⟨_,_,_,_,_,_,_,_,_⟩:Pg),(⟨(⟨_,_,_,_⟩:Rw),_,_,_,(⟨_,_⟩:Pt)⟩:Vs),_⟩:Fd31)) ?_ rfl results156 eXF qab (hD0:=hX.2)
   exact ⟨⟨hs,hks,hw.mono (by omega),by exact Nat.le_trans hc (by omega)⟩,by exact ln0⟩
  refine t3 ?_
  refine qer (b:=i9) qae (qko hX) ?_
  refine qb0 9 (qc4 ((qo6 c.w.heap.size).cells x18)) rfl (SubL.fact qbw) ?_
  refine qaz rfl (by kernel_rfl) ?_
  refine qfi (its:=[]) ?_
  refine f1 0 ?_
  refine qfz 1 rfl (by kernel_rfl) (fun _=>(qbb rfl)) ?_
  refine f1 2 ?_
  refine f1 3 ?_
  refine f1 4 ?_
  refine f1 5 ?_
  refine f1 6 ?_
  refine f1 7 ?_
  (refine qnf 8 rfl (by kernel_rfl) rfl rfl (fun hg=>(by have hg0:=hg;(try simp at hg);exact qa0 (k:=2) evG rfl rfl rfl rfl qbm)) ?_)
  (refine qnf 9 rfl (by kernel_rfl) rfl rfl (fun hg=>(by have hg0:=hg;(try simp at hg);exact qa0 (k:=4) evG rfl rfl rfl rfl qbm)) ?_)
  (refine qnf 10 rfl (by kernel_rfl) rfl rfl (fun hg=>(by have hg0:=hg;(try simp at hg);exact qbx evG rfl rfl rfl)) ?_)
  refine qkr 11 rfl (by kernel_rfl) (qo7 (er rfl) rfl (fun h=>by exact SubL.iteT (by (rw [h];rfl)) SubL.rfl')) ?_
  refine f1 12 ?_
  refine f1 13 ?_
  refine f1 14 ?_
  refine f1 15 ?_
  refine f1 16 ?_
  refine f1 17 ?_
  (refine qi2 18 rfl (by kernel_rfl) rfl rfl (fun _ hg=>(by have hg0:=hg;(try simp at hg);exact qa0 (k:=2) evG rfl rfl rfl rfl qbm)) ?_)
  (refine qi2 19 rfl (by kernel_rfl) rfl rfl (fun _ hg=>(by have hg0:=hg;(try simp at hg);exact qa0 (k:=5) evG rfl rfl rfl rfl qbm)) ?_)
  (refine qi2 20 rfl (by kernel_rfl) rfl rfl (fun _ hg=>(by have hg0:=hg;(try simp at hg);exact qbx evG rfl rfl rfl)) ?_)
  refine qfz 21 rfl (by kernel_rfl) (fun _=>(qo7 (er rfl) rfl (fun h=>by exact SubL.iteT (by (rw [h];rfl)) SubL.rfl'))) ?_
  refine f1 22 ?_
  refine f1 23 ?_
  refine f1 24 ?_
  refine qe6 25 [0,2,3,4,5,6,7,8,9,10,11,12,13,14,15,16,17,22,23,24,25] rfl (by kernel_rfl) (fun c'=>by exact qa2 (er rfl) (er rfl) qag qae rf rf rf) ?_
  refine f1 26 ?_
  refine f1 27 ?_
  refine f1 28 ?_
  refine qe6 29 [0,1,2,3,4,5,6,7,8,9,10,11,12,13,14,15,16,17,18,19,20,21,22,23,24,25,26,27,28,29] rfl (by kernel_rfl) (fun c'=>by exact qa2 (er rfl) (er rfl) qag qae rf rf rf) ?_
  refine qd0 (by kernel_rfl) rfl ?_
  show JQ _ _ _ _ _ _
  refine t7 ?_
  (refine qe5 rfl (qci qbs call178 (qk8 b _ hs hcc) ⟨qaq,⟨qaq,trivial⟩⟩) ?_;intro x71 hx71)
  refine t2 ?_
  have hc2:x71.length≤n+301:=Nat.le_trans hx71 (show r.c.length+x18.out.check.length≤n+301 by omega)
  have hc3:x71.length≤10000:=by omega
  refine qaz rfl (by kernel_rfl) ?_
  refine qc0 (it:=blk i8 _ _) (by repeat (first|exact Drop1.here _ _|apply Drop1.next)) ?_
  refine qc0 (it:=blk i7 _ _) (by repeat (first|exact Drop1.here _ _|apply Drop1.next)) ?_
  refine qc3 (its:=[_,_]) 9 (by kernel_rfl) ?_
  refine t7 ?_
  refine qcz (s:=178) rfl rfl rfl (by kernel_rfl) (fun c'=>by exact qa2 (er rfl) (er rfl) qag qae rf rf rf) ?_
  refine qcz (s:=179) rfl rfl rfl (by kernel_rfl) (fun c'=>by exact qa2 (er rfl) (er rfl) qag qae rf rf rf) ?_
  refine ⟨rfl,?_⟩
  intro _ _
  refine qar ?_
  refine t9 ?_
  refine cN ?_ ?_ <;> intro h24
  ·refine t8 ?_
   refine qdb (B0:=B0) (b:=b) ?_
   refine qat (Bs:=[_]) ((⟨⟨_,_,_,_,_,_,_,_,_,_,_,_⟩,_,_,_,_,_,⟨_,_,_,_,[],_,_,_,_⟩⟩:Run31),(⟨_,(⟨_,_,_,_,_,_,_,_,_⟩:Pg),(⟨(⟨_,_,_,_⟩:Rw),_,_,_,(⟨_,_⟩:Pt)⟩:Vs),_⟩:Fd31)) ?_ rfl results156 eXF qab (hD0:=hX.2)
   exact ⟨⟨hs,hks,hw.mono (by omega),by exact Nat.le_trans hc2 (by omega)⟩,by exact ln0⟩
  refine t12 ?_
  refine cN ?_ ?_ <;> intro h26
  ·exact absurd h26 (by rw [hs];decide)
  refine t7 ?_
  (refine qe5 rfl (qci qbs call181 (qqf B0 b (⟨_,_⟩:Pt) _ hs hvv hc3) ⟨qbc,⟨qbc,⟨qbc,trivial⟩⟩⟩) ?_;intro x167 hx167)
  refine t10 ?_
  obtain ⟨hq1,hq2⟩:=hx167
  have hc4:x167.2.2.1.length≤n+302:=Nat.le_trans hq1 (Nat.succ_le_succ hc2)
  refine t16 ?_
  refine qdb (B0:=B0) (b:=b) ?_
  refine qat (Bs:=[_]) ((⟨⟨_,_,_,_,_,_,_,_,_,_,_,_⟩,_,_,_,_,_,⟨_,_,_,_,[],_,_,_,_⟩⟩:Run31),(⟨_,(⟨_,_,_,_,_,_,_,_,_⟩:Pg),(⟨(⟨_,_,_,_⟩:Rw),_,_,_,(⟨_,_⟩:Pt)⟩:Vs),_⟩:Fd31)) ?_ rfl results156 eXF qab (hD0:=hX.2)
  exact ⟨⟨hs,hks,hw.mono (by omega),by exact hc4⟩,by exact hq2⟩
 refine t5 ?_
 refine qap rfl (by ((refine qdj qgg call154 (qh1 B0 hvv) ⟨qaq,trivial⟩ (qev)))) ?_
 refine qap rfl (qaw call166 (qgk (⟨_,_,_,(⟨_,_⟩:Pt),_,_,_⟩:Op24) _) ⟨qbc,⟨qbc,trivial⟩⟩) ?_
 (refine qa5 83 rfl ?_;intro x83 hx83)
 refine s1 ?_
 intro i10
 refine t5 ?_
 obtain ⟨hp1,hp2,hp3⟩:=hx83
 have hcc:r.c.length+x83.out.check.length≤100000:=by omega
 refine t6 ?_
 refine cN ?_ ?_ <;> intro h15
 ·refine t19 ?_
  refine qdb (B0:=B0) (b:=b) ?_
  refine qat (Bs:=[_]) ((⟨⟨_,_,_,_,_,_,_,_,_,_,_,_⟩,_,_,_,_,_,⟨_,_,_,_,[],_,_,_,_⟩⟩:Run31),(⟨_,(⟨_,_,_,_,_,_,_,_,_⟩:Pg),(⟨(⟨_,_,_,_⟩:Rw),_,_,_,(⟨_,_⟩:Pt)⟩:Vs),_⟩:Fd31)) ?_ rfl results156 eXF qab (hD0:=hX.2)
  exact ⟨⟨hs,hks,hw.mono (by omega),by exact Nat.le_trans hc (by omega)⟩,by exact ln0⟩
 refine t11 ?_
 refine cN ?_ ?_ <;> intro h18
 ·refine t20 ?_
  refine qdb (B0:=B0) (b:=b) ?_
  refine qat (Bs:=[_]) ((⟨⟨_,_,_,_,_,_,_,_,_,_,_,_⟩,_,_,_,_,_,⟨_,_,_,_,[],_,_,_,_⟩⟩:Run31),(⟨_,(⟨_,_,_,_,_,_,_,_,_⟩:Pg),(⟨(⟨_,_,_,_⟩:Rw),_,_,_,(⟨_,_⟩:Pt)⟩:Vs),_⟩:Fd31)) ?_ rfl results156 eXF qab (hD0:=hX.2)
  exact ⟨⟨hs,hks,hw.mono (by omega),by exact Nat.le_trans hc (by omega)⟩,by exact ln0⟩
 refine t3 ?_
 refine qer (b:=i10) qae (qko hX) ?_
 refine qb0 10 (qc4 ((qsw c.w.heap.size).cells x83)) rfl (SubL.fact qbw) ?_
 refine qaz rfl (by kernel_rfl) ?_
 refine qfi (its:=[]) ?_
 refine f1 0 ?_
 refine qfz 1 rfl (by kernel_rfl) (fun _=>(qbb rfl)) ?_
 refine f1 2 ?_
 refine f1 3 ?_
 refine f1 4 ?_
 refine f1 5 ?_
 refine f1 6 ?_
 refine f1 7 ?_
 (refine qnf 8 rfl (by kernel_rfl) rfl rfl (fun hg=>(by have hg0:=hg;(try simp at hg);exact qa0 (k:=2) evG rfl rfl rfl rfl qbm)) ?_)
 (refine qnf 9 rfl (by kernel_rfl) rfl rfl (fun hg=>(by have hg0:=hg;(try simp at hg);exact qa0 (k:=4) evG rfl rfl rfl rfl qbm)) ?_)
 (refine qnf 10 rfl (by kernel_rfl) rfl rfl (fun hg=>(by have hg0:=hg;(try simp at hg);exact qbx evG rfl rfl rfl)) ?_)
 refine qkr 11 rfl (by kernel_rfl) (qo7 (er rfl) rfl (fun h=>by exact SubL.iteT (by (rw [h];rfl)) SubL.rfl')) ?_
 refine f1 12 ?_
 refine f1 13 ?_
 refine f1 14 ?_
 refine f1 15 ?_
 refine f1 16 ?_
 refine f1 17 ?_
 (refine qi2 18 rfl (by kernel_rfl) rfl rfl (fun _ hg=>(by have hg0:=hg;(try simp at hg);exact qa0 (k:=2) evG rfl rfl rfl rfl qbm)) ?_)
 (refine qi2 19 rfl (by kernel_rfl) rfl rfl (fun _ hg=>(by have hg0:=hg;(try simp at hg);exact qa0 (k:=5) evG rfl rfl rfl rfl qbm)) ?_)
 (refine qi2 20 rfl (by kernel_rfl) rfl rfl (fun _ hg=>(by have hg0:=hg;(try simp at hg);exact qbx evG rfl rfl rfl)) ?_)
 refine qfz 21 rfl (by kernel_rfl) (fun _=>(qo7 (er rfl) rfl (fun h=>by exact SubL.iteT (by (rw [h];rfl)) SubL.rfl'))) ?_
 refine f1 22 ?_
 refine f1 23 ?_
 refine f1 24 ?_
 refine qe6 25 [0,2,3,4,5,6,7,8,9,10,11,12,13,14,15,16,17,22,23,24,25] rfl (by kernel_rfl) (fun c'=>by exact qa2 (er rfl) (er rfl) qag qae rf rf rf) ?_
 refine f1 26 ?_
 refine f1 27 ?_
 refine f1 28 ?_
 refine qe6 29 [0,1,2,3,4,5,6,7,8,9,10,11,12,13,14,15,16,17,18,19,20,21,22,23,24,25,26,27,28,29] rfl (by kernel_rfl) (fun c'=>by exact qa2 (er rfl) (er rfl) qag qae rf rf rf) ?_
 refine qd0 (by kernel_rfl) rfl ?_
 show JQ _ _ _ _ _ _
 refine t7 ?_
 (refine qe5 rfl (qci qbs call178 (qk8 b _ hs hcc) ⟨qaq,⟨qaq,trivial⟩⟩) ?_;intro x136 hx136)
 refine t2 ?_
 have hc2:x136.length≤n+301:=Nat.le_trans hx136 (show r.c.length+x83.out.check.length≤n+301 by omega)
 have hc3:x136.length≤10000:=by omega
 refine qaz rfl (by kernel_rfl) ?_
 refine qc0 (it:=blk i8 _ _) (by repeat (first|exact Drop1.here _ _|apply Drop1.next)) ?_
 refine qc0 (it:=blk i7 _ _) (by repeat (first|exact Drop1.here _ _|apply Drop1.next)) ?_
 refine qc3 (its:=[_,_]) 9 (by kernel_rfl) ?_
 refine t7 ?_
 refine qcz (s:=178) rfl rfl rfl (by kernel_rfl) (fun c'=>by exact qa2 (er rfl) (er rfl) qag qae rf rf rf) ?_
 refine qcz (s:=179) rfl rfl rfl (by kernel_rfl) (fun c'=>by exact qa2 (er rfl) (er rfl) qag qae rf rf rf) ?_
 refine ⟨rfl,?_⟩
 intro _ _
 refine qar ?_
 refine t9 ?_
 refine cN ?_ ?_ <;> intro h24
 ·refine t8 ?_
  refine qdb (B0:=B0) (b:=b) ?_
  refine qat (Bs:=[_]) ((⟨⟨_,_,_,_,_,_,_,_,_,_,_,_⟩,_,_,_,_,_,⟨_,_,_,_,[],_,_,_,_⟩⟩:Run31),(⟨_,(⟨_,_,_,_,_,_,_,_,_⟩:Pg),(⟨(⟨_,_,_,_⟩:Rw),_,_,_,(⟨_,_⟩:Pt)⟩:Vs),_⟩:Fd31)) ?_ rfl results156 eXF qab (hD0:=hX.2)
  exact ⟨⟨hs,hks,hw.mono (by omega),by exact Nat.le_trans hc2 (by omega)⟩,by exact ln0⟩
 refine t12 ?_
 refine cN ?_ ?_ <;> intro h26
 ·exact absurd h26 (by rw [hs];decide)
 refine t7 ?_
 (refine qe5 rfl (qci qbs call181 (qqf B0 b (⟨_,_⟩:Pt) _ hs hvv hc3) ⟨qbc,⟨qbc,⟨qbc,trivial⟩⟩⟩) ?_;intro x167 hx167)
 refine t10 ?_
 obtain ⟨hq1,hq2⟩:=hx167
 have hc4:x167.2.2.1.length≤n+302:=Nat.le_trans hq1 (Nat.succ_le_succ hc2)
 refine t16 ?_
 refine qdb (B0:=B0) (b:=b) ?_
 refine qat (Bs:=[_]) ((⟨⟨_,_,_,_,_,_,_,_,_,_,_,_⟩,_,_,_,_,_,⟨_,_,_,_,[],_,_,_,_⟩⟩:Run31),(⟨_,(⟨_,_,_,_,_,_,_,_,_⟩:Pg),(⟨(⟨_,_,_,_⟩:Rw),_,_,_,(⟨_,_⟩:Pt)⟩:Vs),_⟩:Fd31)) ?_ rfl results156 eXF qab (hD0:=hX.2)
 exact ⟨⟨hs,hks,hw.mono (by omega),by exact hc4⟩,by exact hq2⟩
theorem za1 (B0 b:Nat) (r:Run31) (key:BitVec 32) (to:Pt) (n:Nat) (hB:B0≤b) (hn:n≤5000) (hr:RI n r) (hst:stp r=false):FnX Tryz.prog 188 [Is (.pointer (some ⟨b,0,none⟩)),Is (.int .u32 (UV key)),qks to] [blk b 209 [Is (.int .i64 r.job.client),Is (.int .i64 r.job.seq),Is (.int .i64 r.job.lines),IsSl tSt29 r.job.program,IsSl tI64 r.job.access,Is (.bool r.job.snapshot),Is (.int .u64 (UV r.job.vector0)),Is (.int .u64 (UV r.job.vector1)),Is (.int .u64 (UV r.job.vector2)),Is (.int .u64 (UV r.job.vector3)),Is (.int .u64 (UV r.job.vector4)),Is (.int .u64 (UV r.job.vector5)),IsSl tPg r.known,qbd B0 (IsSl tPg r.w),IsSl tI64 r.c,IsSl tI64 r.need,Is (.int .i64 r.code),Is (.int .i64 r.out.code),Is (.int .i64 r.out.statement),Is (.int .i64 r.out.want),IsSl tRs29 r.out.results,Is (.slice none 0 0),Is (.bool r.out.hint),Is (.bool r.out.deep),Is (.bool r.out.unposted),Is (.bool r.out.dead)]]
  (fun i:Run31×Bool=>RI (n+16) i.1) (fun i=>Is (.bool i.2)) (fun i=>[blk b 209 [Is (.int .i64 i.1.job.client),Is (.int .i64 i.1.job.seq),Is (.int .i64 i.1.job.lines),IsSl tSt29 i.1.job.program,IsSl tI64 i.1.job.access,Is (.bool i.1.job.snapshot),Is (.int .u64 (UV i.1.job.vector0)),Is (.int .u64 (UV i.1.job.vector1)),Is (.int .u64 (UV i.1.job.vector2)),Is (.int .u64 (UV i.1.job.vector3)),Is (.int .u64 (UV i.1.job.vector4)),Is (.int .u64 (UV i.1.job.vector5)),IsSl tPg i.1.known,qbd B0 (IsSl tPg i.1.w),IsSl tI64 i.1.c,IsSl tI64 i.1.need,Is (.int .i64 i.1.code),Is (.int .i64 i.1.out.code),Is (.int .i64 i.1.out.statement),Is (.int .i64 i.1.out.want),IsSl tRs29 i.1.out.results,Is (.slice none 0 0),Is (.bool i.1.out.hint),Is (.bool i.1.out.deep),Is (.bool i.1.out.unposted),Is (.bool i.1.out.dead)]]):=by
 have hvw:=hr.vw
 obtain ⟨hs,hks,hw,hc⟩:=hr
 have hwl:=hw.1
 have hvv:r.known.length+r.w.length≤400000:=by omega
 have hv9:r.known.length+r.w.length≤9000:=by omega
 refine Fn.enterB func188 ntmps188 rfl rfl ?_
 intro c hX hbelow
 have hBw:B0≤c.w.heap.size:=by
  have:=hbelow b (mem_names.2 ⟨_,List.mem_cons_self ..,rfl⟩)
  omega
 refine t3 ?_
 intro i5
 refine t4 ?_
 refine qaz rfl (by kernel_rfl) ?_
 refine qfi (its:=[]) ?_
 refine f1 0 ?_
 refine f1 1 ?_
 refine f1 2 ?_
 refine qkr 3 rfl (by kernel_rfl) (by ((refine qdj qgg call154 (qh1 B0 hvv) ⟨qaq,trivial⟩ (qev)))) ?_
 refine qne 5 rfl (by kernel_rfl) (fun _=>(qbl rfl qbm rfl)) ?_
 (refine zay 4 [0,1,2,3,4] rfl (by kernel_rfl) (qaw call169 (qhj _ _ (⟨_,_⟩:Pt) _ _) ⟨qbc,⟨qbc,⟨qbc,⟨qbc,⟨qbc,trivial⟩⟩⟩⟩⟩) ?_;intro x13 hx13)
 (refine qgr 7 5 (by kernel_rfl) rfl rfl ?_;intro i7)
 refine qe6 6 [0,1,2,3,4,5,6] rfl (by kernel_rfl) (fun c'=>by exact qa2 (er rfl) (er rfl) qag qae rf rf rf) ?_
 refine qd0 (by kernel_rfl) rfl ?_
 show JQ _ _ _ _ _ _
 refine t3 ?_
 refine qbr (b:=i7) (As':=(qo6 c.w.heap.size).cells x13) qae qbf ?_
 have hp0:PS23 x13:=hx13
 refine t11 ?_
 refine qb1 [(0,_),(6,_),(7,_)] [] (fun yc:Run31×S23=>(yc.1.job.snapshot=false∧yc.1.known.length≤300∧WL (n+12) yc.1.w∧yc.1.c.length≤n)∧PS23 yc.2) (fun yc=>[]) (fun yc=>[blk b 209 [Is (.int .i64 yc.1.job.client),Is (.int .i64 yc.1.job.seq),Is (.int .i64 yc.1.job.lines),IsSl tSt29 yc.1.job.program,IsSl tI64 yc.1.job.access,Is (.bool yc.1.job.snapshot),Is (.int .u64 (UV yc.1.job.vector0)),Is (.int .u64 (UV yc.1.job.vector1)),Is (.int .u64 (UV yc.1.job.vector2)),Is (.int .u64 (UV yc.1.job.vector3)),Is (.int .u64 (UV yc.1.job.vector4)),Is (.int .u64 (UV yc.1.job.vector5)),IsSl tPg yc.1.known,qbd B0 (IsSl tPg yc.1.w),IsSl tI64 yc.1.c,IsSl tI64 yc.1.need,Is (.int .i64 yc.1.code),Is (.int .i64 yc.1.out.code),Is (.int .i64 yc.1.out.statement),Is (.int .i64 yc.1.out.want),IsSl tRs29 yc.1.out.results,Is (.slice none 0 0),Is (.bool yc.1.out.hint),Is (.bool yc.1.out.deep),Is (.bool yc.1.out.unposted),Is (.bool yc.1.out.dead)],blk i7 285 ((qo6 c.w.heap.size).cells yc.2)]) qaj qab ?_ ?_
 rotate_left
 focus
  refine cN ?_ ?_ <;> intro h2
  ·refine t6 ?_
   (refine qe5 rfl (qci qbs call184 (qmb B0 b _ n hB hv9 hw hst) ⟨qaq,⟨qaq,trivial⟩⟩) ?_;intro x26 hx26)
   refine t5 ?_
   obtain ⟨ha1,ha2⟩:=hx26
   have ha3:=ha1.1
   have hvv2:r.known.length+x26.2.2.1.length≤400000:=by omega
   refine t2 ?_
   refine qap rfl (by ((refine qgy qgg call157 (qe9 _ _) ⟨qaq,trivial⟩ qq2))) ?_
   refine t2 ?_
   refine cN ?_ ?_ <;> intro h4
   ·refine t8 ?_
    refine qdb (B0:=B0) (b:=b) ?_
    refine qat (Bs:=[_]) ((⟨⟨_,_,_,_,_,_,_,_,_,_,_,_⟩,_,_,_,_,_,⟨_,_,_,_,[],_,_,_,_⟩⟩:Run31),_) ?_ rfl results188 eXF qab (hD0:=hX.2)
    exact by exact ⟨hs,hks,ha1.mono (by omega),Nat.le_trans hc (by omega)⟩
   refine t2 ?_
   refine qaz rfl (by kernel_rfl) ?_
   refine qfi (its:=[]) ?_
   refine f1 0 ?_
   refine f1 1 ?_
   refine f1 2 ?_
   refine f1 3 ?_
   refine qkr 4 rfl (by kernel_rfl) (by ((refine qdj qgg call154 (qh1 B0 hvv2) ⟨qaq,trivial⟩ (qev)))) ?_
   (refine zay 5 [0,1,2,3,4,5] rfl (by kernel_rfl) (qaw call169 (qhj _ _ (⟨_,_⟩:Pt) _ _) ⟨qbc,⟨qbc,⟨qbc,⟨qbc,⟨qbc,trivial⟩⟩⟩⟩⟩) ?_;intro x34 hx34)
   refine qe6 6 [0,1,2,3,4,5,6] rfl (by kernel_rfl) (fun c'=>by exact qa2 (er rfl) (er rfl) qag qae rf rf rf) ?_
   refine qd0 (by kernel_rfl) rfl ?_
   show JQ _ _ _ _ _ _
   refine qao (b:=i7) (As':=(qo6 c.w.heap.size).cells x34) qae qbf ?_
   refine qdb (B0:=B0) (b:=b) ?_
   refine qai ((⟨⟨_,_,_,_,_,_,_,_,_,_,_,_⟩,_,_,_,_,_,⟨_,_,_,_,[],_,_,_,_⟩⟩:Run31),x34) ?_ qaj qab
   ·exact ⟨⟨hs,hks,ha1,hc⟩,hx34⟩
  refine s1 ?_
  refine qdb (B0:=B0) (b:=b) ?_
  refine qai ((⟨⟨_,_,_,_,_,_,_,_,_,_,_,_⟩,_,_,_,_,_,⟨_,_,_,_,[],_,_,_,_⟩⟩:Run31),x13) ?_ qaj qab
  ·exact ⟨⟨hs,hks,hw.mono (by omega),hc⟩,hp0⟩
 rintro ⟨q,s⟩ hI
 dsimp only at hI ⊢
 obtain ⟨⟨hs2,hks2,hw2,hc2⟩,hp1,hp2,hp3⟩:=hI
 have hw2l:=hw2.1
 have hp1l:=hp1.1
 have hcc:q.c.length+s.out.check.length≤100000:=by omega
 refine t8 ?_
 refine cN ?_ ?_ <;> intro h7
 ·refine t17 ?_
  refine qdb (B0:=B0) (b:=b) ?_
  refine qat (Bs:=[_]) ((⟨⟨_,_,_,_,_,_,_,_,_,_,_,_⟩,_,_,_,_,_,⟨_,_,_,_,[],_,_,_,_⟩⟩:Run31),_) ?_ rfl results188 eXF qab (hD0:=hX.2)
  exact by exact ⟨hs2,hks2,hw2.mono (by omega),Nat.le_trans hc2 (by omega)⟩
 refine t11 ?_
 refine cN ?_ ?_ <;> intro h10
 ·refine t21 ?_
  refine cN ?_ ?_ <;> intro h12
  ·refine t14 ?_
   refine qdb (B0:=B0) (b:=b) ?_
   refine qat (Bs:=[_]) ((⟨⟨_,_,_,_,_,_,_,_,_,_,_,_⟩,_,_,_,_,_,⟨_,_,_,_,[],_,_,_,_⟩⟩:Run31),_) ?_ rfl results188 eXF qab (hD0:=hX.2)
   exact by exact ⟨hs2,hks2,hw2.mono (by omega),Nat.le_trans hc2 (by omega)⟩
  refine t9 ?_
  refine qdb (B0:=B0) (b:=b) ?_
  refine qat (Bs:=[_]) ((⟨⟨_,_,_,_,_,_,_,_,_,_,_,_⟩,_,_,_,_,_,⟨_,_,_,_,[],_,_,_,_⟩⟩:Run31),_) ?_ rfl results188 eXF qab (hD0:=hX.2)
  exact by exact ⟨hs2,hks2,hw2.mono (by omega),Nat.le_trans hc2 (by omega)⟩
 refine t3 ?_
 refine qaz rfl (by kernel_rfl) ?_
 refine qaf 10 (by kernel_rfl) ?_
 refine t7 ?_
 refine qbh (by ((refine qaw call72 (qcf _ _ ?_) ⟨qaq,⟨qaq,trivial⟩⟩);all_goals (omega))) ?_
 refine t2 ?_
 refine ⟨rfl,?_⟩
 refine qeb (by kernel_rfl) rfl (qas (er rfl) (er rfl) qag qae qbm rf rf rf) ?_
 refine qar ?_
 refine t7 ?_
 (refine qe5 rfl (qci qbs call178 (qk8 b _ hs2 hcc) ⟨qaq,⟨qaq,trivial⟩⟩) ?_;intro x75 hx75)
 refine t3 ?_
 have hc3:x75.length≤n+1:=Nat.le_trans hx75 (show q.c.length+s.out.check.length≤n+1 by omega)
 refine qer (b:=i7) qae (qko hX) ?_
 refine qb0 7 (qc4 ((qo6 c.w.heap.size).cells s)) rfl (SubL.fact qbw) ?_
 refine qaz rfl (by kernel_rfl) ?_
 refine qfi (its:=[]) ?_
 refine f1 0 ?_
 refine qfz 1 rfl (by kernel_rfl) (fun _=>(qbb rfl)) ?_
 refine f1 2 ?_
 refine f1 3 ?_
 refine f1 4 ?_
 refine f1 5 ?_
 refine f1 6 ?_
 refine f1 7 ?_
 (refine qnf 8 rfl (by kernel_rfl) rfl rfl (fun hg=>(by have hg0:=hg;(try simp at hg);exact qa0 (k:=2) evG rfl rfl rfl rfl qbm)) ?_)
 (refine qnf 9 rfl (by kernel_rfl) rfl rfl (fun hg=>(by have hg0:=hg;(try simp at hg);exact qa0 (k:=4) evG rfl rfl rfl rfl qbm)) ?_)
 (refine qnf 10 rfl (by kernel_rfl) rfl rfl (fun hg=>(by have hg0:=hg;(try simp at hg);exact qbx evG rfl rfl rfl)) ?_)
 refine qkr 11 rfl (by kernel_rfl) (qo7 (er rfl) rfl (fun h=>by exact SubL.iteT (by (rw [h];rfl)) SubL.rfl')) ?_
 refine f1 12 ?_
 refine f1 13 ?_
 refine f1 14 ?_
 refine f1 15 ?_
 refine f1 16 ?_
 refine f1 17 ?_
 (refine qi2 18 rfl (by kernel_rfl) rfl rfl (fun _ hg=>(by have hg0:=hg;(try simp at hg);exact qa0 (k:=2) evG rfl rfl rfl rfl qbm)) ?_)
 (refine qi2 19 rfl (by kernel_rfl) rfl rfl (fun _ hg=>(by have hg0:=hg;(try simp at hg);exact qa0 (k:=5) evG rfl rfl rfl rfl qbm)) ?_)
 (refine qi2 20 rfl (by kernel_rfl) rfl rfl (fun _ hg=>(by have hg0:=hg;(try simp at hg);exact qbx evG rfl rfl rfl)) ?_)
 refine qfz 21 rfl (by kernel_rfl) (fun _=>(qo7 (er rfl) rfl (fun h=>by exact SubL.iteT (by (rw [h];rfl)) SubL.rfl'))) ?_
 refine f1 22 ?_
 refine f1 23 ?_
 refine f1 24 ?_
 refine qe6 25 [0,2,3,4,5,6,7,8,9,10,11,12,13,14,15,16,17,22,23,24,25] rfl (by kernel_rfl) (fun c'=>by exact qa2 (er rfl) (er rfl) qag qae rf rf rf) ?_
 refine f1 26 ?_
 refine f1 27 ?_
 refine f1 28 ?_
 refine qe6 29 [0,1,2,3,4,5,6,7,8,9,10,11,12,13,14,15,16,17,18,19,20,21,22,23,24,25,26,27,28,29] rfl (by kernel_rfl) (fun c'=>by exact qa2 (er rfl) (er rfl) qag qae rf rf rf) ?_
 refine qd0 (by kernel_rfl) rfl ?_
 show JQ _ _ _ _ _ _
 refine t10 ?_
 refine qdb (B0:=B0) (b:=b) ?_
 refine qat (Bs:=[_]) ((⟨⟨_,_,_,_,_,_,_,_,_,_,_,_⟩,_,_,_,_,_,⟨_,_,_,_,[],_,_,_,_⟩⟩:Run31),_) ?_ rfl results188 eXF qab (hD0:=hX.2)
 exact by exact ⟨hs2,hks2,qgn hw2 hp1 (by omega),Nat.le_trans hc3 (by omega)⟩
theorem qsy {L:List Item}:∀ {A:List VP},SubLs L A A
 | []=>trivial
 | _ :: _=>⟨SubL.rfl',qsy⟩
theorem subs_ovr {L:List Item} {A B:List VP} (h:B.length=A.length):SubLs L (ovr A 0 B) B:=by
 rw [qn6 B A 0 (by omega),Nat.zero_add,h,List.drop_length,List.take_zero,List.nil_append,List.append_nil]
 exact qsy
theorem qqd (B0 b:Nat) (r:Run31) (key:BitVec 32) (to:Pt) (n:Nat) (hB:B0≤b) (hn:n≤5000) (hr:RI n r) (hst:stp r=false):FnX Tryz.prog 189 [Is (.pointer (some ⟨b,0,none⟩)),Is (.int .u32 (UV key)),qks to] [blk b 209 [Is (.int .i64 r.job.client),Is (.int .i64 r.job.seq),Is (.int .i64 r.job.lines),IsSl tSt29 r.job.program,IsSl tI64 r.job.access,Is (.bool r.job.snapshot),Is (.int .u64 (UV r.job.vector0)),Is (.int .u64 (UV r.job.vector1)),Is (.int .u64 (UV r.job.vector2)),Is (.int .u64 (UV r.job.vector3)),Is (.int .u64 (UV r.job.vector4)),Is (.int .u64 (UV r.job.vector5)),IsSl tPg r.known,qbd B0 (IsSl tPg r.w),IsSl tI64 r.c,IsSl tI64 r.need,Is (.int .i64 r.code),Is (.int .i64 r.out.code),Is (.int .i64 r.out.statement),Is (.int .i64 r.out.want),IsSl tRs29 r.out.results,Is (.slice none 0 0),Is (.bool r.out.hint),Is (.bool r.out.deep),Is (.bool r.out.unposted),Is (.bool r.out.dead)]]
  (fun i:Run31=>RI (n+320) i) (fun i=>qbu []) (fun i=>[blk b 209 [Is (.int .i64 i.job.client),Is (.int .i64 i.job.seq),Is (.int .i64 i.job.lines),IsSl tSt29 i.job.program,IsSl tI64 i.job.access,Is (.bool i.job.snapshot),Is (.int .u64 (UV i.job.vector0)),Is (.int .u64 (UV i.job.vector1)),Is (.int .u64 (UV i.job.vector2)),Is (.int .u64 (UV i.job.vector3)),Is (.int .u64 (UV i.job.vector4)),Is (.int .u64 (UV i.job.vector5)),IsSl tPg i.known,qbd B0 (IsSl tPg i.w),IsSl tI64 i.c,IsSl tI64 i.need,Is (.int .i64 i.code),Is (.int .i64 i.out.code),Is (.int .i64 i.out.statement),Is (.int .i64 i.out.want),IsSl tRs29 i.out.results,Is (.slice none 0 0),Is (.bool i.out.hint),Is (.bool i.out.deep),Is (.bool i.out.unposted),Is (.bool i.out.dead)]]):=by
 have hvw:=hr.vw
 obtain ⟨hs,hks,hw,hc⟩:=hr
 have hwl:=hw.1
 have hvv:r.known.length+r.w.length≤400000:=by omega
 have hv9:r.known.length+r.w.length≤9000:=by omega
 refine Fn.enterB func189 ntmps189 rfl rfl ?_
 intro c hX hbelow
 have hBw:B0≤c.w.heap.size:=by
  have:=hbelow b (mem_names.2 ⟨_,List.mem_cons_self ..,rfl⟩)
  omega
 refine t3 ?_
 intro i5
 refine t8 ?_
 intro i6
 refine t4 ?_
 refine qaz rfl (by kernel_rfl) ?_
 refine qfi (its:=[]) ?_
 refine f1 0 ?_
 refine f1 1 ?_
 refine qkr 2 rfl (by kernel_rfl) (by ((refine qdj qgg call154 (qh1 B0 hvv) ⟨qaq,trivial⟩ (qev)))) ?_
 refine qne 4 rfl (by kernel_rfl) (fun _=>(qbl rfl qbm rfl)) ?_
 (refine zay 3 [0,1,2,3] rfl (by kernel_rfl) (qaw call166 (qgk (⟨_,_,_,(⟨_,_⟩:Pt),_,_,_⟩:Op24) _) ⟨qbc,⟨qbc,trivial⟩⟩) ?_;intro x14 hx14)
 (refine qgr 7 4 (by kernel_rfl) rfl rfl ?_;intro i7)
 refine qe6 5 [0,1,2,3,4,5] rfl (by kernel_rfl) (fun c'=>by exact qa2 (er rfl) (er rfl) qag qae rf rf rf) ?_
 refine qd0 (by kernel_rfl) rfl ?_
 show JQ _ _ _ _ _ _
 refine t3 ?_
 refine qbr (b:=i7) (As':=(qsw c.w.heap.size).cells x14) qae qbf ?_
 have hp0:qzj x14:=hx14
 refine t11 ?_
 refine qb1 [(0,_),(7,_)] [] (fun yc:Run31×S24=>(yc.1.job.snapshot=false∧yc.1.known.length≤300∧WL (n+12) yc.1.w∧yc.1.c.length≤n)∧qzj yc.2) (fun yc=>[]) (fun yc=>[blk b 209 [Is (.int .i64 yc.1.job.client),Is (.int .i64 yc.1.job.seq),Is (.int .i64 yc.1.job.lines),IsSl tSt29 yc.1.job.program,IsSl tI64 yc.1.job.access,Is (.bool yc.1.job.snapshot),Is (.int .u64 (UV yc.1.job.vector0)),Is (.int .u64 (UV yc.1.job.vector1)),Is (.int .u64 (UV yc.1.job.vector2)),Is (.int .u64 (UV yc.1.job.vector3)),Is (.int .u64 (UV yc.1.job.vector4)),Is (.int .u64 (UV yc.1.job.vector5)),IsSl tPg yc.1.known,qbd B0 (IsSl tPg yc.1.w),IsSl tI64 yc.1.c,IsSl tI64 yc.1.need,Is (.int .i64 yc.1.code),Is (.int .i64 yc.1.out.code),Is (.int .i64 yc.1.out.statement),Is (.int .i64 yc.1.out.want),IsSl tRs29 yc.1.out.results,Is (.slice none 0 0),Is (.bool yc.1.out.hint),Is (.bool yc.1.out.deep),Is (.bool yc.1.out.unposted),Is (.bool yc.1.out.dead)],blk i7 271 ((qsw c.w.heap.size).cells yc.2)]) qaj qab ?_ ?_
 rotate_left
 focus
  refine cN ?_ ?_ <;> intro h3
  ·refine t6 ?_
   (refine qe5 rfl (qci qbs call184 (qmb B0 b _ n hB hv9 hw hst) ⟨qaq,⟨qaq,trivial⟩⟩) ?_;intro x27 hx27)
   refine t6 ?_
   obtain ⟨ha1,ha2⟩:=hx27
   have ha3:=ha1.1
   have hvv2:r.known.length+x27.2.2.1.length≤400000:=by omega
   refine t2 ?_
   refine qap rfl (by ((refine qgy qgg call157 (qe9 _ _) ⟨qaq,trivial⟩ qq2))) ?_
   refine t2 ?_
   refine cN ?_ ?_ <;> intro h5
   ·refine t3 ?_
    refine qdb (B0:=B0) (b:=b) ?_
    refine qat (Bs:=[]) (⟨⟨_,_,_,_,_,_,_,_,_,_,_,_⟩,_,_,_,_,_,⟨_,_,_,_,[],_,_,_,_⟩⟩:Run31) ?_ rfl results189 trivial qab (hD0:=hX.2)
    exact by exact ⟨hs,hks,ha1.mono (by omega),Nat.le_trans hc (by omega)⟩
   refine t2 ?_
   refine qaz rfl (by kernel_rfl) ?_
   refine qfi (its:=[]) ?_
   refine f1 0 ?_
   refine f1 1 ?_
   refine qkr 2 rfl (by kernel_rfl) (by ((refine qdj qgg call154 (qh1 B0 hvv2) ⟨qaq,trivial⟩ (qev)))) ?_
   (refine zay 3 [0,1,2,3] rfl (by kernel_rfl) (qaw call166 (qgk (⟨_,_,_,(⟨_,_⟩:Pt),_,_,_⟩:Op24) _) ⟨qbc,⟨qbc,trivial⟩⟩) ?_;intro x34 hx34)
   refine qe6 4 [0,1,2,3,4] rfl (by kernel_rfl) (fun c'=>by exact qa2 (er rfl) (er rfl) qag qae rf rf rf) ?_
   refine qd0 (by kernel_rfl) rfl ?_
   show JQ _ _ _ _ _ _
   refine qao (b:=i7) (As':=(qsw c.w.heap.size).cells x34) qae (subs_ovr (A:=(qsw c.w.heap.size).cells x14) rfl) ?_
   refine qdb (B0:=B0) (b:=b) ?_
   refine qai ((⟨⟨_,_,_,_,_,_,_,_,_,_,_,_⟩,_,_,_,_,_,⟨_,_,_,_,[],_,_,_,_⟩⟩:Run31),x34) ?_ qaj qab
   ·exact ⟨⟨hs,hks,ha1,hc⟩,hx34⟩
  refine s1 ?_
  refine qdb (B0:=B0) (b:=b) ?_
  refine qai ((⟨⟨_,_,_,_,_,_,_,_,_,_,_,_⟩,_,_,_,_,_,⟨_,_,_,_,[],_,_,_,_⟩⟩:Run31),x14) ?_ qaj qab
  ·exact ⟨⟨hs,hks,hw.mono (by omega),hc⟩,hp0⟩
 rintro ⟨q,s⟩ hI
 dsimp only at hI ⊢
 obtain ⟨⟨hs2,hks2,hw2,hc2⟩,hp1,hp2,hp3⟩:=hI
 have hw2l:=hw2.1
 have hp1l:=hp1.1
 have hcc:q.c.length+s.out.check.length≤100000:=by omega
 refine t8 ?_
 refine cN ?_ ?_ <;> intro h7
 ·refine t12 ?_
  refine qdb (B0:=B0) (b:=b) ?_
  refine qat (Bs:=[]) (⟨⟨_,_,_,_,_,_,_,_,_,_,_,_⟩,_,_,_,_,_,⟨_,_,_,_,[],_,_,_,_⟩⟩:Run31) ?_ rfl results189 trivial qab (hD0:=hX.2)
  exact by exact ⟨hs2,hks2,hw2.mono (by omega),Nat.le_trans hc2 (by omega)⟩
 refine t11 ?_
 refine cN ?_ ?_ <;> intro h9
 ·refine t21 ?_
  refine cN ?_ ?_ <;> intro h11
  ·refine t9 ?_
   refine qdb (B0:=B0) (b:=b) ?_
   refine qat (Bs:=[]) (⟨⟨_,_,_,_,_,_,_,_,_,_,_,_⟩,_,_,_,_,_,⟨_,_,_,_,[],_,_,_,_⟩⟩:Run31) ?_ rfl results189 trivial qab (hD0:=hX.2)
   exact by exact ⟨hs2,hks2,hw2.mono (by omega),Nat.le_trans hc2 (by omega)⟩
  refine t4 ?_
  refine qdb (B0:=B0) (b:=b) ?_
  refine qat (Bs:=[]) (⟨⟨_,_,_,_,_,_,_,_,_,_,_,_⟩,_,_,_,_,_,⟨_,_,_,_,[],_,_,_,_⟩⟩:Run31) ?_ rfl results189 trivial qab (hD0:=hX.2)
  exact by exact ⟨hs2,hks2,hw2.mono (by omega),Nat.le_trans hc2 (by omega)⟩
 refine t3 ?_
 refine qaz rfl (by kernel_rfl) ?_
 refine qaf 10 (by kernel_rfl) ?_
 refine t7 ?_
 refine qbh (by ((refine qaw call72 (qcf _ _ ?_) ⟨qaq,⟨qaq,trivial⟩⟩);all_goals (omega))) ?_
 refine t2 ?_
 refine ⟨rfl,?_⟩
 refine qeb (by kernel_rfl) rfl (qas (er rfl) (er rfl) qag qae qbm rf rf rf) ?_
 refine qar ?_
 refine t7 ?_
 (refine qe5 rfl (qci qbs call178 (qk8 b _ hs2 hcc) ⟨qaq,⟨qaq,trivial⟩⟩) ?_;intro x75 hx75)
 refine t2 ?_
 have hc3:x75.length≤n+300:=Nat.le_trans hx75 (show q.c.length+s.out.check.length≤n+300 by omega)
 refine qer (b:=i7) qae (qko hX) ?_
 refine qb0 7 (qc4 ((qsw c.w.heap.size).cells s)) rfl (SubL.fact qbw) ?_
 refine qaz rfl (by kernel_rfl) ?_
 refine qfi (its:=[]) ?_
 refine f1 0 ?_
 refine qfz 1 rfl (by kernel_rfl) (fun _=>(qbb rfl)) ?_
 refine f1 2 ?_
 refine f1 3 ?_
 refine f1 4 ?_
 refine f1 5 ?_
 refine f1 6 ?_
 refine f1 7 ?_
 (refine qnf 8 rfl (by kernel_rfl) rfl rfl (fun hg=>(by have hg0:=hg;(try simp at hg);exact qa0 (k:=2) evG rfl rfl rfl rfl qbm)) ?_)
 (refine qnf 9 rfl (by kernel_rfl) rfl rfl (fun hg=>(by have hg0:=hg;(try simp at hg);exact qa0 (k:=4) evG rfl rfl rfl rfl qbm)) ?_)
 (refine qnf 10 rfl (by kernel_rfl) rfl rfl (fun hg=>(by have hg0:=hg;(try simp at hg);exact qbx evG rfl rfl rfl)) ?_)
 refine qkr 11 rfl (by kernel_rfl) (qo7 (er rfl) rfl (fun h=>by exact SubL.iteT (by (rw [h];rfl)) SubL.rfl')) ?_
 refine f1 12 ?_
 refine f1 13 ?_
 refine f1 14 ?_
 refine f1 15 ?_
 refine f1 16 ?_
 refine f1 17 ?_
 (refine qi2 18 rfl (by kernel_rfl) rfl rfl (fun _ hg=>(by have hg0:=hg;(try simp at hg);exact qa0 (k:=2) evG rfl rfl rfl rfl qbm)) ?_)
 (refine qi2 19 rfl (by kernel_rfl) rfl rfl (fun _ hg=>(by have hg0:=hg;(try simp at hg);exact qa0 (k:=5) evG rfl rfl rfl rfl qbm)) ?_)
 (refine qi2 20 rfl (by kernel_rfl) rfl rfl (fun _ hg=>(by have hg0:=hg;(try simp at hg);exact qbx evG rfl rfl rfl)) ?_)
 refine qfz 21 rfl (by kernel_rfl) (fun _=>(qo7 (er rfl) rfl (fun h=>by exact SubL.iteT (by (rw [h];rfl)) SubL.rfl'))) ?_
 refine f1 22 ?_
 refine f1 23 ?_
 refine f1 24 ?_
 refine qe6 25 [0,2,3,4,5,6,7,8,9,10,11,12,13,14,15,16,17,22,23,24,25] rfl (by kernel_rfl) (fun c'=>by exact qa2 (er rfl) (er rfl) qag qae rf rf rf) ?_
 refine f1 26 ?_
 refine f1 27 ?_
 refine f1 28 ?_
 refine qe6 29 [0,1,2,3,4,5,6,7,8,9,10,11,12,13,14,15,16,17,18,19,20,21,22,23,24,25,26,27,28,29] rfl (by kernel_rfl) (fun c'=>by exact qa2 (er rfl) (er rfl) qag qae rf rf rf) ?_
 refine qd0 (by kernel_rfl) rfl ?_
 show JQ _ _ _ _ _ _
 refine s1 ?_
 refine qdb (B0:=B0) (b:=b) ?_
 refine qat (Bs:=[]) (⟨⟨_,_,_,_,_,_,_,_,_,_,_,_⟩,_,_,_,_,_,⟨_,_,_,_,[],_,_,_,_⟩⟩:Run31) ?_ rfl results189 trivial qab (hD0:=hX.2)
 exact by exact ⟨hs2,hks2,qgn hw2 hp1 (by omega),Nat.le_trans hc3 (by omega)⟩
theorem qsj (B0 b:Nat) (r:Run31) (f:Fd31) (row:Rw) (del:Bool) (n:Nat) (hB:B0≤b) (hn:n≤5000) (hr:RI n r) (hst:stp r=false) (hf:Ln f.page):FnX Tryz.prog 158 [Is (.pointer (some ⟨b,0,none⟩)),IsFd31 f,IsRw row,Is (.bool del)] [blk b 209 [Is (.int .i64 r.job.client),Is (.int .i64 r.job.seq),Is (.int .i64 r.job.lines),IsSl tSt29 r.job.program,IsSl tI64 r.job.access,Is (.bool r.job.snapshot),Is (.int .u64 (UV r.job.vector0)),Is (.int .u64 (UV r.job.vector1)),Is (.int .u64 (UV r.job.vector2)),Is (.int .u64 (UV r.job.vector3)),Is (.int .u64 (UV r.job.vector4)),Is (.int .u64 (UV r.job.vector5)),IsSl tPg r.known,qbd B0 (IsSl tPg r.w),IsSl tI64 r.c,IsSl tI64 r.need,Is (.int .i64 r.code),Is (.int .i64 r.out.code),Is (.int .i64 r.out.statement),Is (.int .i64 r.out.want),IsSl tRs29 r.out.results,Is (.slice none 0 0),Is (.bool r.out.hint),Is (.bool r.out.deep),Is (.bool r.out.unposted),Is (.bool r.out.dead)]]
  (fun i:Run31=>RI (n+50) i) (fun i=>qbu []) (fun i=>[blk b 209 [Is (.int .i64 i.job.client),Is (.int .i64 i.job.seq),Is (.int .i64 i.job.lines),IsSl tSt29 i.job.program,IsSl tI64 i.job.access,Is (.bool i.job.snapshot),Is (.int .u64 (UV i.job.vector0)),Is (.int .u64 (UV i.job.vector1)),Is (.int .u64 (UV i.job.vector2)),Is (.int .u64 (UV i.job.vector3)),Is (.int .u64 (UV i.job.vector4)),Is (.int .u64 (UV i.job.vector5)),IsSl tPg i.known,qbd B0 (IsSl tPg i.w),IsSl tI64 i.c,IsSl tI64 i.need,Is (.int .i64 i.code),Is (.int .i64 i.out.code),Is (.int .i64 i.out.statement),Is (.int .i64 i.out.want),IsSl tRs29 i.out.results,Is (.slice none 0 0),Is (.bool i.out.hint),Is (.bool i.out.deep),Is (.bool i.out.unposted),Is (.bool i.out.dead)]]):=by
 have hvw:=hr.vw
 obtain ⟨hs,hks,hw,hc⟩:=hr
 obtain ⟨hn0,hc0⟩:=qsz hst
 have hwl:=hw.1
 have hv9:r.known.length+r.w.length≤9000:=by omega
 have hv10:r.known.length+r.w.length≤400000:=by omega
 refine Fn.enterB func158 ntmps158 rfl rfl ?_
 intro c hX hbelow
 have hBw:B0≤c.w.heap.size:=by
  have:=hbelow b (mem_names.2 ⟨_,List.mem_cons_self ..,rfl⟩)
  omega
 refine t3 ?_
 intro i5
 refine s1 ?_
 intro i6
 refine t3 ?_
 refine qaz rfl (by kernel_rfl) ?_
 refine qfi (its:=[]) ?_
 refine f1 0 ?_
 refine f1 1 ?_
 refine f1 2 ?_
 refine f1 3 ?_
 refine f1 4 ?_
 refine f1 5 ?_
 refine f1 6 ?_
 refine f1 7 ?_
 refine f1 8 ?_
 refine f1 9 ?_
 (refine JF_xe 10 [0,1,2,3,4,5,6,7,8,9,10] rfl (by kernel_rfl) (qad call182 (qow _ _) ⟨qaq,⟨qaq,trivial⟩⟩) ?_;intro x31)
 refine f1 11 ?_
 refine qd0 (by kernel_rfl) rfl ?_
 show JQ _ _ _ _ _ _
 refine t8 ?_
 intro i9
 refine t9 ?_
 refine qb1 [(0,_),(3,_),(5,_),(8,_),(9,_)] [blk i5 _ _,blk b _ _] (fun yc:Vs=>True) (fun yc=>[]) (fun yc=>[blk i9 251 (tVs.cells yc)]) qaj qab ?_ ?_
 rotate_left
 focus
  refine cN ?_ ?_ <;> intro h3
  ·refine s1 ?_
   refine qap rfl (qdo (size:=1) (qs:=[]) rfl rfl rfl rfl trivial rf qbm) ?_
   refine t4 ?_
   refine qao (b:=i9) (As':=tVs.cells (⟨(⟨_,_,_,_⟩:Rw),_,_,_,(⟨_,_⟩:Pt)⟩:Vs)) qae qbf ?_
   exact qai (⟨(⟨_,_,_,_⟩:Rw),_,_,_,(⟨_,_⟩:Pt)⟩:Vs) (trivial) qaj qab
  refine s1 ?_
  refine qao (b:=i9) (As':=tVs.cells (⟨(⟨_,_,_,_⟩:Rw),_,_,_,(⟨_,_⟩:Pt)⟩:Vs)) qae qbf ?_
  exact qai (⟨(⟨_,_,_,_⟩:Rw),_,_,_,(⟨_,_⟩:Pt)⟩:Vs) (trivial) qaj qab
 rintro v _
 refine t10 ?_
 refine cN ?_ ?_ <;> intro h5
 ·refine t15 ?_
  refine qb1 [(0,_),(3,_),(5,_),(9,_)] [blk i5 _ _] (fun yc:Vs×Run31=>RI (n+2) yc.2) (fun yc=>[]) (fun yc=>[blk i9 251 (tVs.cells yc.1),blk b 209 [Is (.int .i64 yc.2.job.client),Is (.int .i64 yc.2.job.seq),Is (.int .i64 yc.2.job.lines),IsSl tSt29 yc.2.job.program,IsSl tI64 yc.2.job.access,Is (.bool yc.2.job.snapshot),Is (.int .u64 (UV yc.2.job.vector0)),Is (.int .u64 (UV yc.2.job.vector1)),Is (.int .u64 (UV yc.2.job.vector2)),Is (.int .u64 (UV yc.2.job.vector3)),Is (.int .u64 (UV yc.2.job.vector4)),Is (.int .u64 (UV yc.2.job.vector5)),IsSl tPg yc.2.known,qbd B0 (IsSl tPg yc.2.w),IsSl tI64 yc.2.c,IsSl tI64 yc.2.need,Is (.int .i64 yc.2.code),Is (.int .i64 yc.2.out.code),Is (.int .i64 yc.2.out.statement),Is (.int .i64 yc.2.out.want),IsSl tRs29 yc.2.out.results,Is (.slice none 0 0),Is (.bool yc.2.out.hint),Is (.bool yc.2.out.deep),Is (.bool yc.2.out.unposted),Is (.bool yc.2.out.dead)]]) qaj qab ?_ ?_
  rotate_left
  focus
   refine cN ?_ ?_ <;> intro h7
   ·refine t3 ?_
    (refine qe5 rfl (by ((refine qci qbs call116 (PageR_ok B0 b 97 hv10 ?_ ⟨by decide,by decide⟩) ⟨qaq,⟨qaq,trivial⟩⟩);all_goals (rw [hn0];decide))) ?_;intro x51 hx51)
    refine s1 ?_
    intro i10
    refine t5 ?_
    obtain ⟨hg1,hg2⟩:=hx51
    have hcc:r.c.length+1≤100000:=by omega
    refine t2 ?_
    refine qap rfl (by ((refine qgy qgg call157 (qe9 _ _) ⟨qaq,trivial⟩ qq2))) ?_
    refine t2 ?_
    refine cN ?_ ?_ <;> intro h9
    ·refine t4 ?_
     refine qdb (B0:=B0) (b:=b) ?_
     refine qat (Bs:=[]) (⟨⟨_,_,_,_,_,_,_,_,_,_,_,_⟩,_,_,_,_,_,⟨_,_,_,_,[],_,_,_,_⟩⟩:Run31) ?_ rfl results158 trivial qab (hD0:=hX.2)
     exact by exact ⟨hs,hks,hw.mono (by omega),Nat.le_trans hc (by omega)⟩
    refine t6 ?_
    refine kRF call33 (qcc _) ?_
    refine t2 ?_
    refine cN ?_ ?_ <;> intro h10
    ·refine t12 ?_
     refine qdb (B0:=B0) (b:=b) ?_
     refine qat (Bs:=[]) (⟨⟨_,_,_,_,_,_,_,_,_,_,_,_⟩,_,_,_,_,_,⟨_,_,_,_,[],_,_,_,_⟩⟩:Run31) ?_ rfl results158 trivial qab (hD0:=hX.2)
     exact by exact ⟨hs,hks,hw.mono (by omega),Nat.le_trans hc (by omega)⟩
    refine t5 ?_
    refine kRF call34 (ql5 _) ?_
    (refine qgm 61 rfl ?_;intro x61)
    refine t14 ?_
    refine cN ?_ ?_ <;> intro h13
    ·refine t12 ?_
     refine qdb (B0:=B0) (b:=b) ?_
     refine qat (Bs:=[]) (⟨⟨_,_,_,_,_,_,_,_,_,_,_,_⟩,_,_,_,_,_,⟨_,_,_,_,[],_,_,_,_⟩⟩:Run31) ?_ rfl results158 trivial qab (hD0:=hX.2)
     exact by exact ⟨hs,hks,hw.mono (by omega),Nat.le_trans hc (by omega)⟩
    refine t5 ?_
    refine qap rfl (OpP.to (qac (size:=1) (qs:=[(0,_)]) rfl rfl rfl ⟨⟨rfl,_,(er rfl),qag⟩,trivial⟩ rf rf) (SubL.row1 (T:=tI64) (x:=_) rf rf rf qak)) ?_
    (refine qe5 rfl (qci qbs call178 (qk8 b [97] hs hcc) ⟨qaq,⟨qaq,trivial⟩⟩) ?_;intro x71 hx71)
    refine t2 ?_
    have hc5:x71.length≤n+1:=Nat.le_trans hx71 (show r.c.length+1≤n+1 by omega)
    refine t5 ?_
    refine qao (b:=i9) (As':=tVs.cells (⟨(⟨_,_,_,_⟩:Rw),_,_,_,(⟨_,_⟩:Pt)⟩:Vs)) qae qbf ?_
    refine qdb (B0:=B0) (b:=b) ?_
    refine qai ((⟨(⟨_,_,_,_⟩:Rw),_,_,_,(⟨_,_⟩:Pt)⟩:Vs),(⟨⟨_,_,_,_,_,_,_,_,_,_,_,_⟩,_,_,_,_,_,⟨_,_,_,_,[],_,_,_,_⟩⟩:Run31)) ?_ qaj qab
    ·exact (by exact ⟨hs,hks,hw.mono (by omega),Nat.le_trans hc5 (by omega)⟩)
   refine s1 ?_
   refine qao (b:=i9) (As':=tVs.cells (⟨(⟨_,_,_,_⟩:Rw),_,_,_,(⟨_,_⟩:Pt)⟩:Vs)) qae qbf ?_
   refine qdb (B0:=B0) (b:=b) ?_
   refine qai ((⟨(⟨_,_,_,_⟩:Rw),_,_,_,(⟨_,_⟩:Pt)⟩:Vs),(⟨⟨_,_,_,_,_,_,_,_,_,_,_,_⟩,_,_,_,_,_,⟨_,_,_,_,[],_,_,_,_⟩⟩:Run31)) ?_ qaj qab
   ·exact (by exact ⟨hs,hks,hw.mono (by omega),Nat.le_trans hc (by omega)⟩)
  rintro ⟨v2,q⟩ hI
  dsimp only at hI ⊢
  obtain ⟨hs2,hks2,hw2,hc2⟩:=hI
  have hw2l:=hw2.1
  refine t5 ?_
  refine qap rfl (by ((refine qad call183 (qfv _ (⟨(⟨_,_,_,_⟩:Rw),_,_,_,(⟨_,_⟩:Pt)⟩:Vs) ?_) ⟨qbc,⟨qbc,trivial⟩⟩);all_goals (exact hf))) ?_
  refine t4 ?_
  intro i13
  refine t5 ?_
  refine qc8 (b:=i13) (fun _=>qae) ?_
  intro p13 hln13
  refine qaz rfl (by kernel_rfl) ?_
  refine qaf 10 (by kernel_rfl) ?_
  refine t6 ?_
  refine qbh (OpP.fr (qa3 (size:=9) (qs:=[(0,_)]) rfl rfl rfl ⟨⟨rfl,_,(er rfl),qag⟩,trivial⟩ rf rf) qcq (SubL.row1 (T:=tPg) (x:=(⟨_,_,_,_,_,_,_,_,_⟩:Pg)) rf rf rf qak)) ?_
  refine qbh (by ((refine qaw call72 (qcf _ _ ?_) ⟨qaq,⟨qaq,trivial⟩⟩);all_goals (simp;omega))) ?_
  refine t2 ?_
  refine ⟨rfl,?_⟩
  refine qeb (by kernel_rfl) rfl (qas (er rfl) (er rfl) qag qae qbm rf rf rf) ?_
  refine qar ?_
  refine t3 ?_
  refine qdb (B0:=B0) (b:=b) ?_
  refine qat (Bs:=[]) (⟨⟨_,_,_,_,_,_,_,_,_,_,_,_⟩,_,_,_,_,_,⟨_,_,_,_,[],_,_,_,_⟩⟩:Run31) ?_ rfl results158 trivial qab (hD0:=hX.2)
  exact by exact ⟨hs2,hks2,qgn hw2 (wl1 (n:=0) (by assumption)) (by omega),Nat.le_trans hc2 (by omega)⟩
 refine t5 ?_
 (refine qe5 rfl (qci qbs call184 (qmb B0 b 1 n hB hv9 hw hst) ⟨qaq,⟨qaq,trivial⟩⟩) ?_;intro x92 hx92)
 refine t5 ?_
 obtain ⟨ha1,ha2⟩:=hx92
 have ha3:=ha1.1
 have hvv2:r.known.length+x92.2.2.1.length≤400000:=by omega
 have hev:(qb7 r.known x92.2.2.1).length≤10000:=Nat.le_trans (qah _ _) (by omega)
 refine t2 ?_
 refine qap rfl (by ((refine qgy qgg call157 (qe9 _ _) ⟨qaq,trivial⟩ qq2))) ?_
 refine t2 ?_
 refine cN ?_ ?_ <;> intro h20
 ·refine t2 ?_
  refine qdb (B0:=B0) (b:=b) ?_
  refine qat (Bs:=[]) (⟨⟨_,_,_,_,_,_,_,_,_,_,_,_⟩,_,_,_,_,_,⟨_,_,_,_,[],_,_,_,_⟩⟩:Run31) ?_ rfl results158 trivial qab (hD0:=hX.2)
  exact by exact ⟨hs,hks,ha1.mono (by omega),Nat.le_trans hc (by omega)⟩
 have hfl:=ha2 h20
 obtain ⟨pz,hz⟩:∃ q,x92.2.2.2.2[0]?=some q:=⟨_,List.getElem?_eq_getElem (by omega)⟩
 refine t5 ?_
 refine qap rfl (by exact qam (j:=0) (er rfl) (er rfl) rfl rfl rf hz) ?_
 refine s1 ?_
 refine kRF call185 (qj2 pz 1 0#32) ?_
 refine t4 ?_
 intro i16
 refine t11 ?_
 refine cN ?_ ?_ <;> intro h22
 ·refine t10 ?_
  refine qdb (B0:=B0) (b:=b) ?_
  refine qat (Bs:=[]) (⟨⟨_,_,_,_,_,_,_,_,_,_,_,_⟩,_,_,_,_,_,⟨_,_,_,_,[],_,_,_,_⟩⟩:Run31) ?_ rfl results158 trivial qab (hD0:=hX.2)
  exact by exact ⟨hs,hks,ha1.mono (by omega),Nat.le_trans hc (by omega)⟩
 refine t3 ?_
 refine qaz rfl (by kernel_rfl) ?_
 refine qfi (its:=[]) ?_
 refine f1 0 ?_
 refine f1 1 ?_
 refine f1 2 ?_
 refine f1 3 ?_
 refine f1 4 ?_
 refine f1 5 ?_
 refine qkr 6 rfl (by kernel_rfl) (qad call186 (qhr _) ⟨qaq,trivial⟩) ?_
 refine qkr 7 rfl (by kernel_rfl) (OpP.to (qac (size:=2) (qs:=[(0,_)]) rfl rfl rfl ⟨⟨rfl,_,(er rfl),qag⟩,trivial⟩ rf rf) (SubL.row1 (T:=tPt) (x:=(⟨_,_⟩:Pt)) rf rf rf qak)) ?_
 refine qkr 8 rfl (by kernel_rfl) (qib (qs:=[(0,_),(1,_),(5,_)]) rfl rfl rfl rfl ⟨⟨rfl,_,(er rfl),qag⟩,⟨⟨rfl,_,(er rfl),qag⟩,⟨⟨rfl,_,(er rfl),qag⟩,trivial⟩⟩⟩ rf qbm) ?_
 refine f1 9 ?_
 refine qkr 10 rfl (by kernel_rfl) (by ((refine qdj qgg call154 (qh1 B0 hvv2) ⟨qaq,trivial⟩ (qev)))) ?_
 refine qne 12 rfl (by kernel_rfl) (fun _=>(qbl rfl qbm rfl)) ?_
 (refine zay 11 [0,1,2,3,4,5,6,7,8,9,10,11] rfl (by kernel_rfl) (by ((refine qaw call12 (qfa (⟨_,_,_,_,_,_⟩:Ep26) _ ?_ ?_) ⟨qbc,⟨qbc,trivial⟩⟩);all_goals (first|exact hev|simp;done))) ?_;intro x118 hx118)
 (refine qgr 18 12 (by kernel_rfl) rfl rfl ?_;intro i18)
 refine qe6 13 [0,1,2,3,4,5,6,7,8,9,10,11,12,13] rfl (by kernel_rfl) (fun c'=>by exact qa2 (er rfl) (er rfl) qag qae rf rf rf) ?_
 refine qd0 (by kernel_rfl) rfl ?_
 show JQ _ _ _ _ _ _
 refine t3 ?_
 obtain ⟨⟨he1,he2,he3⟩,he4⟩:=hx118
 have he1l:=he1.1
 have hcc2:r.c.length+x118.out.check.length≤100000:=by omega
 refine t6 ?_
 refine cN ?_ ?_ <;> intro h25
 ·refine t12 ?_
  refine qdb (B0:=B0) (b:=b) ?_
  refine qat (Bs:=[]) (⟨⟨_,_,_,_,_,_,_,_,_,_,_,_⟩,_,_,_,_,_,⟨_,_,_,_,[],_,_,_,_⟩⟩:Run31) ?_ rfl results158 trivial qab (hD0:=hX.2)
  exact by exact ⟨hs,hks,ha1.mono (by omega),Nat.le_trans hc (by omega)⟩
 refine t11 ?_
 refine cN ?_ ?_ <;> intro h27
 ·refine t20 ?_
  refine cN ?_ ?_ <;> intro h29
  ·refine t17 ?_
   refine cN ?_ ?_ <;> intro h31
   ·refine t9 ?_
    refine qdb (B0:=B0) (b:=b) ?_
    refine qat (Bs:=[]) (⟨⟨_,_,_,_,_,_,_,_,_,_,_,_⟩,_,_,_,_,_,⟨_,_,_,_,[],_,_,_,_⟩⟩:Run31) ?_ rfl results158 trivial qab (hD0:=hX.2)
    exact by exact ⟨hs,hks,ha1.mono (by omega),Nat.le_trans hc (by omega)⟩
   refine t4 ?_
   refine qdb (B0:=B0) (b:=b) ?_
   refine qat (Bs:=[]) (⟨⟨_,_,_,_,_,_,_,_,_,_,_,_⟩,_,_,_,_,_,⟨_,_,_,_,[],_,_,_,_⟩⟩:Run31) ?_ rfl results158 trivial qab (hD0:=hX.2)
   exact by exact ⟨hs,hks,ha1.mono (by omega),Nat.le_trans hc (by omega)⟩
  refine t11 ?_
  refine cN ?_ ?_ <;> intro h31
  ·refine t9 ?_
   refine qdb (B0:=B0) (b:=b) ?_
   refine qat (Bs:=[]) (⟨⟨_,_,_,_,_,_,_,_,_,_,_,_⟩,_,_,_,_,_,⟨_,_,_,_,[],_,_,_,_⟩⟩:Run31) ?_ rfl results158 trivial qab (hD0:=hX.2)
   exact by exact ⟨hs,hks,ha1.mono (by omega),Nat.le_trans hc (by omega)⟩
  refine t4 ?_
  refine qdb (B0:=B0) (b:=b) ?_
  refine qat (Bs:=[]) (⟨⟨_,_,_,_,_,_,_,_,_,_,_,_⟩,_,_,_,_,_,⟨_,_,_,_,[],_,_,_,_⟩⟩:Run31) ?_ rfl results158 trivial qab (hD0:=hX.2)
  exact by exact ⟨hs,hks,ha1.mono (by omega),Nat.le_trans hc (by omega)⟩
 refine t3 ?_
 refine qaz rfl (by kernel_rfl) ?_
 refine qaf 10 (by kernel_rfl) ?_
 refine t7 ?_
 refine qbh (by ((refine qaw call72 (qcf _ _ ?_) ⟨qaq,⟨qaq,trivial⟩⟩);all_goals (omega))) ?_
 refine t2 ?_
 refine ⟨rfl,?_⟩
 refine qeb (by kernel_rfl) rfl (qas (er rfl) (er rfl) qag qae qbm rf rf rf) ?_
 refine qar ?_
 refine t7 ?_
 (refine qe5 rfl (qci qbs call178 (qk8 b _ hs hcc2) ⟨qaq,⟨qaq,trivial⟩⟩) ?_;intro x166 hx166)
 refine t4 ?_
 have hc6:x166.length≤n+10:=Nat.le_trans hx166 (show r.c.length+x118.out.check.length≤n+10 by omega)
 have hm3:=qgn ha1 he1 (Nat.le_refl _)
 have hm3l:=hm3.1
 refine t4 ?_
 refine qb1 [(0,_),(5,_),(9,_),(16,_)] [blk i16 _ _,blk i5 _ _,blk b _ _] (fun yc:Vs=>True) (fun yc=>[]) (fun yc=>[blk i9 251 (tVs.cells yc)]) qaj qab ?_ ?_
 rotate_left
 focus
  refine cN ?_ ?_ <;> intro h35
  ·refine t7 ?_
   refine qao (b:=i9) (As':=tVs.cells (⟨(⟨_,_,_,_⟩:Rw),_,_,_,(⟨_,_⟩:Pt)⟩:Vs)) qae qbf ?_
   exact qai (⟨(⟨_,_,_,_⟩:Rw),_,_,_,(⟨_,_⟩:Pt)⟩:Vs) (trivial) qaj qab
  refine s1 ?_
  refine qao (b:=i9) (As':=tVs.cells (⟨(⟨_,_,_,_⟩:Rw),_,_,_,(⟨_,_⟩:Pt)⟩:Vs)) qae qbf ?_
  exact qai (⟨(⟨_,_,_,_⟩:Rw),_,_,_,(⟨_,_⟩:Pt)⟩:Vs) (trivial) qaj qab
 rintro v3 _
 refine t6 ?_
 refine qap rfl (by ((refine qad call187 (zas _ _ (⟨(⟨_,_,_,_⟩:Rw),_,_,_,(⟨_,_⟩:Pt)⟩:Vs) ?_ ?_) ⟨qbc,⟨qbc,⟨qbc,trivial⟩⟩⟩);all_goals (first|exact hf|exact zdd _ _ _))) ?_
 (refine qa5 177 rfl ?_;intro x177 hx177)
 refine t9 ?_
 have hx177l:=hx177.1
 refine t5 ?_
 refine cN ?_ ?_ <;> intro h38
 ·refine t10 ?_
  refine qdb (B0:=B0) (b:=b) ?_
  refine qat (Bs:=[]) (⟨⟨_,_,_,_,_,_,_,_,_,_,_,_⟩,_,_,_,_,_,⟨_,_,_,_,[],_,_,_,_⟩⟩:Run31) ?_ rfl results158 trivial qab (hD0:=hX.2)
  exact by exact ⟨hs,hks,hm3.mono (by omega),Nat.le_trans hc6 (by omega)⟩
 refine t9 ?_
 refine qap rfl (by ((refine qaw call72 (qcf _ _ ?_) ⟨qaq,⟨qaq,trivial⟩⟩);all_goals (omega))) ?_
 refine t5 ?_
 refine qdb (B0:=B0) (b:=b) ?_
 refine qat (Bs:=[]) (⟨⟨_,_,_,_,_,_,_,_,_,_,_,_⟩,_,_,_,_,_,⟨_,_,_,_,[],_,_,_,_⟩⟩:Run31) ?_ rfl results158 trivial qab (hD0:=hX.2)
 exact by exact ⟨hs,hks,qgn hm3 hx177 (by omega),Nat.le_trans hc6 (by omega)⟩
theorem za3 (B0 b:Nat) (r:Run31) (row:Rw) (n:Nat) (hB:B0≤b) (hn:n≤2000) (hr:RI n r) (hst:stp r=false):FnX Tryz.prog 159 [Is (.pointer (some ⟨b,0,none⟩)),IsRw row] [blk b 209 [Is (.int .i64 r.job.client),Is (.int .i64 r.job.seq),Is (.int .i64 r.job.lines),IsSl tSt29 r.job.program,IsSl tI64 r.job.access,Is (.bool r.job.snapshot),Is (.int .u64 (UV r.job.vector0)),Is (.int .u64 (UV r.job.vector1)),Is (.int .u64 (UV r.job.vector2)),Is (.int .u64 (UV r.job.vector3)),Is (.int .u64 (UV r.job.vector4)),Is (.int .u64 (UV r.job.vector5)),IsSl tPg r.known,qbd B0 (IsSl tPg r.w),IsSl tI64 r.c,IsSl tI64 r.need,Is (.int .i64 r.code),Is (.int .i64 r.out.code),Is (.int .i64 r.out.statement),Is (.int .i64 r.out.want),IsSl tRs29 r.out.results,Is (.slice none 0 0),Is (.bool r.out.hint),Is (.bool r.out.deep),Is (.bool r.out.unposted),Is (.bool r.out.dead)]]
  (fun i:Run31=>RI (n+700) i) (fun i=>qbu []) (fun i=>[blk b 209 [Is (.int .i64 i.job.client),Is (.int .i64 i.job.seq),Is (.int .i64 i.job.lines),IsSl tSt29 i.job.program,IsSl tI64 i.job.access,Is (.bool i.job.snapshot),Is (.int .u64 (UV i.job.vector0)),Is (.int .u64 (UV i.job.vector1)),Is (.int .u64 (UV i.job.vector2)),Is (.int .u64 (UV i.job.vector3)),Is (.int .u64 (UV i.job.vector4)),Is (.int .u64 (UV i.job.vector5)),IsSl tPg i.known,qbd B0 (IsSl tPg i.w),IsSl tI64 i.c,IsSl tI64 i.need,Is (.int .i64 i.code),Is (.int .i64 i.out.code),Is (.int .i64 i.out.statement),Is (.int .i64 i.out.want),IsSl tRs29 i.out.results,Is (.slice none 0 0),Is (.bool i.out.hint),Is (.bool i.out.deep),Is (.bool i.out.unposted),Is (.bool i.out.dead)]]):=by
 have hvw:=hr.vw
 obtain ⟨hs,hks,hw,hc⟩:=hr
 have hwl:=hw.1
 have hv9:r.known.length+r.w.length≤9000:=by omega
 have hv10:r.known.length+r.w.length≤400000:=by omega
 refine Fn.enterB func159 ntmps159 rfl rfl ?_
 intro c hX hbelow
 have hBw:B0≤c.w.heap.size:=by
  have:=hbelow b (mem_names.2 ⟨_,List.mem_cons_self ..,rfl⟩)
  omega
 refine t3 ?_
 intro i3
 refine t5 ?_
 (refine qe5 rfl (qci qbs call184 (qmb B0 b 1 n hB hv9 hw hst) ⟨qaq,⟨qaq,trivial⟩⟩) ?_;intro x12 hx12)
 refine t5 ?_
 obtain ⟨ha1,ha2⟩:=hx12
 have ha3:=ha1.1
 refine t2 ?_
 refine qap rfl (by ((refine qgy (by (try simp only [List.append_eq,List.nil_append,List.cons_append]);exact qgg) call157 (qe9 _ _) ⟨qaq,trivial⟩ qq2))) ?_
 refine t2 ?_
 refine cN ?_ ?_ <;> intro h2
 ·refine t2 ?_
  refine qdb (B0:=B0) (b:=b) ?_
  refine qat (Bs:=[]) (⟨⟨_,_,_,_,_,_,_,_,_,_,_,_⟩,_,_,_,_,_,⟨_,_,_,_,[],_,_,_,_⟩⟩:Run31) ?_ rfl results159 trivial qab (hD0:=hX.2)
  exact by exact ⟨hs,hks,ha1.mono (by omega),Nat.le_trans hc (by omega)⟩
 have hfl:=ha2 h2
 obtain ⟨pz,hz⟩:∃ q,x12.2.2.2.2[0]?=some q:=⟨_,List.getElem?_eq_getElem (by omega)⟩
 refine t5 ?_
 refine qap rfl (by exact qam (j:=0) (er rfl) (er rfl) rfl rfl rf hz) ?_
 refine s1 ?_
 refine kRF call185 (qj2 pz 1 0#32) ?_
 refine t4 ?_
 intro i5
 refine t11 ?_
 refine cN ?_ ?_ <;> intro h4
 ·refine t10 ?_
  refine qdb (B0:=B0) (b:=b) ?_
  refine qat (Bs:=[]) (⟨⟨_,_,_,_,_,_,_,_,_,_,_,_⟩,_,_,_,_,_,⟨_,_,_,_,[],_,_,_,_⟩⟩:Run31) ?_ rfl results159 trivial qab (hD0:=hX.2)
  exact by exact ⟨hs,hks,ha1.mono (by omega),Nat.le_trans hc (by omega)⟩
 refine t3 ?_
 refine qer (b:=i5) qae (qko hX) ?_
 refine qb0 5 (qc4 (tPg.cells (allR pz 1 0#32).1)) rfl (SubL.fact qbw) ?_
 refine qer (b:=i3) qae (qko hX) ?_
 refine qb0 3 (qc4 (tRw.cells row)) rfl (SubL.fact qbw) ?_
 refine qaz rfl (by kernel_rfl) ?_
 refine qfi (its:=[]) ?_
 refine qfz 0 rfl (by kernel_rfl) (fun _=>(by exact qb2 (n:=9) (er rfl) rfl rfl rfl rf qbm)) ?_
 refine qfz 1 rfl (by kernel_rfl) (fun _=>(by exact qb2 (n:=4) (er rfl) rfl rfl rfl rf qbm)) ?_
 refine f1 2 ?_
 refine f1 3 ?_
 refine f1 4 ?_
 refine f1 5 ?_
 refine f1 6 ?_
 refine f1 7 ?_
 refine f1 8 ?_
 refine f1 9 ?_
 refine f1 10 ?_
 refine f1 11 ?_
 refine qne 18 rfl (by kernel_rfl) (fun _=>(qbl rfl qbm rfl)) ?_
 (refine JF_xe 12 [2,3,4,5,6,7,8,9,10,11,12] rfl (by kernel_rfl) (qad call182 (qow _ _) ⟨qaq,⟨qaq,trivial⟩⟩) ?_;intro x40)
 refine qkr 13 rfl (by kernel_rfl) (qib (qs:=[(0,_),(3,_)]) rfl rfl rfl rfl ⟨⟨rfl,_,(er rfl),qag⟩,⟨⟨rfl,_,(er rfl),qag⟩,trivial⟩⟩ rf qbm) ?_
 refine qkr 14 rfl (by kernel_rfl) (by ((refine qad call183 (qfv _ (⟨(⟨_,_,_,_⟩:Rw),_,_,_,(⟨_,_⟩:Pt)⟩:Vs) ?_) ⟨qbc,⟨qbc,trivial⟩⟩);all_goals (exact zdd _ _ _))) ?_
 refine f1 15 ?_
 refine f1 16 ?_
 refine qfz 17 rfl (by kernel_rfl) (fun _=>(qj7 (er rfl) rfl)) ?_
 (refine qgr 7 18 (by kernel_rfl) rfl rfl ?_;intro i7)
 refine qe6 19 [0,1,2,3,4,5,6,7,8,9,10,11,12,13,14,15,16,18,19] rfl (by kernel_rfl) (fun c'=>by exact qa2 (er rfl) (er rfl) qag qae rf rf rf) ?_
 refine f1 20 ?_
 refine qd0 (by kernel_rfl) rfl ?_
 show JQ _ _ _ _ _ _
 refine t3 ?_
 refine qc8 (b:=i7) (fun _=>qae) ?_
 intro p7 hln7
 (refine JC_ex 8 rfl ?_;intro e8)
 refine t5 ?_
 refine cN ?_ ?_ <;> intro h7
 ·refine t10 ?_
  refine qdb (B0:=B0) (b:=b) ?_
  refine qat (Bs:=[]) (⟨⟨_,_,_,_,_,_,_,_,_,_,_,_⟩,_,_,_,_,_,⟨_,_,_,_,[],_,_,_,_⟩⟩:Run31) ?_ rfl results159 trivial qab (hD0:=hX.2)
  exact by exact ⟨hs,hks,ha1.mono (by omega),Nat.le_trans hc (by omega)⟩
 refine t3 ?_
 refine qaz rfl (by kernel_rfl) ?_
 refine qaf 10 (by kernel_rfl) ?_
 refine t6 ?_
 refine qbh (OpP.fr (qa3 (size:=9) (qs:=[(0,_)]) rfl rfl rfl ⟨⟨rfl,_,(er rfl),qag⟩,trivial⟩ rf rf) qcq (SubL.row1 (T:=tPg) (x:=(⟨_,_,_,_,_,_,_,_,_⟩:Pg)) rf rf rf qak)) ?_
 refine qbh (by ((refine qaw call72 (qcf _ _ ?_) ⟨qaq,⟨qaq,trivial⟩⟩);all_goals (simp;omega))) ?_
 refine t2 ?_
 refine ⟨rfl,?_⟩
 refine qeb (by kernel_rfl) rfl (qas (er rfl) (er rfl) qag qae qbm rf rf rf) ?_
 refine qar ?_
 refine t4 ?_
 refine kRF call186 (qhr _) ?_
 refine s1 ?_
 intro i9
 refine t10 ?_
 refine qbr (b:=b) (As':=[Is (.int .i64 _),Is (.int .i64 _),Is (.int .i64 _),IsSl tSt29 _,IsSl tI64 _,Is (.bool _),Is (.int .u64 (UV _)),Is (.int .u64 (UV _)),Is (.int .u64 (UV _)),Is (.int .u64 (UV _)),Is (.int .u64 (UV _)),Is (.int .u64 (UV _)),IsSl tPg _,qbd B0 (IsSl tPg _),IsSl tI64 _,IsSl tI64 _,Is (.int .i64 _),Is (.int .i64 _),Is (.int .i64 _),Is (.int .i64 _),IsSl tRs29 _,Is (.slice none 0 0),Is (.bool _),Is (.bool _),Is (.bool _),Is (.bool _)]) qae qbf ?_
 refine qav [(0,_),(3,_),(9,_)] [blk i9 _ _] (fun y:Nat×Run31=>y.1≤18∧(RI (n+20+16*y.1) y.2∧(y.1<18→stp y.2=false))) (fun y=>[(10,Is (.int .i64 (y.1:Nat)))]) (fun y=>[blk b 209 [Is (.int .i64 y.2.job.client),Is (.int .i64 y.2.job.seq),Is (.int .i64 y.2.job.lines),IsSl tSt29 y.2.job.program,IsSl tI64 y.2.job.access,Is (.bool y.2.job.snapshot),Is (.int .u64 (UV y.2.job.vector0)),Is (.int .u64 (UV y.2.job.vector1)),Is (.int .u64 (UV y.2.job.vector2)),Is (.int .u64 (UV y.2.job.vector3)),Is (.int .u64 (UV y.2.job.vector4)),Is (.int .u64 (UV y.2.job.vector5)),IsSl tPg y.2.known,qbd B0 (IsSl tPg y.2.w),IsSl tI64 y.2.c,IsSl tI64 y.2.need,Is (.int .i64 y.2.code),Is (.int .i64 y.2.out.code),Is (.int .i64 y.2.out.statement),Is (.int .i64 y.2.out.want),IsSl tRs29 y.2.out.results,Is (.slice none 0 0),Is (.bool y.2.out.hint),Is (.bool y.2.out.deep),Is (.bool y.2.out.unposted),Is (.bool y.2.out.dead)]]) (fun y=>18-y.1) (0,(⟨⟨_,_,_,_,_,_,_,_,_,_,_,_⟩,_,_,_,_,_,⟨_,_,_,_,[],_,_,_,_⟩⟩:Run31)) ?_ qaj qab ?_
 ·exact ⟨by exact Nat.zero_le _,⟨⟨hs,hks,qgn ha1 (wl1 (n:=0) (by assumption)) (by omega),Nat.le_trans hc (by omega)⟩,fun _=>h2⟩⟩
 rintro ⟨k,rq⟩ ⟨hk,hI⟩
 dsimp only at hk hI ⊢
 refine t7 ?_
 refine cN ?_ ?_ <;> intro h12
 ·have hlt:k<18:=by have:=of_decide_eq_true h12;omega
  clear h12
  obtain ⟨hq1,hq2⟩:=hI
  have hq3:=hq2 hlt
  refine t11 ?_
  (refine qe5 rfl (by ((refine qci qbs call188 (za1 B0 b rq _ _ (n+20+16*k) hB ?_ hq1 hq3) ⟨qaq,⟨qaq,⟨qaq,trivial⟩⟩⟩);all_goals (omega))) ?_;intro x70 hx70)
  refine t2 ?_
  (refine qcp rfl rfl rfl (fun hg=>(by have hg0:=hg;(try simp at hg);((refine qgy (by (try simp only [List.append_eq,List.nil_append,List.cons_append]);exact qgg) call157 (qe9 _ _) ⟨qaq,trivial⟩ qq2)))) ?_)
  refine t3 ?_
  refine cN ?_ ?_ <;> intro h14
  ·have hRq:=hx70.mono (m:=n+340) (by omega)
   generalize x70.1=rq at hRq ⊢
   refine t10 ?_
   refine qap rfl (by ((refine qgy (by (try simp only [List.append_eq,List.nil_append,List.cons_append]);exact qgg) call157 (qe9 _ _) ⟨qaq,trivial⟩ qq2))) ?_
   refine t3 ?_
   refine cN ?_ ?_ <;> intro h17
   ·have hs5:=(Bool.not_eq_true' _).mp h17
    refine t5 ?_
    (refine qe5 rfl (by ((refine qci qbs call189 (qqd B0 b rq _ _ (n+340) hB ?_ hRq hs5) ⟨qaq,⟨qaq,⟨qaq,trivial⟩⟩⟩);all_goals (omega))) ?_;intro x87 hx87)
    refine t2 ?_
    refine qdb (B0:=B0) (b:=b) ?_
    refine qat (Bs:=[]) (⟨⟨_,_,_,_,_,_,_,_,_,_,_,_⟩,_,_,_,_,_,⟨_,_,_,_,[],_,_,_,_⟩⟩:Run31) ?_ rfl results159 trivial qab (hD0:=hX.2)
    exact by exact hx87.mono (by omega)
   refine t2 ?_
   refine qdb (B0:=B0) (b:=b) ?_
   refine qat (Bs:=[]) (⟨⟨_,_,_,_,_,_,_,_,_,_,_,_⟩,_,_,_,_,_,⟨_,_,_,_,[],_,_,_,_⟩⟩:Run31) ?_ rfl results159 trivial qab (hD0:=hX.2)
   exact by exact hRq.mono (by omega)
  have hs4:stp x70.1=false:=(Bool.or_eq_false_iff.1 h14).2
  refine t8 ?_
  refine cN ?_ ?_ <;> intro h15
  ·have hk17:k=17:=by
    have:(k:Int)=17:=by simpa using h15
    omega
   refine t13 ?_
   refine qdb (B0:=B0) (b:=b) ?_
   refine qaa (k+1,(⟨⟨_,_,_,_,_,_,_,_,_,_,_,_⟩,_,_,_,_,_,⟨_,_,_,_,[],_,_,_,_⟩⟩:Run31)) ?_ ?_ qaj qab
   ·exact ⟨by omega,⟨by exact hx70.mono (by omega),by exact fun h=>absurd h (by omega)⟩⟩
   ·exact (by omega)
  refine t8 ?_
  refine qdb (B0:=B0) (b:=b) ?_
  refine qaa (k+1,(⟨⟨_,_,_,_,_,_,_,_,_,_,_,_⟩,_,_,_,_,_,⟨_,_,_,_,[],_,_,_,_⟩⟩:Run31)) ?_ ?_ qaj qab
  ·exact ⟨by omega,⟨by exact hx70.mono (by omega),by exact fun _=>hs4⟩⟩
  ·exact (by omega)
 have hke:k=18:=by have:=of_decide_eq_false h12;omega
 clear h12
 subst hke
 have hRq:=hI.1.mono (m:=n+340) (by omega)
 refine t8 ?_
 refine qap rfl (by ((refine qgy (by (try simp only [List.append_eq,List.nil_append,List.cons_append]);exact qgg) call157 (qe9 _ _) ⟨qaq,trivial⟩ qq2))) ?_
 refine t3 ?_
 refine cN ?_ ?_ <;> intro h17
 ·have hs5:=(Bool.not_eq_true' _).mp h17
  refine t5 ?_
  (refine qe5 rfl (by ((refine qci qbs call189 (qqd B0 b rq _ _ (n+340) hB ?_ hRq hs5) ⟨qaq,⟨qaq,⟨qaq,trivial⟩⟩⟩);all_goals (omega))) ?_;intro x87 hx87)
  refine t2 ?_
  refine qdb (B0:=B0) (b:=b) ?_
  refine qat (Bs:=[]) (⟨⟨_,_,_,_,_,_,_,_,_,_,_,_⟩,_,_,_,_,_,⟨_,_,_,_,[],_,_,_,_⟩⟩:Run31) ?_ rfl results159 trivial qab (hD0:=hX.2)
  exact by exact hx87.mono (by omega)
 refine t2 ?_
 refine qdb (B0:=B0) (b:=b) ?_
 refine qat (Bs:=[]) (⟨⟨_,_,_,_,_,_,_,_,_,_,_,_⟩,_,_,_,_,_,⟨_,_,_,_,[],_,_,_,_⟩⟩:Run31) ?_ rfl results159 trivial qab (hD0:=hX.2)
 exact by exact hRq.mono (by omega)
end Go.Proofs.YtghkkdjbaehboaaGreat
