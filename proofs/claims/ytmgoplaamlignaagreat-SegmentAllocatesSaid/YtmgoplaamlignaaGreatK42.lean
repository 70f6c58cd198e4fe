/- Texts laid together: walks of functions, what they compute, and plain laws of it. Own work. -/
import Derived.Test.YtmgoplaamlignaaGreatK24
import Derived.Test.YtmgoplaamlignaaGreatK27
import Derived.Test.YtmgoplaamlignaaGreatK37
import Derived.Test.YtmgoplaamlignaaGreatK41
import Derived.Test.YtmgoplaamlignaaGreatK39
import Derived.Test.YtmgoplaamlignaaGreatK23
import Derived.Test.YtmgoplaamlignaaGreatK21
import Derived.Test.YtmgoplaamlignaaGreatK1
namespace Go.Proofs.YtmgoplaamlignaaGreat
open Go.RowKit Tryz
set_option linter.unusedVariables false
set_option linter.unusedSimpArgs false
set_option maxRecDepth 100000
set_option maxHeartbeats 4000000
section
variable {P:Program} {c:Ctx} {A:Nat→Option VP} {L:List Item} {d:Option Tmp} {ty:TypeId} {pos:String} {af:Array Edge} {g:Option (Nat×Bool)}
theorem op_notX {x:Operand} {t:TypeId} (hx:Ev A L x IsB):OpP P c ⟨d,.unOp .not t x,ty,pos,af,g⟩ A L IsB:=
 opp fun φ a w hm he=>by
  obtain ⟨p,h1⟩:IsB.ok φ (a.eval x):=he x (by simp [Op.operands]) _ hx
  have h1':a.eval x = .bool p:=h1
  exact ⟨_,by simp [execOp,h1',Op.unary],⟨!p,rfl⟩⟩
theorem op_orX {x y:Operand} {p:Bool} {Y:VP} (hx:Ev A L x (Is (.bool p))) (hy:evA A y=some Y) (hs:p=false→SubL L Y IsB):OpP P c ⟨d,.pick x (.const (.bool true)) y,ty,pos,af,g⟩ A L IsB:=
 opp fun φ a w hm he=>by
  have h1:a.eval x = .bool p:=he x (by simp [Op.operands]) _ hx
  cases p with
  | true =>
   have hc:a.eval (.const (.bool true)) = .bool true:=rfl
   exact ⟨.bool true,by simp [execOp,h1,hc,asBool],⟨true,rfl⟩⟩
  | false =>
   obtain ⟨q,h2⟩:IsB.ok φ (a.eval y):=hs rfl φ _ hm.mem.facts (he y (by simp [Op.operands]) _ ⟨Y,hy,SubL.rfl'⟩)
   have h2':a.eval y = .bool q:=h2
   exact ⟨.bool q,by simp [execOp,h1,h2',asBool],⟨q,rfl⟩⟩
end
theorem qoq (p:Pg) (v:Vs):FnP Tryz.prog 181 [qdw p,IsVs v] (qek (fun r:Pg×Int=>Ln p→Ln r.1) fun r=>qbv [qdw r.1,Is (.int .i64 r.2)]):=by
 refine FnP.enter func181 ntmps181 rfl rfl ?_
 intro c hX
 refine t3 ?_
 intro i2
 refine s1 ?_
 intro i3
 refine s1 ?_
 intro i4
 refine t7 ?_
 refine kXF call206 (qfb (⟨(⟨_,_,_,_⟩:Rw),_,_,_,(⟨_,_⟩:Pt)⟩:Vs)) ?_
 (refine qf1 10 rfl ?_;intro x10)
 refine t3 ?_
 (refine qcq rfl rfl rfl (fun hg=>(by have hg0:=hg;(try simp at hg);exact qac call63 (qel _) ⟨qar,trivial⟩)) ?_)
 refine t4 ?_
 refine cN ?_ ?_ <;> intro h1
 ·refine t9 ?_
  exact qmn ((⟨_,_,_,_,_,_,_,_,_⟩:Pg),_) results181 (hp:=by exact fun _=>ln0)
 refine t10 ?_
 intro i6
 refine t15 ?_
 refine qb3 [(2,_),(3,_),(4,_),(5,_),(6,_)] [blk i6 _ _,blk i4 _ _,blk i3 _ _,blk i2 _ _] (fun yc:(BitVec 32)=>True) (fun yc=>[(7,Is (.int .u32 (UV yc)))]) (fun yc=>[]) qah qab ?_ ?_
 rotate_left
 focus
  refine cN ?_ ?_ <;> intro h5
  ·refine t3 ?_
   exact qak _ (trivial) qah qab
  refine s1 ?_
  exact qak _ (trivial) qah qab
 rintro a _
 refine t3 ?_
 refine kRF call26 (qg8 _) ?_
 refine s1 ?_
 refine kRF call98 (qmj _ _ _) ?_
 refine t6 ?_
 refine qa0 rfl (by kernel_rfl) ?_
 refine qag 12 (by kernel_rfl) ?_
 refine t6 ?_
 refine qbc (qac call82 (qfr _) ⟨qar,trivial⟩) ?_
 refine s1 ?_
 refine qbc (by exact qd5 (k:=32) qgi (er rfl) (by omega) qca) ?_
 refine t3 ?_
 refine ⟨rfl,?_⟩
 refine qef (by kernel_rfl) rfl (qav (er rfl) (er rfl) qaf qae qbo rf rf rf) ?_
 refine qat ?_
 refine t8 ?_
 refine qb3 [(3,_),(4,_),(5,_),(6,_)] [blk i4 _ _,blk i3 _ _] (fun yc:Pg=>yc.l=p.l) (fun yc=>[]) (fun yc=>[blk i6 53 (tPg.cells yc)]) qah qab ?_ ?_
 rotate_left
 focus
  refine cN ?_ ?_ <;> intro h9
  ·refine t8 ?_
   refine qam (b:=i6) (As':=tPg.cells (⟨_,_,_,_,_,_,_,_,_⟩:Pg)) qae qba ?_
   refine qak (⟨_,_,_,_,_,_,_,_,_⟩:Pg) ?_ qah qab
   ·exact (by exact rfl)
  refine t6 ?_
  refine qbq (b:=i6) (As':=tPg.cells (⟨_,_,_,_,_,_,_,_,_⟩:Pg)) qae qba ?_
  refine qaz [(3,_),(4,_),(5,_),(6,_)] [blk i4 _ _,blk i3 _ _] (fun y:Nat×Pg=>y.1≤3∧(y.2.l=p.l)) (fun y=>[(8,Is (.int .i64 (y.1:Nat)))]) (fun y=>[blk i6 53 (tPg.cells y.2)]) (fun y=>3-y.1) (0,(⟨_,_,_,_,_,_,_,_,_⟩:Pg)) ?_ qah qab ?_
  ·exact ⟨by exact Nat.zero_le _,rfl⟩
  rintro ⟨k,q2⟩ ⟨hk,hI⟩
  dsimp only at hk hI ⊢
  refine t7 ?_
  refine cN ?_ ?_ <;> intro h12
  ·have hlt:k<3:=by have:=of_decide_eq_true h12;omega
   clear h12
   rcases (show k=0∨k=1∨k=2 by omega) with rfl|rfl|rfl
   all_goals
    refine t10 ?_
    refine qap rfl (qan (k:=_) (sz:=1) (er rfl) (er rfl) rfl rfl qca (by decide)) ?_
    refine s1 ?_
    refine qap rfl (qfd (er rfl) rfl rfl (qhs _)) ?_
    refine s1 ?_
    refine qap rfl (qan (k:=_) (sz:=1) (er rfl) (er rfl) rfl rfl qca (by decide)) ?_
    refine t9 ?_
    refine qam (b:=i6) (As':=tPg.cells (⟨_,_,_,_,_,_,_,_,_⟩:Pg)) qae qba ?_
    first|((guard_hyp hlt:(0:Nat)<3);refine qaa (1,(⟨_,_,_,_,_,_,_,_,_⟩:Pg)) ?_ ?_ qah qab)|((guard_hyp hlt:(1:Nat)<3);refine qaa (2,(⟨_,_,_,_,_,_,_,_,_⟩:Pg)) ?_ ?_ qah qab)|((guard_hyp hlt:(2:Nat)<3);refine qaa (3,(⟨_,_,_,_,_,_,_,_,_⟩:Pg)) ?_ ?_ qah qab)
    ·exact ⟨by omega,hI⟩
    ·exact (by omega)
  have hke:k=3:=by have:=of_decide_eq_false h12;omega
  clear h12
  subst hke
  refine t4 ?_
  refine qam (b:=i6) (As':=tPg.cells (⟨_,_,_,_,_,_,_,_,_⟩:Pg)) qae qba ?_
  refine qak (⟨_,_,_,_,_,_,_,_,_⟩:Pg) ?_ qah qab
  ·exact (by exact hI)
 rintro q hI
 refine t17 ?_
 exact qmn ((⟨_,_,_,_,_,_,_,_,_⟩:Pg),_) results181 (hp:=by exact qvl hI)
theorem qfq (p:Pg) (v:Vs) (hp:Ln p):FnP Tryz.prog 181 [qdw p,IsVs v] (qbv [qul,IsIX]):=(qoq p v).px hp
theorem qy5 (p q:Pg) (v:Vs) (hp:Ln p) (hq:Ln q):FnP Tryz.prog 185 [qdw p,qdw q,IsVs v] (qek (fun r:List Pg×Int=>WL 2 r.1) fun r=>qbv [qal tPg r.1,Is (.int .i64 r.2)]):=by
 refine FnP.enter func185 ntmps185 rfl rfl ?_
 intro c hX
 refine t3 ?_
 intro i3
 refine s1 ?_
 intro i4
 refine s1 ?_
 intro i5
 refine t8 ?_
 refine kRF call49 (qb5 _) ?_
 refine t2 ?_
 (refine qcq rfl rfl rfl (fun hg=>(by have hg0:=hg;(try simp at hg);exact qac call49 (qb5 _) ⟨qar,trivial⟩)) ?_)
 refine t3 ?_
 refine cN ?_ ?_ <;> intro h1
 ·refine t8 ?_
  exact qmn (_,_) results185 (hp:=by exact wl0)
 refine t5 ?_
 refine kRF call168 (qho _) ?_
 (refine qf1 22 rfl ?_;intro x22)
 refine t4 ?_
 intro i8
 refine t11 ?_
 refine cN ?_ ?_ <;> intro h4
 ·refine t8 ?_
  exact qmn (_,_) results185 (hp:=by exact wl0)
 refine t5 ?_
 refine kRF call184 (qhg _) ?_
 refine t8 ?_
 refine kRF call63 (qel _) ?_
 refine t4 ?_
 (refine qcq rfl rfl rfl (fun hg=>(by have hg0:=hg;(try simp at hg);exact qac call97 (qj1 _) ⟨qar,trivial⟩)) ?_)
 refine t20 ?_
 (refine qcq rfl rfl rfl (fun hg=>(by have hg0:=hg;(try simp at hg);exact qac call206 (qfb (⟨(⟨_,_,_,_⟩:Rw),_,_,_,(⟨_,_⟩:Pt)⟩:Vs)) ⟨qbb,trivial⟩)) ?_)
 (refine qcq rfl rfl rfl (fun hg=>(by have hg0:=hg;(try simp at hg);exact op_notX (Ev.sub rfl (SubL.iteT (by assumption) SubL.rfl')))) ?_)
 refine qap rfl (op_orX (er rfl) rfl (fun h=>SubL.iteT (by rw [h];rfl) SubL.rfl')) ?_
 (refine qf1 59 rfl ?_;intro b59)
 refine t3 ?_
 (refine qcq rfl rfl rfl (fun hg=>(by have hg0:=hg;(try simp at hg);exact qac call70 (qb8 _) ⟨qar,trivial⟩)) ?_)
 refine t4 ?_
 refine cN ?_ ?_ <;> intro h7
 ·refine t8 ?_
  exact qmn (_,_) results185 (hp:=by exact wl0)
 refine t6 ?_
 refine qap rfl (by ((refine qac call181 (qfq _ (⟨(⟨_,_,_,_⟩:Rw),_,_,_,(⟨_,_⟩:Pt)⟩:Vs) ?_) ⟨qbb,⟨qbb,trivial⟩⟩);all_goals (first|first|assumption|exact qe7 _ _ _ _|exact qdd _ ⟨by decide,by decide⟩))) ?_
 refine t4 ?_
 intro i10
 refine t5 ?_
 refine qcw (b:=i10) (fun _=>qae) ?_
 intro p10 hln10
 refine t3 ?_
 refine qap rfl (by ((refine qac call181 (qfq _ (⟨(⟨_,_,_,_⟩:Rw),_,_,_,(⟨_,_⟩:Pt)⟩:Vs) ?_) ⟨qbb,⟨qbb,trivial⟩⟩);all_goals (first|first|assumption|exact qe7 _ _ _ _|exact qdd _ ⟨by decide,by decide⟩))) ?_
 refine t4 ?_
 intro i12
 refine t5 ?_
 refine qcw (b:=i12) (fun _=>qae) ?_
 intro p12 hln12
 refine t3 ?_
 refine qap rfl (OpP.fr (qa2 (size:=9) (qs:=[(0,_),(1,_)]) rfl rfl rfl ⟨⟨rfl,_,(er rfl),qaf⟩,⟨⟨rfl,_,(er rfl),qaf⟩,trivial⟩⟩ rf rf) qcf (SubL.row2 (T:=tPg) (x:=(⟨_,_,_,_,_,_,_,_,_⟩:Pg)) (y:=(⟨_,_,_,_,_,_,_,_,_⟩:Pg)) rf rf rf rf qaj qaj)) ?_
 refine qap rfl (by ((refine qaw call52 (qcc _ _ ?_) ⟨qar,⟨qar,trivial⟩⟩);all_goals ((simp;done)))) ?_
 refine t5 ?_
 exact qmn (qcx [] [p10,p12],_) results185 (hp:=by exact qgf (n:=0) wl0 (wl2 (n:=0) hln10 hln12) (by decide))
def stpB (nd:List Int) (cd:Int):Bool:=decide ((nd.length:Int)>0)||(cd != 0)
def stp (r:Run31):Bool:=stpB r.need r.code
def RI (n:Nat) (r:Run31):Prop:=r.job.snapshot=false∧r.known.length≤300∧WL n r.w∧r.c.length≤n
theorem RI.mono {n m:Nat} {r:Run31} (h:RI n r) (k:n≤m):RI m r:=⟨h.1,h.2.1,h.2.2.1.mono k,Nat.le_trans h.2.2.2 k⟩
theorem RI.vw {n:Nat} {r:Run31} (h:RI n r):r.known.length+r.w.length≤300+n:=by
 have h1:=h.2.1
 have h2:=h.2.2.1.1
 omega
theorem qsv {nd:List Int} {cd:Int} (h:stpB nd cd=false):nd=[]∧cd=0:=by
 unfold stpB at h
 rw [Bool.or_eq_false_iff] at h
 have h1:=of_decide_eq_false h.1
 exact ⟨List.eq_nil_of_length_eq_zero (by omega),by simpa using h.2⟩
theorem qvz (j:J31):FnP Tryz.prog 124 [IsJ31 j] (qek (fun r:Bool=>r=true→vP j.program=true∧j.access.length=j.program.length) fun r=>Is (.bool r)):=by
 refine FnP.enter func124 ntmps124 rfl rfl ?_
 intro c hX
 refine t3 ?_
 intro i1
 refine t36 ?_
 refine cN ?_ ?_ <;> intro h1
 ·refine t7 ?_
  exact rXF _ results124 (hp:=by exact fun h=>Bool.noConfusion h)
 refine t7 ?_
 refine kRF call129 (qjh _) ?_
 refine t12 ?_
 refine cN ?_ ?_ <;> intro h3
 ·refine t7 ?_
  exact rXF _ results124 (hp:=by exact fun h=>Bool.noConfusion h)
 rw [Bool.or_eq_false_iff] at h3
 have hvp:vP j.program=true:=by simpa using h3.1
 have hac:j.access.length=j.program.length:=by
  have h9:=h3.2
  simp at h9
  omega
 obtain ⟨hl8,_⟩:=qzm hvp
 clear h3
 refine t9 ?_
 refine qaz [(1,_),(2,_)] [blk i1 _ _] (fun k:Nat=>k≤(j.program).length) (fun k=>[(3,Is (.int .i64 (k:Nat)))]) (fun k=>[]) (fun k=>(j.program).length-k) 0 (Nat.zero_le _) qah qab ?_
 rintro k hk
 refine t10 ?_
 refine cN ?_ ?_ <;> intro h6
 ·have hlt:k<(j.program).length:=by have:=of_decide_eq_true h6;omega
  clear h6
  obtain ⟨z,hz⟩:∃ q,(j.program)[k]?=some q:=⟨_,List.getElem?_eq_getElem hlt⟩
  obtain ⟨za,hza⟩:∃ q,j.access[k]?=some q:=⟨_,List.getElem?_eq_getElem (by omega)⟩
  refine t12 ?_
  intro i4
  refine t22 ?_
  refine qap rfl (by exact qau (j:=_) (er rfl) (er rfl) rfl rfl rf hza) ?_
  refine t7 ?_
  (refine qcq rfl rfl rfl (fun hg=>(by have hg0:=hg;(try simp at hg);exact qau (j:=_) evG evG rfl rfl rf hza)) ?_)
  refine t7 ?_
  (refine qcq rfl rfl rfl (fun hg=>(by have hg0:=hg;(try simp at hg);exact qau (j:=_) evG evG rfl rfl rf hza)) ?_)
  refine t8 ?_
  (refine JL_i rfl rfl rfl (fun hp hg=>(by have hpg:=Bool.and_eq_true_iff.2 ⟨hp,hg⟩;have hg0:=hg;(try simp at hg);exact qac call153 (qy4 z) ⟨qar,trivial⟩)) ?_)
  refine t4 ?_
  refine cN ?_ ?_ <;> intro h10
  ·refine t11 ?_
   exact rXF _ results124 (hp:=by exact fun h=>Bool.noConfusion h)
  refine t8 ?_
  exact qaa (k+1) (by omega) (by omega) qah qab
 have hke:k=(j.program).length:=by have:=of_decide_eq_false h6;omega
 clear h6
 subst hke
 refine t11 ?_
 exact rXF _ results124 (hp:=by exact fun _=>⟨hvp,hac⟩)
theorem qhn (B0:Nat) {G0 G1 G2 G3 G4 G5 G6 G7 G8 G9 G10 G11 G14 G15 G16 G17 G18 G19 G20 G21 G22 G23 G24 G25:VP} {ks w:List Pg} (h:ks.length+w.length≤400000):FnF Tryz.prog 154 [qdo [G0,G1,G2,G3,G4,G5,G6,G7,G8,G9,G10,G11,qal tPg (ks),qbe B0 (qal tPg (w)),G14,G15,G16,G17,G18,G19,G20,G21,G22,G23,G24,G25]] (fun B=>qbe B (qal tPg (qcx ks w))):=by
 refine FnF.enter func154 ntmps154 rfl rfl ?_
 intro c hX
 refine t6 ?_
 refine qa0 rfl (by kernel_rfl) ?_
 refine qag 10 (by kernel_rfl) ?_
 refine t8 ?_
 refine qbc (qaw call52 (qcc _ _ h) ⟨qar,⟨qar,trivial⟩⟩) ?_
 refine s1 ?_
 refine ⟨rfl,?_⟩
 refine qat ?_
 refine t2 ?_
 exact qaq (Bs:=[_]) results154 eRF () SubL.rfl' (List.nil_sublist _)
theorem qe4 {G0 G1 G2 G3 G4 G5 G6 G7 G8 G9 G10 G11 G12 G13 G14 G17 G18 G19 G20 G21 G22 G23 G24 G25:VP} (nd:List Int) (cd:Int):FnP Tryz.prog 157 [qdo [G0,G1,G2,G3,G4,G5,G6,G7,G8,G9,G10,G11,G12,G13,G14,qal tI64 (nd),Is (.int .i64 (cd)),G17,G18,G19,G20,G21,G22,G23,G24,G25]] (Is (.bool (stpB nd cd))):=by
 refine FnP.enter func157 ntmps157 rfl rfl ?_
 intro c hX
 refine t24 ?_
 refine qa4 results157 rfl () (SubL.eq ?_) (List.nil_sublist _)
 rfl
theorem qky (b:Nat) {G0 G1 G2 G3 G4 G6 G7 G8 G9 G10 G11 G12 G13 G15 G16 G17 G18 G19 G20 G21 G22 G23 G24 G25:VP} {sn:Bool} {cs:List Int} (ls:List Int) (hs:sn=false) (hl:cs.length+ls.length≤100000):FnX Tryz.prog 176 [Is (.pointer (some ⟨b,0,none⟩)),qal tI64 ls] [blk b 218 [G0,G1,G2,G3,G4,Is (.bool (sn)),G6,G7,G8,G9,G10,G11,G12,G13,qal tI64 (cs),G15,G16,G17,G18,G19,G20,G21,G22,G23,G24,G25]] (fun cc:List Int=>cc.length≤cs.length+ls.length) (fun _=>qbv []) (fun cc=>[blk b 218 [G0,G1,G2,G3,G4,Is (.bool (sn)),G6,G7,G8,G9,G10,G11,G12,G13,qal tI64 (cc),G15,G16,G17,G18,G19,G20,G21,G22,G23,G24,G25]]):=by
 refine Fn.enterB func176 ntmps176 rfl rfl ?_
 intro c hX hbelow
 refine t6 ?_
 refine qaz [(0,_),(1,_)] [] (fun y:Nat×(List Int)=>y.1≤(ls).length∧(y.2.length≤cs.length+y.1)) (fun y=>[(4,Is (.int .i64 (y.1:Nat)))]) (fun y=>[blk b 218 [G0,G1,G2,G3,G4,Is (.bool (sn)),G6,G7,G8,G9,G10,G11,G12,G13,qal tI64 (y.2),G15,G16,G17,G18,G19,G20,G21,G22,G23,G24,G25]]) (fun y=>(ls).length-y.1) (0,cs) ?_ qah qab ?_
 ·exact ⟨by exact Nat.zero_le _,Nat.le_refl _⟩
 rintro ⟨k,cc⟩ ⟨hk,hI⟩
 dsimp only at hk hI ⊢
 refine t17 ?_
 refine cN ?_ ?_ <;> intro h1
 ·rw [Bool.and_eq_true] at h1
  have hlt:k<ls.length:=by have:=of_decide_eq_true h1.1;omega
  obtain ⟨z,hz⟩:∃ q,ls[k]?=some q:=⟨_,List.getElem?_eq_getElem hlt⟩
  clear h1
  refine t4 ?_
  refine qa0 rfl (by kernel_rfl) ?_
  refine qag 12 (by kernel_rfl) ?_
  refine t9 ?_
  refine qbc (by ((refine qac call78 (qim cc z ?_) ⟨qar,⟨qar,trivial⟩⟩);all_goals (omega))) ?_
  refine t2 ?_
  refine ⟨rfl,?_⟩
  refine qef (by kernel_rfl) rfl (qav (er rfl) (er rfl) qaf qae qbo rf rf rf) ?_
  refine qat ?_
  refine t7 ?_
  refine qaa (k+1,_) ?_ ?_ qah qab
  ·exact ⟨by omega,Nat.le_trans (qg6 _ _) (by omega)⟩
  ·exact (by omega)
 have hke:k=ls.length:=by
  rw [hs] at h1
  have:¬ (k:Int)<ls.length:=by simpa using h1
  omega
 clear h1
 subst hke
 refine t5 ?_
 refine qax (Bs:=[]) _ ?_ rfl results176 trivial qab
 exact hI
theorem PageR_ok (B0 b:Nat) {G0 G1 G2 G3 G4 G5 G6 G7 G8 G9 G10 G11 G14 G16 G17 G18 G19 G20 G21 G22 G23 G24 G25:VP} {ks w:List Pg} {nd:List Int} (line:Int) (hr:ks.length+w.length≤400000) (hn:nd.length≤1000) (hl:-1≤line∧line≤255):FnX Tryz.prog 125 [Is (.pointer (some ⟨b,0,none⟩)),Is (.int .i64 line)] [blk b 218 [G0,G1,G2,G3,G4,G5,G6,G7,G8,G9,G10,G11,qal tPg (ks),qbe B0 (qal tPg (w)),G14,qal tI64 (nd),G16,G17,G18,G19,G20,G21,G22,G23,G24,G25]] (fun i:List Int×Pg=>i.1.length≤nd.length+1∧Ln i.2) (fun i=>qdw i.2) (fun i=>[blk b 218 [G0,G1,G2,G3,G4,G5,G6,G7,G8,G9,G10,G11,qal tPg (ks),qbe B0 (qal tPg (w)),G14,qal tI64 (i.1),G16,G17,G18,G19,G20,G21,G22,G23,G24,G25]]):=by
 refine Fn.enterB func125 ntmps125 rfl rfl ?_
 intro c hX hbelow
 refine t3 ?_
 intro i4
 refine t5 ?_
 refine qap rfl (by ((refine qc9 qga call154 (qhn B0 hr) ⟨qar,trivial⟩ (qet)))) ?_
 refine s1 ?_
 refine kRF call19 (qbu _ _) ?_
 refine t4 ?_
 intro i5
 refine t11 ?_
 refine cN ?_ ?_ <;> intro h2
 ·refine t7 ?_
  refine qap rfl (by ((refine qac call78 (qim nd line ?_) ⟨qar,⟨qar,trivial⟩⟩);all_goals (omega))) ?_
  refine t12 ?_
  refine qax (Bs:=[_]) (_,(⟨_,_,_,_,_,_,_,_,_⟩:Pg)) ?_ rfl results125 eXF qab
  exact ⟨by exact qg6 _ _,qdd _ hl⟩
 refine t9 ?_
 refine qax (Bs:=[_]) (_,(⟨_,_,_,_,_,_,_,_,_⟩:Pg)) ?_ rfl results125 eXF qab
 exact ⟨by exact Nat.le_succ _,qdd _ hl⟩
theorem qqf (B0 b:Nat) {G0 G1 G2 G3 G4 G6 G7 G8 G9 G10 G11 G17 G18 G19 G20 G21 G22 G23 G24 G25:VP} {sn:Bool} {ks w:List Pg} {cs nd:List Int} {cd:Int} (to:Pt) (key:BitVec 32) (hs:sn=false) (hr:ks.length+w.length≤400000) (hc:cs.length≤10000):FnX Tryz.prog 179 [Is (.pointer (some ⟨b,0,none⟩)),qm6 to,Is (.int .u32 (UV key))] [blk b 218 [G0,G1,G2,G3,G4,Is (.bool (sn)),G6,G7,G8,G9,G10,G11,qal tPg (ks),qbe B0 (qal tPg (w)),qal tI64 (cs),qal tI64 (nd),Is (.int .i64 (cd)),G17,G18,G19,G20,G21,G22,G23,G24,G25]]
  (fun i:Int×List Int×List Int×Pg×Vs=>i.2.2.1.length≤cs.length+1∧Ln i.2.2.2.1) (fun i=>qbv [qdw i.2.2.2.1,IsVs i.2.2.2.2]) (fun i=>[blk b 218 [G0,G1,G2,G3,G4,Is (.bool (sn)),G6,G7,G8,G9,G10,G11,qal tPg (ks),qbe B0 (qal tPg (w)),qal tI64 (i.2.2.1),qal tI64 (i.2.1),Is (.int .i64 (i.1)),G17,G18,G19,G20,G21,G22,G23,G24,G25]]):=by
 refine Fn.enterB func179 ntmps179 rfl rfl ?_
 intro c hX hbelow
 refine t3 ?_
 intro i4
 refine s1 ?_
 intro i6
 refine s1 ?_
 intro i7
 refine t3 ?_
 refine qa0 rfl (by kernel_rfl) ?_
 refine qag 12 (by kernel_rfl) ?_
 refine s1 ?_
 refine qbc (by ((refine qc9 qga call154 (qhn B0 hr) ⟨qar,trivial⟩ (qet)))) ?_
 refine s1 ?_
 refine qbc (qac call167 (qhp _ to 1 true) ⟨qar,⟨qar,⟨qar,⟨qar,trivial⟩⟩⟩⟩) ?_
 refine t4 ?_
 refine qka (qbi rfl qbo rfl) ?_
 refine qcp rfl rfl rfl (by kernel_rfl) (qbz qar qaf rfl rfl rfl qbo) ?_
 refine t2 ?_
 refine ⟨rfl,?_⟩
 intro i8
 refine qat ?_
 refine t8 ?_
 refine cN ?_ ?_ <;> intro h2
 ·refine t19 ?_
  refine qax (Bs:=[_,_]) (_,_,_,(⟨_,_,_,_,_,_,_,_,_⟩:Pg),(⟨(⟨_,_,_,_⟩:Rw),_,_,_,(⟨_,_⟩:Pt)⟩:Vs)) ?_ rfl results179 eXF qab
  exact ⟨by exact Nat.le_succ _,qe7 _ _ _ _⟩
 refine t9 ?_
 refine cN ?_ ?_ <;> intro h5
 ·refine t5 ?_
  refine qap rfl (OpP.to (qad (size:=1) (qs:=[(0,_)]) rfl rfl rfl ⟨⟨rfl,_,(er rfl),qaf⟩,trivial⟩ rf rf) (SubL.row1 (T:=tI64) (x:=_) rf rf rf qaj)) ?_
  refine t15 ?_
  refine qax (Bs:=[_,_]) (_,_,_,(⟨_,_,_,_,_,_,_,_,_⟩:Pg),(⟨(⟨_,_,_,_⟩:Rw),_,_,_,(⟨_,_⟩:Pt)⟩:Vs)) ?_ rfl results179 eXF qab
  exact ⟨by exact Nat.le_succ _,qe7 _ _ _ _⟩
 refine t5 ?_
 refine kRF call168 (qho _) ?_
 (refine qf1 41 rfl ?_;intro x41)
 refine t4 ?_
 intro i11
 refine t18 ?_
 refine cN ?_ ?_ <;> intro h9
 ·refine t18 ?_
  refine qax (Bs:=[_,_]) (_,_,_,(⟨_,_,_,_,_,_,_,_,_⟩:Pg),(⟨(⟨_,_,_,_⟩:Rw),_,_,_,(⟨_,_⟩:Pt)⟩:Vs)) ?_ rfl results179 eXF qab
  exact ⟨by exact Nat.le_succ _,qe7 _ _ _ _⟩
 refine t7 ?_
 refine qap rfl (OpP.to (qad (size:=1) (qs:=[(0,_)]) rfl rfl rfl ⟨⟨rfl,_,(er rfl),qaf⟩,trivial⟩ rf rf) (SubL.row1 (T:=tI64) (x:=_) rf rf rf qaj)) ?_
 (refine qe3 rfl (by ((refine qch qbh call176 (qky b [to.line] hs ?_) ⟨qar,⟨qar,trivial⟩⟩);all_goals (simp;omega))) ?_;intro x62 hx62)
 refine t3 ?_
 refine qa0 rfl (by kernel_rfl) ?_
 refine qdf (it:=blk i7 _ _) (by repeat (first|exact Drop1.here _ _|apply Drop1.next)) ?_
 refine qdf (it:=blk i6 _ _) (by repeat (first|exact Drop1.here _ _|apply Drop1.next)) ?_
 refine qdj (its:=[_,_]) 4 (by kernel_rfl) ?_
 refine t2 ?_
 refine qc6 (s:=65) rfl rfl rfl (by kernel_rfl) (fun c'=>by exact qa9 (er rfl) (er rfl) qaf qae rf rf rf) ?_
 refine qc6 (s:=66) rfl rfl rfl (by kernel_rfl) (fun c'=>by exact qa9 (er rfl) (er rfl) qaf qae rf rf rf) ?_
 refine ⟨rfl,?_⟩
 intro _ _
 refine qat ?_
 refine t2 ?_
 refine qax (Bs:=[_,_]) (_,_,_,(⟨_,_,_,_,_,_,_,_,_⟩:Pg),(⟨(⟨_,_,_,_⟩:Rw),_,_,_,(⟨_,_⟩:Pt)⟩:Vs)) ?_ rfl results179 eXF qab
 exact ⟨by exact hx62,qe7 _ _ _ _⟩
theorem qlz (B0 b:Nat) {G1 G3 G4 G5 G6 G7 G8 G9 G10 G11 G14 G17 G18 G20 G21 G22 G23 G24 G25:VP} {ocl oln owt cd:Int} {ks w:List Pg} {nd:List Int} (cnt:Int) (n:Nat) (hB:B0≤b) (hr:ks.length+w.length≤9000) (hw:WL n w) (hst:stpB nd cd=false):FnX Tryz.prog 182 [Is (.pointer (some ⟨b,0,none⟩)),Is (.int .i64 cnt)] [blk b 218 [Is (.int .i64 (ocl)),G1,Is (.int .i64 (oln)),G3,G4,G5,G6,G7,G8,G9,G10,G11,qal tPg (ks),qbe B0 (qal tPg (w)),G14,qal tI64 (nd),Is (.int .i64 (cd)),G17,G18,Is (.int .i64 (owt)),G20,G21,G22,G23,G24,G25]]
  (fun i:List Int×Int×List Pg×Int×List Pg=>WL (n+12) i.2.2.1∧(stpB i.1 i.2.1=false→(i.2.2.2.2.length:Int)=cnt)) (fun i=>qal tPg i.2.2.2.2) (fun i=>[blk b 218 [Is (.int .i64 (ocl)),G1,Is (.int .i64 (oln)),G3,G4,G5,G6,G7,G8,G9,G10,G11,qal tPg (ks),qbe B0 (qal tPg (i.2.2.1)),G14,qal tI64 (i.1),Is (.int .i64 (i.2.1)),G17,G18,Is (.int .i64 (i.2.2.2.1)),G20,G21,G22,G23,G24,G25]]):=by
 obtain ⟨hn0,hc0⟩:=qsv hst
 have hvl:=qai ks w
 refine Fn.enterB func182 ntmps182 rfl rfl ?_
 intro c hX hbelow
 have hBw:B0≤c.w.heap.size:=by
  have:=hbelow b (mem_names.2 ⟨_,List.mem_cons_self ..,rfl⟩)
  omega
 refine t6 ?_
 refine qa0 rfl (by kernel_rfl) ?_
 refine qgl (its:=[]) ?_
 refine f1 0 ?_
 refine f1 1 ?_
 refine f1 2 ?_
 refine f1 3 ?_
 refine f1 4 ?_
 refine f1 5 ?_
 refine f1 6 ?_
 refine f1 7 ?_
 refine f1 8 ?_
 refine f1 9 ?_
 refine f1 10 ?_
 refine f1 11 ?_
 refine qkf 12 rfl (by kernel_rfl) (by ((refine qc9 qga call154 (qhn B0 ?_) ⟨qar,trivial⟩ (qet));all_goals (omega))) ?_
 refine qm4 14 rfl (by kernel_rfl) (fun _=>(qbi rfl qbo rfl)) ?_
 (refine qy9 13 [0,1,2,3,4,5,6,7,8,9,10,11,12,13] rfl (by kernel_rfl) (by ((refine qac call25 (qjp (qcx ks w) _ _ cnt ?_) ⟨qar,⟨qar,⟨qar,⟨qar,trivial⟩⟩⟩⟩);all_goals (omega))) ?_;intro x19 hx19)
 (refine qgk 5 14 (by kernel_rfl) rfl rfl ?_;intro i5)
 refine qfi 15 [0,1,2,3,4,5,6,7,8,9,10,11,12,13,14,15] rfl (by kernel_rfl) (fun c'=>by exact qa9 (er rfl) (er rfl) qaf qae rf rf rf) ?_
 refine qeq (by kernel_rfl) rfl ?_
 show JQ _ _ _ _ _ _
 refine t3 ?_
 obtain ⟨ha1,ha2,ha3,ha4⟩:=hx19
 have ha5:=ha1.1
 have hw1:=hw.1
 refine t6 ?_
 refine cN ?_ ?_ <;> intro h2
 ·have hov:x19.over=false:=by simpa using h2
  have hne:=ha3 hov
  refine t17 ?_
  refine qam (b:=b) (As':=[Is (.int .i64 (_)),G1,Is (.int .i64 (_)),G3,G4,G5,G6,G7,G8,G9,G10,G11,qal tPg (_),qbe B0 (qal tPg (_)),G14,qal tI64 (_),Is (.int .i64 (_)),G17,G18,Is (.int .i64 (_)),G20,G21,G22,G23,G24,G25]) qae qba ?_
  refine qax (Bs:=[_]) (_,_,_,_,_) ?_ rfl results182 eXF qab
  exact ⟨hw.mono (by omega),fun h=>by
 have h8:=qsv h
 first
 | exact absurd h8.1 hne
 | exact absurd h8.2 hce⟩
 have hov:x19.over=true:=by simpa using h2
 refine t10 ?_
 refine cN ?_ ?_ <;> intro h5
 ·have hce:x19.code≠0:=by simpa using h5
  refine t18 ?_
  refine cN ?_ ?_ <;> intro h7
  ·refine t15 ?_
   refine qam (b:=b) (As':=[Is (.int .i64 (_)),G1,Is (.int .i64 (_)),G3,G4,G5,G6,G7,G8,G9,G10,G11,qal tPg (_),qbe B0 (qal tPg (_)),G14,qal tI64 (_),Is (.int .i64 (_)),G17,G18,Is (.int .i64 (_)),G20,G21,G22,G23,G24,G25]) qae qba ?_
   refine qax (Bs:=[_]) (_,_,_,_,_) ?_ rfl results182 eXF qab
   exact ⟨hw.mono (by omega),fun h=>by
 have h8:=qsv h
 first
 | exact absurd h8.1 hne
 | exact absurd h8.2 hce⟩
  refine t9 ?_
  refine qam (b:=b) (As':=[Is (.int .i64 (_)),G1,Is (.int .i64 (_)),G3,G4,G5,G6,G7,G8,G9,G10,G11,qal tPg (_),qbe B0 (qal tPg (_)),G14,qal tI64 (_),Is (.int .i64 (_)),G17,G18,Is (.int .i64 (_)),G20,G21,G22,G23,G24,G25]) qae qba ?_
  refine qax (Bs:=[_]) (_,_,_,_,_) ?_ rfl results182 eXF qab
  exact ⟨hw.mono (by omega),fun h=>by
 have h8:=qsv h
 first
 | exact absurd h8.1 hne
 | exact absurd h8.2 hce⟩
 have hce:x19.code=0:=by simpa using h5
 refine t3 ?_
 refine qa0 rfl (by kernel_rfl) ?_
 refine qag 10 (by kernel_rfl) ?_
 refine t7 ?_
 refine qbc (by ((refine qaw call52 (qcc _ _ ?_) ⟨qar,⟨qar,trivial⟩⟩);all_goals (omega))) ?_
 refine t2 ?_
 refine ⟨rfl,?_⟩
 refine qef (by kernel_rfl) rfl (qav (er rfl) (er rfl) qaf qae qbo rf rf rf) ?_
 refine qat ?_
 refine t9 ?_
 refine qam (b:=b) (As':=[Is (.int .i64 (_)),G1,Is (.int .i64 (_)),G3,G4,G5,G6,G7,G8,G9,G10,G11,qal tPg (_),qbe B0 (qal tPg (_)),G14,qal tI64 (_),Is (.int .i64 (_)),G17,G18,Is (.int .i64 (_)),G20,G21,G22,G23,G24,G25]) qae qba ?_
 refine qax (Bs:=[_]) (_,_,_,_,_) ?_ rfl results182 eXF qab
 exact ⟨qgf hw ha1 (Nat.le_refl _),fun _=>ha2 hov hce⟩
section
variable {P:Program} {c:Ctx} {A:Nat→Option VP} {L:List Item}
theorem HP.freezeBX {φ:Fz} {w:World} {b:Nat} {t:TypeId} {As:List VP} {L':List Item} (hm:HP c φ L w) (hr:Repl L (blk b t As) (fact (.pointer (some ⟨b,0,none⟩)) (qdo As)) L') (hX:∀ x,x∈c.X→x∈qb4 L'):∃ φ',Fle φ φ'∧HP c φ' L' w:=by
 obtain ⟨vs,e1,f1,f2⟩:=qkk hm hr.mem
 have hit:=hm.mem.items _ hr.mem
 have hown:∀ i,φ b i=none:=fun i=>(hit.2 b rfl).2 i
 let φ':Fz:=fun b' i=>if b'=b then vs[i]? else φ b' i
 have hsame:∀ i,φ' b i=vs[i]?:=fun i=>if_pos rfl
 have hoth:∀ b' i,b'≠b→φ' b' i=φ b' i:=fun b' i h=>if_neg h
 have hle:Fle φ φ':=fun b' i u hu=>by
  rw [hoth b' i (fun e=>by subst e;rw [hown i] at hu;cases hu)];exact hu
 have hg0:c.w.heap.size≤b:=(hm.mine b (mem_names.2 ⟨_,hr.mem,rfl⟩)).resolve_right fun hx=>by
  obtain ⟨x,hx1,hx2⟩:=mem_names.1 (hX b hx)
  rcases hr.mem' hx1 with rfl|⟨hx',hap⟩
  ·cases hx2
  ·exact (hap hm.mem.sep).1 b hx2 rfl
 refine ⟨φ',hle,⟨⟨fun b' i u hu=>?_,fun x hx=>?_,hr.sep hm.mem.sep fun x hx _ _=>⟨fun b _ (hb:none=some b)=>(nomatch hb),fun b (hb:none=some b)=>(nomatch hb)⟩⟩,hm.kept,fun b' hb=>?_,fun b' i hb=>?_⟩⟩
 ·by_cases hbg:b'=b
  ·subst hbg
   rw [hsame] at hu
   rw [qj6 e1];exact hu
  ·rw [hoth b' i hbg] at hu
   exact hm.mem.base b' i u hu
 ·rcases hr.mem' hx with rfl|⟨hx',hap⟩
  ·refine ⟨⟨b,0,rfl,fun j B hB=>?_⟩,fun b (hb:none=some b)=>(nomatch hb)⟩
   obtain ⟨u,h1,h2⟩:=f1.get hB
   exact ⟨u,by rw [hsame,Nat.zero_add];exact h1,B.mono hle h2,f2 u (List.mem_of_getElem? h1)⟩
  ·obtain ⟨h1,h2⟩:=hm.mem.items x hx'
   refine ⟨x.mono hle h1,fun b' hb=>⟨(h2 b' hb).1,fun i=>?_⟩⟩
   rw [hoth b' i (fun e=>(hap hm.mem.sep).1 b' hb (by rw [e];rfl))]
   exact (h2 b' hb).2 i
 ·obtain ⟨x,hx,hxb⟩:=mem_names.1 hb
  rcases hr.mem' hx with rfl|⟨hx',_⟩
  ·cases hxb
  ·exact hm.mine b' (mem_names.2 ⟨x,hx',hxb⟩)
 ·rw [hoth b' i (by omega)]
  exact hm.old b' i hb
variable {Q:Exit→Act→World→Prop} {N:Nat} {E:Env} {b:Nat} {t:TypeId} {As:List VP} {L':List Item}
theorem qf2 {x:Code} (hr:Repl L (blk b t As) (fact (.pointer (some ⟨b,0,none⟩)) (qdo As)) L') (hX:∀ x,x∈c.X→x∈qb4 L') (h:JC P c N x E L' Q):JC P c N x E L Q:=fun φ a w st =>
 let ⟨φ',h1,h2⟩:=HP.freezeBX st.mem hr hX
 h φ' a w ⟨st.defers,st.size,fun t B hB=>B.mono h1 (st.env t B hB),h2⟩
end
theorem zbc {M:List Item}:∀ b,b∈qb4 ([]:List Item)→b∈qb4 M:=fun b hb=>by simp [qb4] at hb
theorem qyq {x:Item} {L M:List Item} (h:∃ z,z∈M∧z.at_=x.at_) (h2:∀ b,b∈qb4 L→b∈qb4 M):∀ b,b∈qb4 (x :: L)→b∈qb4 M:=fun b hb=>by
 obtain ⟨it,h3,h4⟩:=mem_names.1 hb
 rcases List.mem_cons.1 h3 with rfl|h3
 ·obtain ⟨z,h5,h6⟩:=h
  exact mem_names.2 ⟨z,h5,h6.trans h4⟩
 ·exact h2 b (mem_names.2 ⟨it,h3,h4⟩)
theorem qps {X:List Nat} {L M:List Item} {p:Prop} (hX:X=qb4 L∧p) (h:∀ b,b∈qb4 L→b∈qb4 M:=by
  (repeat (refine qyq (by first
   | exact ⟨_,.head _,rfl⟩|exact ⟨_,.tail _ (.head _),rfl⟩|exact ⟨_,.tail _ (.tail _ (.head _)),rfl⟩|exact ⟨_,.tail _ (.tail _ (.tail _ (.head _))),rfl⟩
   | exact ⟨_,.tail _ (.tail _ (.tail _ (.tail _ (.head _)))),rfl⟩|exact ⟨_,.tail _ (.tail _ (.tail _ (.tail _ (.tail _ (.head _))))),rfl⟩|exact ⟨_,.tail _ (.tail _ (.tail _ (.tail _ (.tail _ (.tail _ (.head _)))))),rfl⟩
   | exact ⟨_,.tail _ (.tail _ (.tail _ (.tail _ (.tail _ (.tail _ (.tail _ (.head _))))))),rfl⟩
   | exact ⟨_,.tail _ (.tail _ (.tail _ (.tail _ (.tail _ (.tail _ (.tail _ (.tail _ (.head _)))))))),rfl⟩
   | exact ⟨_,.tail _ (.tail _ (.tail _ (.tail _ (.tail _ (.tail _ (.tail _ (.tail _ (.tail _ (.head _))))))))),rfl⟩
   | exact ⟨_,.tail _ (.tail _ (.tail _ (.tail _ (.tail _ (.tail _ (.tail _ (.tail _ (.tail _ (.tail _ (.head _)))))))))),rfl⟩
   | exact ⟨_,.tail _ (.tail _ (.tail _ (.tail _ (.tail _ (.tail _ (.tail _ (.tail _ (.tail _ (.tail _ (.tail _ (.head _))))))))))),rfl⟩) ?_));exact zbc):∀ b,b∈X→b∈qb4 M:=fun b hb=>h b (by rw [← hX.1];exact hb)
section
variable {P:Program} {ops:Array Oper} {c:Ctx} {N:Nat} {L:List Item}
variable {Q:Exit→Act→World→Prop} {nd:List Nat} {fr dn ks mi:List Nat} {EO:EnvO}
variable {t:Tmp} {op:Op} {ty:TypeId} {pos:String} {af:Array Edge}
theorem JF_tx {ι:Type} {p:ι→Prop} {F:ι→VP} {L':ι→List Item} (i:Nat) (dn':List Nat) (hi:ops[i]?=some ⟨some t,op,ty,pos,af,none⟩) (hB:barB ops nd fr dn dn' mi i=true) (hs:∀ c':Ctx,OpSX P c' ⟨some t,op,ty,pos,af,none⟩ (vals EO) L p F L')
  (h:∀ z,p z→JF P ops Q c N nd fr dn' ks (i :: mi) ((t,.v (F z)) :: EO) (L' z)):JF P ops Q c N nd fr dn ks mi EO L:=JF_b i dn' hi hB hs fun z=>h z.1 z.2
theorem loc_i0 {o:Oper} {j:Nat} {want b:Bool} {g:Tmp} {F:VP} (hg:o.guard=some (j,want)) (hj:(ops[j]?).bind (·.dst)=some g) (hl:vals EO g=some (Is (.bool b)))
  (hs:(b==want)=true→OpP P c o (vals EO) L F):LocOp P ops c L o (qcs EO) (.v (qdn (b==want) F (Is undef))) none:=fun φ a w K Q M hm ht hlk hk=>by
 obtain rfl:M=[]:=ht
 have hw:=qgz (o:=o) (a:=a) hg hj (gval hg hj hlk hl)
 cases hbw:(b==want) with
 | false =>
  rw [if_neg (by rw [hw,hbw];simp)]
  exact ⟨rfl,(rfl:undef=undef)⟩
 | true =>
  rw [if_pos (by rw [hw,hbw])]
  refine hs hbw φ a w K Q hm (evs hm.mem.facts hlk) fun φ' v w' hpp hf=>hk φ' v w' ⟨hpp,?_⟩
  rw [qfo,hbw];exact hf
theorem qis {j:Nat} {want b:Bool} {g:Tmp} {F:VP} (i:Nat) (hi:ops[i]?=some ⟨some t,op,ty,pos,af,some (j,want)⟩) (hB:qtg nd fr mi i=true) (hj:(ops[j]?).bind (·.dst)=some g) (hl:vals EO g=some (Is (.bool b)))
  (hs:∀ L,(b==want)=true→OpP P c ⟨some t,op,ty,pos,af,some (j,want)⟩ (vals EO) L F) (h:JF P ops Q c N nd (i :: fr) dn ks (i :: mi) ((t,.v (qdn (b==want) F (Is undef))) :: EO) L):JF P ops Q c N nd fr dn ks mi EO L:=
 quk (i :: fr) hi (qfx hB).1 qe0 (loc_i0 rfl hj hl (hs L)) (.inr ⟨rfl,fun L'=>loc_i0 rfl hj hl (hs L')⟩) h
end
end Go.Proofs.YtmgoplaamlignaaGreat
