/- Texts laid together: walks of functions, what they compute, and plain laws of it. Own work. -/
import Derived.Test.YtmgoplaamlignaaGreatK33
import Derived.Test.YtmgoplaamlignaaGreatK1
namespace Go.Proofs.YtmgoplaamlignaaGreat
open Go.RowKit Tryz
set_option linter.unusedVariables false
set_option linter.unusedSimpArgs false
set_option maxRecDepth 100000
set_option maxHeartbeats 4000000
abbrev SlA:=Option Addr×Nat
theorem zad (op:Op24) (p:P24) (o:O24) (ks:List Pg) (hlim:1≤op.limit∧op.limit≤64) (hp:qhy p.node) (ho:o.check=[]) (ho2:o.more=false):FnF Tryz.prog 198 [qmy op,qum p,zdg o,qal tPg ks] (fun B=>qek qx2 fun r=>qjm B r):=by
 obtain ⟨o1,o2,o3,o4,o5,o6,o7,o8,o9,o10,o11,o12,o13⟩:=o
 dsimp only at ho ho2
 subst ho ho2
 refine FnF.enter func198 ntmps198 rfl rfl ?_
 intro c hX
 refine t3 ?_
 intro i4
 refine s1 ?_
 intro i5
 refine s1 ?_
 intro i6
 refine s1 ?_
 intro i8
 refine t3 ?_
 refine qa0 rfl (by kernel_rfl) ?_
 refine qag 8 (by kernel_rfl) ?_
 refine t4 ?_
 refine qka (qbi rfl qbo rfl) ?_
 refine qka (qbi rfl qbo rfl) ?_
 refine qcp rfl rfl rfl (by kernel_rfl) (qbz qar qaf rfl rfl rfl qbo) ?_
 refine qcp rfl rfl rfl (by kernel_rfl) (qbz qar qaf rfl rfl rfl qbo) ?_
 refine ⟨rfl,?_⟩
 intro i10 i9
 refine qat ?_
 refine t7 ?_
 refine qcn 281 tEn ?_
 refine qbq (b:=i9) (As':=tPg.cells (⟨_,_,_,_,_,_,_,_,_⟩:Pg)) qae qba ?_
 refine qbq (b:=i10) (As':=tN24.cells (⟨_,_,_,_,(⟨_,_⟩:Pt),_⟩:N24)) qae qba ?_
 refine qaz [(3,_),(4,_),(6,_),(8,_),(9,_),(10,_)] [blk i8 _ _,blk i4 _ _] (fun y:Pg×N24×O24×(List En)×Nat×(Option Addr×Nat)=>qhy y.2.1∧(y.2.2.2.1.length:Int)<op.limit∧y.2.2.1.check.length≤y.2.2.2.2.1∧y.2.2.2.2.1≤256) (fun y=>[(11,Is (.int .i64 (y.2.2.2.2.1:Nat)))]) (fun y=>[blk i9 53 (tPg.cells y.1),blk i10 268 (tN24.cells y.2.1),blk i6 273 [Is (.int .i64 y.2.2.1.code),Is (.bool y.2.2.1.found),Is (.bool y.2.2.1.done),Is (.bool y.2.2.1.split),Is (.bool y.2.2.1.unposted),Is (.bool y.2.2.1.dead),Is (.bool false),Is (.int .i64 y.2.2.1.to.line),Is (.int .i64 y.2.2.1.to.gen),Is (slV (y.2.2.2.1).length y.2.2.2.2.2),qal tI64 y.2.2.1.check,Is (.int .i64 y.2.2.1.hops),Is (.int .i64 y.2.2.1.fresh),Is (.int .i64 y.2.2.1.height)],buf (slV (y.2.2.2.1).length y.2.2.2.2.2) 281 tEn (y.2.2.2.1)]) (fun y=>257-y.2.2.2.2.1) ((⟨_,_,_,_,_,_,_,_,_⟩:Pg),(⟨_,_,_,_,(⟨_,_⟩:Pt),_⟩:N24),(⟨_,_,_,_,_,_,_,(⟨_,_⟩:Pt),_,_,_,_,_⟩:O24),[],0,(none,0)) ?_ qah qab ?_
 ·exact (⟨hp,by simp;omega,Nat.le_refl 0,by show (0:Nat)≤256;decide⟩)
 rintro ⟨pg,n,o1,es,m,v_0⟩ hI
 dsimp only at hI ⊢
 refine t9 ?_
 obtain ⟨hi1,hi2,hi3,hi4⟩:=hI
 obtain ⟨hn1,hn1b⟩:=id hi1
 refine qb3 [(3,_),(4,_),(6,_),(8,_),(9,_),(10,_),(11,_),(23,_),(24,_)] [blk i10 _ _,blk i9 _ _,blk i8 _ _,blk i4 _ _] (fun yc:O24×(List En)×SlA=>(yc.2.1.length:Int)<op.limit∧yc.1.check.length≤m+1) (fun yc=>[]) (fun yc=>[blk i6 273 [Is (.int .i64 yc.1.code),Is (.bool yc.1.found),Is (.bool yc.1.done),Is (.bool yc.1.split),Is (.bool yc.1.unposted),Is (.bool yc.1.dead),Is (.bool false),Is (.int .i64 yc.1.to.line),Is (.int .i64 yc.1.to.gen),Is (slV (yc.2.1).length yc.2.2),qal tI64 yc.1.check,Is (.int .i64 yc.1.hops),Is (.int .i64 yc.1.fresh),Is (.int .i64 yc.1.height)],buf (slV (yc.2.1).length yc.2.2) 281 tEn (yc.2.1)]) qah qab ?_ ?_
 rotate_left
 focus
  refine cN ?_ ?_ <;> intro h3
  ·refine t4 ?_
   refine kRF call49 (qb5 _) ?_
   refine t2 ?_
   refine cN ?_ ?_ <;> intro h4
   ·refine t11 ?_
    refine kXF call192 (qa3 c.w.heap.size (⟨_,_,_,_,_,_,_,(⟨_,_⟩:Pt),_,_,_,_,_⟩:O24) _) ?_
    refine t9 ?_
    exact rXF (⟨_,_,(⟨_,_,_,_,_,_,_,(⟨_,_⟩:Pt),_,_,_,_,_⟩:O24),_⟩:S24) results198 (hp:=by exact ⟨wl0,by exact Nat.zero_le _,Nat.zero_le _⟩)
   refine t8 ?_
   refine qap rfl (by ((refine qac call78 (qim _ _ ?_) ⟨qar,⟨qar,trivial⟩⟩);all_goals (first|first|assumption|omega|(simp;omega)))) ?_
   refine t6 ?_
   have hq8:(qd7 o1.check pg.l).length≤m+1:=Nat.le_trans (qg6 _ _) (by omega)
   refine t5 ?_
   refine qaz [(3,_),(4,_),(6,_),(8,_),(9,_),(10,_),(11,_),(23,_),(24,_),(26,_),(38,_),(39,_),(40,_),(41,_),(42,_),(43,_)] [blk i10 _ _,blk i9 _ _,blk i8 _ _,blk i4 _ _] (fun ya:Nat×(List En)×Bool×(Option Addr×Nat)=>ya.1≤(n.entries).length∧((ya.2.1.length:Int)≤op.limit∧(ya.2.2.1=false→(ya.2.1.length:Int)<op.limit))) (fun ya=>[(12,Is (.int .i64 (ya.1:Nat)))]) (fun ya=>[blk i6 273 [Is (.int .i64 o1.code),Is (.bool o1.found),Is (.bool o1.done),Is (.bool o1.split),Is (.bool o1.unposted),Is (.bool o1.dead),Is (.bool ya.2.2.1),Is (.int .i64 o1.to.line),Is (.int .i64 o1.to.gen),Is (slV (ya.2.1).length ya.2.2.2),qal tI64 (qd7 o1.check pg.l),Is (.int .i64 o1.hops),Is (.int .i64 o1.fresh),Is (.int .i64 o1.height)],buf (slV (ya.2.1).length ya.2.2.2) 281 tEn (ya.2.1)]) (fun ya=>(n.entries).length-ya.1) (0,es,false,v_0) ?_ qah qab ?_
   ·exact ⟨by exact Nat.zero_le _,⟨by dsimp only;omega,fun _=>hi2⟩⟩
   rintro ⟨ka,es2,mr,va_0⟩ ⟨hka,hIa⟩
   dsimp only at hka hIa ⊢
   refine t15 ?_
   refine cN ?_ ?_ <;> intro h8
   ·rw [Bool.and_eq_true] at h8
    have hlta:ka<n.entries.length:=by have:=of_decide_eq_true h8.1;omega
    have hmr:mr=false:=by simpa using h8.2
    have hl2:=hIa.2 hmr
    obtain ⟨za,hza⟩:∃ q,n.entries[ka]?=some q:=⟨_,List.getElem?_eq_getElem hlta⟩
    have hnew:((es2++[za]).length:Int)≤op.limit∧((((es2++[za]).length:Int)==op.limit)=false→((es2++[za]).length:Int)<op.limit):=by
     rw [List.length_append,List.length_singleton]
     exact ⟨by omega, fun h => by have : ¬ ((es2.length + 1 : Nat) : Int) = op.limit := by simpa using h
                                  omega⟩
    clear h8
    refine t5 ?_
    refine qa0 rfl (by kernel_rfl) ?_
    refine qag 20 (by kernel_rfl) ?_
    refine t3 ?_
    refine qbc (by exact qau (j:=_) (er rfl) (er rfl) rfl rfl rf hza) ?_
    refine t9 ?_
    (refine qem rfl rfl (fun hg=>(by have hg0:=hg;(try simp at hg);exact qau (j:=_) evG evG rfl rfl rf hza)) ?_)
    refine t6 ?_
    refine ⟨rfl,?_⟩
    refine qat ?_
    refine s1 ?_
    refine cN ?_ ?_ <;> intro h10
    ·refine s1 ?_
     refine qa0 rfl (by kernel_rfl) ?_
     refine qag 8 (by kernel_rfl) ?_
     refine t5 ?_
     refine qbc (by exact qau (j:=_) (er rfl) (er rfl) rfl rfl rf hza) ?_
     refine s1 ?_
     refine qbc (OpP.to (qad (size:=3) (qs:=[(0,_)]) rfl rfl rfl ⟨⟨rfl,_,(er rfl),qaf⟩,trivial⟩ rf rf) (SubL.row1 (T:=tEn) (x:=(⟨_,(⟨_,_⟩:Pt)⟩:En)) rf rf rf qaj)) ?_
     refine ⟨rfl,?_⟩
     (refine JD_s (by kernel_rfl) rfl rfl (qb9 (er rfl) (fun _=>qae) (by exact er rfl) (by exact qep rfl rfl rfl) qbt) ?_;intro i84)
     refine qag 1 (by kernel_rfl) ?_
     refine s1 ?_
     refine ⟨rfl,?_⟩
     refine qef (by kernel_rfl) rfl (qav (er rfl) (er rfl) qaf qae qbo rf rf rf) ?_
     refine qat ?_
     refine t18 ?_
     refine qaa (ka+1,_,_,_) ?_ ?_ qah qab
     ·exact ⟨by omega,by exact hnew⟩
     ·exact (by omega)
    refine t8 ?_
    refine qaa (ka+1,_,_,_) ?_ ?_ qah qab
    ·exact ⟨by omega,by exact hIa⟩
    ·exact (by omega)
   skip
   refine t18 ?_
   refine cN ?_ ?_ <;> intro h13
   ·skip
    refine t12 ?_
    refine qee hX (v:=slV es2.length va_0) qae ?_
    exact rXF (⟨_,_,(⟨_,_,_,_,_,_,_,(⟨_,_⟩:Pt),_,_,_,_,_⟩:O24),_⟩:S24) results198 (hp:=⟨wl0,Nat.zero_le _,Nat.le_trans hq8 (by omega)⟩)
   rw [Bool.or_eq_false_iff] at h13
   obtain ⟨h13a,h13b⟩:=h13
   subst h13a
   have hq9:=hIa.2 rfl
   refine s1 ?_
   exact qak ({ o1 with check:=qd7 o1.check pg.l,more:=false },es2,va_0) ⟨hq9,hq8⟩ qah qab
  refine t4 ?_
  exact qak ({ o1 with dead:=true,more:=false },es,v_0) ⟨hi2,by dsimp only;omega⟩ qah qab
 rintro ⟨o3,es3,v3⟩ hI
 dsimp only at hI ⊢
 obtain ⟨hq1,hq2⟩:=hI
 refine t12 ?_
 intro i13
 refine t37 ?_
 (refine qcq rfl rfl rfl (fun hg=>(by have hg0:=hg;(try simp at hg);exact qdc evG evG)) ?_)
 refine t3 ?_
 refine cN ?_ ?_ <;> intro h20
 ·refine t3 ?_
  refine kXF call192 (qa3 c.w.heap.size (⟨_,_,_,_,_,_,_,(⟨_,_⟩:Pt),_,_,_,_,_⟩:O24) _) ?_
  refine t8 ?_
  exact rXF (⟨_,_,(⟨_,_,_,_,_,_,_,(⟨_,_⟩:Pt),_,_,_,_,_⟩:O24),_⟩:S24) results198 (hp:=by exact ⟨wl0,by exact Nat.zero_le _,Nat.zero_le _⟩)
 rw [Bool.or_eq_false_iff] at h20
 have hm9:¬ ((m:Int)+1>256):=of_decide_eq_false h20.1
 refine t7 ?_
 refine kRF call167 (qhp _ _ _ _) ?_
 refine t5 ?_
 intro i14
 refine t12 ?_
 refine cN ?_ ?_ <;> intro h23
 ·refine t4 ?_
  refine kXF call192 (qa3 c.w.heap.size (⟨_,_,_,_,_,_,_,(⟨_,_⟩:Pt),_,_,_,_,_⟩:O24) _) ?_
  refine t8 ?_
  exact rXF (⟨_,_,(⟨_,_,_,_,_,_,_,(⟨_,_⟩:Pt),_,_,_,_,_⟩:O24),_⟩:S24) results198 (hp:=by exact ⟨wl0,by exact Nat.zero_le _,Nat.zero_le _⟩)
 refine t9 ?_
 refine cN ?_ ?_ <;> intro h25
 ·refine t5 ?_
  refine qap rfl (OpP.to (qad (size:=1) (qs:=[(0,_)]) rfl rfl rfl ⟨⟨rfl,_,(er rfl),qaf⟩,trivial⟩ rf rf) (SubL.row1 (T:=tI64) (x:=_) rf rf rf qaj)) ?_
  refine t9 ?_
  exact rXF (⟨_,_,(⟨_,_,_,_,_,_,_,(⟨_,_⟩:Pt),_,_,_,_,_⟩:O24),_⟩:S24) results198 (hp:=by exact ⟨wl0,by exact Nat.le_refl 1,Nat.zero_le _⟩)
 refine t5 ?_
 refine kRF call190 (qjk _) ?_
 (refine qa5 156 rfl ?_;intro x156 hx156)
 refine t4 ?_
 intro i17
 refine t16 ?_
 refine cN ?_ ?_ <;> intro h28
 ·refine t3 ?_
  refine kXF call192 (qa3 c.w.heap.size (⟨_,_,_,_,_,_,_,(⟨_,_⟩:Pt),_,_,_,_,_⟩:O24) _) ?_
  refine t8 ?_
  exact rXF (⟨_,_,(⟨_,_,_,_,_,_,_,(⟨_,_⟩:Pt),_,_,_,_,_⟩:O24),_⟩:S24) results198 (hp:=by exact ⟨wl0,by exact Nat.zero_le _,Nat.zero_le _⟩)
 have hn2:qhy x156.1:=hx156
 refine qd2 (b:=i14) hX qae ?_
 refine qb0 14 (qdo (tPg.cells (lkV ks n.right 4 false).1)) rfl qfm ?_
 refine qd2 (b:=i17) hX qae ?_
 refine qb0 17 (qdo (tN24.cells x156.1)) rfl qfm ?_
 refine t2 ?_
 refine qa0 rfl (by kernel_rfl) ?_
 refine qct [0,0,2,2] (by kernel_rfl) (by kernel_rfl) ?_
 refine qb7 (by exact qcm (n:=9) (er rfl) rfl rfl rfl rf qbo) ?_
 refine qb7 (by exact qcm (n:=7) (er rfl) rfl rfl rfl rf qbo) ?_
 refine qiy (qav (er rfl) (er rfl) qaf qae qbo rf rf rf) ?_
 refine qiy (qav (er rfl) (er rfl) qaf qae qbo rf rf rf) ?_
 refine qeu ?_
 refine qat ?_
 refine s1 ?_
 refine qam (b:=i9) (As':=tPg.cells (⟨_,_,_,_,_,_,_,_,_⟩:Pg)) qae qba ?_
 refine qam (b:=i10) (As':=tN24.cells (⟨_,_,_,_,(⟨_,_⟩:Pt),_⟩:N24)) qae qba ?_
 refine qaa (_,_,{ o3 with hops:=IntKind.i64.wrap (o3.hops+1) },es3,m+1,v3) ?_ ?_ qah qab
 ·exact ⟨hn2,hq1,by dsimp only;omega,by dsimp only;omega⟩
 ·(dsimp only;omega)
theorem zaj (op:Op24) (ks:List Pg) (h0:0≤op.level) (h7:op.level≤7):FnF Tryz.prog 193 [qmy op,qal tPg ks] (fun B=>qek qx2 fun r=>qjm B r):=by
 refine FnF.enter func193 ntmps193 rfl rfl ?_
 intro c hX
 refine t3 ?_
 intro i2
 refine s1 ?_
 intro i4
 refine t10 ?_
 refine qap rfl (by ((refine qac call164 (qh8 _ _ _ ?_) ⟨qar,⟨qar,⟨qar,trivial⟩⟩⟩);all_goals (omega))) ?_
 (refine qa5 21 rfl ?_;intro x21 hx21)
 refine s1 ?_
 intro i5
 refine t5 ?_
 obtain ⟨hd1,hd2,hd3,hdp⟩:=hx21
 refine t7 ?_
 refine cN ?_ ?_ <;> intro h2
 ·refine t10 ?_
  exact rXF (⟨_,_,(⟨_,_,_,_,_,_,_,(⟨_,_⟩:Pt),_,_,_,_,_⟩:O24),_⟩:S24) results193 (hp:=by exact ⟨wl0,by exact hd1,by exact Nat.zero_le _⟩)
 refine t13 ?_
 refine cN ?_ ?_ <;> intro h4
 ·refine t3 ?_
  refine kXF call192 (qa3 c.w.heap.size (⟨_,_,_,_,_,_,_,(⟨_,_⟩:Pt),_,_,_,_,_⟩:O24) _) ?_
  refine t5 ?_
  exact rXF (⟨_,_,(⟨_,_,_,_,_,_,_,(⟨_,_⟩:Pt),_,_,_,_,_⟩:O24),_⟩:S24) results193 (hp:=by exact ⟨wl0,by exact Nat.zero_le _,by exact Nat.zero_le _⟩)
 refine t6 ?_
 intro i6
 refine t7 ?_
 refine kXF call196 (qln (⟨_,_,_,_,(⟨_,_,_,_,_,_,_,_,_⟩:Pg),(⟨_,_,_,_,(⟨_,_⟩:Pt),_⟩:N24),(⟨_,_,_,_,(⟨_,_⟩:Pt),_⟩:N24),_,_,_⟩:P24)) ?_
 (refine qf1 39 rfl ?_;intro x39)
 refine t2 ?_
 refine qb3 [(1,_),(2,_),(4,_),(5,_),(6,_)] [blk i5 _ _,blk i4 _ _,blk i2 _ _] (fun yc:O24=>yc.check=[]) (fun yc=>[]) (fun yc=>[blk i6 273 (tO24.cells yc)]) qah qab ?_ ?_
 rotate_left
 focus
  refine cN ?_ ?_ <;> intro h7
  ·refine t3 ?_
   refine kXF call197 (qxy (⟨_,_,_,_,_,_,_,(⟨_,_⟩:Pt),_,_,_,_,_⟩:O24) (⟨_,_,_,_,(⟨_,_,_,_,_,_,_,_,_⟩:Pg),(⟨_,_,_,_,(⟨_,_⟩:Pt),_⟩:N24),(⟨_,_,_,_,(⟨_,_⟩:Pt),_⟩:N24),_,_,_⟩:P24)) ?_
   (refine qa5 42 rfl ?_;intro x42 hx42)
   refine t2 ?_
   refine qam (b:=i6) (As':=tO24.cells (⟨_,_,_,_,_,_,_,(⟨_,_⟩:Pt),_,_,_,_,_⟩:O24)) qae qba ?_
   refine qak (⟨_,_,_,_,_,_,_,(⟨_,_⟩:Pt),_,_,_,_,_⟩:O24) ?_ qah qab
   ·exact (by exact hx42.1)
  refine s1 ?_
  refine qam (b:=i6) (As':=tO24.cells (⟨_,_,_,_,_,_,_,(⟨_,_⟩:Pt),_,_,_,_,_⟩:O24)) qae qba ?_
  refine qak (⟨_,_,_,_,_,_,_,(⟨_,_⟩:Pt),_,_,_,_,_⟩:O24) ?_ qah qab
  ·exact rf
 rintro o hI
 refine t8 ?_
 refine cN ?_ ?_ <;> intro h9
 ·refine t5 ?_
  refine kXF call192 (qa3 c.w.heap.size (⟨_,_,_,_,_,_,_,(⟨_,_⟩:Pt),_,_,_,_,_⟩:O24) _) ?_
  refine t5 ?_
  exact rXF (⟨_,_,(⟨_,_,_,_,_,_,_,(⟨_,_⟩:Pt),_,_,_,_,_⟩:O24),_⟩:S24) results193 (hp:=by exact ⟨wl0,by exact Nat.zero_le _,by (rw [hI];exact Nat.zero_le _)⟩)
 have hnn:x21.need=[]:=List.eq_nil_of_length_eq_zero (by have:=of_decide_eq_false h2;omega)
 rw [Bool.or_eq_false_iff] at h4
 have hds:=hd3 hnn h4.1 h4.2 (by simpa using h9)
 obtain ⟨hq1,hq2,hq3⟩:=hd2
 obtain ⟨e,he1,he2⟩:=hq3 (by omega)
 refine t9 ?_
 refine qap rfl (by ((refine qac call201 (qqz _ _ ?_) ⟨qar,⟨qar,trivial⟩⟩);all_goals (omega))) ?_
 (refine qa5 56 rfl ?_;intro x56 hx56)
 refine t8 ?_
 obtain ⟨hi1,hi2,hi3⟩:=hx56
 have hlt:=hi3 e he1 (by omega)
 have hz:x21.node.entries[x56.1]?=some _:=List.getElem?_eq_getElem hlt
 have hlp:x56.1-1<x21.node.entries.length:=Nat.lt_of_le_of_lt (Nat.sub_le _ _) hlt
 have hzp:x21.node.entries[x56.1-1]?=some _:=List.getElem?_eq_getElem hlp
 refine t8 ?_
 intro i9
 refine t10 ?_
 refine kXF call223 (qn7 _ (⟨_,_⟩:Pt) _) ?_
 (refine qa5 71 rfl ?_;intro x71 hx71)
 refine t6 ?_
 intro i10
 refine s1 ?_
 intro i11
 refine t8 ?_
 obtain ⟨hk1,hk2,hkp⟩:=hx71
 refine t6 ?_
 refine cN ?_ ?_ <;> intro h14
 ·refine t9 ?_
  exact rXF (⟨_,_,(⟨_,_,_,_,_,_,_,(⟨_,_⟩:Pt),_,_,_,_,_⟩:O24),_⟩:S24) results193 (hp:=by exact ⟨wl0,by exact hk1,by exact Nat.zero_le _⟩)
 refine t9 ?_
 refine cN ?_ ?_ <;> intro h16
 ·refine t4 ?_
  refine kXF call192 (qa3 c.w.heap.size (⟨_,_,_,_,_,_,_,(⟨_,_⟩:Pt),_,_,_,_,_⟩:O24) _) ?_
  refine t5 ?_
  exact rXF (⟨_,_,(⟨_,_,_,_,_,_,_,(⟨_,_⟩:Pt),_,_,_,_,_⟩:O24),_⟩:S24) results193 (hp:=by exact ⟨wl0,by exact Nat.zero_le _,by (rw [hI];exact Nat.zero_le _)⟩)
 refine t9 ?_
 refine cN ?_ ?_ <;> intro h18
 ·refine t3 ?_
  refine kXF call192 (qa3 c.w.heap.size (⟨_,_,_,_,_,_,_,(⟨_,_⟩:Pt),_,_,_,_,_⟩:O24) _) ?_
  refine t5 ?_
  exact rXF (⟨_,_,(⟨_,_,_,_,_,_,_,(⟨_,_⟩:Pt),_,_,_,_,_⟩:O24),_⟩:S24) results193 (hp:=by exact ⟨wl0,by exact Nat.zero_le _,by (rw [hI];exact Nat.zero_le _)⟩)
 refine t12 ?_
 refine cN ?_ ?_ <;> intro h20
 ·refine t15 ?_
  exact rXF (⟨_,_,(⟨_,_,_,_,_,_,_,(⟨_,_⟩:Pt),_,_,_,_,_⟩:O24),_⟩:S24) results193 (hp:=by exact ⟨wl0,by exact Nat.zero_le _,by (rw [hI];exact Nat.zero_le _)⟩)
 refine t4 ?_
 refine qa0 rfl (by kernel_rfl) ?_
 refine qag 15 (by kernel_rfl) ?_
 refine t8 ?_
 (refine qem rfl rfl (fun hg=>(by have hg0:=hg;(try simp at hg);exact qau (j:=x56.1-1) evG evG rfl rfl (by omega) hzp)) ?_)
 refine t6 ?_
 refine ⟨rfl,?_⟩
 refine qat ?_
 refine s1 ?_
 refine cN ?_ ?_ <;> intro h23
 ·refine t3 ?_
  refine kXF call192 (qa3 c.w.heap.size (⟨_,_,_,_,_,_,_,(⟨_,_⟩:Pt),_,_,_,_,_⟩:O24) _) ?_
  refine t5 ?_
  exact rXF (⟨_,_,(⟨_,_,_,_,_,_,_,(⟨_,_⟩:Pt),_,_,_,_,_⟩:O24),_⟩:S24) results193 (hp:=by exact ⟨wl0,by exact Nat.zero_le _,by (rw [hI];exact Nat.zero_le _)⟩)
 refine t4 ?_
 (refine qzh rfl (qbx tEn rfl rfl) ?_;intro i115)
 refine t4 ?_
 refine qap rfl (qdb (er rfl) rfl rfl rfl ⟨_,_,(er rfl),rf⟩ (by omega) (by omega)) ?_
 (refine qe6 rfl (qb9 (er rfl) (fun _=>qae) qar (by exact qep rfl rfl rfl) qbt) ?_;intro i121)
 refine t16 ?_
 refine qap rfl (OpP.to (qad (size:=3) (qs:=[(0,_),(1,_)]) rfl rfl rfl ⟨⟨rfl,_,(er rfl),qaf⟩,⟨⟨rfl,_,(er rfl),qaf⟩,trivial⟩⟩ rf rf) (SubL.row2 (T:=tEn) (x:=(⟨x71.2.1.high,⟨_,_⟩⟩:En)) (y:=(⟨_,x71.2.1.right⟩:En)) rf rf rf rf qaj qaj)) ?_
 (refine qe6 rfl (qb9 (er rfl) (fun _=>qae) qar (by exact qep rfl rfl rfl) qbt) ?_;intro i134)
 refine t11 ?_
 refine qap rfl (qdb (er rfl) rfl rfl ⟨_,_,(er rfl),(show _=((x56.1+1:Nat):Int) by rfl)⟩ rfl (by omega) (by omega)) ?_
 (refine qe6 rfl (qb9 (er rfl) (fun _=>qae) qar (by exact qep rfl rfl rfl) qbt) ?_;intro i142)
 refine t4 ?_
 refine qa8 hX (v:=slV _ i142) qae ?_
 refine t3 ?_
 refine qap rfl (OpP.to (qad (size:=1) (qs:=[(0,_)]) rfl rfl rfl ⟨⟨rfl,_,(er rfl),qaf⟩,trivial⟩ rf rf) (SubL.row1 (T:=tI64) (x:=_) rf rf rf qaj)) ?_
 refine t16 ?_
 refine qap rfl (by ((refine qaw call203 (qpj (⟨_,_,_,_,_,_,_,_,_⟩:Pg) (⟨_,_,_,_,(⟨_,_⟩:Pt),_⟩:N24) _ _ _ (⟨_,_,_,_,_,_,_,(⟨_,_⟩:Pt),_,_,_,_,_⟩:O24) ?_ ?_ ?_) ⟨qbb,⟨qbb,⟨qbb,⟨qbb,⟨qbb,⟨qbb,trivial⟩⟩⟩⟩⟩⟩);all_goals (first|simp;omega|exact Nat.le_refl 1|assumption))) ?_
 (refine qa5 157 rfl ?_;intro x157 hx157)
 refine t4 ?_
 exact rXF (⟨_,_,(⟨_,_,_,_,_,_,_,(⟨_,_⟩:Pt),_,_,_,_,_⟩:O24),_⟩:S24) results193 (hp:=by exact hx157)
theorem raise_ok (op:Op24) (ks:List Pg):FnF Tryz.prog 194 [qmy op,qal tPg ks] (fun B=>qek qx2 fun r=>qjm B r):=by
 refine FnF.enter func194 ntmps194 rfl rfl ?_
 intro c hX
 refine t3 ?_
 intro i2
 refine s1 ?_
 intro i4
 refine t5 ?_
 refine kRF call19 (qbu _ _) ?_
 refine t4 ?_
 intro i5
 refine t11 ?_
 refine cN ?_ ?_ <;> intro h2
 ·refine t2 ?_
  refine qap rfl (OpP.to (qad (size:=1) (qs:=[(0,_)]) rfl rfl rfl ⟨⟨rfl,_,(er rfl),qaf⟩,trivial⟩ rf rf) (SubL.row1 (T:=tI64) (x:=_) rf rf rf qaj)) ?_
  refine t6 ?_
  exact rXF (⟨_,_,(⟨_,_,_,_,_,_,_,(⟨_,_⟩:Pt),_,_,_,_,_⟩:O24),_⟩:S24) results194 (hp:=by exact ⟨wl0,by exact Nat.le_refl 1,Nat.zero_le _⟩)
 refine t6 ?_
 refine kRF call49 (qb5 _) ?_
 refine t2 ?_
 refine cN ?_ ?_ <;> intro h4
 ·refine t3 ?_
  refine kXF call192 (qa3 c.w.heap.size (⟨_,_,_,_,_,_,_,(⟨_,_⟩:Pt),_,_,_,_,_⟩:O24) _) ?_
  refine t5 ?_
  exact rXF (⟨_,_,(⟨_,_,_,_,_,_,_,(⟨_,_⟩:Pt),_,_,_,_,_⟩:O24),_⟩:S24) results194 (hp:=by exact ⟨wl0,by exact Nat.zero_le _,Nat.zero_le _⟩)
 refine t5 ?_
 refine kRF call189 (qlv _) ?_
 (refine qf1 36 rfl ?_;intro x36)
 refine t5 ?_
 intro i7
 refine t12 ?_
 refine cN ?_ ?_ <;> intro h7
 ·refine t3 ?_
  refine kXF call192 (qa3 c.w.heap.size (⟨_,_,_,_,_,_,_,(⟨_,_⟩:Pt),_,_,_,_,_⟩:O24) _) ?_
  refine t5 ?_
  exact rXF (⟨_,_,(⟨_,_,_,_,_,_,_,(⟨_,_⟩:Pt),_,_,_,_,_⟩:O24),_⟩:S24) results194 (hp:=by exact ⟨wl0,by exact Nat.zero_le _,Nat.zero_le _⟩)
 refine t7 ?_
 refine qap rfl (qdc (er rfl) (er rfl)) ?_
 refine t2 ?_
 refine cN ?_ ?_ <;> intro h9
 ·refine t3 ?_
  refine kXF call192 (qa3 c.w.heap.size (⟨_,_,_,_,_,_,_,(⟨_,_⟩:Pt),_,_,_,_,_⟩:O24) _) ?_
  refine t5 ?_
  exact rXF (⟨_,_,(⟨_,_,_,_,_,_,_,(⟨_,_⟩:Pt),_,_,_,_,_⟩:O24),_⟩:S24) results194 (hp:=by exact ⟨wl0,by exact Nat.zero_le _,Nat.zero_le _⟩)
 refine t6 ?_
 refine kXF call223 (qn7 _ (⟨_,_⟩:Pt) _) ?_
 (refine qa5 52 rfl ?_;intro x52 hx52)
 refine t6 ?_
 intro i10
 refine s1 ?_
 intro i11
 refine t8 ?_
 obtain ⟨hk1,hk2,hkp⟩:=hx52
 refine t6 ?_
 refine cN ?_ ?_ <;> intro h12
 ·refine t9 ?_
  exact rXF (⟨_,_,(⟨_,_,_,_,_,_,_,(⟨_,_⟩:Pt),_,_,_,_,_⟩:O24),_⟩:S24) results194 (hp:=by exact ⟨wl0,by exact hk1,Nat.zero_le _⟩)
 refine t9 ?_
 refine cN ?_ ?_ <;> intro h14
 ·refine t4 ?_
  refine kXF call192 (qa3 c.w.heap.size (⟨_,_,_,_,_,_,_,(⟨_,_⟩:Pt),_,_,_,_,_⟩:O24) _) ?_
  refine t5 ?_
  exact rXF (⟨_,_,(⟨_,_,_,_,_,_,_,(⟨_,_⟩:Pt),_,_,_,_,_⟩:O24),_⟩:S24) results194 (hp:=by exact ⟨wl0,by exact Nat.zero_le _,Nat.zero_le _⟩)
 refine t8 ?_
 refine qap rfl (qdc (er rfl) (er rfl)) ?_
 refine t2 ?_
 refine cN ?_ ?_ <;> intro h16
 ·refine t9 ?_
  exact rXF (⟨_,_,(⟨_,_,_,_,_,_,_,(⟨_,_⟩:Pt),_,_,_,_,_⟩:O24),_⟩:S24) results194 (hp:=by exact ⟨wl0,by exact Nat.zero_le _,Nat.zero_le _⟩)
 refine t10 ?_
 refine cN ?_ ?_ <;> intro h18
 ·refine t3 ?_
  refine kXF call192 (qa3 c.w.heap.size (⟨_,_,_,_,_,_,_,(⟨_,_⟩:Pt),_,_,_,_,_⟩:O24) _) ?_
  refine t5 ?_
  exact rXF (⟨_,_,(⟨_,_,_,_,_,_,_,(⟨_,_⟩:Pt),_,_,_,_,_⟩:O24),_⟩:S24) results194 (hp:=by exact ⟨wl0,by exact Nat.zero_le _,Nat.zero_le _⟩)
 refine t6 ?_
 refine qap rfl (OpP.to (qad (size:=1) (qs:=[(0,_)]) rfl rfl rfl ⟨⟨rfl,_,(er rfl),qaf⟩,trivial⟩ rf rf) (SubL.row1 (T:=tI64) (x:=_) rf rf rf qaj)) ?_
 refine t2 ?_
 refine qap rfl (OpP.to (qad (size:=1) (qs:=[(0,_),(1,_)]) rfl rfl rfl ⟨⟨rfl,_,(er rfl),qaf⟩,⟨⟨rfl,_,(er rfl),qaf⟩,trivial⟩⟩ rf rf) (SubL.row2 (T:=tI64) (x:=_) (y:=_) rf rf rf rf qaj qaj)) ?_
 refine qap rfl (by ((refine qac call224 (qqc _ [4] [96,x52.1.l] ?_ ?_) ⟨qar,⟨qar,⟨qar,trivial⟩⟩⟩);all_goals (first|decide|simp))) ?_
 (refine qa5 85 rfl ?_;intro x85 hx85)
 refine t14 ?_
 refine cN ?_ ?_ <;> intro h21
 ·refine t4 ?_
  refine kXF call192 (qa3 c.w.heap.size (⟨_,_,_,_,_,_,_,(⟨_,_⟩:Pt),_,_,_,_,_⟩:O24) _) ?_
  refine t5 ?_
  exact rXF (⟨_,_,(⟨_,_,_,_,_,_,_,(⟨_,_⟩:Pt),_,_,_,_,_⟩:O24),_⟩:S24) results194 (hp:=by exact ⟨wl0,by exact Nat.zero_le _,Nat.zero_le _⟩)
 refine t9 ?_
 refine cN ?_ ?_ <;> intro h23
 ·refine t4 ?_
  refine kXF call192 (qa3 c.w.heap.size (⟨_,_,_,_,_,_,_,(⟨_,_⟩:Pt),_,_,_,_,_⟩:O24) _) ?_
  refine t5 ?_
  exact rXF (⟨_,_,(⟨_,_,_,_,_,_,_,(⟨_,_⟩:Pt),_,_,_,_,_⟩:O24),_⟩:S24) results194 (hp:=by exact ⟨wl0,by exact Nat.zero_le _,Nat.zero_le _⟩)
 obtain ⟨hlu,hlv⟩:=hx85 (by simpa using h23)
 obtain ⟨pa,hza⟩:=qtc hlu
 have hla:Ln pa:=hlv _ (List.mem_of_getElem? hza)
 refine t14 ?_
 refine qap rfl (OpP.to (qad (size:=3) (qs:=[(0,_),(1,_)]) rfl rfl rfl ⟨⟨rfl,_,(er rfl),qaf⟩,⟨⟨rfl,_,(er rfl),qaf⟩,trivial⟩⟩ rf rf) (SubL.row2 (T:=tEn) (x:=(⟨_,(⟨_,_⟩:Pt)⟩:En)) (y:=(⟨_,(⟨_,_⟩:Pt)⟩:En)) rf rf rf rf qaj qaj)) ?_
 refine t2 ?_
 intro i16
 refine t4 ?_
 refine qa0 rfl (by kernel_rfl) ?_
 refine qag 11 (by kernel_rfl) ?_
 refine s1 ?_
 refine qbc (by exact qau (j:=0) (er rfl) (er rfl) rfl rfl rf hza) ?_
 refine t2 ?_
 refine qbc (by ((refine qac call202 (qdq _ (⟨_,_,_,_,(⟨_,_⟩:Pt),_⟩:N24) ?_) ⟨qbb,⟨qbb,trivial⟩⟩);all_goals (first|first|assumption|exact qe7 _ _ _ _|exact qdd _ ⟨by decide,by decide⟩))) ?_
 refine t3 ?_
 refine qka (qbi rfl qbo rfl) ?_
 refine qcp rfl rfl rfl (by kernel_rfl) (qbz qar qaf rfl rfl rfl qbo) ?_
 refine s1 ?_
 refine ⟨rfl,?_⟩
 intro i17
 refine qat ?_
 refine t2 ?_
 refine qcw (b:=i17) (fun _=>qae) ?_
 intro p17 hln17
 refine qa0 rfl (by kernel_rfl) ?_
 refine qag 15 (by kernel_rfl) ?_
 refine t2 ?_
 refine qbc (by exact qau (j:=0) (er rfl) (er rfl) rfl rfl rf hza) ?_
 refine s1 ?_
 refine qbc (qac call184 (qhg _) ⟨qar,trivial⟩) ?_
 refine t3 ?_
 refine qbc (by ((refine qac call225 (qjg _ (⟨_,_⟩:Pt) _ ?_) ⟨qbb,⟨qbb,⟨qbb,trivial⟩⟩⟩);all_goals (exact qdd _ ⟨by decide,by decide⟩))) ?_
 refine t3 ?_
 refine qka (qbi rfl qbo rfl) ?_
 refine qcp rfl rfl rfl (by kernel_rfl) (qbz qar qaf rfl rfl rfl qbo) ?_
 refine s1 ?_
 refine ⟨rfl,?_⟩
 intro i19
 refine qat ?_
 refine t2 ?_
 refine qcw (b:=i19) (fun _=>qae) ?_
 intro p19 hln19
 refine qa0 rfl (by kernel_rfl) ?_
 refine qag 9 (by kernel_rfl) ?_
 refine t2 ?_
 refine qbc (OpP.fr (qa2 (size:=9) (qs:=[(0,_),(1,_)]) rfl rfl rfl ⟨⟨rfl,_,(er rfl),qaf⟩,⟨⟨rfl,_,(er rfl),qaf⟩,trivial⟩⟩ rf rf) qcf (SubL.row2 (T:=tPg) (x:=(⟨_,_,_,_,_,_,_,_,_⟩:Pg)) (y:=(⟨_,_,_,_,_,_,_,_,_⟩:Pg)) rf rf rf rf qaj qaj)) ?_
 refine qbc (by ((refine qaw call52 (qcc _ _ ?_) ⟨qar,⟨qar,trivial⟩⟩);all_goals ((simp;done)))) ?_
 refine t2 ?_
 refine qbc (OpP.to (qad (size:=1) (qs:=[(0,_)]) rfl rfl rfl ⟨⟨rfl,_,(er rfl),qaf⟩,trivial⟩ rf rf) (SubL.row1 (T:=tI64) (x:=_) rf rf rf qaj)) ?_
 refine t2 ?_
 refine ⟨rfl,?_⟩
 refine qef (by kernel_rfl) rfl (qav (er rfl) (er rfl) qaf qae qbo rf rf rf) ?_
 refine qat ?_
 refine t2 ?_
 exact rXF (⟨_,_,(⟨_,_,_,_,_,_,_,(⟨_,_⟩:Pt),_,_,_,_,_⟩:O24),_⟩:S24) results194 (hp:=by exact ⟨qgf (n:=0) wl0 (wl2 (n:=0) (by assumption) (by assumption)) (by decide),Nat.zero_le _,by show 1≤300;omega⟩)
theorem kill_ok (op:Op24) (p:P24) (o:O24) (ks:List Pg) (hp:qhy p.node) (ho:o.check=[]) (hpg:Ln p.page):FnF Tryz.prog 199 [qmy op,qum p,qv4 o,qal tPg ks] (fun B=>qek qx2 fun r=>qjm B r):=by
 refine FnF.enter func199 ntmps199 rfl rfl ?_
 intro c hX
 refine t3 ?_
 intro i4
 refine s1 ?_
 intro i5
 refine s1 ?_
 intro i6
 refine s1 ?_
 intro i8
 refine t7 ?_
 intro i9
 refine t18 ?_
 (refine qcq rfl rfl rfl (fun hg=>(by have hg0:=hg;(try simp at hg);exact qdc evG evG)) ?_)
 refine t3 ?_
 refine cN ?_ ?_ <;> intro h2
 ·refine t15 ?_
  exact rXF (⟨_,_,(⟨_,_,_,_,_,_,_,(⟨_,_⟩:Pt),_,_,_,_,_⟩:O24),_⟩:S24) results199 (hp:=by exact ⟨by exact wl0,by exact Nat.zero_le _,by (rw [ho];exact Nat.zero_le _)⟩)
 refine t7 ?_
 refine qap rfl (by ((refine qac call164 (qh8 _ 1 _ ?_) ⟨qar,⟨qar,⟨qar,trivial⟩⟩⟩);all_goals (decide))) ?_
 (refine qa5 41 rfl ?_;intro x41 hx41)
 refine s1 ?_
 intro i10
 refine t5 ?_
 obtain ⟨hd1,hd2,hd3,hdp⟩:=hx41
 refine t7 ?_
 refine cN ?_ ?_ <;> intro h6
 ·refine t10 ?_
  exact rXF (⟨_,_,(⟨_,_,_,_,_,_,_,(⟨_,_⟩:Pt),_,_,_,_,_⟩:O24),_⟩:S24) results199 (hp:=by exact ⟨by exact wl0,by exact hd1,by exact Nat.zero_le _⟩)
 refine t6 ?_
 refine kXF call197 (qxy (⟨_,_,_,_,_,_,_,(⟨_,_⟩:Pt),_,_,_,_,_⟩:O24) (⟨_,_,_,_,(⟨_,_,_,_,_,_,_,_,_⟩:Pg),(⟨_,_,_,_,(⟨_,_⟩:Pt),_⟩:N24),(⟨_,_,_,_,(⟨_,_⟩:Pt),_⟩:N24),_,_,_⟩:P24)) ?_
 (refine qa5 51 rfl ?_;intro x51 hx51)
 refine t5 ?_
 obtain ⟨ha1,ha2⟩:=hx51
 have hac:x51.check.length≤300:=by rw [ha1,ho];exact Nat.zero_le _
 refine t9 ?_
 refine cN ?_ ?_ <;> intro h9
 ·refine t3 ?_
  refine kXF call192 (qa3 c.w.heap.size (⟨_,_,_,_,_,_,_,(⟨_,_⟩:Pt),_,_,_,_,_⟩:O24) _) ?_
  refine t5 ?_
  exact rXF (⟨_,_,(⟨_,_,_,_,_,_,_,(⟨_,_⟩:Pt),_,_,_,_,_⟩:O24),_⟩:S24) results199 (hp:=by exact ⟨by exact wl0,by exact Nat.zero_le _,by exact hac⟩)
 refine t10 ?_
 refine cN ?_ ?_ <;> intro h11
 ·refine t5 ?_
  refine kXF call192 (qa3 c.w.heap.size (⟨_,_,_,_,_,_,_,(⟨_,_⟩:Pt),_,_,_,_,_⟩:O24) _) ?_
  refine t5 ?_
  exact rXF (⟨_,_,(⟨_,_,_,_,_,_,_,(⟨_,_⟩:Pt),_,_,_,_,_⟩:O24),_⟩:S24) results199 (hp:=by exact ⟨by exact wl0,by exact Nat.zero_le _,by exact hac⟩)
 have hnn:x41.need=[]:=List.eq_nil_of_length_eq_zero (by have:=of_decide_eq_false h6;omega)
 rw [Bool.or_eq_false_iff] at h9
 have hds:=hd3 hnn h9.1 h9.2 (by simpa using h11)
 obtain ⟨hq1,hq2,hq3⟩:=hd2
 obtain ⟨e,he1,he2⟩:=hq3 (by omega)
 refine t9 ?_
 refine qap rfl (by ((refine qac call201 (qqz _ _ ?_) ⟨qar,⟨qar,trivial⟩⟩);all_goals (omega))) ?_
 (refine qa5 73 rfl ?_;intro x73 hx73)
 refine t8 ?_
 obtain ⟨hi1,hi2,hi3⟩:=hx73
 have hlt:=hi3 e he1 (by omega)
 have hz:x41.node.entries[x73.1]?=some _:=List.getElem?_eq_getElem hlt
 refine t8 ?_
 intro i13
 refine t5 ?_
 refine qa0 rfl (by kernel_rfl) ?_
 refine qag 13 (by kernel_rfl) ?_
 refine t4 ?_
 refine qbc (qac call184 (qhg _) ⟨qar,trivial⟩) ?_
 refine qbc (qhc (er rfl) (er rfl)) ?_
 refine t7 ?_
 refine ⟨rfl,?_⟩
 refine qat ?_
 refine s1 ?_
 refine cN ?_ ?_ <;> intro h15
 ·refine t3 ?_
  refine kXF call192 (qa3 c.w.heap.size (⟨_,_,_,_,_,_,_,(⟨_,_⟩:Pt),_,_,_,_,_⟩:O24) _) ?_
  refine t5 ?_
  exact rXF (⟨_,_,(⟨_,_,_,_,_,_,_,(⟨_,_⟩:Pt),_,_,_,_,_⟩:O24),_⟩:S24) results199 (hp:=by exact ⟨by exact wl0,by exact Nat.zero_le _,by exact hac⟩)
 refine t14 ?_
 refine cN ?_ ?_ <;> intro h17
 ·refine t15 ?_
  exact rXF (⟨_,_,(⟨_,_,_,_,_,_,_,(⟨_,_⟩:Pt),_,_,_,_,_⟩:O24),_⟩:S24) results199 (hp:=by exact ⟨by exact wl0,by exact Nat.zero_le _,by exact hac⟩)
 refine t13 ?_
 intro i14
 refine t4 ?_
 refine qa0 rfl (by kernel_rfl) ?_
 refine qag 13 (by kernel_rfl) ?_
 refine qka (qbx tEn rfl rfl) ?_
 refine t3 ?_
 refine qbc (qdb (er rfl) rfl rfl rfl ⟨_,_,(er rfl),rf⟩ (by omega) (by omega)) ?_
 refine qd1 rfl rfl rfl rf (by kernel_rfl) (qd0 qar (by exact qep rfl rfl rfl) qbt) ?_
 refine t4 ?_
 refine qbc (qdb (er rfl) rfl rfl ⟨_,_,(er rfl),(show _=((x73.1+1:Nat):Int) by rfl)⟩ rfl (by omega) (by omega)) ?_
 refine qd1 rfl rfl rfl rf (by kernel_rfl) (qd0 qar (by exact qep rfl rfl rfl) qbt) ?_
 refine s1 ?_
 refine ⟨rfl,?_⟩
 intro i121
 refine qef (by kernel_rfl) rfl (qav (er rfl) (er rfl) qaf qae qbo rf rf rf) ?_
 refine qat ?_
 refine t2 ?_
 refine qa8 hX (v:=slV _ i121) qae ?_
 refine t4 ?_
 refine qap rfl (by ((refine qac call202 (qdq _ (⟨_,_,_,_,(⟨_,_⟩:Pt),_⟩:N24) ?_) ⟨qbb,⟨qbb,trivial⟩⟩);all_goals (first|first|assumption|exact qe7 _ _ _ _|exact qdd _ ⟨by decide,by decide⟩))) ?_
 refine t4 ?_
 intro i15
 refine t5 ?_
 refine qcw (b:=i15) (fun _=>qae) ?_
 intro p15 hln15
 refine t4 ?_
 refine qap rfl (by ((refine qac call202 (qdq _ (⟨_,_,_,_,(⟨_,_⟩:Pt),_⟩:N24) ?_) ⟨qbb,⟨qbb,trivial⟩⟩);all_goals (first|first|assumption|exact qe7 _ _ _ _|exact qdd _ ⟨by decide,by decide⟩))) ?_
 refine t4 ?_
 intro i17
 refine t5 ?_
 refine qcw (b:=i17) (fun _=>qae) ?_
 intro p17 hln17
 refine t6 ?_
 refine qa0 rfl (by kernel_rfl) ?_
 refine qag 6 (by kernel_rfl) ?_
 refine t2 ?_
 refine qbc (OpP.fr (qa2 (size:=9) (qs:=[(0,_),(1,_)]) rfl rfl rfl ⟨⟨rfl,_,(er rfl),qaf⟩,⟨⟨rfl,_,(er rfl),qaf⟩,trivial⟩⟩ rf rf) qcf (SubL.row2 (T:=tPg) (x:=(⟨_,_,_,_,_,_,_,_,_⟩:Pg)) (y:=(⟨_,_,_,_,_,_,_,_,_⟩:Pg)) rf rf rf rf qaj qaj)) ?_
 refine qbc (by ((refine qaw call52 (qcc _ _ ?_) ⟨qar,⟨qar,trivial⟩⟩);all_goals ((simp;done)))) ?_
 refine t2 ?_
 refine ⟨rfl,?_⟩
 refine qef (by kernel_rfl) rfl (qav (er rfl) (er rfl) qaf qae qbo rf rf rf) ?_
 refine qat ?_
 refine t2 ?_
 exact rXF (⟨_,_,(⟨_,_,_,_,_,_,_,(⟨_,_⟩:Pt),_,_,_,_,_⟩:O24),_⟩:S24) results199 (hp:=by exact ⟨by exact qgf (n:=0) wl0 (wl2 (n:=0) (by assumption) (by assumption)) (by decide),by exact Nat.zero_le _,by exact hac⟩)
@[reducible] def zdf (B:Nat) (r:S24×Int):VP:=IsAgg [qal tI64 r.1.need,qbe B (qal tPg r.1.writes),Is (.int .i64 r.1.out.code),Is (.bool r.1.out.found),Is (.bool r.1.out.done),Is (.bool r.1.out.split),Is (.bool r.1.out.unposted),Is (.bool r.1.out.dead),Is (.bool r.1.out.more),Is (.int .i64 r.1.out.to.line),Is (.int .i64 r.1.out.to.gen),qal tEn r.1.out.entries,qdn r.1.out.done (qew 1 1 [Is (.int .i64 r.2)]) (qal tI64 r.1.out.check),Is (.int .i64 r.1.out.hops),Is (.int .i64 r.1.out.fresh),Is (.int .i64 r.1.out.height),Is (.bool r.1.over)]
theorem u_sub (B:Nat):Sub (qek (fun r:S24×Int=>qx2 r.1) (zdf B)) (qek qx2 fun r=>qjm B r):=fun φ v ⟨r,hp,vs,e,k,o⟩=>by
 refine ⟨{ r.1 with out:={ r.1.out with check:=if r.1.out.done then [r.2] else r.1.out.check } },⟨hp.1,hp.2.1,?_⟩,vs,e,?_,o⟩
 ·show (if r.1.out.done then [r.2] else r.1.out.check).length≤300
  split
  ·simp
  ·exact hp.2.2
 ·refine Subs.alls ?_ k
  cases hd:r.1.out.done
  ·exact ⟨Sub.rfl',Sub.rfl',Sub.rfl',Sub.rfl',by rw [hd];exact Sub.rfl',Sub.rfl',Sub.rfl',Sub.rfl',Sub.rfl',Sub.rfl',Sub.rfl',Sub.rfl',fun φ v h=>h,Sub.rfl',Sub.rfl',Sub.rfl',Sub.rfl',trivial⟩
  ·exact ⟨Sub.rfl',Sub.rfl',Sub.rfl',Sub.rfl',by rw [hd];exact Sub.rfl',Sub.rfl',Sub.rfl',Sub.rfl',Sub.rfl',Sub.rfl',Sub.rfl',Sub.rfl',fun φ v h=>SubL.row (L:=[]) (T:=tI64) (xs:=[r.2]) (As:=[Is (.int .i64 r.2)]) rfl rfl (show SubLs [] [Is (.int .i64 r.2)] [Is (.int .i64 r.2)] from ⟨SubL.rfl',trivial⟩) φ v (fun _ hi=>absurd hi List.not_mem_nil) h,Sub.rfl',Sub.rfl',Sub.rfl',Sub.rfl',trivial⟩
theorem qpi (p:P24) (o:O24) (ks:List Pg) (hp:qhy p.node) (ho:o.check=[]∧o.done=false) (hpg:Ln p.page):FnF Tryz.prog 200 [qum p,qv4 o,qal tPg ks] (fun B=>qek (fun r:S24×Int=>qx2 r.1) (zdf B)):=by
 obtain ⟨ho1,ho2⟩:=ho
 refine FnF.enter func200 ntmps200 rfl rfl ?_
 intro c hX
 refine t3 ?_
 intro i3
 refine s1 ?_
 intro i4
 refine s1 ?_
 intro i6
 refine t7 ?_
 intro i7
 refine t9 ?_
 refine qap rfl (qdc (er rfl) (er rfl)) ?_
 refine t2 ?_
 refine cN ?_ ?_ <;> intro h2
 ·refine t15 ?_
  exact rXF ((⟨_,_,(⟨_,_,_,_,_,_,_,(⟨_,_⟩:Pt),_,_,_,_,_⟩:O24),_⟩:S24),0) results200 (hp:=by exact ⟨wl0,by exact Nat.zero_le _,by (rw [ho1];exact Nat.zero_le _)⟩)
 refine t7 ?_
 refine kXF call223 (qn7 _ (⟨_,_⟩:Pt) _) ?_
 (refine qa5 27 rfl ?_;intro x27 hx27)
 refine t6 ?_
 intro i8
 refine s1 ?_
 intro i9
 refine t8 ?_
 obtain ⟨hk1,hk2,hkp⟩:=hx27
 refine t6 ?_
 refine cN ?_ ?_ <;> intro h6
 ·refine t9 ?_
  exact rXF ((⟨_,_,(⟨_,_,_,_,_,_,_,(⟨_,_⟩:Pt),_,_,_,_,_⟩:O24),_⟩:S24),0) results200 (hp:=by exact ⟨wl0,by exact hk1,by exact Nat.zero_le _⟩)
 refine t9 ?_
 refine cN ?_ ?_ <;> intro h8
 ·refine t4 ?_
  refine kXF call192 (qa3 c.w.heap.size (⟨_,_,_,_,_,_,_,(⟨_,_⟩:Pt),_,_,_,_,_⟩:O24) _) ?_
  refine t5 ?_
  exact rXF ((⟨_,_,(⟨_,_,_,_,_,_,_,(⟨_,_⟩:Pt),_,_,_,_,_⟩:O24),_⟩:S24),0) results200 (hp:=by exact ⟨wl0,by exact Nat.zero_le _,by (rw [ho1];exact Nat.zero_le _)⟩)
 refine t10 ?_
 refine cN ?_ ?_ <;> intro h10
 ·refine t15 ?_
  exact rXF ((⟨_,_,(⟨_,_,_,_,_,_,_,(⟨_,_⟩:Pt),_,_,_,_,_⟩:O24),_⟩:S24),0) results200 (hp:=by exact ⟨wl0,by exact Nat.zero_le _,by (rw [ho1];exact Nat.zero_le _)⟩)
 refine t23 ?_
 refine qap rfl (by ((refine qac call202 (qdq _ (⟨_,_,_,_,(⟨_,_⟩:Pt),_⟩:N24) ?_) ⟨qbb,⟨qbb,trivial⟩⟩);all_goals (first|first|assumption|exact qe7 _ _ _ _|exact qdd _ ⟨by decide,by decide⟩))) ?_
 refine t4 ?_
 intro i12
 refine t5 ?_
 refine qcw (b:=i12) (fun _=>qae) ?_
 intro p12 hln12
 refine t9 ?_
 refine qap rfl (qad (size:=1) (qs:=[(0,_)]) rfl rfl rfl ⟨⟨rfl,_,(er rfl),qaf⟩,trivial⟩ rf rf) ?_
 refine t7 ?_
 refine qap rfl (OpP.fr (qa2 (size:=9) (qs:=[(0,_)]) rfl rfl rfl ⟨⟨rfl,_,(er rfl),qaf⟩,trivial⟩ rf rf) qcf (SubL.row1 (T:=tPg) (x:=(⟨_,_,_,_,_,_,_,_,_⟩:Pg)) rf rf rf qaj)) ?_
 refine t6 ?_
 exact rXF ((⟨_,_,(⟨_,_,_,_,_,_,_,(⟨_,_⟩:Pt),_,[],_,_,_⟩:O24),_⟩:S24),_) results200 (hp:=by exact ⟨wl1 (by assumption),Nat.zero_le _,Nat.zero_le _⟩)
theorem qzr (p:P24) (o:O24) (ks:List Pg) (hp:qhy p.node) (ho:o.check=[]∧o.done=false) (hpg:Ln p.page):FnF Tryz.prog 200 [qum p,qv4 o,qal tPg ks] (fun B=>qek qx2 fun r=>qjm B r):=(qpi p o ks hp ho hpg).sub u_sub
end Go.Proofs.YtmgoplaamlignaaGreat
