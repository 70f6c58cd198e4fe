/- Texts laid together: walks of functions, what they compute, and plain laws of it. Own work. -/
import Derived.Test.YtmgoplaamlignaaGreatK34
import Derived.Test.YtmgoplaamlignaaGreatK1
namespace Go.Proofs.YtmgoplaamlignaaGreat
open Go.RowKit Tryz
set_option linter.unusedVariables false
set_option linter.unusedSimpArgs false
set_option maxRecDepth 100000
set_option maxHeartbeats 4000000
theorem qgd (op:Op24) (ks:List Pg):FnF Tryz.prog 166 [qmy op,qal tPg ks] (fun B=>qek qx2 fun r=>qjm B r):=by
 refine FnF.enter func166 ntmps166 rfl rfl ?_
 intro c hX
 refine t3 ?_
 intro i2
 refine s1 ?_
 intro i4
 refine t22 ?_
 refine qb3 [(1,_),(2,_),(4,_)] [blk i4 _ _,blk i2 _ _] (fun z:Unit=>op.kind=4→1≤op.limit∧op.limit≤64) (fun z=>[]) (fun z=>[]) qah qab ?_ ?_
 rotate_left
 focus
  refine t8 ?_
  refine qb3 [(1,_),(2,_),(4,_),(5,_),(24,_)] [blk i4 _ _,blk i2 _ _] (fun yc:Bool=>yc=true→op.kind≠4) (fun yc=>[(27,Is (.bool yc))]) (fun yc=>[]) qah qab ?_ ?_
  rotate_left
  focus
   refine cN ?_ ?_ <;> intro h4
   ·have hn4:(op.kind==1)=true→op.kind≠4:=fun h9 h8=>by rw [h8] at h9;exact absurd h9 (by decide)
    refine s1 ?_
    refine qak _ ?_ qah qab
    ·exact (by exact hn4)
   refine t6 ?_
   refine cN ?_ ?_ <;> intro h5
   ·have hn4:(op.kind==3)=true→op.kind≠4:=fun h9 h8=>by rw [h8] at h9;exact absurd h9 (by decide)
    refine s1 ?_
    refine qak _ ?_ qah qab
    ·exact (by exact hn4)
   refine t6 ?_
   refine cN ?_ ?_ <;> intro h6
   ·have hn4:(op.kind==7)=true→op.kind≠4:=fun h9 h8=>by rw [h8] at h9;exact absurd h9 (by decide)
    refine s1 ?_
    refine qak _ ?_ qah qab
    ·exact (by exact hn4)
   have hn4:(op.kind==8)=true→op.kind≠4:=fun h9 h8=>by rw [h8] at h9;exact absurd h9 (by decide)
   refine t4 ?_
   refine qak _ ?_ qah qab
   ·exact (by exact hn4)
  rintro b hI
  refine cN ?_ ?_ <;> intro h4b
  ·have hnk:op.kind=4→1≤op.limit∧op.limit≤64:=fun h=>absurd h (hI h4b)
   refine t6 ?_
   refine cN ?_ ?_ <;> intro h8
   ·refine t3 ?_
    refine kXF call192 (qa3 c.w.heap.size (⟨_,_,_,_,_,_,_,(⟨_,_⟩:Pt),_,_,_,_,_⟩:O24) _) ?_
    refine t6 ?_
    exact rXF (⟨_,_,(⟨_,_,_,_,_,_,_,(⟨_,_⟩:Pt),_,_,_,_,_⟩:O24),_⟩:S24) results166 (hp:=by exact ⟨wl0,by exact Nat.zero_le _,by exact Nat.zero_le _⟩)
   refine t2 ?_
   exact qak () hnk qah qab
  refine t6 ?_
  refine cN ?_ ?_ <;> intro h10
  ·have hk2:op.kind=2:=by simpa using h10
   have hnk:op.kind=4→1≤op.limit∧op.limit≤64:=fun h=>by omega
   refine t7 ?_
   (refine qcq rfl rfl rfl (fun hg=>(by have hg0:=hg;(try simp at hg);exact qac call70 (qb8 _) ⟨qar,trivial⟩)) ?_)
   refine t4 ?_
   refine cN ?_ ?_ <;> intro h11
   ·refine t3 ?_
    refine kXF call192 (qa3 c.w.heap.size (⟨_,_,_,_,_,_,_,(⟨_,_⟩:Pt),_,_,_,_,_⟩:O24) _) ?_
    refine t6 ?_
    exact rXF (⟨_,_,(⟨_,_,_,_,_,_,_,(⟨_,_⟩:Pt),_,_,_,_,_⟩:O24),_⟩:S24) results166 (hp:=by exact ⟨wl0,by exact Nat.zero_le _,by exact Nat.zero_le _⟩)
   refine t2 ?_
   exact qak () hnk qah qab
  refine t6 ?_
  refine cN ?_ ?_ <;> intro h13
  ·refine t28 ?_
   refine cN ?_ ?_ <;> intro h14
   ·refine t3 ?_
    refine kXF call192 (qa3 c.w.heap.size (⟨_,_,_,_,_,_,_,(⟨_,_⟩:Pt),_,_,_,_,_⟩:O24) _) ?_
    refine t6 ?_
    exact rXF (⟨_,_,(⟨_,_,_,_,_,_,_,(⟨_,_⟩:Pt),_,_,_,_,_⟩:O24),_⟩:S24) results166 (hp:=by exact ⟨wl0,by exact Nat.zero_le _,by exact Nat.zero_le _⟩)
   have hnk:op.kind=4→1≤op.limit∧op.limit≤64:=fun _=>by
    simp only [Bool.or_eq_false_iff,decide_eq_false_iff_not] at h14
    omega
   refine t2 ?_
   exact qak () hnk qah qab
  refine t6 ?_
  refine cN ?_ ?_ <;> intro h16
  ·refine t18 ?_
   refine cN ?_ ?_ <;> intro h17
   ·refine t3 ?_
    refine kXF call192 (qa3 c.w.heap.size (⟨_,_,_,_,_,_,_,(⟨_,_⟩:Pt),_,_,_,_,_⟩:O24) _) ?_
    refine t7 ?_
    exact rXF (⟨_,_,(⟨_,_,_,_,_,_,_,(⟨_,_⟩:Pt),_,_,_,_,_⟩:O24),_⟩:S24) results166 (hp:=by exact ⟨wl0,by exact Nat.zero_le _,by exact Nat.zero_le _⟩)
   simp only [Bool.or_eq_false_iff,decide_eq_false_iff_not] at h17
   have hl0:0≤op.level:=by omega
   have hl7:op.level≤7:=by omega
   refine t6 ?_
   refine qap rfl (qaw call193 (zaj op ks hl0 hl7) ⟨qar,⟨qar,trivial⟩⟩) ?_
   (refine qa5 95 rfl ?_;intro x95 hx95)
   refine t6 ?_
   exact rXF (⟨_,_,(⟨_,_,_,_,_,_,_,(⟨_,_⟩:Pt),_,_,_,_,_⟩:O24),_⟩:S24) results166 (hp:=by exact hx95)
  refine t6 ?_
  refine cN ?_ ?_ <;> intro h20
  ·refine t4 ?_
   refine qap rfl (qaw call194 (raise_ok op ks) ⟨qar,⟨qar,trivial⟩⟩) ?_
   (refine qa5 100 rfl ?_;intro x100 hx100)
   refine t6 ?_
   exact rXF (⟨_,_,(⟨_,_,_,_,_,_,_,(⟨_,_⟩:Pt),_,_,_,_,_⟩:O24),_⟩:S24) results166 (hp:=by exact hx100)
  refine t3 ?_
  refine kXF call192 (qa3 c.w.heap.size (⟨_,_,_,_,_,_,_,(⟨_,_⟩:Pt),_,_,_,_,_⟩:O24) _) ?_
  refine t6 ?_
  exact rXF (⟨_,_,(⟨_,_,_,_,_,_,_,(⟨_,_⟩:Pt),_,_,_,_,_⟩:O24),_⟩:S24) results166 (hp:=by exact ⟨wl0,by exact Nat.zero_le _,by exact Nat.zero_le _⟩)
 rintro _ hnk
 refine t5 ?_
 refine qap rfl (by ((refine qac call164 (qh8 _ 0 _ ?_) ⟨qar,⟨qar,⟨qar,trivial⟩⟩⟩);all_goals (decide))) ?_
 (refine qa5 104 rfl ?_;intro x104 hx104)
 refine s1 ?_
 intro i6
 refine t5 ?_
 obtain ⟨hd1,hd2,hd3,hdp⟩:=hx104
 obtain ⟨hq1,hq2,hq3⟩:=id hd2
 refine t7 ?_
 refine cN ?_ ?_ <;> intro h23
 ·refine t10 ?_
  exact rXF (⟨_,_,(⟨_,_,_,_,_,_,_,(⟨_,_⟩:Pt),_,_,_,_,_⟩:O24),_⟩:S24) results166 (hp:=by exact ⟨wl0,by exact hd1,by exact Nat.zero_le _⟩)
 refine t9 ?_
 refine cN ?_ ?_ <;> intro h25
 ·refine t4 ?_
  refine qap rfl (qaw call195 (qtf op ks) ⟨qar,⟨qar,trivial⟩⟩) ?_
  (refine qa5 116 rfl ?_;intro x116 hx116)
  refine t5 ?_
  exact rXF (⟨_,_,(⟨_,_,_,_,_,_,_,(⟨_,_⟩:Pt),_,_,_,_,_⟩:O24),_⟩:S24) results166 (hp:=by exact hx116.1)
 refine t6 ?_
 intro i7
 refine t7 ?_
 refine kXF call196 (qln (⟨_,_,_,_,(⟨_,_,_,_,_,_,_,_,_⟩:Pg),(⟨_,_,_,_,(⟨_,_⟩:Pt),_⟩:N24),(⟨_,_,_,_,(⟨_,_⟩:Pt),_⟩:N24),_,_,_⟩:P24)) ?_
 (refine qf1 119 rfl ?_;intro x119)
 refine t2 ?_
 refine qb3 [(1,_),(2,_),(4,_),(6,_),(7,_)] [blk i6 _ _,blk i4 _ _,blk i2 _ _] (fun yc:O24=>yc.check=[]∧yc.more=false∧yc.done=false) (fun yc=>[]) (fun yc=>[blk i7 273 [Is (.int .i64 yc.code),Is (.bool yc.found),Is (.bool yc.done),Is (.bool yc.split),Is (.bool yc.unposted),Is (.bool yc.dead),Is (.bool yc.more),Is (.int .i64 yc.to.line),Is (.int .i64 yc.to.gen),Is (.slice none 0 0),qal tI64 yc.check,Is (.int .i64 yc.hops),Is (.int .i64 yc.fresh),Is (.int .i64 yc.height)]]) qah qab ?_ ?_
 rotate_left
 focus
  refine cN ?_ ?_ <;> intro h28
  ·refine t3 ?_
   refine kXF call197 (zcw (⟨_,_,_,_,_,_,_,(⟨_,_⟩:Pt),[],_,_,_,_⟩:O24) (⟨_,_,_,_,(⟨_,_,_,_,_,_,_,_,_⟩:Pg),(⟨_,_,_,_,(⟨_,_⟩:Pt),_⟩:N24),(⟨_,_,_,_,(⟨_,_⟩:Pt),_⟩:N24),_,_,_⟩:P24)) ?_
   (refine qa5 122 rfl ?_;intro x122 hx122)
   refine t2 ?_
   refine qak (⟨_,_,_,_,_,_,_,(⟨_,_⟩:Pt),[],_,_,_,_⟩:O24) ?_ qah qab
   ·exact (by exact hx122)
  refine s1 ?_
  refine qam (b:=i7) (As':=[Is (.int .i64 0),Is (.bool false),Is (.bool false),Is (.bool false),Is (.bool false),Is (.bool false),Is (.bool false),Is (.int .i64 0),Is (.int .i64 0),Is (.slice none 0 0),qal tI64 [],Is (.int .i64 0),Is (.int .i64 0),Is (.int .i64 0)]) qae qba ?_
  exact qak (⟨0,false,false,false,false,false,false,⟨0,0⟩,[],[],0,0,0⟩:O24) ⟨rfl,rfl,rfl⟩ qah qab
 rintro o hI
 refine t8 ?_
 refine cN ?_ ?_ <;> intro h30
 ·obtain ⟨hoc,hom,hod⟩:=id hI
  refine t5 ?_
  refine kXF call192 (qa3 c.w.heap.size (⟨_,_,_,_,_,_,_,(⟨_,_⟩:Pt),_,_,_,_,_⟩:O24) _) ?_
  refine t5 ?_
  exact rXF (⟨_,_,(⟨_,_,_,_,_,_,_,(⟨_,_⟩:Pt),_,_,_,_,_⟩:O24),_⟩:S24) results166 (hp:=by exact ⟨wl0,by exact Nat.zero_le _,by (rw [hoc];exact Nat.zero_le _)⟩)
 obtain ⟨hoc,hom,hod⟩:=id hI
 refine t16 ?_
 refine cN ?_ ?_ <;> intro h33
 ·have hlim:=hnk (by simpa using h33)
  refine t6 ?_
  refine qap rfl (qaw call198 (zad op x104 o ks hlim hd2 hoc hom) ⟨qar,⟨qar,⟨qar,⟨qar,trivial⟩⟩⟩⟩) ?_
  (refine qa5 138 rfl ?_;intro x138 hx138)
  refine t6 ?_
  exact rXF (⟨_,_,(⟨_,_,_,_,_,_,_,(⟨_,_⟩:Pt),_,_,_,_,_⟩:O24),_⟩:S24) results166 (hp:=by exact hx138)
 refine t6 ?_
 refine cN ?_ ?_ <;> intro h35
 ·refine t6 ?_
  refine qap rfl (by ((refine qaw call199 (kill_ok op x104 (⟨_,_,_,_,_,_,_,(⟨_,_⟩:Pt),_,_,_,_,_⟩:O24) ks hd2 ?_ hdp) ⟨qbb,⟨qbb,⟨qbb,⟨qbb,trivial⟩⟩⟩⟩);all_goals (exact hoc))) ?_
  (refine qa5 145 rfl ?_;intro x145 hx145)
  refine t6 ?_
  exact rXF (⟨_,_,(⟨_,_,_,_,_,_,_,(⟨_,_⟩:Pt),_,_,_,_,_⟩:O24),_⟩:S24) results166 (hp:=by exact hx145)
 refine t6 ?_
 refine cN ?_ ?_ <;> intro h37
 ·refine t5 ?_
  refine qap rfl (by ((refine qaw call200 (qzr x104 (⟨_,_,_,_,_,_,_,(⟨_,_⟩:Pt),_,_,_,_,_⟩:O24) ks hd2 ?_ hdp) ⟨qbb,⟨qbb,⟨qbb,trivial⟩⟩⟩);all_goals (exact ⟨hoc,hod⟩))) ?_
  (refine qa5 151 rfl ?_;intro x151 hx151)
  refine t6 ?_
  exact rXF (⟨_,_,(⟨_,_,_,_,_,_,_,(⟨_,_⟩:Pt),_,_,_,_,_⟩:O24),_⟩:S24) results166 (hp:=by exact hx151)
 refine t10 ?_
 refine qap rfl (by ((refine qac call201 (qqz _ _ ?_) ⟨qar,⟨qar,trivial⟩⟩);all_goals (omega))) ?_
 (refine qa5 158 rfl ?_;intro x158 hx158)
 refine t8 ?_
 obtain ⟨hi1,hi2,hi3⟩:=hx158
 refine t4 ?_
 refine qap rfl (OpP.to (qad (size:=1) (qs:=[(0,_)]) rfl rfl rfl ⟨⟨rfl,_,(er rfl),qaf⟩,trivial⟩ rf rf) (SubL.row1 (T:=tI64) (x:=_) rf rf rf qaj)) ?_
 refine t8 ?_
 intro i11
 refine t13 ?_
 refine cN ?_ ?_ <;> intro h42
 ·refine t16 ?_
  refine cN ?_ ?_ <;> intro h44
  ·have hz:x104.node.entries[x158.1]?=some _:=List.getElem?_eq_getElem (hi2 h44)
   refine t21 ?_
   exact rXF (⟨_,_,(⟨_,_,_,_,_,_,_,(⟨_,_⟩:Pt),_,_,_,_,_⟩:O24),_⟩:S24) results166 (hp:=by exact ⟨wl0,by exact Nat.zero_le _,by (show 1≤300;omega)⟩)
  refine t12 ?_
  exact rXF (⟨_,_,(⟨_,_,_,_,_,_,_,(⟨_,_⟩:Pt),_,_,_,_,_⟩:O24),_⟩:S24) results166 (hp:=by exact ⟨wl0,by exact Nat.zero_le _,by (show 1≤300;omega)⟩)
 refine t12 ?_
 refine cN ?_ ?_ <;> intro h47
 ·refine t10 ?_
  refine kXF call192 (qa3 c.w.heap.size (⟨_,_,_,_,_,_,_,(⟨_,_⟩:Pt),_,_,_,_,_⟩:O24) _) ?_
  refine t6 ?_
  exact rXF (⟨_,_,(⟨_,_,_,_,_,_,_,(⟨_,_⟩:Pt),_,_,_,_,_⟩:O24),_⟩:S24) results166 (hp:=by exact ⟨wl0,by exact Nat.zero_le _,by (show 1≤300;omega)⟩)
 refine t8 ?_
 refine cN ?_ ?_ <;> intro h50
 ·have hfo:x158.2=true:=by
   cases hq:x158.2 with
   | true=>rfl
   | false=>rw [hq,h50] at h47;cases h47
  have hz:x104.node.entries[x158.1]?=some _:=List.getElem?_eq_getElem (hi2 hfo)
  have hlt:=hi2 hfo
  refine t15 ?_
  refine qa0 rfl (by kernel_rfl) ?_
  refine qag 13 (by kernel_rfl) ?_
  refine qka (qbx tEn rfl rfl) ?_
  refine t3 ?_
  refine qbc (qdb (er rfl) rfl rfl rfl ⟨_,_,(er rfl),rf⟩ (by omega) (by omega)) ?_
  refine qd1 rfl rfl rfl rf (by kernel_rfl) (qd0 qar (by exact qep rfl rfl rfl) qbt) ?_
  refine t4 ?_
  refine qbc (qdb (er rfl) rfl rfl ⟨_,_,(er rfl),(show _=((x158.1+1:Nat):Int) by rfl)⟩ rfl (by omega) (by omega)) ?_
  refine qd1 rfl rfl rfl rf (by kernel_rfl) (qd0 qar (by exact qep rfl rfl rfl) qbt) ?_
  refine s1 ?_
  refine ⟨rfl,?_⟩
  intro i220
  refine qef (by kernel_rfl) rfl (qav (er rfl) (er rfl) qaf qae qbo rf rf rf) ?_
  refine qat ?_
  refine t2 ?_
  refine qa8 hX (v:=slV _ i220) qae ?_
  refine t4 ?_
  refine qap rfl (by ((refine qac call202 (qdq _ (⟨_,_,_,_,(⟨_,_⟩:Pt),_⟩:N24) ?_) ⟨qbb,⟨qbb,trivial⟩⟩);all_goals (first|first|assumption|exact qe7 _ _ _ _|exact qdd _ ⟨by decide,by decide⟩))) ?_
  refine t4 ?_
  intro i12
  refine t5 ?_
  refine qcw (b:=i12) (fun _=>qae) ?_
  intro p12 hln12
  refine t2 ?_
  refine qap rfl (OpP.fr (qa2 (size:=9) (qs:=[(0,_)]) rfl rfl rfl ⟨⟨rfl,_,(er rfl),qaf⟩,trivial⟩ rf rf) qcf (SubL.row1 (T:=tPg) (x:=(⟨_,_,_,_,_,_,_,_,_⟩:Pg)) rf rf rf qaj)) ?_
  refine t8 ?_
  exact rXF (⟨_,_,(⟨_,_,_,_,_,_,_,(⟨_,_⟩:Pt),_,_,_,_,_⟩:O24),_⟩:S24) results166 (hp:=by exact ⟨wl1 (by assumption),Nat.zero_le _,by rw [hoc];exact Nat.zero_le _⟩)
 refine t6 ?_
 refine cN ?_ ?_ <;> intro h55
 ·refine t10 ?_
  refine kXF call192 (qa3 c.w.heap.size (⟨_,_,_,_,_,_,_,(⟨_,_⟩:Pt),_,_,_,_,_⟩:O24) _) ?_
  refine t6 ?_
  exact rXF (⟨_,_,(⟨_,_,_,_,_,_,_,(⟨_,_⟩:Pt),_,_,_,_,_⟩:O24),_⟩:S24) results166 (hp:=by exact ⟨wl0,by exact Nat.zero_le _,by (show 1≤300;omega)⟩)
 refine t4 ?_
 refine qa0 rfl (by kernel_rfl) ?_
 refine qag 18 (by kernel_rfl) ?_
 refine qka (qbx tEn rfl rfl) ?_
 refine t3 ?_
 refine qbc (qdb (er rfl) rfl rfl rfl ⟨_,_,(er rfl),rf⟩ (by omega) (by omega)) ?_
 refine qd1 rfl rfl rfl rf (by kernel_rfl) (qd0 qar (by exact qep rfl rfl rfl) qbt) ?_
 refine t5 ?_
 refine qbc (OpP.to (qad (size:=3) (qs:=[(0,_)]) rfl rfl rfl ⟨⟨rfl,_,(er rfl),qaf⟩,trivial⟩ rf rf) (SubL.row1 (T:=tEn) (x:=(⟨_,(⟨_,_⟩:Pt)⟩:En)) rf rf rf qaj)) ?_
 refine qd1 rfl rfl rfl rf (by kernel_rfl) (qd0 qar (by exact qep rfl rfl rfl) qbt) ?_
 refine t3 ?_
 refine qbc (qdb (er rfl) rfl rfl ⟨_,_,(er rfl),rf⟩ rfl (by omega) (by omega)) ?_
 refine qd1 rfl rfl rfl rf (by kernel_rfl) (qd0 qar (by exact qep rfl rfl rfl) qbt) ?_
 refine ⟨rfl,?_⟩
 intro i256
 refine JD_1 (by kernel_rfl) rfl rfl (qeb rfl) ?_
 refine qat ?_
 refine t2 ?_
 refine qa8 hX (v:=slV _ i256) qae ?_
 refine t8 ?_
 refine qap rfl (by ((refine qaw call203 (qpj _ (⟨_,_,_,_,(⟨_,_⟩:Pt),_⟩:N24) _ _ _ (⟨_,_,_,_,_,_,_,(⟨_,_⟩:Pt),_,_,_,_,_⟩:O24) ?_ ?_ ?_) ⟨qbb,⟨qbb,⟨qbb,⟨qbb,⟨qbb,⟨qbb,trivial⟩⟩⟩⟩⟩⟩);all_goals (first|simp;omega|rw [hoc];exact Nat.zero_le _|assumption))) ?_
 (refine qa5 264 rfl ?_;intro x264 hx264)
 refine t4 ?_
 exact rXF (⟨_,_,(⟨_,_,_,_,_,_,_,(⟨_,_⟩:Pt),_,_,_,_,_⟩:O24),_⟩:S24) results166 (hp:=by exact hx264)
theorem qy8 (key:BitVec 32) (ks:List Pg):FnF Tryz.prog 166 [qmy ⟨8,key,0#32,Pt.nil,0,0,[]⟩,qal tPg ks] (fun B=>qek (fun r:S24×Int=>qx2 r.1) (zdf B)):=by
 refine FnF.enter func166 ntmps166 rfl rfl ?_
 intro c hX
 refine t3 ?_
 intro i2
 refine s1 ?_
 intro i4
 refine t30 ?_
 refine cN ?_ ?_ <;> intro h4
 ·exact Bool.noConfusion (show false=true from h4)
 refine t6 ?_
 refine cN ?_ ?_ <;> intro h5
 ·exact Bool.noConfusion (show false=true from h5)
 refine t6 ?_
 refine cN ?_ ?_ <;> intro h6
 ·exact Bool.noConfusion (show false=true from h6)
 refine t5 ?_
 refine cN ?_ ?_ <;> intro h7
 ·refine t6 ?_
  refine cN ?_ ?_ <;> intro h8
  ·refine t3 ?_
   refine kXF call192 (qa3 c.w.heap.size (⟨_,_,_,_,_,_,_,(⟨_,_⟩:Pt),_,_,_,_,_⟩:O24) _) ?_
   refine t6 ?_
   exact rXF ((⟨_,_,(⟨_,_,_,_,_,_,_,(⟨_,_⟩:Pt),_,_,_,_,_⟩:O24),_⟩:S24),0) results166 (hp:=by exact ⟨wl0,by exact Nat.zero_le _,by exact Nat.zero_le _⟩)
  refine t8 ?_
  refine qap rfl (by ((refine qac call164 (qh8 _ 0 _ ?_) ⟨qar,⟨qar,⟨qar,trivial⟩⟩⟩);all_goals (decide))) ?_
  (refine qa5 104 rfl ?_;intro x104 hx104)
  refine s1 ?_
  intro i6
  refine t5 ?_
  obtain ⟨hd1,hd2,hd3,hdp⟩:=hx104
  refine t7 ?_
  refine cN ?_ ?_ <;> intro h23
  ·refine t10 ?_
   exact rXF ((⟨_,_,(⟨_,_,_,_,_,_,_,(⟨_,_⟩:Pt),_,_,_,_,_⟩:O24),_⟩:S24),0) results166 (hp:=by exact ⟨wl0,by exact hd1,by exact Nat.zero_le _⟩)
  refine t9 ?_
  refine cN ?_ ?_ <;> intro h25
  ·refine t4 ?_
   refine qap rfl (qaw call195 (qtf (⟨_,_,_,(⟨_,_⟩:Pt),_,_,_⟩:Op24) ks) ⟨qbb,⟨qbb,trivial⟩⟩) ?_
   (refine qa5 116 rfl ?_;intro x116 hx116)
   refine t5 ?_
   have hdn:x116.out.done=false:=hx116.2 rfl
   exact rXF ((⟨_,_,(⟨_,_,_,_,_,_,_,(⟨_,_⟩:Pt),_,_,_,_,_⟩:O24),_⟩:S24),0) results166 (hp:=by exact hx116.1)
  refine t6 ?_
  intro i7
  refine t7 ?_
  refine kXF call196 (qln (⟨_,_,_,_,(⟨_,_,_,_,_,_,_,_,_⟩:Pg),(⟨_,_,_,_,(⟨_,_⟩:Pt),_⟩:N24),(⟨_,_,_,_,(⟨_,_⟩:Pt),_⟩:N24),_,_,_⟩:P24)) ?_
  (refine qf1 119 rfl ?_;intro x119)
  refine t2 ?_
  refine qb3 [(1,_),(2,_),(4,_),(6,_),(7,_)] [blk i6 _ _,blk i4 _ _,blk i2 _ _] (fun yc:O24=>yc.check=[]∧yc.more=false∧yc.done=false) (fun yc=>[]) (fun yc=>[blk i7 273 [Is (.int .i64 yc.code),Is (.bool yc.found),Is (.bool yc.done),Is (.bool yc.split),Is (.bool yc.unposted),Is (.bool yc.dead),Is (.bool yc.more),Is (.int .i64 yc.to.line),Is (.int .i64 yc.to.gen),Is (.slice none 0 0),qal tI64 yc.check,Is (.int .i64 yc.hops),Is (.int .i64 yc.fresh),Is (.int .i64 yc.height)]]) qah qab ?_ ?_
  rotate_left
  focus
   refine cN ?_ ?_ <;> intro h28
   ·refine t3 ?_
    refine kXF call197 (zcw (⟨_,_,_,_,_,_,_,(⟨_,_⟩:Pt),[],_,_,_,_⟩:O24) (⟨_,_,_,_,(⟨_,_,_,_,_,_,_,_,_⟩:Pg),(⟨_,_,_,_,(⟨_,_⟩:Pt),_⟩:N24),(⟨_,_,_,_,(⟨_,_⟩:Pt),_⟩:N24),_,_,_⟩:P24)) ?_
    (refine qa5 122 rfl ?_;intro x122 hx122)
    refine t2 ?_
    refine qak (⟨_,_,_,_,_,_,_,(⟨_,_⟩:Pt),[],_,_,_,_⟩:O24) ?_ qah qab
    ·exact (by exact hx122)
   refine s1 ?_
   refine qam (b:=i7) (As':=[Is (.int .i64 0),Is (.bool false),Is (.bool false),Is (.bool false),Is (.bool false),Is (.bool false),Is (.bool false),Is (.int .i64 0),Is (.int .i64 0),Is (.slice none 0 0),qal tI64 [],Is (.int .i64 0),Is (.int .i64 0),Is (.int .i64 0)]) qae qba ?_
   exact qak (⟨0,false,false,false,false,false,false,⟨0,0⟩,[],[],0,0,0⟩:O24) ⟨rfl,rfl,rfl⟩ qah qab
  rintro o hI
  refine t8 ?_
  refine cN ?_ ?_ <;> intro h30
  ·obtain ⟨hoc,hom,hod⟩:=id hI
   refine t5 ?_
   refine kXF call192 (qa3 c.w.heap.size (⟨_,_,_,_,_,_,_,(⟨_,_⟩:Pt),_,_,_,_,_⟩:O24) _) ?_
   refine t5 ?_
   exact rXF ((⟨_,_,(⟨_,_,_,_,_,_,_,(⟨_,_⟩:Pt),_,_,_,_,_⟩:O24),_⟩:S24),0) results166 (hp:=by exact ⟨wl0,by exact Nat.zero_le _,by (rw [hoc];exact Nat.zero_le _)⟩)
  obtain ⟨hoc,hom,hod⟩:=id hI
  refine t16 ?_
  refine cN ?_ ?_ <;> intro h33
  ·exact Bool.noConfusion (show false=true from h33)
  refine t6 ?_
  refine cN ?_ ?_ <;> intro h35
  ·exact Bool.noConfusion (show false=true from h35)
  refine t6 ?_
  refine cN ?_ ?_ <;> intro h37
  ·refine t5 ?_
   refine qap rfl (by ((refine qaw call200 (qpi x104 (⟨_,_,_,_,_,_,_,(⟨_,_⟩:Pt),_,_,_,_,_⟩:O24) ks hd2 ?_ hdp) ⟨qbb,⟨qbb,⟨qbb,trivial⟩⟩⟩);all_goals (exact ⟨hoc,hod⟩))) ?_
   (refine qa5 151 rfl ?_;intro x151 hx151)
   refine t6 ?_
   exact rXF ((⟨_,_,(⟨_,_,_,_,_,_,_,(⟨_,_⟩:Pt),_,_,_,_,_⟩:O24),_⟩:S24),x151.2) results166 (hp:=by exact hx151)
  exact Bool.noConfusion (show true=false from h37)
 exact Bool.noConfusion (show true=false from h7)
end Go.Proofs.YtmgoplaamlignaaGreat
