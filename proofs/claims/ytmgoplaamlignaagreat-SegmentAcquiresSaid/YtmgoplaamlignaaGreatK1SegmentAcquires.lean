/- Texts laid together: walks of functions, what they compute, and plain laws of it. Own work. -/
import Derived.Test.YtmgoplaamlignaaGreatK39
import Derived.Test.YtmgoplaamlignaaGreatK46
import Derived.Test.YtmgoplaamlignaaGreatK40
import Derived.Test.YtmgoplaamlignaaGreatK18
import Derived.Test.YtmgoplaamlignaaGreatK1
namespace Go.Proofs.YtmgoplaamlignaaGreat
open Go.RowKit Tryz
set_option linter.unusedVariables false
set_option linter.unusedSimpArgs false
set_option maxRecDepth 100000
set_option maxHeartbeats 4000000
theorem SegmentAcquires_ok (z:Cs20) (m:Clm) (near:Bool):FnP Tryz.prog 3 [IsCs20 z,IsClm m,Is (.bool near)] (Is (.bool true)):=by
 have hn:=nC_rng z.size
 obtain ⟨mc,mi,ml,mf⟩:=m
 refine FnP.enter func3 ntmps3 rfl rfl ?_
 intro c hX
 refine t3 ?_
 intro i3
 refine s1 ?_
 intro i4
 refine t7 ?_
 refine kR call7 (light_ok z) ?_
 refine t3 ?_
 refine cN ?_ ?_ <;> intro h1
 ·refine t7 ?_
  refine qa4 results3 rfl () (SubL.eq ?_) (List.nil_sublist _)
  rfl
 have hl:zbp z=true:=by simpa using h1
 clear h1
 refine t5 ?_
 refine kR call8 (pagesC_ok z hl) ?_
 (refine qa5 24 rfl ?_;intro x24 hx24)
 refine t9 ?_
 obtain ⟨hH,hLn⟩:=hx24
 obtain ⟨H,hHe⟩:∃ q,x24=q:=⟨_,rfl⟩
 rw [hHe] at hH hLn ⊢
 have hHl:H.length≤10000:=by omega
 clear hHe
 refine t4 ?_
 refine qb3 [(3,_),(4,_),(6,_),(7,_)] [blk i3 _ _] (fun yc:Int×Int×Int×Int=>True) (fun yc=>[]) (fun yc=>[blk i4 28 [Is (.int .i64 yc.1),Is (.int .i64 yc.2.1),Is (.int .i64 yc.2.2.1),Is (.int .i64 yc.2.2.2)]]) qe8 qab ?_ ?_
 rotate_left
 focus
  refine cN ?_ ?_ <;> intro h4
  ·refine qa0 rfl (by kernel_rfl) ?_
   refine qct [1,1,1,0,1,1,1,0,1,1,1,0,1,2] (by kernel_rfl) (by kernel_rfl) ?_
   refine qc4 (by exact qbf (k:=0) (er rfl) rfl rfl rfl rfl) ?_
   refine qc4 (by exact qd9 (er rfl) qbp rf rf rf) ?_
   refine qc4 (by ((refine qac call9 (qd4 _ _ ?_ ?_) ⟨evR,⟨evR,trivial⟩⟩);all_goals (first|omega|(simp;done)|(simp;omega)|(refine Nat.le_trans (qai _ _) ?_;omega)|(refine Nat.le_trans (qai _ _) (Nat.le_trans (Nat.add_le_add_right (qai _ _) _) ?_);omega)))) ?_
   refine qb7 (qip (er rfl) (er rfl) qfv) ?_
   refine qc4 (by exact qbf (k:=1) (er rfl) rfl rfl rfl rfl) ?_
   refine qc4 (by exact qd9 (er rfl) qbp rf rf rf) ?_
   refine qc4 (by ((refine qac call9 (qd4 _ _ ?_ ?_) ⟨evR,⟨evR,trivial⟩⟩);all_goals (first|omega|(simp;done)|(simp;omega)|(refine Nat.le_trans (qai _ _) ?_;omega)|(refine Nat.le_trans (qai _ _) (Nat.le_trans (Nat.add_le_add_right (qai _ _) _) ?_);omega)))) ?_
   refine qb7 (qay rfl) ?_
   refine qc4 (by exact qbf (k:=3) (er rfl) rfl rfl rfl rfl) ?_
   refine qc4 (by exact qd9 (er rfl) qbp rf rf rf) ?_
   refine qc4 (by ((refine qac call9 (qd4 _ _ ?_ ?_) ⟨evR,⟨evR,trivial⟩⟩);all_goals (first|omega|(simp;done)|(simp;omega)|(refine Nat.le_trans (qai _ _) ?_;omega)|(refine Nat.le_trans (qai _ _) (Nat.le_trans (Nat.add_le_add_right (qai _ _) _) ?_);omega)))) ?_
   refine qb7 (qip (er rfl) (er rfl) qfv) ?_
   refine qc4 (qlg (qs:=[(0,_),(1,_),(2,_),(3,_)]) rfl rfl rfl rfl ⟨⟨rfl,_,(er rfl),qbn⟩,⟨⟨rfl,_,(er rfl),qbn⟩,⟨⟨rfl,_,(er rfl),qbn⟩,⟨⟨rfl,_,(er rfl),qbn⟩,trivial⟩⟩⟩⟩ rf qbo) ?_
   refine qiy (qav (er rfl) (er rfl) qbn qae qbo rf rf rf) ?_
   refine qeu ?_
   refine qat ?_
   exact qak (_,_,_,_) (trivial) qe8 qab
  refine s1 ?_
  exact qak (_,_,_,_) (trivial) qe8 qab
 rintro ⟨o,inc,ln,fr⟩ _
 dsimp only
 refine t5 ?_
 refine kR call10 (KnownH_ok H _ hHl) ?_
 (refine qa5 44 rfl ?_;intro x44 hx44)
 refine t5 ?_
 obtain ⟨k0,hk0⟩:∃ q,x44=q:=⟨_,rfl⟩
 rw [hk0] at hx44 ⊢
 clear hk0
 refine t5 ?_
 refine qaz [(4,_),(6,_),(7,_)] [blk i4 _ _] (fun y:Nat×(List Pg)=>y.1≤300∧(y.2.length≤200+30*y.1∧y.1≤cntK y.2)) (fun y=>[(9,qal tPg y.2),(10,Is (.int .i64 (y.1:Nat)))]) (fun y=>[]) (fun y=>300-y.1) (0,k0) ⟨by exact Nat.zero_le _,⟨(show k0.length≤200+30*0 by omega),Nat.zero_le _⟩⟩ qe8 qab ?_
 rintro ⟨k,ks⟩ ⟨hk,hI⟩
 dsimp only at hk hI ⊢
 refine t7 ?_
 refine cN ?_ ?_ <;> intro h8
 ·have hlt:k<300:=by have:=of_decide_eq_true h8;omega
  clear h8
  obtain ⟨hi1,hi2⟩:=hI
  have hck:=cntK_le ks
  have hkl:ks.length≤10000:=by omega
  refine t8 ?_
  refine kR call11 (AcquireP_ok ks _ _ _ _) ?_
  refine t24 ?_
  refine kR call12 (AcquireR_ok ks _ _ _ _ hkl) ?_
  refine s1 ?_
  intro i16
  refine t5 ?_
  obtain ⟨W,hW⟩:∃ W,acR ks o inc ln fr=W:=⟨_,rfl⟩
  have hnd:=acR_need (ks:=ks) (o:=o) (inc:=inc) (lines:=ln) (fr:=fr)
  rw [hW] at hnd ⊢
  obtain ⟨nd,fs,ws,s,cd,ov⟩:=W
  dsimp only at hnd ⊢
  clear hW
  refine t21 ?_
  (refine qcq rfl rfl rfl (fun hg=>(by have hg0:=hg;(try simp at hg);exact qac call13 (SameInts_ok _ _) ⟨evR,⟨evR,trivial⟩⟩)) ?_)
  refine t6 ?_
  (refine qcq rfl rfl rfl (fun hg=>(by have hg0:=hg;(try simp at hg);exact qac call14 (SamePages_ok _ _) ⟨evR,⟨evR,trivial⟩⟩)) ?_)
  refine t4 ?_
  refine cN ?_ ?_ <;> intro h12
  ·exact absurd h12 (by simp)
  clear h12
  refine t8 ?_
  refine cN ?_ ?_ <;> intro h14
  ·refine t2 ?_
   refine qap rfl (qac call15 (awake_ok) trivial) ?_
   refine t10 ?_
   refine qa4 results3 rfl () (SubL.eq ?_) (List.nil_sublist _)
   rfl
  obtain ⟨hd1,hd2,hd3,hd4⟩:=hnd h14
  have hgr:=fetch_grow hLn (hnd h14)
  have hf1:nd.length≤10000:=by omega
  have hf2:∀ x,x∈nd→qe5 ks x=false∧96≤x∧x≤300:=fun x hx=>⟨(hd4 x hx).1,(hd4 x hx).2.1,by have:=(hd4 x hx).2.2;omega⟩
  have hf3:=hd3
  refine t7 ?_
  refine kR call16 (FetchH_ok ks H nd hkl hf1 hf2 hf3) ?_
  refine t14 ?_
  refine cN ?_ ?_ <;> intro h17
  ·exact absurd h17 (by rw [decide_eq_true (show (nd.length:Int)>0 by omega)];decide)
  clear h17
  refine t13 ?_
  exact qaa (k+1,ks++nd.map (pgF H)) ⟨by omega,⟨(show (ks++nd.map (pgF H)).length≤200+30*(k+1) by rw [List.length_append,List.length_map];omega),(show k+1≤cntK (ks++nd.map (pgF H)) by omega)⟩⟩ (by omega) qe8 qab
 exact absurd (cntK_le ks) (by have h9:=of_decide_eq_false h8;have h10:=hI.2;omega)
end Go.Proofs.YtmgoplaamlignaaGreat
