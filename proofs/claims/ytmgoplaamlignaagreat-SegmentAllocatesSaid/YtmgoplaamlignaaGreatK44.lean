/- Texts laid together: walks of functions, what they compute, and plain laws of it. Own work. -/
import Derived.Test.YtmgoplaamlignaaGreatK43
import Derived.Test.YtmgoplaamlignaaGreatK42
import Derived.Test.YtmgoplaamlignaaGreatK1
namespace Go.Proofs.YtmgoplaamlignaaGreat
open Go.RowKit Tryz
set_option linter.unusedVariables false
set_option linter.unusedSimpArgs false
set_option maxRecDepth 100000
set_option maxHeartbeats 4000000
theorem qse (B0 b:Nat) (r:Run31) (f:Fd31) (row:Rw) (del:Bool) (n:Nat) (hB:B0≤b) (hn:n≤5000) (hr:RI n r) (hst:stp r=false) (hf:Ln f.page):FnX Tryz.prog 158 [Is (.pointer (some ⟨b,0,none⟩)),IsFd31 f,IsRw row,Is (.bool del)] [blk b 218 [Is (.int .i64 r.job.client),Is (.int .i64 r.job.seq),Is (.int .i64 r.job.lines),qal tSt29 r.job.program,qal tI64 r.job.access,Is (.bool r.job.snapshot),Is (.int .u64 (UV r.job.vector0)),Is (.int .u64 (UV r.job.vector1)),Is (.int .u64 (UV r.job.vector2)),Is (.int .u64 (UV r.job.vector3)),Is (.int .u64 (UV r.job.vector4)),Is (.int .u64 (UV r.job.vector5)),qal tPg r.known,qbe B0 (qal tPg r.w),qal tI64 r.c,qal tI64 r.need,Is (.int .i64 r.code),Is (.int .i64 r.out.code),Is (.int .i64 r.out.statement),Is (.int .i64 r.out.want),qal tRs29 r.out.results,Is (.slice none 0 0),Is (.bool r.out.hint),Is (.bool r.out.deep),Is (.bool r.out.unposted),Is (.bool r.out.dead)]]
  (fun i:Run31=>RI (n+50) i) (fun i=>qbv []) (fun i=>[blk b 218 [Is (.int .i64 i.job.client),Is (.int .i64 i.job.seq),Is (.int .i64 i.job.lines),qal tSt29 i.job.program,qal tI64 i.job.access,Is (.bool i.job.snapshot),Is (.int .u64 (UV i.job.vector0)),Is (.int .u64 (UV i.job.vector1)),Is (.int .u64 (UV i.job.vector2)),Is (.int .u64 (UV i.job.vector3)),Is (.int .u64 (UV i.job.vector4)),Is (.int .u64 (UV i.job.vector5)),qal tPg i.known,qbe B0 (qal tPg i.w),qal tI64 i.c,qal tI64 i.need,Is (.int .i64 i.code),Is (.int .i64 i.out.code),Is (.int .i64 i.out.statement),Is (.int .i64 i.out.want),qal tRs29 i.out.results,Is (.slice none 0 0),Is (.bool i.out.hint),Is (.bool i.out.deep),Is (.bool i.out.unposted),Is (.bool i.out.dead)]]):=by
 have hvw:=hr.vw
 obtain ⟨hs,hks,hw,hc⟩:=hr
 obtain ⟨hn0,hc0⟩:=qsv hst
 have hwl:=hw.1
 have hv9:r.known.length+r.w.length≤9000:=by omega
 have hv10:r.known.length+r.w.length≤400000:=by omega
 refine Fn.enterB func158 ntmps158 rfl rfl ?_
 intro c hX hbelow
 have hBw:B0≤c.w.heap.size:=by
  have:=hbelow b (mem_names.2 ⟨_,List.mem_cons_self ..,rfl⟩)
  omega
 refine t3 ?_
 intro i5
 refine s1 ?_
 intro i6
 refine t3 ?_
 refine qa0 rfl (by kernel_rfl) ?_
 refine qgl (its:=[]) ?_
 refine f1 0 ?_
 refine f1 1 ?_
 refine f1 2 ?_
 refine f1 3 ?_
 refine f1 4 ?_
 refine f1 5 ?_
 refine f1 6 ?_
 refine f1 7 ?_
 refine f1 8 ?_
 refine f1 9 ?_
 (refine JF_xe 10 [0,1,2,3,4,5,6,7,8,9,10] rfl (by kernel_rfl) (qac call180 (qot _ _) ⟨qar,⟨qar,trivial⟩⟩) ?_;intro x31)
 refine f1 11 ?_
 refine qeq (by kernel_rfl) rfl ?_
 show JQ _ _ _ _ _ _
 refine t8 ?_
 intro i9
 refine t9 ?_
 refine qb3 [(0,_),(3,_),(5,_),(8,_),(9,_)] [blk i5 _ _,blk b _ _] (fun yc:Vs=>True) (fun yc=>[]) (fun yc=>[blk i9 255 (tVs.cells yc)]) qah qab ?_ ?_
 rotate_left
 focus
  refine cN ?_ ?_ <;> intro h3
  ·refine s1 ?_
   refine qap rfl (qd6 (size:=1) (qs:=[]) rfl rfl rfl rfl trivial rf qbo) ?_
   refine t4 ?_
   refine qam (b:=i9) (As':=tVs.cells (⟨(⟨_,_,_,_⟩:Rw),_,_,_,(⟨_,_⟩:Pt)⟩:Vs)) qae qba ?_
   exact qak (⟨(⟨_,_,_,_⟩:Rw),_,_,_,(⟨_,_⟩:Pt)⟩:Vs) (trivial) qah qab
  refine s1 ?_
  refine qam (b:=i9) (As':=tVs.cells (⟨(⟨_,_,_,_⟩:Rw),_,_,_,(⟨_,_⟩:Pt)⟩:Vs)) qae qba ?_
  exact qak (⟨(⟨_,_,_,_⟩:Rw),_,_,_,(⟨_,_⟩:Pt)⟩:Vs) (trivial) qah qab
 rintro v _
 refine t10 ?_
 refine cN ?_ ?_ <;> intro h5
 ·refine t15 ?_
  refine qb3 [(0,_),(3,_),(5,_),(9,_)] [blk i5 _ _] (fun yc:Vs×Run31=>RI (n+2) yc.2) (fun yc=>[]) (fun yc=>[blk i9 255 (tVs.cells yc.1),blk b 218 [Is (.int .i64 yc.2.job.client),Is (.int .i64 yc.2.job.seq),Is (.int .i64 yc.2.job.lines),qal tSt29 yc.2.job.program,qal tI64 yc.2.job.access,Is (.bool yc.2.job.snapshot),Is (.int .u64 (UV yc.2.job.vector0)),Is (.int .u64 (UV yc.2.job.vector1)),Is (.int .u64 (UV yc.2.job.vector2)),Is (.int .u64 (UV yc.2.job.vector3)),Is (.int .u64 (UV yc.2.job.vector4)),Is (.int .u64 (UV yc.2.job.vector5)),qal tPg yc.2.known,qbe B0 (qal tPg yc.2.w),qal tI64 yc.2.c,qal tI64 yc.2.need,Is (.int .i64 yc.2.code),Is (.int .i64 yc.2.out.code),Is (.int .i64 yc.2.out.statement),Is (.int .i64 yc.2.out.want),qal tRs29 yc.2.out.results,Is (.slice none 0 0),Is (.bool yc.2.out.hint),Is (.bool yc.2.out.deep),Is (.bool yc.2.out.unposted),Is (.bool yc.2.out.dead)]]) qah qab ?_ ?_
  rotate_left
  focus
   refine cN ?_ ?_ <;> intro h7
   ·refine t3 ?_
    (refine qe3 rfl (by ((refine qch qbh call125 (PageR_ok B0 b 97 hv10 ?_ ⟨by decide,by decide⟩) ⟨qar,⟨qar,trivial⟩⟩);all_goals (rw [hn0];decide))) ?_;intro x51 hx51)
    refine s1 ?_
    intro i10
    refine t5 ?_
    obtain ⟨hg1,hg2⟩:=hx51
    have hcc:r.c.length+1≤100000:=by omega
    refine t2 ?_
    refine qap rfl (by ((refine qgo qga call157 (qe4 _ _) ⟨qar,trivial⟩ qqx))) ?_
    refine t2 ?_
    refine cN ?_ ?_ <;> intro h9
    ·refine t4 ?_
     refine qc0 (B0:=B0) (b:=b) ?_
     refine qax (Bs:=[]) (⟨⟨_,_,_,_,_,_,_,_,_,_,_,_⟩,_,_,_,_,_,⟨_,_,_,_,[],_,_,_,_⟩⟩:Run31) ?_ rfl results158 trivial qab (hD0:=hX.2)
     exact by exact ⟨hs,hks,hw.mono (by omega),Nat.le_trans hc (by omega)⟩
    refine t6 ?_
    refine kRF call49 (qb5 _) ?_
    refine t2 ?_
    refine cN ?_ ?_ <;> intro h10
    ·refine t12 ?_
     refine qc0 (B0:=B0) (b:=b) ?_
     refine qax (Bs:=[]) (⟨⟨_,_,_,_,_,_,_,_,_,_,_,_⟩,_,_,_,_,_,⟨_,_,_,_,[],_,_,_,_⟩⟩:Run31) ?_ rfl results158 trivial qab (hD0:=hX.2)
     exact by exact ⟨hs,hks,hw.mono (by omega),Nat.le_trans hc (by omega)⟩
    refine t5 ?_
    refine kRF call143 (qil _) ?_
    (refine qf1 61 rfl ?_;intro x61)
    refine t14 ?_
    refine cN ?_ ?_ <;> intro h13
    ·refine t12 ?_
     refine qc0 (B0:=B0) (b:=b) ?_
     refine qax (Bs:=[]) (⟨⟨_,_,_,_,_,_,_,_,_,_,_,_⟩,_,_,_,_,_,⟨_,_,_,_,[],_,_,_,_⟩⟩:Run31) ?_ rfl results158 trivial qab (hD0:=hX.2)
     exact by exact ⟨hs,hks,hw.mono (by omega),Nat.le_trans hc (by omega)⟩
    refine t5 ?_
    refine qap rfl (OpP.to (qad (size:=1) (qs:=[(0,_)]) rfl rfl rfl ⟨⟨rfl,_,(er rfl),qaf⟩,trivial⟩ rf rf) (SubL.row1 (T:=tI64) (x:=_) rf rf rf qaj)) ?_
    (refine qe3 rfl (qch qbh call176 (qky b [97] hs hcc) ⟨qar,⟨qar,trivial⟩⟩) ?_;intro x71 hx71)
    refine t2 ?_
    have hc5:x71.length≤n+1:=Nat.le_trans hx71 (show r.c.length+1≤n+1 by omega)
    refine t5 ?_
    refine qam (b:=i9) (As':=tVs.cells (⟨(⟨_,_,_,_⟩:Rw),_,_,_,(⟨_,_⟩:Pt)⟩:Vs)) qae qba ?_
    refine qc0 (B0:=B0) (b:=b) ?_
    refine qak ((⟨(⟨_,_,_,_⟩:Rw),_,_,_,(⟨_,_⟩:Pt)⟩:Vs),(⟨⟨_,_,_,_,_,_,_,_,_,_,_,_⟩,_,_,_,_,_,⟨_,_,_,_,[],_,_,_,_⟩⟩:Run31)) ?_ qah qab
    ·exact (by exact ⟨hs,hks,hw.mono (by omega),Nat.le_trans hc5 (by omega)⟩)
   refine s1 ?_
   refine qam (b:=i9) (As':=tVs.cells (⟨(⟨_,_,_,_⟩:Rw),_,_,_,(⟨_,_⟩:Pt)⟩:Vs)) qae qba ?_
   refine qc0 (B0:=B0) (b:=b) ?_
   refine qak ((⟨(⟨_,_,_,_⟩:Rw),_,_,_,(⟨_,_⟩:Pt)⟩:Vs),(⟨⟨_,_,_,_,_,_,_,_,_,_,_,_⟩,_,_,_,_,_,⟨_,_,_,_,[],_,_,_,_⟩⟩:Run31)) ?_ qah qab
   ·exact (by exact ⟨hs,hks,hw.mono (by omega),Nat.le_trans hc (by omega)⟩)
  rintro ⟨v2,q⟩ hI
  dsimp only at hI ⊢
  obtain ⟨hs2,hks2,hw2,hc2⟩:=hI
  have hw2l:=hw2.1
  refine t5 ?_
  refine qap rfl (by ((refine qac call181 (qfq _ (⟨(⟨_,_,_,_⟩:Rw),_,_,_,(⟨_,_⟩:Pt)⟩:Vs) ?_) ⟨qbb,⟨qbb,trivial⟩⟩);all_goals (exact hf))) ?_
  refine t4 ?_
  intro i13
  refine t5 ?_
  refine qcw (b:=i13) (fun _=>qae) ?_
  intro p13 hln13
  refine qa0 rfl (by kernel_rfl) ?_
  refine qag 10 (by kernel_rfl) ?_
  refine t6 ?_
  refine qbc (OpP.fr (qa2 (size:=9) (qs:=[(0,_)]) rfl rfl rfl ⟨⟨rfl,_,(er rfl),qaf⟩,trivial⟩ rf rf) qcf (SubL.row1 (T:=tPg) (x:=(⟨_,_,_,_,_,_,_,_,_⟩:Pg)) rf rf rf qaj)) ?_
  refine qbc (by ((refine qaw call52 (qcc _ _ ?_) ⟨qar,⟨qar,trivial⟩⟩);all_goals (simp;omega))) ?_
  refine t2 ?_
  refine ⟨rfl,?_⟩
  refine qef (by kernel_rfl) rfl (qav (er rfl) (er rfl) qaf qae qbo rf rf rf) ?_
  refine qat ?_
  refine t3 ?_
  refine qc0 (B0:=B0) (b:=b) ?_
  refine qax (Bs:=[]) (⟨⟨_,_,_,_,_,_,_,_,_,_,_,_⟩,_,_,_,_,_,⟨_,_,_,_,[],_,_,_,_⟩⟩:Run31) ?_ rfl results158 trivial qab (hD0:=hX.2)
  exact by exact ⟨hs2,hks2,qgf hw2 (wl1 (n:=0) (by assumption)) (by omega),Nat.le_trans hc2 (by omega)⟩
 refine t5 ?_
 (refine qe3 rfl (qch qbh call182 (qlz B0 b 1 n hB hv9 hw hst) ⟨qar,⟨qar,trivial⟩⟩) ?_;intro x92 hx92)
 refine t5 ?_
 obtain ⟨ha1,ha2⟩:=hx92
 have ha3:=ha1.1
 have hvv2:r.known.length+x92.2.2.1.length≤400000:=by omega
 have hev:(qcx r.known x92.2.2.1).length≤10000:=Nat.le_trans (qai _ _) (by omega)
 refine t2 ?_
 refine qap rfl (by ((refine qgo qga call157 (qe4 _ _) ⟨qar,trivial⟩ qqx))) ?_
 refine t2 ?_
 refine cN ?_ ?_ <;> intro h20
 ·refine t2 ?_
  refine qc0 (B0:=B0) (b:=b) ?_
  refine qax (Bs:=[]) (⟨⟨_,_,_,_,_,_,_,_,_,_,_,_⟩,_,_,_,_,_,⟨_,_,_,_,[],_,_,_,_⟩⟩:Run31) ?_ rfl results158 trivial qab (hD0:=hX.2)
  exact by exact ⟨hs,hks,ha1.mono (by omega),Nat.le_trans hc (by omega)⟩
 have hfl:=ha2 h20
 obtain ⟨pz,hz⟩:∃ q,x92.2.2.2.2[0]?=some q:=⟨_,List.getElem?_eq_getElem (by omega)⟩
 refine t5 ?_
 refine qap rfl (by exact qau (j:=0) (er rfl) (er rfl) rfl rfl rf hz) ?_
 refine s1 ?_
 refine kRF call183 (qjq pz 1 0#32) ?_
 refine t4 ?_
 intro i16
 refine t11 ?_
 refine cN ?_ ?_ <;> intro h22
 ·refine t10 ?_
  refine qc0 (B0:=B0) (b:=b) ?_
  refine qax (Bs:=[]) (⟨⟨_,_,_,_,_,_,_,_,_,_,_,_⟩,_,_,_,_,_,⟨_,_,_,_,[],_,_,_,_⟩⟩:Run31) ?_ rfl results158 trivial qab (hD0:=hX.2)
  exact by exact ⟨hs,hks,ha1.mono (by omega),Nat.le_trans hc (by omega)⟩
 refine t3 ?_
 refine qa0 rfl (by kernel_rfl) ?_
 refine qgl (its:=[]) ?_
 refine f1 0 ?_
 refine f1 1 ?_
 refine f1 2 ?_
 refine f1 3 ?_
 refine f1 4 ?_
 refine f1 5 ?_
 refine qkf 6 rfl (by kernel_rfl) (qac call184 (qhg _) ⟨qar,trivial⟩) ?_
 refine qkf 7 rfl (by kernel_rfl) (OpP.to (qad (size:=2) (qs:=[(0,_)]) rfl rfl rfl ⟨⟨rfl,_,(er rfl),qaf⟩,trivial⟩ rf rf) (SubL.row1 (T:=tPt) (x:=(⟨_,_⟩:Pt)) rf rf rf qaj)) ?_
 refine qkf 8 rfl (by kernel_rfl) (qlg (qs:=[(0,_),(1,_),(5,_)]) rfl rfl rfl rfl ⟨⟨rfl,_,(er rfl),qaf⟩,⟨⟨rfl,_,(er rfl),qaf⟩,⟨⟨rfl,_,(er rfl),qaf⟩,trivial⟩⟩⟩ rf qbo) ?_
 refine f1 9 ?_
 refine qkf 10 rfl (by kernel_rfl) (by ((refine qc9 qga call154 (qhn B0 hvv2) ⟨qar,trivial⟩ (qet)))) ?_
 refine qm4 12 rfl (by kernel_rfl) (fun _=>(qbi rfl qbo rfl)) ?_
 (refine qy9 11 [0,1,2,3,4,5,6,7,8,9,10,11] rfl (by kernel_rfl) (by ((refine qaw call108 (qfh (⟨_,_,_,_,_,_⟩:Ep26) _ ?_ ?_) ⟨qbb,⟨qbb,trivial⟩⟩);all_goals (first|exact hev|simp;done))) ?_;intro x118 hx118)
 (refine qgk 18 12 (by kernel_rfl) rfl rfl ?_;intro i18)
 refine qfi 13 [0,1,2,3,4,5,6,7,8,9,10,11,12,13] rfl (by kernel_rfl) (fun c'=>by exact qa9 (er rfl) (er rfl) qaf qae rf rf rf) ?_
 refine qeq (by kernel_rfl) rfl ?_
 show JQ _ _ _ _ _ _
 refine t3 ?_
 obtain ⟨⟨he1,he2,he3⟩,he4⟩:=hx118
 have he1l:=he1.1
 have hcc2:r.c.length+x118.out.check.length≤100000:=by omega
 refine t6 ?_
 refine cN ?_ ?_ <;> intro h25
 ·refine t12 ?_
  refine qc0 (B0:=B0) (b:=b) ?_
  refine qax (Bs:=[]) (⟨⟨_,_,_,_,_,_,_,_,_,_,_,_⟩,_,_,_,_,_,⟨_,_,_,_,[],_,_,_,_⟩⟩:Run31) ?_ rfl results158 trivial qab (hD0:=hX.2)
  exact by exact ⟨hs,hks,ha1.mono (by omega),Nat.le_trans hc (by omega)⟩
 refine t11 ?_
 refine cN ?_ ?_ <;> intro h27
 ·refine t20 ?_
  refine cN ?_ ?_ <;> intro h29
  ·refine t17 ?_
   refine cN ?_ ?_ <;> intro h31
   ·refine t9 ?_
    refine qc0 (B0:=B0) (b:=b) ?_
    refine qax (Bs:=[]) (⟨⟨_,_,_,_,_,_,_,_,_,_,_,_⟩,_,_,_,_,_,⟨_,_,_,_,[],_,_,_,_⟩⟩:Run31) ?_ rfl results158 trivial qab (hD0:=hX.2)
    exact by exact ⟨hs,hks,ha1.mono (by omega),Nat.le_trans hc (by omega)⟩
   refine t4 ?_
   refine qc0 (B0:=B0) (b:=b) ?_
   refine qax (Bs:=[]) (⟨⟨_,_,_,_,_,_,_,_,_,_,_,_⟩,_,_,_,_,_,⟨_,_,_,_,[],_,_,_,_⟩⟩:Run31) ?_ rfl results158 trivial qab (hD0:=hX.2)
   exact by exact ⟨hs,hks,ha1.mono (by omega),Nat.le_trans hc (by omega)⟩
  refine t11 ?_
  refine cN ?_ ?_ <;> intro h31
  ·refine t9 ?_
   refine qc0 (B0:=B0) (b:=b) ?_
   refine qax (Bs:=[]) (⟨⟨_,_,_,_,_,_,_,_,_,_,_,_⟩,_,_,_,_,_,⟨_,_,_,_,[],_,_,_,_⟩⟩:Run31) ?_ rfl results158 trivial qab (hD0:=hX.2)
   exact by exact ⟨hs,hks,ha1.mono (by omega),Nat.le_trans hc (by omega)⟩
  refine t4 ?_
  refine qc0 (B0:=B0) (b:=b) ?_
  refine qax (Bs:=[]) (⟨⟨_,_,_,_,_,_,_,_,_,_,_,_⟩,_,_,_,_,_,⟨_,_,_,_,[],_,_,_,_⟩⟩:Run31) ?_ rfl results158 trivial qab (hD0:=hX.2)
  exact by exact ⟨hs,hks,ha1.mono (by omega),Nat.le_trans hc (by omega)⟩
 refine t3 ?_
 refine qa0 rfl (by kernel_rfl) ?_
 refine qag 10 (by kernel_rfl) ?_
 refine t7 ?_
 refine qbc (by ((refine qaw call52 (qcc _ _ ?_) ⟨qar,⟨qar,trivial⟩⟩);all_goals (omega))) ?_
 refine t2 ?_
 refine ⟨rfl,?_⟩
 refine qef (by kernel_rfl) rfl (qav (er rfl) (er rfl) qaf qae qbo rf rf rf) ?_
 refine qat ?_
 refine t7 ?_
 (refine qe3 rfl (qch qbh call176 (qky b _ hs hcc2) ⟨qar,⟨qar,trivial⟩⟩) ?_;intro x166 hx166)
 refine t4 ?_
 have hc6:x166.length≤n+10:=Nat.le_trans hx166 (show r.c.length+x118.out.check.length≤n+10 by omega)
 have hm3:=qgf ha1 he1 (Nat.le_refl _)
 have hm3l:=hm3.1
 refine t4 ?_
 refine qb3 [(0,_),(5,_),(9,_),(16,_)] [blk i16 _ _,blk i5 _ _,blk b _ _] (fun yc:Vs=>True) (fun yc=>[]) (fun yc=>[blk i9 255 (tVs.cells yc)]) qah qab ?_ ?_
 rotate_left
 focus
  refine cN ?_ ?_ <;> intro h35
  ·refine t7 ?_
   refine qam (b:=i9) (As':=tVs.cells (⟨(⟨_,_,_,_⟩:Rw),_,_,_,(⟨_,_⟩:Pt)⟩:Vs)) qae qba ?_
   exact qak (⟨(⟨_,_,_,_⟩:Rw),_,_,_,(⟨_,_⟩:Pt)⟩:Vs) (trivial) qah qab
  refine s1 ?_
  refine qam (b:=i9) (As':=tVs.cells (⟨(⟨_,_,_,_⟩:Rw),_,_,_,(⟨_,_⟩:Pt)⟩:Vs)) qae qba ?_
  exact qak (⟨(⟨_,_,_,_⟩:Rw),_,_,_,(⟨_,_⟩:Pt)⟩:Vs) (trivial) qah qab
 rintro v3 _
 refine t6 ?_
 refine qap rfl (by ((refine qac call185 (qy5 _ _ (⟨(⟨_,_,_,_⟩:Rw),_,_,_,(⟨_,_⟩:Pt)⟩:Vs) ?_ ?_) ⟨qbb,⟨qbb,⟨qbb,trivial⟩⟩⟩);all_goals (first|exact hf|exact zbn _ _ _))) ?_
 (refine qa5 177 rfl ?_;intro x177 hx177)
 refine t9 ?_
 have hx177l:=hx177.1
 refine t5 ?_
 refine cN ?_ ?_ <;> intro h38
 ·refine t10 ?_
  refine qc0 (B0:=B0) (b:=b) ?_
  refine qax (Bs:=[]) (⟨⟨_,_,_,_,_,_,_,_,_,_,_,_⟩,_,_,_,_,_,⟨_,_,_,_,[],_,_,_,_⟩⟩:Run31) ?_ rfl results158 trivial qab (hD0:=hX.2)
  exact by exact ⟨hs,hks,hm3.mono (by omega),Nat.le_trans hc6 (by omega)⟩
 refine t9 ?_
 refine qap rfl (by ((refine qaw call52 (qcc _ _ ?_) ⟨qar,⟨qar,trivial⟩⟩);all_goals (omega))) ?_
 refine t5 ?_
 refine qc0 (B0:=B0) (b:=b) ?_
 refine qax (Bs:=[]) (⟨⟨_,_,_,_,_,_,_,_,_,_,_,_⟩,_,_,_,_,_,⟨_,_,_,_,[],_,_,_,_⟩⟩:Run31) ?_ rfl results158 trivial qab (hD0:=hX.2)
 exact by exact ⟨hs,hks,qgf hm3 hx177 (by omega),Nat.le_trans hc6 (by omega)⟩
theorem qzd (B0 b:Nat) (r:Run31) (row:Rw) (n:Nat) (hB:B0≤b) (hn:n≤2000) (hr:RI n r) (hst:stp r=false):FnX Tryz.prog 159 [Is (.pointer (some ⟨b,0,none⟩)),IsRw row] [blk b 218 [Is (.int .i64 r.job.client),Is (.int .i64 r.job.seq),Is (.int .i64 r.job.lines),qal tSt29 r.job.program,qal tI64 r.job.access,Is (.bool r.job.snapshot),Is (.int .u64 (UV r.job.vector0)),Is (.int .u64 (UV r.job.vector1)),Is (.int .u64 (UV r.job.vector2)),Is (.int .u64 (UV r.job.vector3)),Is (.int .u64 (UV r.job.vector4)),Is (.int .u64 (UV r.job.vector5)),qal tPg r.known,qbe B0 (qal tPg r.w),qal tI64 r.c,qal tI64 r.need,Is (.int .i64 r.code),Is (.int .i64 r.out.code),Is (.int .i64 r.out.statement),Is (.int .i64 r.out.want),qal tRs29 r.out.results,Is (.slice none 0 0),Is (.bool r.out.hint),Is (.bool r.out.deep),Is (.bool r.out.unposted),Is (.bool r.out.dead)]]
  (fun i:Run31=>RI (n+700) i) (fun i=>qbv []) (fun i=>[blk b 218 [Is (.int .i64 i.job.client),Is (.int .i64 i.job.seq),Is (.int .i64 i.job.lines),qal tSt29 i.job.program,qal tI64 i.job.access,Is (.bool i.job.snapshot),Is (.int .u64 (UV i.job.vector0)),Is (.int .u64 (UV i.job.vector1)),Is (.int .u64 (UV i.job.vector2)),Is (.int .u64 (UV i.job.vector3)),Is (.int .u64 (UV i.job.vector4)),Is (.int .u64 (UV i.job.vector5)),qal tPg i.known,qbe B0 (qal tPg i.w),qal tI64 i.c,qal tI64 i.need,Is (.int .i64 i.code),Is (.int .i64 i.out.code),Is (.int .i64 i.out.statement),Is (.int .i64 i.out.want),qal tRs29 i.out.results,Is (.slice none 0 0),Is (.bool i.out.hint),Is (.bool i.out.deep),Is (.bool i.out.unposted),Is (.bool i.out.dead)]]):=by
 have hvw:=hr.vw
 obtain ⟨hs,hks,hw,hc⟩:=hr
 have hwl:=hw.1
 have hv9:r.known.length+r.w.length≤9000:=by omega
 have hv10:r.known.length+r.w.length≤400000:=by omega
 refine Fn.enterB func159 ntmps159 rfl rfl ?_
 intro c hX hbelow
 have hBw:B0≤c.w.heap.size:=by
  have:=hbelow b (mem_names.2 ⟨_,List.mem_cons_self ..,rfl⟩)
  omega
 refine t3 ?_
 intro i3
 refine t5 ?_
 (refine qe3 rfl (qch qbh call182 (qlz B0 b 1 n hB hv9 hw hst) ⟨qar,⟨qar,trivial⟩⟩) ?_;intro x12 hx12)
 refine t5 ?_
 obtain ⟨ha1,ha2⟩:=hx12
 have ha3:=ha1.1
 refine t2 ?_
 refine qap rfl (by ((refine qgo (by (try simp only [List.append_eq,List.nil_append,List.cons_append]);exact qga) call157 (qe4 _ _) ⟨qar,trivial⟩ qqx))) ?_
 refine t2 ?_
 refine cN ?_ ?_ <;> intro h2
 ·refine t2 ?_
  refine qc0 (B0:=B0) (b:=b) ?_
  refine qax (Bs:=[]) (⟨⟨_,_,_,_,_,_,_,_,_,_,_,_⟩,_,_,_,_,_,⟨_,_,_,_,[],_,_,_,_⟩⟩:Run31) ?_ rfl results159 trivial qab (hD0:=hX.2)
  exact by exact ⟨hs,hks,ha1.mono (by omega),Nat.le_trans hc (by omega)⟩
 have hfl:=ha2 h2
 obtain ⟨pz,hz⟩:∃ q,x12.2.2.2.2[0]?=some q:=⟨_,List.getElem?_eq_getElem (by omega)⟩
 refine t5 ?_
 refine qap rfl (by exact qau (j:=0) (er rfl) (er rfl) rfl rfl rf hz) ?_
 refine s1 ?_
 refine kRF call183 (qjq pz 1 0#32) ?_
 refine t4 ?_
 intro i5
 refine t11 ?_
 refine cN ?_ ?_ <;> intro h4
 ·refine t10 ?_
  refine qc0 (B0:=B0) (b:=b) ?_
  refine qax (Bs:=[]) (⟨⟨_,_,_,_,_,_,_,_,_,_,_,_⟩,_,_,_,_,_,⟨_,_,_,_,[],_,_,_,_⟩⟩:Run31) ?_ rfl results159 trivial qab (hD0:=hX.2)
  exact by exact ⟨hs,hks,ha1.mono (by omega),Nat.le_trans hc (by omega)⟩
 refine t3 ?_
 refine qf2 (b:=i5) qae (qps hX) ?_
 refine qb0 5 (qdo (tPg.cells (allR pz 1 0#32).1)) rfl (SubL.fact qbp) ?_
 refine qf2 (b:=i3) qae (qps hX) ?_
 refine qb0 3 (qdo (tRw.cells row)) rfl (SubL.fact qbp) ?_
 refine qa0 rfl (by kernel_rfl) ?_
 refine qgl (its:=[]) ?_
 refine qhq 0 rfl (by kernel_rfl) (fun _=>(by exact qcm (n:=9) (er rfl) rfl rfl rfl rf qbo)) ?_
 refine qhq 1 rfl (by kernel_rfl) (fun _=>(by exact qcm (n:=4) (er rfl) rfl rfl rfl rf qbo)) ?_
 refine f1 2 ?_
 refine f1 3 ?_
 refine f1 4 ?_
 refine f1 5 ?_
 refine f1 6 ?_
 refine f1 7 ?_
 refine f1 8 ?_
 refine f1 9 ?_
 refine f1 10 ?_
 refine f1 11 ?_
 refine qm4 18 rfl (by kernel_rfl) (fun _=>(qbi rfl qbo rfl)) ?_
 (refine JF_xe 12 [2,3,4,5,6,7,8,9,10,11,12] rfl (by kernel_rfl) (qac call180 (qot _ _) ⟨qar,⟨qar,trivial⟩⟩) ?_;intro x40)
 refine qkf 13 rfl (by kernel_rfl) (qlg (qs:=[(0,_),(3,_)]) rfl rfl rfl rfl ⟨⟨rfl,_,(er rfl),qaf⟩,⟨⟨rfl,_,(er rfl),qaf⟩,trivial⟩⟩ rf qbo) ?_
 refine qkf 14 rfl (by kernel_rfl) (by ((refine qac call181 (qfq _ (⟨(⟨_,_,_,_⟩:Rw),_,_,_,(⟨_,_⟩:Pt)⟩:Vs) ?_) ⟨qbb,⟨qbb,trivial⟩⟩);all_goals (exact zbn _ _ _))) ?_
 refine f1 15 ?_
 refine f1 16 ?_
 refine qhq 17 rfl (by kernel_rfl) (fun _=>(qjv (er rfl) rfl)) ?_
 (refine qgk 7 18 (by kernel_rfl) rfl rfl ?_;intro i7)
 refine qfi 19 [0,1,2,3,4,5,6,7,8,9,10,11,12,13,14,15,16,18,19] rfl (by kernel_rfl) (fun c'=>by exact qa9 (er rfl) (er rfl) qaf qae rf rf rf) ?_
 refine f1 20 ?_
 refine qeq (by kernel_rfl) rfl ?_
 show JQ _ _ _ _ _ _
 refine t3 ?_
 refine qcw (b:=i7) (fun _=>qae) ?_
 intro p7 hln7
 (refine JC_ex 8 rfl ?_;intro e8)
 refine t5 ?_
 refine cN ?_ ?_ <;> intro h7
 ·refine t10 ?_
  refine qc0 (B0:=B0) (b:=b) ?_
  refine qax (Bs:=[]) (⟨⟨_,_,_,_,_,_,_,_,_,_,_,_⟩,_,_,_,_,_,⟨_,_,_,_,[],_,_,_,_⟩⟩:Run31) ?_ rfl results159 trivial qab (hD0:=hX.2)
  exact by exact ⟨hs,hks,ha1.mono (by omega),Nat.le_trans hc (by omega)⟩
 refine t3 ?_
 refine qa0 rfl (by kernel_rfl) ?_
 refine qag 10 (by kernel_rfl) ?_
 refine t6 ?_
 refine qbc (OpP.fr (qa2 (size:=9) (qs:=[(0,_)]) rfl rfl rfl ⟨⟨rfl,_,(er rfl),qaf⟩,trivial⟩ rf rf) qcf (SubL.row1 (T:=tPg) (x:=(⟨_,_,_,_,_,_,_,_,_⟩:Pg)) rf rf rf qaj)) ?_
 refine qbc (by ((refine qaw call52 (qcc _ _ ?_) ⟨qar,⟨qar,trivial⟩⟩);all_goals (simp;omega))) ?_
 refine t2 ?_
 refine ⟨rfl,?_⟩
 refine qef (by kernel_rfl) rfl (qav (er rfl) (er rfl) qaf qae qbo rf rf rf) ?_
 refine qat ?_
 refine t4 ?_
 refine kRF call184 (qhg _) ?_
 refine s1 ?_
 intro i9
 refine t10 ?_
 refine qbq (b:=b) (As':=[Is (.int .i64 _),Is (.int .i64 _),Is (.int .i64 _),qal tSt29 _,qal tI64 _,Is (.bool _),Is (.int .u64 (UV _)),Is (.int .u64 (UV _)),Is (.int .u64 (UV _)),Is (.int .u64 (UV _)),Is (.int .u64 (UV _)),Is (.int .u64 (UV _)),qal tPg _,qbe B0 (qal tPg _),qal tI64 _,qal tI64 _,Is (.int .i64 _),Is (.int .i64 _),Is (.int .i64 _),Is (.int .i64 _),qal tRs29 _,Is (.slice none 0 0),Is (.bool _),Is (.bool _),Is (.bool _),Is (.bool _)]) qae qba ?_
 refine qaz [(0,_),(3,_),(9,_)] [blk i9 _ _] (fun y:Nat×Run31=>y.1≤18∧(RI (n+20+16*y.1) y.2∧(y.1<18→stp y.2=false))) (fun y=>[(10,Is (.int .i64 (y.1:Nat)))]) (fun y=>[blk b 218 [Is (.int .i64 y.2.job.client),Is (.int .i64 y.2.job.seq),Is (.int .i64 y.2.job.lines),qal tSt29 y.2.job.program,qal tI64 y.2.job.access,Is (.bool y.2.job.snapshot),Is (.int .u64 (UV y.2.job.vector0)),Is (.int .u64 (UV y.2.job.vector1)),Is (.int .u64 (UV y.2.job.vector2)),Is (.int .u64 (UV y.2.job.vector3)),Is (.int .u64 (UV y.2.job.vector4)),Is (.int .u64 (UV y.2.job.vector5)),qal tPg y.2.known,qbe B0 (qal tPg y.2.w),qal tI64 y.2.c,qal tI64 y.2.need,Is (.int .i64 y.2.code),Is (.int .i64 y.2.out.code),Is (.int .i64 y.2.out.statement),Is (.int .i64 y.2.out.want),qal tRs29 y.2.out.results,Is (.slice none 0 0),Is (.bool y.2.out.hint),Is (.bool y.2.out.deep),Is (.bool y.2.out.unposted),Is (.bool y.2.out.dead)]]) (fun y=>18-y.1) (0,(⟨⟨_,_,_,_,_,_,_,_,_,_,_,_⟩,_,_,_,_,_,⟨_,_,_,_,[],_,_,_,_⟩⟩:Run31)) ?_ qah qab ?_
 ·exact ⟨by exact Nat.zero_le _,⟨⟨hs,hks,qgf ha1 (wl1 (n:=0) (by assumption)) (by omega),Nat.le_trans hc (by omega)⟩,fun _=>h2⟩⟩
 rintro ⟨k,rq⟩ ⟨hk,hI⟩
 dsimp only at hk hI ⊢
 refine t7 ?_
 refine cN ?_ ?_ <;> intro h12
 ·have hlt:k<18:=by have:=of_decide_eq_true h12;omega
  clear h12
  obtain ⟨hq1,hq2⟩:=hI
  have hq3:=hq2 hlt
  refine t11 ?_
  (refine qe3 rfl (by ((refine qch qbh call186 (qzb B0 b rq _ _ (n+20+16*k) hB ?_ hq1 hq3) ⟨qar,⟨qar,⟨qar,trivial⟩⟩⟩);all_goals (omega))) ?_;intro x70 hx70)
  refine t2 ?_
  (refine qcq rfl rfl rfl (fun hg=>(by have hg0:=hg;(try simp at hg);((refine qgo (by (try simp only [List.append_eq,List.nil_append,List.cons_append]);exact qga) call157 (qe4 _ _) ⟨qar,trivial⟩ qqx)))) ?_)
  refine t3 ?_
  refine cN ?_ ?_ <;> intro h14
  ·have hRq:=hx70.mono (m:=n+340) (by omega)
   generalize x70.1=rq at hRq ⊢
   refine t10 ?_
   refine qap rfl (by ((refine qgo (by (try simp only [List.append_eq,List.nil_append,List.cons_append]);exact qga) call157 (qe4 _ _) ⟨qar,trivial⟩ qqx))) ?_
   refine t3 ?_
   refine cN ?_ ?_ <;> intro h17
   ·have hs5:=(Bool.not_eq_true' _).mp h17
    refine t5 ?_
    (refine qe3 rfl (by ((refine qch qbh call187 (qqd B0 b rq _ _ (n+340) hB ?_ hRq hs5) ⟨qar,⟨qar,⟨qar,trivial⟩⟩⟩);all_goals (omega))) ?_;intro x87 hx87)
    refine t2 ?_
    refine qc0 (B0:=B0) (b:=b) ?_
    refine qax (Bs:=[]) (⟨⟨_,_,_,_,_,_,_,_,_,_,_,_⟩,_,_,_,_,_,⟨_,_,_,_,[],_,_,_,_⟩⟩:Run31) ?_ rfl results159 trivial qab (hD0:=hX.2)
    exact by exact hx87.mono (by omega)
   refine t2 ?_
   refine qc0 (B0:=B0) (b:=b) ?_
   refine qax (Bs:=[]) (⟨⟨_,_,_,_,_,_,_,_,_,_,_,_⟩,_,_,_,_,_,⟨_,_,_,_,[],_,_,_,_⟩⟩:Run31) ?_ rfl results159 trivial qab (hD0:=hX.2)
   exact by exact hRq.mono (by omega)
  have hs4:stp x70.1=false:=(Bool.or_eq_false_iff.1 h14).2
  refine t8 ?_
  refine cN ?_ ?_ <;> intro h15
  ·have hk17:k=17:=by
    have:(k:Int)=17:=by simpa using h15
    omega
   refine t13 ?_
   refine qc0 (B0:=B0) (b:=b) ?_
   refine qaa (k+1,(⟨⟨_,_,_,_,_,_,_,_,_,_,_,_⟩,_,_,_,_,_,⟨_,_,_,_,[],_,_,_,_⟩⟩:Run31)) ?_ ?_ qah qab
   ·exact ⟨by omega,⟨by exact hx70.mono (by omega),by exact fun h=>absurd h (by omega)⟩⟩
   ·exact (by omega)
  refine t8 ?_
  refine qc0 (B0:=B0) (b:=b) ?_
  refine qaa (k+1,(⟨⟨_,_,_,_,_,_,_,_,_,_,_,_⟩,_,_,_,_,_,⟨_,_,_,_,[],_,_,_,_⟩⟩:Run31)) ?_ ?_ qah qab
  ·exact ⟨by omega,⟨by exact hx70.mono (by omega),by exact fun _=>hs4⟩⟩
  ·exact (by omega)
 have hke:k=18:=by have:=of_decide_eq_false h12;omega
 clear h12
 subst hke
 have hRq:=hI.1.mono (m:=n+340) (by omega)
 refine t8 ?_
 refine qap rfl (by ((refine qgo (by (try simp only [List.append_eq,List.nil_append,List.cons_append]);exact qga) call157 (qe4 _ _) ⟨qar,trivial⟩ qqx))) ?_
 refine t3 ?_
 refine cN ?_ ?_ <;> intro h17
 ·have hs5:=(Bool.not_eq_true' _).mp h17
  refine t5 ?_
  (refine qe3 rfl (by ((refine qch qbh call187 (qqd B0 b rq _ _ (n+340) hB ?_ hRq hs5) ⟨qar,⟨qar,⟨qar,trivial⟩⟩⟩);all_goals (omega))) ?_;intro x87 hx87)
  refine t2 ?_
  refine qc0 (B0:=B0) (b:=b) ?_
  refine qax (Bs:=[]) (⟨⟨_,_,_,_,_,_,_,_,_,_,_,_⟩,_,_,_,_,_,⟨_,_,_,_,[],_,_,_,_⟩⟩:Run31) ?_ rfl results159 trivial qab (hD0:=hX.2)
  exact by exact hx87.mono (by omega)
 refine t2 ?_
 refine qc0 (B0:=B0) (b:=b) ?_
 refine qax (Bs:=[]) (⟨⟨_,_,_,_,_,_,_,_,_,_,_,_⟩,_,_,_,_,_,⟨_,_,_,_,[],_,_,_,_⟩⟩:Run31) ?_ rfl results159 trivial qab (hD0:=hX.2)
 exact by exact hRq.mono (by omega)
theorem StmtR_ok (B0 b:Nat) (r:Run31) (s:St29) (acc:Int) (n:Nat) (hB:B0≤b) (hn:n≤1000) (hr:RI n r) (hk:1≤s.kind∧s.kind≤4) (hcol:0≤s.col∧s.col≤2) (hacc:acc≠3):FnX Tryz.prog 126 [Is (.pointer (some ⟨b,0,none⟩)),qov s,Is (.int .i64 acc)] [blk b 218 [Is (.int .i64 r.job.client),Is (.int .i64 r.job.seq),Is (.int .i64 r.job.lines),qal tSt29 r.job.program,qal tI64 r.job.access,Is (.bool r.job.snapshot),Is (.int .u64 (UV r.job.vector0)),Is (.int .u64 (UV r.job.vector1)),Is (.int .u64 (UV r.job.vector2)),Is (.int .u64 (UV r.job.vector3)),Is (.int .u64 (UV r.job.vector4)),Is (.int .u64 (UV r.job.vector5)),qal tPg r.known,qbe B0 (qal tPg r.w),qal tI64 r.c,qal tI64 r.need,Is (.int .i64 r.code),Is (.int .i64 r.out.code),Is (.int .i64 r.out.statement),Is (.int .i64 r.out.want),qal tRs29 r.out.results,Is (.slice none 0 0),Is (.bool r.out.hint),Is (.bool r.out.deep),Is (.bool r.out.unposted),Is (.bool r.out.dead)]]
  (fun i:Run31×Rs29=>RI (n+1200) i.1) (fun i=>IsRs29 i.2) (fun i=>[blk b 218 [Is (.int .i64 i.1.job.client),Is (.int .i64 i.1.job.seq),Is (.int .i64 i.1.job.lines),qal tSt29 i.1.job.program,qal tI64 i.1.job.access,Is (.bool i.1.job.snapshot),Is (.int .u64 (UV i.1.job.vector0)),Is (.int .u64 (UV i.1.job.vector1)),Is (.int .u64 (UV i.1.job.vector2)),Is (.int .u64 (UV i.1.job.vector3)),Is (.int .u64 (UV i.1.job.vector4)),Is (.int .u64 (UV i.1.job.vector5)),qal tPg i.1.known,qbe B0 (qal tPg i.1.w),qal tI64 i.1.c,qal tI64 i.1.need,Is (.int .i64 i.1.code),Is (.int .i64 i.1.out.code),Is (.int .i64 i.1.out.statement),Is (.int .i64 i.1.out.want),qal tRs29 i.1.out.results,Is (.slice none 0 0),Is (.bool i.1.out.hint),Is (.bool i.1.out.deep),Is (.bool i.1.out.unposted),Is (.bool i.1.out.dead)]]):=by
 refine Fn.enterB func126 ntmps126 rfl rfl ?_
 intro c hX hbelow
 refine t3 ?_
 intro i4
 refine s1 ?_
 intro i6
 refine t9 ?_
 refine cN ?_ ?_ <;> intro h1
 ·exact absurd (by simpa using h1) hacc
 refine t8 ?_
 (refine qe3 rfl (by ((refine qch qbh call156 (LocR_ok B0 b r _ _ n ?_ hr) ⟨qar,⟨qar,⟨qar,trivial⟩⟩⟩);all_goals (omega))) ?_;intro x20 hx20)
 refine s1 ?_
 intro i7
 refine t5 ?_
 obtain ⟨hl1,hl2⟩:=hx20
 refine t2 ?_
 refine qap rfl (by ((refine qgo (by (try simp only [List.append_eq,List.nil_append,List.cons_append]);exact qga) call157 (qe4 _ _) ⟨qar,trivial⟩ qqx))) ?_
 refine t2 ?_
 refine cN ?_ ?_ <;> intro h4
 ·refine t8 ?_
  refine qc0 (B0:=B0) (b:=b) ?_
  refine qax (Bs:=[_]) ((⟨⟨_,_,_,_,_,_,_,_,_,_,_,_⟩,_,_,_,_,_,⟨_,_,_,_,[],_,_,_,_⟩⟩:Run31),(⟨_,_⟩:Rs29)) ?_ rfl results126 eXF qab (hD0:=hX.2)
  exact by exact hl1.mono (by omega)
 refine t16 ?_
 refine cN ?_ ?_ <;> intro h19
 ·exact absurd (show s.kind=5 by simpa using h19) (by omega)
 refine t6 ?_
 refine cN ?_ ?_ <;> intro h22
 ·refine t8 ?_
  intro i8
  refine t11 ?_
  refine cN ?_ ?_ <;> intro h25
  ·refine t16 ?_
   refine qc0 (B0:=B0) (b:=b) ?_
   refine qax (Bs:=[_]) ((⟨⟨_,_,_,_,_,_,_,_,_,_,_,_⟩,_,_,_,_,_,⟨_,_,_,_,[],_,_,_,_⟩⟩:Run31),(⟨_,_⟩:Rs29)) ?_ rfl results126 eXF qab (hD0:=hX.2)
   exact by exact hl1.mono (by omega)
  refine t7 ?_
  refine cN ?_ ?_ <;> intro h27
  ·refine t4 ?_
   (refine qe3 rfl (by ((refine qch qbh call158 (qse B0 b x20.1 x20.2 (⟨_,_,_,_⟩:Rw) false (n+302) hB ?_ hl1 h4 hl2) ⟨qbb,⟨qbb,⟨qbb,⟨qbb,trivial⟩⟩⟩⟩);all_goals (omega))) ?_;intro x103 hx103)
   refine t11 ?_
   refine qc0 (B0:=B0) (b:=b) ?_
   refine qax (Bs:=[_]) ((⟨⟨_,_,_,_,_,_,_,_,_,_,_,_⟩,_,_,_,_,_,⟨_,_,_,_,[],_,_,_,_⟩⟩:Run31),(⟨_,_⟩:Rs29)) ?_ rfl results126 eXF qab (hD0:=hX.2)
   exact by exact hx103.mono (by omega)
  refine t3 ?_
  (refine qe3 rfl (by ((refine qch qbh call159 (qzd B0 b x20.1 (⟨_,_,_,_⟩:Rw) (n+302) hB ?_ hl1 h4) ⟨qbb,⟨qbb,trivial⟩⟩);all_goals (omega))) ?_;intro x90 hx90)
  refine t11 ?_
  refine qc0 (B0:=B0) (b:=b) ?_
  refine qax (Bs:=[_]) ((⟨⟨_,_,_,_,_,_,_,_,_,_,_,_⟩,_,_,_,_,_,⟨_,_,_,_,[],_,_,_,_⟩⟩:Run31),(⟨_,_⟩:Rs29)) ?_ rfl results126 eXF qab (hD0:=hX.2)
  exact by exact hx90.mono (by omega)
 refine t8 ?_
 refine cN ?_ ?_ <;> intro h7
 ·refine t19 ?_
  refine qc0 (B0:=B0) (b:=b) ?_
  refine qax (Bs:=[_]) ((⟨⟨_,_,_,_,_,_,_,_,_,_,_,_⟩,_,_,_,_,_,⟨_,_,_,_,[],_,_,_,_⟩⟩:Run31),(⟨_,_⟩:Rs29)) ?_ rfl results126 eXF qab (hD0:=hX.2)
  exact by exact hl1.mono (by omega)
 refine t15 ?_
 refine cN ?_ ?_ <;> intro h14
 ·exact absurd (show s.kind=9 by simpa using h14) (by omega)
 refine t6 ?_
 refine cN ?_ ?_ <;> intro h17
 ·refine t6 ?_
  (refine qe3 rfl (by ((refine qch qbh call158 (qse B0 b x20.1 x20.2 (⟨_,_,_,_⟩:Rw) true (n+302) hB ?_ hl1 h4 hl2) ⟨qbb,⟨qbb,⟨qbb,⟨qbb,trivial⟩⟩⟩⟩);all_goals (omega))) ?_;intro x71 hx71)
  refine t11 ?_
  refine qc0 (B0:=B0) (b:=b) ?_
  refine qax (Bs:=[_]) ((⟨⟨_,_,_,_,_,_,_,_,_,_,_,_⟩,_,_,_,_,_,⟨_,_,_,_,[],_,_,_,_⟩⟩:Run31),(⟨_,_⟩:Rs29)) ?_ rfl results126 eXF qab (hD0:=hX.2)
  exact by exact hx71.mono (by omega)
 refine t6 ?_
 refine kXF call132 (quq s (⟨_,_,_,_⟩:Rw) hcol) ?_
 (refine qf1 39 rfl ?_;intro x39)
 refine t4 ?_
 intro i9
 refine t11 ?_
 refine cN ?_ ?_ <;> intro h11
 ·refine t21 ?_
  refine qc0 (B0:=B0) (b:=b) ?_
  refine qax (Bs:=[_]) ((⟨⟨_,_,_,_,_,_,_,_,_,_,_,_⟩,_,_,_,_,_,⟨_,_,_,_,[],_,_,_,_⟩⟩:Run31),(⟨_,_⟩:Rs29)) ?_ rfl results126 eXF qab (hD0:=hX.2)
  exact by exact hl1.mono (by omega)
 refine t6 ?_
 (refine qe3 rfl (by ((refine qch qbh call158 (qse B0 b x20.1 x20.2 (⟨_,_,_,_⟩:Rw) false (n+302) hB ?_ hl1 h4 hl2) ⟨qbb,⟨qbb,⟨qbb,⟨qbb,trivial⟩⟩⟩⟩);all_goals (omega))) ?_;intro x51 hx51)
 refine t11 ?_
 refine qc0 (B0:=B0) (b:=b) ?_
 refine qax (Bs:=[_]) ((⟨⟨_,_,_,_,_,_,_,_,_,_,_,_⟩,_,_,_,_,_,⟨_,_,_,_,[],_,_,_,_⟩⟩:Run31),(⟨_,_⟩:Rs29)) ?_ rfl results126 eXF qab (hD0:=hX.2)
 exact by exact hx51.mono (by omega)
@[reducible] def zde (B:Nat) (q:List Pg×Int):VP:=IsAgg [Top,qbe B (qal tPg q.1),Is (.int .i64 q.2),Top,Top,Top,Top,Top,Top,Top,Top,Top]
theorem zdk (B0:Nat) (r:Run31) (i:Int) (hc:r.c.length≤10000) (hw:r.w.length≤10000):FnF Tryz.prog 127 [qdo [Is (.int .i64 r.job.client),Is (.int .i64 r.job.seq),Is (.int .i64 r.job.lines),qal tSt29 r.job.program,qal tI64 r.job.access,Is (.bool r.job.snapshot),Is (.int .u64 (UV r.job.vector0)),Is (.int .u64 (UV r.job.vector1)),Is (.int .u64 (UV r.job.vector2)),Is (.int .u64 (UV r.job.vector3)),Is (.int .u64 (UV r.job.vector4)),Is (.int .u64 (UV r.job.vector5)),qal tPg r.known,qbe B0 (qal tPg r.w),qal tI64 r.c,qal tI64 r.need,Is (.int .i64 r.code),Is (.int .i64 r.out.code),Is (.int .i64 r.out.statement),Is (.int .i64 r.out.want),qal tRs29 r.out.results,Is (.slice none 0 0),Is (.bool r.out.hint),Is (.bool r.out.deep),Is (.bool r.out.unposted),Is (.bool r.out.dead)],Is (.int .i64 i)] (fun B=>qek (fun q:List Pg×Int=>WL 3000 q.1) (zde B)):=by
 refine FnF.enter func127 ntmps127 rfl rfl ?_
 intro c hX
 refine t3 ?_
 intro i4
 refine t9 ?_
 intro i5
 refine t33 ?_
 refine qb3 [(0,_),(4,_),(5,_)] [blk i5 _ _,blk i4 _ _] (fun yc:Bool=>True) (fun yc=>[(22,Is (.bool yc))]) (fun yc=>[]) qah qab ?_ ?_
 rotate_left
 focus
  refine cN ?_ ?_ <;> intro h4
  ·refine s1 ?_
   exact qak _ (trivial) qah qab
  refine t6 ?_
  refine cN ?_ ?_ <;> intro h5
  ·refine s1 ?_
   exact qak _ (trivial) qah qab
  refine t6 ?_
  refine cN ?_ ?_ <;> intro h6
  ·refine s1 ?_
   exact qak _ (trivial) qah qab
  refine t4 ?_
  exact qak _ (trivial) qah qab
 rintro bb _
 refine cN ?_ ?_ <;> intro h4b
 ·refine t6 ?_
  skip
  refine t10 ?_
  refine qbq (b:=i5) (As':=tO31.cells (⟨_,_,_,_,_,_,_,_,_⟩:O31)) qae qba ?_
  refine qaz [(0,_),(4,_),(5,_)] [blk i4 _ _] (fun y:Nat×O31=>y.1≤(r.w).length∧(y.2.check.length≤r.c.length+y.1)) (fun y=>[(6,Is (.int .i64 (y.1:Nat)))]) (fun y=>[blk i5 187 (tO31.cells y.2)]) (fun y=>(r.w).length-y.1) (0,(⟨_,_,_,_,_,_,_,_,_⟩:O31)) ?_ qah qab ?_
  ·exact ⟨by exact Nat.zero_le _,Nat.le_refl _⟩
  rintro ⟨k,o⟩ ⟨hk,hI⟩
  dsimp only at hk hI ⊢
  refine t8 ?_
  refine qge 36 (qal tPg r.w) rfl SubL.fresh ?_
  refine t4 ?_
  refine cN ?_ ?_ <;> intro h10
  ·have hlt:k<(r.w).length:=by have:=of_decide_eq_true h10;omega
   clear h10
   obtain ⟨z,hz⟩:∃ q,(r.w)[k]?=some q:=⟨_,List.getElem?_eq_getElem hlt⟩
   refine t4 ?_
   refine qa0 rfl (by kernel_rfl) ?_
   refine qag 12 (by kernel_rfl) ?_
   refine t7 ?_
   refine qbc (qau (j:=k) (Ev.sub rfl SubL.fresh) (er rfl) rfl rfl rf hz) ?_
   refine t2 ?_
   refine qbc (by ((refine qac call78 (qim _ _ ?_) ⟨qar,⟨qar,trivial⟩⟩);all_goals (omega))) ?_
   refine s1 ?_
   refine ⟨rfl,?_⟩
   refine qef (by kernel_rfl) rfl (qav (er rfl) (er rfl) qaf qae qbo rf rf rf) ?_
   refine qat ?_
   refine t7 ?_
   refine qam (b:=i5) (As':=tO31.cells (⟨_,_,_,_,_,_,_,_,_⟩:O31)) qae qba ?_
   refine qaa (k+1,(⟨_,_,_,_,_,_,_,_,_⟩:O31)) ?_ ?_ qah qab
   ·exact ⟨by omega,Nat.le_trans (qg6 _ _) (by omega)⟩
   ·exact (by omega)
  have hke:k=(r.w).length:=by have:=of_decide_eq_false h10;omega
  clear h10
  subst hke
  refine t14 ?_
  exact rXF (([],_):List Pg×Int) results127 (hp:=by exact wl0) (hD0:=hX.2)
 refine t11 ?_
 exact rXF (([],_):List Pg×Int) results127 (hp:=by exact wl0) (hD0:=hX.2)
theorem JC_mine {P:Program} {c:Ctx} {N:Nat} {E:Env} {L:List Item} {Q:Exit→Go.Act→World→Prop} {x:Code} (b:Nat) {t:TypeId} {As:List VP} (hb:blk b t As∈L) (hX:c.X=[]) (h:c.w.heap.size≤b→JC P c N x E L Q):JC P c N x E L Q:=fun φ a w st =>
 h ((st.mem.mine b (mem_names.2 ⟨_,hb,rfl⟩)).resolve_right (by rw [hX];exact List.not_mem_nil)) φ a w st
theorem qmb:qjn (fun B=>qek (fun q:List Pg×Int=>WL 3000 q.1) (zde B)):=qj2 fun q =>
 qj3 [fun _=>Top,fun B=>qbe B (qal tPg q.1),fun _=>Is (.int .i64 q.2),fun _=>Top,fun _=>Top,fun _=>Top,fun _=>Top,fun _=>Top,fun _=>Top,fun _=>Top,fun _=>Top,fun _=>Top] ⟨qa6 qco,qet,qa6 qc3,qa6 qco,qa6 qco,qa6 qco,qa6 qco,qa6 qco,qa6 qco,qa6 qco,qa6 qco,qa6 qco,trivial⟩
end Go.Proofs.YtmgoplaamlignaaGreat
