/- Texts laid together: walks of functions, what they compute, and plain laws of it. Own work. -/
import Derived.Test.YtmgoplaamlignaaGreatK42
import Derived.Test.YtmgoplaamlignaaGreatK1
namespace Go.Proofs.YtmgoplaamlignaaGreat
open Go.RowKit Tryz
set_option linter.unusedVariables false
set_option linter.unusedSimpArgs false
set_option maxRecDepth 100000
set_option maxHeartbeats 4000000
theorem LocR_ok (B0 b:Nat) (r:Run31) (key:BitVec 32) (acc:Int) (n:Nat) (hn:n≤5000) (hr:RI n r):FnX Tryz.prog 156 [Is (.pointer (some ⟨b,0,none⟩)),Is (.int .u32 (UV key)),Is (.int .i64 acc)] [blk b 218 [Is (.int .i64 r.job.client),Is (.int .i64 r.job.seq),Is (.int .i64 r.job.lines),qal tSt29 r.job.program,qal tI64 r.job.access,Is (.bool r.job.snapshot),Is (.int .u64 (UV r.job.vector0)),Is (.int .u64 (UV r.job.vector1)),Is (.int .u64 (UV r.job.vector2)),Is (.int .u64 (UV r.job.vector3)),Is (.int .u64 (UV r.job.vector4)),Is (.int .u64 (UV r.job.vector5)),qal tPg r.known,qbe B0 (qal tPg r.w),qal tI64 r.c,qal tI64 r.need,Is (.int .i64 r.code),Is (.int .i64 r.out.code),Is (.int .i64 r.out.statement),Is (.int .i64 r.out.want),qal tRs29 r.out.results,Is (.slice none 0 0),Is (.bool r.out.hint),Is (.bool r.out.deep),Is (.bool r.out.unposted),Is (.bool r.out.dead)]]
  (fun i:Run31×Fd31=>RI (n+302) i.1∧Ln i.2.page) (fun i=>IsFd31 i.2) (fun i=>[blk b 218 [Is (.int .i64 i.1.job.client),Is (.int .i64 i.1.job.seq),Is (.int .i64 i.1.job.lines),qal tSt29 i.1.job.program,qal tI64 i.1.job.access,Is (.bool i.1.job.snapshot),Is (.int .u64 (UV i.1.job.vector0)),Is (.int .u64 (UV i.1.job.vector1)),Is (.int .u64 (UV i.1.job.vector2)),Is (.int .u64 (UV i.1.job.vector3)),Is (.int .u64 (UV i.1.job.vector4)),Is (.int .u64 (UV i.1.job.vector5)),qal tPg i.1.known,qbe B0 (qal tPg i.1.w),qal tI64 i.1.c,qal tI64 i.1.need,Is (.int .i64 i.1.code),Is (.int .i64 i.1.out.code),Is (.int .i64 i.1.out.statement),Is (.int .i64 i.1.out.want),qal tRs29 i.1.out.results,Is (.slice none 0 0),Is (.bool i.1.out.hint),Is (.bool i.1.out.deep),Is (.bool i.1.out.unposted),Is (.bool i.1.out.dead)]]):=by
 have hvw:=hr.vw
 obtain ⟨hs,hks,hw,hc⟩:=hr
 have hwl:=hw.1
 have hvv:r.known.length+r.w.length≤400000:=by omega
 refine Fn.enterB func156 ntmps156 rfl rfl ?_
 intro c hX hbelow
 refine t3 ?_
 intro i6
 refine t6 ?_
 intro i7
 refine t6 ?_
 intro i8
 refine t9 ?_
 refine cN ?_ ?_ <;> intro h3
 ·refine t5 ?_
  refine qap rfl (by ((refine qc9 qga call154 (qhn B0 hvv) ⟨qar,trivial⟩ (qet)))) ?_
  refine qap rfl (qaw call170 (qg7 _ _ (⟨_,_⟩:Pt) _ _) ⟨qbb,⟨qbb,⟨qbb,⟨qbb,⟨qbb,trivial⟩⟩⟩⟩⟩) ?_
  (refine qa5 18 rfl ?_;intro x18 hx18)
  refine s1 ?_
  intro i9
  refine t5 ?_
  obtain ⟨hp1,hp2,hp3⟩:=hx18
  have hcc:r.c.length+x18.out.check.length≤100000:=by omega
  refine t6 ?_
  refine cN ?_ ?_ <;> intro h5
  ·refine t19 ?_
   refine qc0 (B0:=B0) (b:=b) ?_
   refine qax (Bs:=[_]) ((⟨⟨_,_,_,_,_,_,_,_,_,_,_,_⟩,_,_,_,_,_,⟨_,_,_,_,[],_,_,_,_⟩⟩:Run31),(⟨_,(⟨_,_,_,_,_,_,_,_,_⟩:Pg),(⟨(⟨_,_,_,_⟩:Rw),_,_,_,(⟨_,_⟩:Pt)⟩:Vs),_⟩:Fd31)) ?_ rfl results156 eXF qab (hD0:=hX.2)
   exact ⟨⟨hs,hks,hw.mono (by omega),by exact Nat.le_trans hc (by omega)⟩,by exact ln0⟩
  refine t11 ?_
  refine cN ?_ ?_ <;> intro h8
  ·refine t20 ?_
   refine qc0 (B0:=B0) (b:=b) ?_
   refine qax (Bs:=[_]) ((⟨⟨_,_,_,_,_,_,_,_,_,_,_,_⟩,_,_,_,_,_,⟨_,_,_,_,[],_,_,_,_⟩⟩:Run31),(⟨_,(⟨_,_,_,_,_,_,_,_,_⟩:Pg),(⟨(⟨_,_,_,_⟩:Rw),_,_,_,(⟨_,_⟩:Pt)⟩:Vs),_⟩:Fd31)) ?_ rfl results156 eXF qab (hD0:=hX.2)
   exact ⟨⟨hs,hks,hw.mono (by omega),by exact Nat.le_trans hc (by omega)⟩,by exact ln0⟩
  refine t3 ?_
  refine qf2 (b:=i9) qae (qps hX) ?_
  refine qb0 9 (qdo ((qo4 c.w.heap.size).cells x18)) rfl (SubL.fact qbp) ?_
  refine qa0 rfl (by kernel_rfl) ?_
  refine qgl (its:=[]) ?_
  refine f1 0 ?_
  refine qhq 1 rfl (by kernel_rfl) (fun _=>(qay rfl)) ?_
  refine f1 2 ?_
  refine f1 3 ?_
  refine f1 4 ?_
  refine f1 5 ?_
  refine f1 6 ?_
  refine f1 7 ?_
  (refine qm5 8 rfl (by kernel_rfl) rfl rfl (fun hg=>(by have hg0:=hg;(try simp at hg);exact qa1 (k:=2) evG rfl rfl rfl rfl qbo)) ?_)
  (refine qm5 9 rfl (by kernel_rfl) rfl rfl (fun hg=>(by have hg0:=hg;(try simp at hg);exact qa1 (k:=4) evG rfl rfl rfl rfl qbo)) ?_)
  (refine qm5 10 rfl (by kernel_rfl) rfl rfl (fun hg=>(by have hg0:=hg;(try simp at hg);exact qbw evG rfl rfl rfl)) ?_)
  refine qkf 11 rfl (by kernel_rfl) (qo5 (er rfl) rfl (fun h=>by exact SubL.iteT (by (rw [h];rfl)) SubL.rfl')) ?_
  refine f1 12 ?_
  refine f1 13 ?_
  refine f1 14 ?_
  refine f1 15 ?_
  refine f1 16 ?_
  refine f1 17 ?_
  (refine qis 18 rfl (by kernel_rfl) rfl rfl (fun _ hg=>(by have hg0:=hg;(try simp at hg);exact qa1 (k:=2) evG rfl rfl rfl rfl qbo)) ?_)
  (refine qis 19 rfl (by kernel_rfl) rfl rfl (fun _ hg=>(by have hg0:=hg;(try simp at hg);exact qa1 (k:=5) evG rfl rfl rfl rfl qbo)) ?_)
  (refine qis 20 rfl (by kernel_rfl) rfl rfl (fun _ hg=>(by have hg0:=hg;(try simp at hg);exact qbw evG rfl rfl rfl)) ?_)
  refine qhq 21 rfl (by kernel_rfl) (fun _=>(qo5 (er rfl) rfl (fun h=>by exact SubL.iteT (by (rw [h];rfl)) SubL.rfl'))) ?_
  refine f1 22 ?_
  refine f1 23 ?_
  refine f1 24 ?_
  refine qfi 25 [0,2,3,4,5,6,7,8,9,10,11,12,13,14,15,16,17,22,23,24,25] rfl (by kernel_rfl) (fun c'=>by exact qa9 (er rfl) (er rfl) qaf qae rf rf rf) ?_
  refine f1 26 ?_
  refine f1 27 ?_
  refine f1 28 ?_
  refine qfi 29 [0,1,2,3,4,5,6,7,8,9,10,11,12,13,14,15,16,17,18,19,20,21,22,23,24,25,26,27,28,29] rfl (by kernel_rfl) (fun c'=>by exact qa9 (er rfl) (er rfl) qaf qae rf rf rf) ?_
  refine qeq (by kernel_rfl) rfl ?_
  show JQ _ _ _ _ _ _
  refine t7 ?_
  (refine qe3 rfl (qch qbh call176 (qky b _ hs hcc) ⟨qar,⟨qar,trivial⟩⟩) ?_;intro x71 hx71)
  refine t2 ?_
  have hc2:x71.length≤n+301:=Nat.le_trans hx71 (show r.c.length+x18.out.check.length≤n+301 by omega)
  have hc3:x71.length≤10000:=by omega
  refine qa0 rfl (by kernel_rfl) ?_
  refine qdf (it:=blk i8 _ _) (by repeat (first|exact Drop1.here _ _|apply Drop1.next)) ?_
  refine qdf (it:=blk i7 _ _) (by repeat (first|exact Drop1.here _ _|apply Drop1.next)) ?_
  refine qdj (its:=[_,_]) 9 (by kernel_rfl) ?_
  refine t7 ?_
  refine qc6 (s:=178) rfl rfl rfl (by kernel_rfl) (fun c'=>by exact qa9 (er rfl) (er rfl) qaf qae rf rf rf) ?_
  refine qc6 (s:=179) rfl rfl rfl (by kernel_rfl) (fun c'=>by exact qa9 (er rfl) (er rfl) qaf qae rf rf rf) ?_
  refine ⟨rfl,?_⟩
  intro _ _
  refine qat ?_
  refine t9 ?_
  refine cN ?_ ?_ <;> intro h24
  ·refine t8 ?_
   refine qc0 (B0:=B0) (b:=b) ?_
   refine qax (Bs:=[_]) ((⟨⟨_,_,_,_,_,_,_,_,_,_,_,_⟩,_,_,_,_,_,⟨_,_,_,_,[],_,_,_,_⟩⟩:Run31),(⟨_,(⟨_,_,_,_,_,_,_,_,_⟩:Pg),(⟨(⟨_,_,_,_⟩:Rw),_,_,_,(⟨_,_⟩:Pt)⟩:Vs),_⟩:Fd31)) ?_ rfl results156 eXF qab (hD0:=hX.2)
   exact ⟨⟨hs,hks,hw.mono (by omega),by exact Nat.le_trans hc2 (by omega)⟩,by exact ln0⟩
  refine t12 ?_
  refine cN ?_ ?_ <;> intro h26
  ·exact absurd h26 (by rw [hs];decide)
  refine t7 ?_
  (refine qe3 rfl (qch qbh call179 (qqf B0 b (⟨_,_⟩:Pt) _ hs hvv hc3) ⟨qbb,⟨qbb,⟨qbb,trivial⟩⟩⟩) ?_;intro x167 hx167)
  refine t10 ?_
  obtain ⟨hq1,hq2⟩:=hx167
  have hc4:x167.2.2.1.length≤n+302:=Nat.le_trans hq1 (Nat.succ_le_succ hc2)
  refine t16 ?_
  refine qc0 (B0:=B0) (b:=b) ?_
  refine qax (Bs:=[_]) ((⟨⟨_,_,_,_,_,_,_,_,_,_,_,_⟩,_,_,_,_,_,⟨_,_,_,_,[],_,_,_,_⟩⟩:Run31),(⟨_,(⟨_,_,_,_,_,_,_,_,_⟩:Pg),(⟨(⟨_,_,_,_⟩:Rw),_,_,_,(⟨_,_⟩:Pt)⟩:Vs),_⟩:Fd31)) ?_ rfl results156 eXF qab (hD0:=hX.2)
  exact ⟨⟨hs,hks,hw.mono (by omega),by exact hc4⟩,by exact hq2⟩
 refine t5 ?_
 refine qap rfl (by ((refine qc9 qga call154 (qhn B0 hvv) ⟨qar,trivial⟩ (qet)))) ?_
 refine qap rfl (qaw call166 (qgd (⟨_,_,_,(⟨_,_⟩:Pt),_,_,_⟩:Op24) _) ⟨qbb,⟨qbb,trivial⟩⟩) ?_
 (refine qa5 83 rfl ?_;intro x83 hx83)
 refine s1 ?_
 intro i10
 refine t5 ?_
 obtain ⟨hp1,hp2,hp3⟩:=hx83
 have hcc:r.c.length+x83.out.check.length≤100000:=by omega
 refine t6 ?_
 refine cN ?_ ?_ <;> intro h15
 ·refine t19 ?_
  refine qc0 (B0:=B0) (b:=b) ?_
  refine qax (Bs:=[_]) ((⟨⟨_,_,_,_,_,_,_,_,_,_,_,_⟩,_,_,_,_,_,⟨_,_,_,_,[],_,_,_,_⟩⟩:Run31),(⟨_,(⟨_,_,_,_,_,_,_,_,_⟩:Pg),(⟨(⟨_,_,_,_⟩:Rw),_,_,_,(⟨_,_⟩:Pt)⟩:Vs),_⟩:Fd31)) ?_ rfl results156 eXF qab (hD0:=hX.2)
  exact ⟨⟨hs,hks,hw.mono (by omega),by exact Nat.le_trans hc (by omega)⟩,by exact ln0⟩
 refine t11 ?_
 refine cN ?_ ?_ <;> intro h18
 ·refine t20 ?_
  refine qc0 (B0:=B0) (b:=b) ?_
  refine qax (Bs:=[_]) ((⟨⟨_,_,_,_,_,_,_,_,_,_,_,_⟩,_,_,_,_,_,⟨_,_,_,_,[],_,_,_,_⟩⟩:Run31),(⟨_,(⟨_,_,_,_,_,_,_,_,_⟩:Pg),(⟨(⟨_,_,_,_⟩:Rw),_,_,_,(⟨_,_⟩:Pt)⟩:Vs),_⟩:Fd31)) ?_ rfl results156 eXF qab (hD0:=hX.2)
  exact ⟨⟨hs,hks,hw.mono (by omega),by exact Nat.le_trans hc (by omega)⟩,by exact ln0⟩
 refine t3 ?_
 refine qf2 (b:=i10) qae (qps hX) ?_
 refine qb0 10 (qdo ((qsr c.w.heap.size).cells x83)) rfl (SubL.fact qbp) ?_
 refine qa0 rfl (by kernel_rfl) ?_
 refine qgl (its:=[]) ?_
 refine f1 0 ?_
 refine qhq 1 rfl (by kernel_rfl) (fun _=>(qay rfl)) ?_
 refine f1 2 ?_
 refine f1 3 ?_
 refine f1 4 ?_
 refine f1 5 ?_
 refine f1 6 ?_
 refine f1 7 ?_
 (refine qm5 8 rfl (by kernel_rfl) rfl rfl (fun hg=>(by have hg0:=hg;(try simp at hg);exact qa1 (k:=2) evG rfl rfl rfl rfl qbo)) ?_)
 (refine qm5 9 rfl (by kernel_rfl) rfl rfl (fun hg=>(by have hg0:=hg;(try simp at hg);exact qa1 (k:=4) evG rfl rfl rfl rfl qbo)) ?_)
 (refine qm5 10 rfl (by kernel_rfl) rfl rfl (fun hg=>(by have hg0:=hg;(try simp at hg);exact qbw evG rfl rfl rfl)) ?_)
 refine qkf 11 rfl (by kernel_rfl) (qo5 (er rfl) rfl (fun h=>by exact SubL.iteT (by (rw [h];rfl)) SubL.rfl')) ?_
 refine f1 12 ?_
 refine f1 13 ?_
 refine f1 14 ?_
 refine f1 15 ?_
 refine f1 16 ?_
 refine f1 17 ?_
 (refine qis 18 rfl (by kernel_rfl) rfl rfl (fun _ hg=>(by have hg0:=hg;(try simp at hg);exact qa1 (k:=2) evG rfl rfl rfl rfl qbo)) ?_)
 (refine qis 19 rfl (by kernel_rfl) rfl rfl (fun _ hg=>(by have hg0:=hg;(try simp at hg);exact qa1 (k:=5) evG rfl rfl rfl rfl qbo)) ?_)
 (refine qis 20 rfl (by kernel_rfl) rfl rfl (fun _ hg=>(by have hg0:=hg;(try simp at hg);exact qbw evG rfl rfl rfl)) ?_)
 refine qhq 21 rfl (by kernel_rfl) (fun _=>(qo5 (er rfl) rfl (fun h=>by exact SubL.iteT (by (rw [h];rfl)) SubL.rfl'))) ?_
 refine f1 22 ?_
 refine f1 23 ?_
 refine f1 24 ?_
 refine qfi 25 [0,2,3,4,5,6,7,8,9,10,11,12,13,14,15,16,17,22,23,24,25] rfl (by kernel_rfl) (fun c'=>by exact qa9 (er rfl) (er rfl) qaf qae rf rf rf) ?_
 refine f1 26 ?_
 refine f1 27 ?_
 refine f1 28 ?_
 refine qfi 29 [0,1,2,3,4,5,6,7,8,9,10,11,12,13,14,15,16,17,18,19,20,21,22,23,24,25,26,27,28,29] rfl (by kernel_rfl) (fun c'=>by exact qa9 (er rfl) (er rfl) qaf qae rf rf rf) ?_
 refine qeq (by kernel_rfl) rfl ?_
 show JQ _ _ _ _ _ _
 refine t7 ?_
 (refine qe3 rfl (qch qbh call176 (qky b _ hs hcc) ⟨qar,⟨qar,trivial⟩⟩) ?_;intro x136 hx136)
 refine t2 ?_
 have hc2:x136.length≤n+301:=Nat.le_trans hx136 (show r.c.length+x83.out.check.length≤n+301 by omega)
 have hc3:x136.length≤10000:=by omega
 refine qa0 rfl (by kernel_rfl) ?_
 refine qdf (it:=blk i8 _ _) (by repeat (first|exact Drop1.here _ _|apply Drop1.next)) ?_
 refine qdf (it:=blk i7 _ _) (by repeat (first|exact Drop1.here _ _|apply Drop1.next)) ?_
 refine qdj (its:=[_,_]) 9 (by kernel_rfl) ?_
 refine t7 ?_
 refine qc6 (s:=178) rfl rfl rfl (by kernel_rfl) (fun c'=>by exact qa9 (er rfl) (er rfl) qaf qae rf rf rf) ?_
 refine qc6 (s:=179) rfl rfl rfl (by kernel_rfl) (fun c'=>by exact qa9 (er rfl) (er rfl) qaf qae rf rf rf) ?_
 refine ⟨rfl,?_⟩
 intro _ _
 refine qat ?_
 refine t9 ?_
 refine cN ?_ ?_ <;> intro h24
 ·refine t8 ?_
  refine qc0 (B0:=B0) (b:=b) ?_
  refine qax (Bs:=[_]) ((⟨⟨_,_,_,_,_,_,_,_,_,_,_,_⟩,_,_,_,_,_,⟨_,_,_,_,[],_,_,_,_⟩⟩:Run31),(⟨_,(⟨_,_,_,_,_,_,_,_,_⟩:Pg),(⟨(⟨_,_,_,_⟩:Rw),_,_,_,(⟨_,_⟩:Pt)⟩:Vs),_⟩:Fd31)) ?_ rfl results156 eXF qab (hD0:=hX.2)
  exact ⟨⟨hs,hks,hw.mono (by omega),by exact Nat.le_trans hc2 (by omega)⟩,by exact ln0⟩
 refine t12 ?_
 refine cN ?_ ?_ <;> intro h26
 ·exact absurd h26 (by rw [hs];decide)
 refine t7 ?_
 (refine qe3 rfl (qch qbh call179 (qqf B0 b (⟨_,_⟩:Pt) _ hs hvv hc3) ⟨qbb,⟨qbb,⟨qbb,trivial⟩⟩⟩) ?_;intro x167 hx167)
 refine t10 ?_
 obtain ⟨hq1,hq2⟩:=hx167
 have hc4:x167.2.2.1.length≤n+302:=Nat.le_trans hq1 (Nat.succ_le_succ hc2)
 refine t16 ?_
 refine qc0 (B0:=B0) (b:=b) ?_
 refine qax (Bs:=[_]) ((⟨⟨_,_,_,_,_,_,_,_,_,_,_,_⟩,_,_,_,_,_,⟨_,_,_,_,[],_,_,_,_⟩⟩:Run31),(⟨_,(⟨_,_,_,_,_,_,_,_,_⟩:Pg),(⟨(⟨_,_,_,_⟩:Rw),_,_,_,(⟨_,_⟩:Pt)⟩:Vs),_⟩:Fd31)) ?_ rfl results156 eXF qab (hD0:=hX.2)
 exact ⟨⟨hs,hks,hw.mono (by omega),by exact hc4⟩,by exact hq2⟩
theorem qzb (B0 b:Nat) (r:Run31) (key:BitVec 32) (to:Pt) (n:Nat) (hB:B0≤b) (hn:n≤5000) (hr:RI n r) (hst:stp r=false):FnX Tryz.prog 186 [Is (.pointer (some ⟨b,0,none⟩)),Is (.int .u32 (UV key)),qm6 to] [blk b 218 [Is (.int .i64 r.job.client),Is (.int .i64 r.job.seq),Is (.int .i64 r.job.lines),qal tSt29 r.job.program,qal tI64 r.job.access,Is (.bool r.job.snapshot),Is (.int .u64 (UV r.job.vector0)),Is (.int .u64 (UV r.job.vector1)),Is (.int .u64 (UV r.job.vector2)),Is (.int .u64 (UV r.job.vector3)),Is (.int .u64 (UV r.job.vector4)),Is (.int .u64 (UV r.job.vector5)),qal tPg r.known,qbe B0 (qal tPg r.w),qal tI64 r.c,qal tI64 r.need,Is (.int .i64 r.code),Is (.int .i64 r.out.code),Is (.int .i64 r.out.statement),Is (.int .i64 r.out.want),qal tRs29 r.out.results,Is (.slice none 0 0),Is (.bool r.out.hint),Is (.bool r.out.deep),Is (.bool r.out.unposted),Is (.bool r.out.dead)]]
  (fun i:Run31×Bool=>RI (n+16) i.1) (fun i=>Is (.bool i.2)) (fun i=>[blk b 218 [Is (.int .i64 i.1.job.client),Is (.int .i64 i.1.job.seq),Is (.int .i64 i.1.job.lines),qal tSt29 i.1.job.program,qal tI64 i.1.job.access,Is (.bool i.1.job.snapshot),Is (.int .u64 (UV i.1.job.vector0)),Is (.int .u64 (UV i.1.job.vector1)),Is (.int .u64 (UV i.1.job.vector2)),Is (.int .u64 (UV i.1.job.vector3)),Is (.int .u64 (UV i.1.job.vector4)),Is (.int .u64 (UV i.1.job.vector5)),qal tPg i.1.known,qbe B0 (qal tPg i.1.w),qal tI64 i.1.c,qal tI64 i.1.need,Is (.int .i64 i.1.code),Is (.int .i64 i.1.out.code),Is (.int .i64 i.1.out.statement),Is (.int .i64 i.1.out.want),qal tRs29 i.1.out.results,Is (.slice none 0 0),Is (.bool i.1.out.hint),Is (.bool i.1.out.deep),Is (.bool i.1.out.unposted),Is (.bool i.1.out.dead)]]):=by
 have hvw:=hr.vw
 obtain ⟨hs,hks,hw,hc⟩:=hr
 have hwl:=hw.1
 have hvv:r.known.length+r.w.length≤400000:=by omega
 have hv9:r.known.length+r.w.length≤9000:=by omega
 refine Fn.enterB func186 ntmps186 rfl rfl ?_
 intro c hX hbelow
 have hBw:B0≤c.w.heap.size:=by
  have:=hbelow b (mem_names.2 ⟨_,List.mem_cons_self ..,rfl⟩)
  omega
 refine t3 ?_
 intro i5
 refine t4 ?_
 refine qa0 rfl (by kernel_rfl) ?_
 refine qgl (its:=[]) ?_
 refine f1 0 ?_
 refine f1 1 ?_
 refine f1 2 ?_
 refine qkf 3 rfl (by kernel_rfl) (by ((refine qc9 qga call154 (qhn B0 hvv) ⟨qar,trivial⟩ (qet)))) ?_
 refine qm4 5 rfl (by kernel_rfl) (fun _=>(qbi rfl qbo rfl)) ?_
 (refine qy9 4 [0,1,2,3,4] rfl (by kernel_rfl) (qaw call170 (qg7 _ _ (⟨_,_⟩:Pt) _ _) ⟨qbb,⟨qbb,⟨qbb,⟨qbb,⟨qbb,trivial⟩⟩⟩⟩⟩) ?_;intro x13 hx13)
 (refine qgk 7 5 (by kernel_rfl) rfl rfl ?_;intro i7)
 refine qfi 6 [0,1,2,3,4,5,6] rfl (by kernel_rfl) (fun c'=>by exact qa9 (er rfl) (er rfl) qaf qae rf rf rf) ?_
 refine qeq (by kernel_rfl) rfl ?_
 show JQ _ _ _ _ _ _
 refine t3 ?_
 refine qbq (b:=i7) (As':=(qo4 c.w.heap.size).cells x13) qae qba ?_
 have hp0:PS23 x13:=hx13
 refine t11 ?_
 refine qb3 [(0,_),(6,_),(7,_)] [] (fun yc:Run31×S23=>(yc.1.job.snapshot=false∧yc.1.known.length≤300∧WL (n+12) yc.1.w∧yc.1.c.length≤n)∧PS23 yc.2) (fun yc=>[]) (fun yc=>[blk b 218 [Is (.int .i64 yc.1.job.client),Is (.int .i64 yc.1.job.seq),Is (.int .i64 yc.1.job.lines),qal tSt29 yc.1.job.program,qal tI64 yc.1.job.access,Is (.bool yc.1.job.snapshot),Is (.int .u64 (UV yc.1.job.vector0)),Is (.int .u64 (UV yc.1.job.vector1)),Is (.int .u64 (UV yc.1.job.vector2)),Is (.int .u64 (UV yc.1.job.vector3)),Is (.int .u64 (UV yc.1.job.vector4)),Is (.int .u64 (UV yc.1.job.vector5)),qal tPg yc.1.known,qbe B0 (qal tPg yc.1.w),qal tI64 yc.1.c,qal tI64 yc.1.need,Is (.int .i64 yc.1.code),Is (.int .i64 yc.1.out.code),Is (.int .i64 yc.1.out.statement),Is (.int .i64 yc.1.out.want),qal tRs29 yc.1.out.results,Is (.slice none 0 0),Is (.bool yc.1.out.hint),Is (.bool yc.1.out.deep),Is (.bool yc.1.out.unposted),Is (.bool yc.1.out.dead)],blk i7 290 ((qo4 c.w.heap.size).cells yc.2)]) qah qab ?_ ?_
 rotate_left
 focus
  refine cN ?_ ?_ <;> intro h2
  ·refine t6 ?_
   (refine qe3 rfl (qch qbh call182 (qlz B0 b _ n hB hv9 hw hst) ⟨qar,⟨qar,trivial⟩⟩) ?_;intro x26 hx26)
   refine t5 ?_
   obtain ⟨ha1,ha2⟩:=hx26
   have ha3:=ha1.1
   have hvv2:r.known.length+x26.2.2.1.length≤400000:=by omega
   refine t2 ?_
   refine qap rfl (by ((refine qgo qga call157 (qe4 _ _) ⟨qar,trivial⟩ qqx))) ?_
   refine t2 ?_
   refine cN ?_ ?_ <;> intro h4
   ·refine t8 ?_
    refine qc0 (B0:=B0) (b:=b) ?_
    refine qax (Bs:=[_]) ((⟨⟨_,_,_,_,_,_,_,_,_,_,_,_⟩,_,_,_,_,_,⟨_,_,_,_,[],_,_,_,_⟩⟩:Run31),_) ?_ rfl results186 eXF qab (hD0:=hX.2)
    exact by exact ⟨hs,hks,ha1.mono (by omega),Nat.le_trans hc (by omega)⟩
   refine t2 ?_
   refine qa0 rfl (by kernel_rfl) ?_
   refine qgl (its:=[]) ?_
   refine f1 0 ?_
   refine f1 1 ?_
   refine f1 2 ?_
   refine f1 3 ?_
   refine qkf 4 rfl (by kernel_rfl) (by ((refine qc9 qga call154 (qhn B0 hvv2) ⟨qar,trivial⟩ (qet)))) ?_
   (refine qy9 5 [0,1,2,3,4,5] rfl (by kernel_rfl) (qaw call170 (qg7 _ _ (⟨_,_⟩:Pt) _ _) ⟨qbb,⟨qbb,⟨qbb,⟨qbb,⟨qbb,trivial⟩⟩⟩⟩⟩) ?_;intro x34 hx34)
   refine qfi 6 [0,1,2,3,4,5,6] rfl (by kernel_rfl) (fun c'=>by exact qa9 (er rfl) (er rfl) qaf qae rf rf rf) ?_
   refine qeq (by kernel_rfl) rfl ?_
   show JQ _ _ _ _ _ _
   refine qam (b:=i7) (As':=(qo4 c.w.heap.size).cells x34) qae qba ?_
   refine qc0 (B0:=B0) (b:=b) ?_
   refine qak ((⟨⟨_,_,_,_,_,_,_,_,_,_,_,_⟩,_,_,_,_,_,⟨_,_,_,_,[],_,_,_,_⟩⟩:Run31),x34) ?_ qah qab
   ·exact ⟨⟨hs,hks,ha1,hc⟩,hx34⟩
  refine s1 ?_
  refine qc0 (B0:=B0) (b:=b) ?_
  refine qak ((⟨⟨_,_,_,_,_,_,_,_,_,_,_,_⟩,_,_,_,_,_,⟨_,_,_,_,[],_,_,_,_⟩⟩:Run31),x13) ?_ qah qab
  ·exact ⟨⟨hs,hks,hw.mono (by omega),hc⟩,hp0⟩
 rintro ⟨q,s⟩ hI
 dsimp only at hI ⊢
 obtain ⟨⟨hs2,hks2,hw2,hc2⟩,hp1,hp2,hp3⟩:=hI
 have hw2l:=hw2.1
 have hp1l:=hp1.1
 have hcc:q.c.length+s.out.check.length≤100000:=by omega
 refine t8 ?_
 refine cN ?_ ?_ <;> intro h7
 ·refine t17 ?_
  refine qc0 (B0:=B0) (b:=b) ?_
  refine qax (Bs:=[_]) ((⟨⟨_,_,_,_,_,_,_,_,_,_,_,_⟩,_,_,_,_,_,⟨_,_,_,_,[],_,_,_,_⟩⟩:Run31),_) ?_ rfl results186 eXF qab (hD0:=hX.2)
  exact by exact ⟨hs2,hks2,hw2.mono (by omega),Nat.le_trans hc2 (by omega)⟩
 refine t11 ?_
 refine cN ?_ ?_ <;> intro h10
 ·refine t21 ?_
  refine cN ?_ ?_ <;> intro h12
  ·refine t14 ?_
   refine qc0 (B0:=B0) (b:=b) ?_
   refine qax (Bs:=[_]) ((⟨⟨_,_,_,_,_,_,_,_,_,_,_,_⟩,_,_,_,_,_,⟨_,_,_,_,[],_,_,_,_⟩⟩:Run31),_) ?_ rfl results186 eXF qab (hD0:=hX.2)
   exact by exact ⟨hs2,hks2,hw2.mono (by omega),Nat.le_trans hc2 (by omega)⟩
  refine t9 ?_
  refine qc0 (B0:=B0) (b:=b) ?_
  refine qax (Bs:=[_]) ((⟨⟨_,_,_,_,_,_,_,_,_,_,_,_⟩,_,_,_,_,_,⟨_,_,_,_,[],_,_,_,_⟩⟩:Run31),_) ?_ rfl results186 eXF qab (hD0:=hX.2)
  exact by exact ⟨hs2,hks2,hw2.mono (by omega),Nat.le_trans hc2 (by omega)⟩
 refine t3 ?_
 refine qa0 rfl (by kernel_rfl) ?_
 refine qag 10 (by kernel_rfl) ?_
 refine t7 ?_
 refine qbc (by ((refine qaw call52 (qcc _ _ ?_) ⟨qar,⟨qar,trivial⟩⟩);all_goals (omega))) ?_
 refine t2 ?_
 refine ⟨rfl,?_⟩
 refine qef (by kernel_rfl) rfl (qav (er rfl) (er rfl) qaf qae qbo rf rf rf) ?_
 refine qat ?_
 refine t7 ?_
 (refine qe3 rfl (qch qbh call176 (qky b _ hs2 hcc) ⟨qar,⟨qar,trivial⟩⟩) ?_;intro x75 hx75)
 refine t3 ?_
 have hc3:x75.length≤n+1:=Nat.le_trans hx75 (show q.c.length+s.out.check.length≤n+1 by omega)
 refine qf2 (b:=i7) qae (qps hX) ?_
 refine qb0 7 (qdo ((qo4 c.w.heap.size).cells s)) rfl (SubL.fact qbp) ?_
 refine qa0 rfl (by kernel_rfl) ?_
 refine qgl (its:=[]) ?_
 refine f1 0 ?_
 refine qhq 1 rfl (by kernel_rfl) (fun _=>(qay rfl)) ?_
 refine f1 2 ?_
 refine f1 3 ?_
 refine f1 4 ?_
 refine f1 5 ?_
 refine f1 6 ?_
 refine f1 7 ?_
 (refine qm5 8 rfl (by kernel_rfl) rfl rfl (fun hg=>(by have hg0:=hg;(try simp at hg);exact qa1 (k:=2) evG rfl rfl rfl rfl qbo)) ?_)
 (refine qm5 9 rfl (by kernel_rfl) rfl rfl (fun hg=>(by have hg0:=hg;(try simp at hg);exact qa1 (k:=4) evG rfl rfl rfl rfl qbo)) ?_)
 (refine qm5 10 rfl (by kernel_rfl) rfl rfl (fun hg=>(by have hg0:=hg;(try simp at hg);exact qbw evG rfl rfl rfl)) ?_)
 refine qkf 11 rfl (by kernel_rfl) (qo5 (er rfl) rfl (fun h=>by exact SubL.iteT (by (rw [h];rfl)) SubL.rfl')) ?_
 refine f1 12 ?_
 refine f1 13 ?_
 refine f1 14 ?_
 refine f1 15 ?_
 refine f1 16 ?_
 refine f1 17 ?_
 (refine qis 18 rfl (by kernel_rfl) rfl rfl (fun _ hg=>(by have hg0:=hg;(try simp at hg);exact qa1 (k:=2) evG rfl rfl rfl rfl qbo)) ?_)
 (refine qis 19 rfl (by kernel_rfl) rfl rfl (fun _ hg=>(by have hg0:=hg;(try simp at hg);exact qa1 (k:=5) evG rfl rfl rfl rfl qbo)) ?_)
 (refine qis 20 rfl (by kernel_rfl) rfl rfl (fun _ hg=>(by have hg0:=hg;(try simp at hg);exact qbw evG rfl rfl rfl)) ?_)
 refine qhq 21 rfl (by kernel_rfl) (fun _=>(qo5 (er rfl) rfl (fun h=>by exact SubL.iteT (by (rw [h];rfl)) SubL.rfl'))) ?_
 refine f1 22 ?_
 refine f1 23 ?_
 refine f1 24 ?_
 refine qfi 25 [0,2,3,4,5,6,7,8,9,10,11,12,13,14,15,16,17,22,23,24,25] rfl (by kernel_rfl) (fun c'=>by exact qa9 (er rfl) (er rfl) qaf qae rf rf rf) ?_
 refine f1 26 ?_
 refine f1 27 ?_
 refine f1 28 ?_
 refine qfi 29 [0,1,2,3,4,5,6,7,8,9,10,11,12,13,14,15,16,17,18,19,20,21,22,23,24,25,26,27,28,29] rfl (by kernel_rfl) (fun c'=>by exact qa9 (er rfl) (er rfl) qaf qae rf rf rf) ?_
 refine qeq (by kernel_rfl) rfl ?_
 show JQ _ _ _ _ _ _
 refine t10 ?_
 refine qc0 (B0:=B0) (b:=b) ?_
 refine qax (Bs:=[_]) ((⟨⟨_,_,_,_,_,_,_,_,_,_,_,_⟩,_,_,_,_,_,⟨_,_,_,_,[],_,_,_,_⟩⟩:Run31),_) ?_ rfl results186 eXF qab (hD0:=hX.2)
 exact by exact ⟨hs2,hks2,qgf hw2 hp1 (by omega),Nat.le_trans hc3 (by omega)⟩
theorem qsu {L:List Item}:∀ {A:List VP},SubLs L A A
 | []=>trivial
 | _ :: _=>⟨SubL.rfl',qsu⟩
theorem subs_ovr {L:List Item} {A B:List VP} (h:B.length=A.length):SubLs L (ovr A 0 B) B:=by
 rw [qn0 B A 0 (by omega),Nat.zero_add,h,List.drop_length,List.take_zero,List.nil_append,List.append_nil]
 exact qsu
theorem qqd (B0 b:Nat) (r:Run31) (key:BitVec 32) (to:Pt) (n:Nat) (hB:B0≤b) (hn:n≤5000) (hr:RI n r) (hst:stp r=false):FnX Tryz.prog 187 [Is (.pointer (some ⟨b,0,none⟩)),Is (.int .u32 (UV key)),qm6 to] [blk b 218 [Is (.int .i64 r.job.client),Is (.int .i64 r.job.seq),Is (.int .i64 r.job.lines),qal tSt29 r.job.program,qal tI64 r.job.access,Is (.bool r.job.snapshot),Is (.int .u64 (UV r.job.vector0)),Is (.int .u64 (UV r.job.vector1)),Is (.int .u64 (UV r.job.vector2)),Is (.int .u64 (UV r.job.vector3)),Is (.int .u64 (UV r.job.vector4)),Is (.int .u64 (UV r.job.vector5)),qal tPg r.known,qbe B0 (qal tPg r.w),qal tI64 r.c,qal tI64 r.need,Is (.int .i64 r.code),Is (.int .i64 r.out.code),Is (.int .i64 r.out.statement),Is (.int .i64 r.out.want),qal tRs29 r.out.results,Is (.slice none 0 0),Is (.bool r.out.hint),Is (.bool r.out.deep),Is (.bool r.out.unposted),Is (.bool r.out.dead)]]
  (fun i:Run31=>RI (n+320) i) (fun i=>qbv []) (fun i=>[blk b 218 [Is (.int .i64 i.job.client),Is (.int .i64 i.job.seq),Is (.int .i64 i.job.lines),qal tSt29 i.job.program,qal tI64 i.job.access,Is (.bool i.job.snapshot),Is (.int .u64 (UV i.job.vector0)),Is (.int .u64 (UV i.job.vector1)),Is (.int .u64 (UV i.job.vector2)),Is (.int .u64 (UV i.job.vector3)),Is (.int .u64 (UV i.job.vector4)),Is (.int .u64 (UV i.job.vector5)),qal tPg i.known,qbe B0 (qal tPg i.w),qal tI64 i.c,qal tI64 i.need,Is (.int .i64 i.code),Is (.int .i64 i.out.code),Is (.int .i64 i.out.statement),Is (.int .i64 i.out.want),qal tRs29 i.out.results,Is (.slice none 0 0),Is (.bool i.out.hint),Is (.bool i.out.deep),Is (.bool i.out.unposted),Is (.bool i.out.dead)]]):=by
 have hvw:=hr.vw
 obtain ⟨hs,hks,hw,hc⟩:=hr
 have hwl:=hw.1
 have hvv:r.known.length+r.w.length≤400000:=by omega
 have hv9:r.known.length+r.w.length≤9000:=by omega
 refine Fn.enterB func187 ntmps187 rfl rfl ?_
 intro c hX hbelow
 have hBw:B0≤c.w.heap.size:=by
  have:=hbelow b (mem_names.2 ⟨_,List.mem_cons_self ..,rfl⟩)
  omega
 refine t3 ?_
 intro i5
 refine t8 ?_
 intro i6
 refine t4 ?_
 refine qa0 rfl (by kernel_rfl) ?_
 refine qgl (its:=[]) ?_
 refine f1 0 ?_
 refine f1 1 ?_
 refine qkf 2 rfl (by kernel_rfl) (by ((refine qc9 qga call154 (qhn B0 hvv) ⟨qar,trivial⟩ (qet)))) ?_
 refine qm4 4 rfl (by kernel_rfl) (fun _=>(qbi rfl qbo rfl)) ?_
 (refine qy9 3 [0,1,2,3] rfl (by kernel_rfl) (qaw call166 (qgd (⟨_,_,_,(⟨_,_⟩:Pt),_,_,_⟩:Op24) _) ⟨qbb,⟨qbb,trivial⟩⟩) ?_;intro x14 hx14)
 (refine qgk 7 4 (by kernel_rfl) rfl rfl ?_;intro i7)
 refine qfi 5 [0,1,2,3,4,5] rfl (by kernel_rfl) (fun c'=>by exact qa9 (er rfl) (er rfl) qaf qae rf rf rf) ?_
 refine qeq (by kernel_rfl) rfl ?_
 show JQ _ _ _ _ _ _
 refine t3 ?_
 refine qbq (b:=i7) (As':=(qsr c.w.heap.size).cells x14) qae qba ?_
 have hp0:qx2 x14:=hx14
 refine t11 ?_
 refine qb3 [(0,_),(7,_)] [] (fun yc:Run31×S24=>(yc.1.job.snapshot=false∧yc.1.known.length≤300∧WL (n+12) yc.1.w∧yc.1.c.length≤n)∧qx2 yc.2) (fun yc=>[]) (fun yc=>[blk b 218 [Is (.int .i64 yc.1.job.client),Is (.int .i64 yc.1.job.seq),Is (.int .i64 yc.1.job.lines),qal tSt29 yc.1.job.program,qal tI64 yc.1.job.access,Is (.bool yc.1.job.snapshot),Is (.int .u64 (UV yc.1.job.vector0)),Is (.int .u64 (UV yc.1.job.vector1)),Is (.int .u64 (UV yc.1.job.vector2)),Is (.int .u64 (UV yc.1.job.vector3)),Is (.int .u64 (UV yc.1.job.vector4)),Is (.int .u64 (UV yc.1.job.vector5)),qal tPg yc.1.known,qbe B0 (qal tPg yc.1.w),qal tI64 yc.1.c,qal tI64 yc.1.need,Is (.int .i64 yc.1.code),Is (.int .i64 yc.1.out.code),Is (.int .i64 yc.1.out.statement),Is (.int .i64 yc.1.out.want),qal tRs29 yc.1.out.results,Is (.slice none 0 0),Is (.bool yc.1.out.hint),Is (.bool yc.1.out.deep),Is (.bool yc.1.out.unposted),Is (.bool yc.1.out.dead)],blk i7 275 ((qsr c.w.heap.size).cells yc.2)]) qah qab ?_ ?_
 rotate_left
 focus
  refine cN ?_ ?_ <;> intro h3
  ·refine t6 ?_
   (refine qe3 rfl (qch qbh call182 (qlz B0 b _ n hB hv9 hw hst) ⟨qar,⟨qar,trivial⟩⟩) ?_;intro x27 hx27)
   refine t6 ?_
   obtain ⟨ha1,ha2⟩:=hx27
   have ha3:=ha1.1
   have hvv2:r.known.length+x27.2.2.1.length≤400000:=by omega
   refine t2 ?_
   refine qap rfl (by ((refine qgo qga call157 (qe4 _ _) ⟨qar,trivial⟩ qqx))) ?_
   refine t2 ?_
   refine cN ?_ ?_ <;> intro h5
   ·refine t3 ?_
    refine qc0 (B0:=B0) (b:=b) ?_
    refine qax (Bs:=[]) (⟨⟨_,_,_,_,_,_,_,_,_,_,_,_⟩,_,_,_,_,_,⟨_,_,_,_,[],_,_,_,_⟩⟩:Run31) ?_ rfl results187 trivial qab (hD0:=hX.2)
    exact by exact ⟨hs,hks,ha1.mono (by omega),Nat.le_trans hc (by omega)⟩
   refine t2 ?_
   refine qa0 rfl (by kernel_rfl) ?_
   refine qgl (its:=[]) ?_
   refine f1 0 ?_
   refine f1 1 ?_
   refine qkf 2 rfl (by kernel_rfl) (by ((refine qc9 qga call154 (qhn B0 hvv2) ⟨qar,trivial⟩ (qet)))) ?_
   (refine qy9 3 [0,1,2,3] rfl (by kernel_rfl) (qaw call166 (qgd (⟨_,_,_,(⟨_,_⟩:Pt),_,_,_⟩:Op24) _) ⟨qbb,⟨qbb,trivial⟩⟩) ?_;intro x34 hx34)
   refine qfi 4 [0,1,2,3,4] rfl (by kernel_rfl) (fun c'=>by exact qa9 (er rfl) (er rfl) qaf qae rf rf rf) ?_
   refine qeq (by kernel_rfl) rfl ?_
   show JQ _ _ _ _ _ _
   refine qam (b:=i7) (As':=(qsr c.w.heap.size).cells x34) qae (subs_ovr (A:=(qsr c.w.heap.size).cells x14) rfl) ?_
   refine qc0 (B0:=B0) (b:=b) ?_
   refine qak ((⟨⟨_,_,_,_,_,_,_,_,_,_,_,_⟩,_,_,_,_,_,⟨_,_,_,_,[],_,_,_,_⟩⟩:Run31),x34) ?_ qah qab
   ·exact ⟨⟨hs,hks,ha1,hc⟩,hx34⟩
  refine s1 ?_
  refine qc0 (B0:=B0) (b:=b) ?_
  refine qak ((⟨⟨_,_,_,_,_,_,_,_,_,_,_,_⟩,_,_,_,_,_,⟨_,_,_,_,[],_,_,_,_⟩⟩:Run31),x14) ?_ qah qab
  ·exact ⟨⟨hs,hks,hw.mono (by omega),hc⟩,hp0⟩
 rintro ⟨q,s⟩ hI
 dsimp only at hI ⊢
 obtain ⟨⟨hs2,hks2,hw2,hc2⟩,hp1,hp2,hp3⟩:=hI
 have hw2l:=hw2.1
 have hp1l:=hp1.1
 have hcc:q.c.length+s.out.check.length≤100000:=by omega
 refine t8 ?_
 refine cN ?_ ?_ <;> intro h7
 ·refine t12 ?_
  refine qc0 (B0:=B0) (b:=b) ?_
  refine qax (Bs:=[]) (⟨⟨_,_,_,_,_,_,_,_,_,_,_,_⟩,_,_,_,_,_,⟨_,_,_,_,[],_,_,_,_⟩⟩:Run31) ?_ rfl results187 trivial qab (hD0:=hX.2)
  exact by exact ⟨hs2,hks2,hw2.mono (by omega),Nat.le_trans hc2 (by omega)⟩
 refine t11 ?_
 refine cN ?_ ?_ <;> intro h9
 ·refine t21 ?_
  refine cN ?_ ?_ <;> intro h11
  ·refine t9 ?_
   refine qc0 (B0:=B0) (b:=b) ?_
   refine qax (Bs:=[]) (⟨⟨_,_,_,_,_,_,_,_,_,_,_,_⟩,_,_,_,_,_,⟨_,_,_,_,[],_,_,_,_⟩⟩:Run31) ?_ rfl results187 trivial qab (hD0:=hX.2)
   exact by exact ⟨hs2,hks2,hw2.mono (by omega),Nat.le_trans hc2 (by omega)⟩
  refine t4 ?_
  refine qc0 (B0:=B0) (b:=b) ?_
  refine qax (Bs:=[]) (⟨⟨_,_,_,_,_,_,_,_,_,_,_,_⟩,_,_,_,_,_,⟨_,_,_,_,[],_,_,_,_⟩⟩:Run31) ?_ rfl results187 trivial qab (hD0:=hX.2)
  exact by exact ⟨hs2,hks2,hw2.mono (by omega),Nat.le_trans hc2 (by omega)⟩
 refine t3 ?_
 refine qa0 rfl (by kernel_rfl) ?_
 refine qag 10 (by kernel_rfl) ?_
 refine t7 ?_
 refine qbc (by ((refine qaw call52 (qcc _ _ ?_) ⟨qar,⟨qar,trivial⟩⟩);all_goals (omega))) ?_
 refine t2 ?_
 refine ⟨rfl,?_⟩
 refine qef (by kernel_rfl) rfl (qav (er rfl) (er rfl) qaf qae qbo rf rf rf) ?_
 refine qat ?_
 refine t7 ?_
 (refine qe3 rfl (qch qbh call176 (qky b _ hs2 hcc) ⟨qar,⟨qar,trivial⟩⟩) ?_;intro x75 hx75)
 refine t2 ?_
 have hc3:x75.length≤n+300:=Nat.le_trans hx75 (show q.c.length+s.out.check.length≤n+300 by omega)
 refine qf2 (b:=i7) qae (qps hX) ?_
 refine qb0 7 (qdo ((qsr c.w.heap.size).cells s)) rfl (SubL.fact qbp) ?_
 refine qa0 rfl (by kernel_rfl) ?_
 refine qgl (its:=[]) ?_
 refine f1 0 ?_
 refine qhq 1 rfl (by kernel_rfl) (fun _=>(qay rfl)) ?_
 refine f1 2 ?_
 refine f1 3 ?_
 refine f1 4 ?_
 refine f1 5 ?_
 refine f1 6 ?_
 refine f1 7 ?_
 (refine qm5 8 rfl (by kernel_rfl) rfl rfl (fun hg=>(by have hg0:=hg;(try simp at hg);exact qa1 (k:=2) evG rfl rfl rfl rfl qbo)) ?_)
 (refine qm5 9 rfl (by kernel_rfl) rfl rfl (fun hg=>(by have hg0:=hg;(try simp at hg);exact qa1 (k:=4) evG rfl rfl rfl rfl qbo)) ?_)
 (refine qm5 10 rfl (by kernel_rfl) rfl rfl (fun hg=>(by have hg0:=hg;(try simp at hg);exact qbw evG rfl rfl rfl)) ?_)
 refine qkf 11 rfl (by kernel_rfl) (qo5 (er rfl) rfl (fun h=>by exact SubL.iteT (by (rw [h];rfl)) SubL.rfl')) ?_
 refine f1 12 ?_
 refine f1 13 ?_
 refine f1 14 ?_
 refine f1 15 ?_
 refine f1 16 ?_
 refine f1 17 ?_
 (refine qis 18 rfl (by kernel_rfl) rfl rfl (fun _ hg=>(by have hg0:=hg;(try simp at hg);exact qa1 (k:=2) evG rfl rfl rfl rfl qbo)) ?_)
 (refine qis 19 rfl (by kernel_rfl) rfl rfl (fun _ hg=>(by have hg0:=hg;(try simp at hg);exact qa1 (k:=5) evG rfl rfl rfl rfl qbo)) ?_)
 (refine qis 20 rfl (by kernel_rfl) rfl rfl (fun _ hg=>(by have hg0:=hg;(try simp at hg);exact qbw evG rfl rfl rfl)) ?_)
 refine qhq 21 rfl (by kernel_rfl) (fun _=>(qo5 (er rfl) rfl (fun h=>by exact SubL.iteT (by (rw [h];rfl)) SubL.rfl'))) ?_
 refine f1 22 ?_
 refine f1 23 ?_
 refine f1 24 ?_
 refine qfi 25 [0,2,3,4,5,6,7,8,9,10,11,12,13,14,15,16,17,22,23,24,25] rfl (by kernel_rfl) (fun c'=>by exact qa9 (er rfl) (er rfl) qaf qae rf rf rf) ?_
 refine f1 26 ?_
 refine f1 27 ?_
 refine f1 28 ?_
 refine qfi 29 [0,1,2,3,4,5,6,7,8,9,10,11,12,13,14,15,16,17,18,19,20,21,22,23,24,25,26,27,28,29] rfl (by kernel_rfl) (fun c'=>by exact qa9 (er rfl) (er rfl) qaf qae rf rf rf) ?_
 refine qeq (by kernel_rfl) rfl ?_
 show JQ _ _ _ _ _ _
 refine s1 ?_
 refine qc0 (B0:=B0) (b:=b) ?_
 refine qax (Bs:=[]) (⟨⟨_,_,_,_,_,_,_,_,_,_,_,_⟩,_,_,_,_,_,⟨_,_,_,_,[],_,_,_,_⟩⟩:Run31) ?_ rfl results187 trivial qab (hD0:=hX.2)
 exact by exact ⟨hs2,hks2,qgf hw2 hp1 (by omega),Nat.le_trans hc3 (by omega)⟩
end Go.Proofs.YtmgoplaamlignaaGreat
