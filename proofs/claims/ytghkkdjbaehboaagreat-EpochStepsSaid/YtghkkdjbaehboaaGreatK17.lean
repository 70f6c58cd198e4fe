/- Walks of functions and plain laws, laid together. Own work. -/
import Derived.Test.YtghkkdjbaehboaaGreatK16
namespace Go.Proofs.YtghkkdjbaehboaaGreat
open Go.RowKit Tryz
set_option linter.unusedVariables false
set_option linter.unusedSimpArgs false
set_option maxRecDepth 100000
set_option maxHeartbeats 4000000
theorem StmtR_ok (B0 b:Nat) (r:Run31) (s:St29) (acc:Int) (n:Nat) (hB:B0≤b) (hn:n≤1000) (hr:RI n r) (hk:1≤s.kind∧s.kind≤4) (hcol:0≤s.col∧s.col≤2) (hacc:acc≠3):FnX Tryz.prog 117 [Is (.pointer (some ⟨b,0,none⟩)),qo2 s,Is (.int .i64 acc)] [blk b 209 [Is (.int .i64 r.job.client),Is (.int .i64 r.job.seq),Is (.int .i64 r.job.lines),IsSl tSt29 r.job.program,IsSl tI64 r.job.access,Is (.bool r.job.snapshot),Is (.int .u64 (UV r.job.vector0)),Is (.int .u64 (UV r.job.vector1)),Is (.int .u64 (UV r.job.vector2)),Is (.int .u64 (UV r.job.vector3)),Is (.int .u64 (UV r.job.vector4)),Is (.int .u64 (UV r.job.vector5)),IsSl tPg r.known,qbd B0 (IsSl tPg r.w),IsSl tI64 r.c,IsSl tI64 r.need,Is (.int .i64 r.code),Is (.int .i64 r.out.code),Is (.int .i64 r.out.statement),Is (.int .i64 r.out.want),IsSl tRs29 r.out.results,Is (.slice none 0 0),Is (.bool r.out.hint),Is (.bool r.out.deep),Is (.bool r.out.unposted),Is (.bool r.out.dead)]]
  (fun i:Run31×Rs29=>RI (n+1200) i.1) (fun i=>IsRs29 i.2) (fun i=>[blk b 209 [Is (.int .i64 i.1.job.client),Is (.int .i64 i.1.job.seq),Is (.int .i64 i.1.job.lines),IsSl tSt29 i.1.job.program,IsSl tI64 i.1.job.access,Is (.bool i.1.job.snapshot),Is (.int .u64 (UV i.1.job.vector0)),Is (.int .u64 (UV i.1.job.vector1)),Is (.int .u64 (UV i.1.job.vector2)),Is (.int .u64 (UV i.1.job.vector3)),Is (.int .u64 (UV i.1.job.vector4)),Is (.int .u64 (UV i.1.job.vector5)),IsSl tPg i.1.known,qbd B0 (IsSl tPg i.1.w),IsSl tI64 i.1.c,IsSl tI64 i.1.need,Is (.int .i64 i.1.code),Is (.int .i64 i.1.out.code),Is (.int .i64 i.1.out.statement),Is (.int .i64 i.1.out.want),IsSl tRs29 i.1.out.results,Is (.slice none 0 0),Is (.bool i.1.out.hint),Is (.bool i.1.out.deep),Is (.bool i.1.out.unposted),Is (.bool i.1.out.dead)]]):=by
 refine Fn.enterB func117 ntmps117 rfl rfl ?_
 intro c hX hbelow
 refine t3 ?_
 intro i4
 refine s1 ?_
 intro i6
 refine t9 ?_
 refine cN ?_ ?_ <;> intro h1
 ·exact absurd (by simpa using h1) hacc
 refine t8 ?_
 (refine qe5 rfl (by ((refine qci qbs call156 (LocR_ok B0 b r _ _ n ?_ hr) ⟨qaq,⟨qaq,⟨qaq,trivial⟩⟩⟩);all_goals (omega))) ?_;intro x20 hx20)
 refine s1 ?_
 intro i7
 refine t5 ?_
 obtain ⟨hl1,hl2⟩:=hx20
 refine t2 ?_
 refine qap rfl (by ((refine qgy (by (try simp only [List.append_eq,List.nil_append,List.cons_append]);exact qgg) call157 (qe9 _ _) ⟨qaq,trivial⟩ qq2))) ?_
 refine t2 ?_
 refine cN ?_ ?_ <;> intro h4
 ·refine t8 ?_
  refine qdb (B0:=B0) (b:=b) ?_
  refine qat (Bs:=[_]) ((⟨⟨_,_,_,_,_,_,_,_,_,_,_,_⟩,_,_,_,_,_,⟨_,_,_,_,[],_,_,_,_⟩⟩:Run31),(⟨_,_⟩:Rs29)) ?_ rfl results117 eXF qab (hD0:=hX.2)
  exact by exact hl1.mono (by omega)
 refine t16 ?_
 refine cN ?_ ?_ <;> intro h19
 ·exact absurd (show s.kind=5 by simpa using h19) (by omega)
 refine t6 ?_
 refine cN ?_ ?_ <;> intro h22
 ·refine t8 ?_
  intro i8
  refine t11 ?_
  refine cN ?_ ?_ <;> intro h25
  ·refine t16 ?_
   refine qdb (B0:=B0) (b:=b) ?_
   refine qat (Bs:=[_]) ((⟨⟨_,_,_,_,_,_,_,_,_,_,_,_⟩,_,_,_,_,_,⟨_,_,_,_,[],_,_,_,_⟩⟩:Run31),(⟨_,_⟩:Rs29)) ?_ rfl results117 eXF qab (hD0:=hX.2)
   exact by exact hl1.mono (by omega)
  refine t7 ?_
  refine cN ?_ ?_ <;> intro h27
  ·refine t4 ?_
   (refine qe5 rfl (by ((refine qci qbs call158 (qsj B0 b x20.1 x20.2 (⟨_,_,_,_⟩:Rw) false (n+302) hB ?_ hl1 h4 hl2) ⟨qbc,⟨qbc,⟨qbc,⟨qbc,trivial⟩⟩⟩⟩);all_goals (omega))) ?_;intro x103 hx103)
   refine t11 ?_
   refine qdb (B0:=B0) (b:=b) ?_
   refine qat (Bs:=[_]) ((⟨⟨_,_,_,_,_,_,_,_,_,_,_,_⟩,_,_,_,_,_,⟨_,_,_,_,[],_,_,_,_⟩⟩:Run31),(⟨_,_⟩:Rs29)) ?_ rfl results117 eXF qab (hD0:=hX.2)
   exact by exact hx103.mono (by omega)
  refine t3 ?_
  (refine qe5 rfl (by ((refine qci qbs call159 (za3 B0 b x20.1 (⟨_,_,_,_⟩:Rw) (n+302) hB ?_ hl1 h4) ⟨qbc,⟨qbc,trivial⟩⟩);all_goals (omega))) ?_;intro x90 hx90)
  refine t11 ?_
  refine qdb (B0:=B0) (b:=b) ?_
  refine qat (Bs:=[_]) ((⟨⟨_,_,_,_,_,_,_,_,_,_,_,_⟩,_,_,_,_,_,⟨_,_,_,_,[],_,_,_,_⟩⟩:Run31),(⟨_,_⟩:Rs29)) ?_ rfl results117 eXF qab (hD0:=hX.2)
  exact by exact hx90.mono (by omega)
 refine t8 ?_
 refine cN ?_ ?_ <;> intro h7
 ·refine t19 ?_
  refine qdb (B0:=B0) (b:=b) ?_
  refine qat (Bs:=[_]) ((⟨⟨_,_,_,_,_,_,_,_,_,_,_,_⟩,_,_,_,_,_,⟨_,_,_,_,[],_,_,_,_⟩⟩:Run31),(⟨_,_⟩:Rs29)) ?_ rfl results117 eXF qab (hD0:=hX.2)
  exact by exact hl1.mono (by omega)
 refine t15 ?_
 refine cN ?_ ?_ <;> intro h14
 ·exact absurd (show s.kind=9 by simpa using h14) (by omega)
 refine t6 ?_
 refine cN ?_ ?_ <;> intro h17
 ·refine t6 ?_
  (refine qe5 rfl (by ((refine qci qbs call158 (qsj B0 b x20.1 x20.2 (⟨_,_,_,_⟩:Rw) true (n+302) hB ?_ hl1 h4 hl2) ⟨qbc,⟨qbc,⟨qbc,⟨qbc,trivial⟩⟩⟩⟩);all_goals (omega))) ?_;intro x71 hx71)
  refine t11 ?_
  refine qdb (B0:=B0) (b:=b) ?_
  refine qat (Bs:=[_]) ((⟨⟨_,_,_,_,_,_,_,_,_,_,_,_⟩,_,_,_,_,_,⟨_,_,_,_,[],_,_,_,_⟩⟩:Run31),(⟨_,_⟩:Rs29)) ?_ rfl results117 eXF qab (hD0:=hX.2)
  exact by exact hx71.mono (by omega)
 refine t6 ?_
 refine kXF call123 (qu3 s (⟨_,_,_,_⟩:Rw) hcol) ?_
 (refine qgm 39 rfl ?_;intro x39)
 refine t4 ?_
 intro i9
 refine t11 ?_
 refine cN ?_ ?_ <;> intro h11
 ·refine t21 ?_
  refine qdb (B0:=B0) (b:=b) ?_
  refine qat (Bs:=[_]) ((⟨⟨_,_,_,_,_,_,_,_,_,_,_,_⟩,_,_,_,_,_,⟨_,_,_,_,[],_,_,_,_⟩⟩:Run31),(⟨_,_⟩:Rs29)) ?_ rfl results117 eXF qab (hD0:=hX.2)
  exact by exact hl1.mono (by omega)
 refine t6 ?_
 (refine qe5 rfl (by ((refine qci qbs call158 (qsj B0 b x20.1 x20.2 (⟨_,_,_,_⟩:Rw) false (n+302) hB ?_ hl1 h4 hl2) ⟨qbc,⟨qbc,⟨qbc,⟨qbc,trivial⟩⟩⟩⟩);all_goals (omega))) ?_;intro x51 hx51)
 refine t11 ?_
 refine qdb (B0:=B0) (b:=b) ?_
 refine qat (Bs:=[_]) ((⟨⟨_,_,_,_,_,_,_,_,_,_,_,_⟩,_,_,_,_,_,⟨_,_,_,_,[],_,_,_,_⟩⟩:Run31),(⟨_,_⟩:Rs29)) ?_ rfl results117 eXF qab (hD0:=hX.2)
 exact by exact hx51.mono (by omega)
@[reducible] def zff (B:Nat) (q:List Pg×Int):VP:=IsAgg [Top,qbd B (IsSl tPg q.1),Is (.int .i64 q.2),Top,Top,Top,Top,Top,Top,Top,Top,Top]
theorem zfp (B0:Nat) (r:Run31) (i:Int) (hc:r.c.length≤10000) (hw:r.w.length≤10000):FnF Tryz.prog 118 [qc4 [Is (.int .i64 r.job.client),Is (.int .i64 r.job.seq),Is (.int .i64 r.job.lines),IsSl tSt29 r.job.program,IsSl tI64 r.job.access,Is (.bool r.job.snapshot),Is (.int .u64 (UV r.job.vector0)),Is (.int .u64 (UV r.job.vector1)),Is (.int .u64 (UV r.job.vector2)),Is (.int .u64 (UV r.job.vector3)),Is (.int .u64 (UV r.job.vector4)),Is (.int .u64 (UV r.job.vector5)),IsSl tPg r.known,qbd B0 (IsSl tPg r.w),IsSl tI64 r.c,IsSl tI64 r.need,Is (.int .i64 r.code),Is (.int .i64 r.out.code),Is (.int .i64 r.out.statement),Is (.int .i64 r.out.want),IsSl tRs29 r.out.results,Is (.slice none 0 0),Is (.bool r.out.hint),Is (.bool r.out.deep),Is (.bool r.out.unposted),Is (.bool r.out.dead)],Is (.int .i64 i)] (fun B=>qes (fun q:List Pg×Int=>WL 3000 q.1) (zff B)):=by
 refine FnF.enter func118 ntmps118 rfl rfl ?_
 intro c hX
 refine t3 ?_
 intro i4
 refine t9 ?_
 intro i5
 refine t33 ?_
 refine qb1 [(0,_),(4,_),(5,_)] [blk i5 _ _,blk i4 _ _] (fun yc:Bool=>True) (fun yc=>[(22,Is (.bool yc))]) (fun yc=>[]) qaj qab ?_ ?_
 rotate_left
 focus
  refine cN ?_ ?_ <;> intro h4
  ·refine s1 ?_
   exact qai _ (trivial) qaj qab
  refine t6 ?_
  refine cN ?_ ?_ <;> intro h5
  ·refine s1 ?_
   exact qai _ (trivial) qaj qab
  refine t6 ?_
  refine cN ?_ ?_ <;> intro h6
  ·refine s1 ?_
   exact qai _ (trivial) qaj qab
  refine t4 ?_
  exact qai _ (trivial) qaj qab
 rintro bb _
 refine cN ?_ ?_ <;> intro h4b
 ·refine t6 ?_
  skip
  refine t10 ?_
  refine qbr (b:=i5) (As':=tO31.cells (⟨_,_,_,_,_,_,_,_,_⟩:O31)) qae qbf ?_
  refine qav [(0,_),(4,_),(5,_)] [blk i4 _ _] (fun y:Nat×O31=>y.1≤(r.w).length∧(y.2.check.length≤r.c.length+y.1)) (fun y=>[(6,Is (.int .i64 (y.1:Nat)))]) (fun y=>[blk i5 157 (tO31.cells y.2)]) (fun y=>(r.w).length-y.1) (0,(⟨_,_,_,_,_,_,_,_,_⟩:O31)) ?_ qaj qab ?_
  ·exact ⟨by exact Nat.zero_le _,Nat.le_refl _⟩
  rintro ⟨k,o⟩ ⟨hk,hI⟩
  dsimp only at hk hI ⊢
  refine t8 ?_
  refine qi1 36 (IsSl tPg r.w) rfl SubL.fresh ?_
  refine t4 ?_
  refine cN ?_ ?_ <;> intro h10
  ·have hlt:k<(r.w).length:=by have:=of_decide_eq_true h10;omega
   clear h10
   obtain ⟨z,hz⟩:∃ q,(r.w)[k]?=some q:=⟨_,List.getElem?_eq_getElem hlt⟩
   refine t4 ?_
   refine qaz rfl (by kernel_rfl) ?_
   refine qaf 12 (by kernel_rfl) ?_
   refine t7 ?_
   refine qbh (qam (j:=k) (Ev.sub rfl SubL.fresh) (er rfl) rfl rfl rf hz) ?_
   refine t2 ?_
   refine qbh (by ((refine qad call66 (qiz _ _ ?_) ⟨qaq,⟨qaq,trivial⟩⟩);all_goals (omega))) ?_
   refine s1 ?_
   refine ⟨rfl,?_⟩
   refine qeb (by kernel_rfl) rfl (qas (er rfl) (er rfl) qag qae qbm rf rf rf) ?_
   refine qar ?_
   refine t7 ?_
   refine qao (b:=i5) (As':=tO31.cells (⟨_,_,_,_,_,_,_,_,_⟩:O31)) qae qbf ?_
   refine qaa (k+1,(⟨_,_,_,_,_,_,_,_,_⟩:O31)) ?_ ?_ qaj qab
   ·exact ⟨by omega,Nat.le_trans (qhe _ _) (by omega)⟩
   ·exact (by omega)
  have hke:k=(r.w).length:=by have:=of_decide_eq_false h10;omega
  clear h10
  subst hke
  refine t14 ?_
  exact rXF (([],_):List Pg×Int) results118 (hp:=by exact wl0) (hD0:=hX.2)
 refine t11 ?_
 exact rXF (([],_):List Pg×Int) results118 (hp:=by exact wl0) (hD0:=hX.2)
theorem JC_mine {P:Program} {c:Ctx} {N:Nat} {E:Env} {L:List Item} {Q:Exit→Go.Act→World→Prop} {x:Code} (b:Nat) {t:TypeId} {As:List VP} (hb:blk b t As∈L) (hX:c.X=[]) (h:c.w.heap.size≤b→JC P c N x E L Q):JC P c N x E L Q:=fun φ a w st =>
 h ((st.mem.mine b (mem_names.2 ⟨_,hb,rfl⟩)).resolve_right (by rw [hX];exact List.not_mem_nil)) φ a w st
theorem qmm:qjz (fun B=>qes (fun q:List Pg×Int=>WL 3000 q.1) (zff B)):=qkd fun q =>
 qke [fun _=>Top,fun B=>qbd B (IsSl tPg q.1),fun _=>Is (.int .i64 q.2),fun _=>Top,fun _=>Top,fun _=>Top,fun _=>Top,fun _=>Top,fun _=>Top,fun _=>Top,fun _=>Top,fun _=>Top] ⟨qa8 qcw,qev,qa8 qdd,qa8 qcw,qa8 qcw,qa8 qcw,qa8 qcw,qa8 qcw,qa8 qcw,qa8 qcw,qa8 qcw,qa8 qcw,trivial⟩
theorem ze4 (j:J31) (ks:List Pg) (hks:ks.length≤300) (hsn:j.snapshot=false) (hpl:j.program.length≤1) (hkind:∀ s,s∈j.program→1≤s.kind∧s.kind≤4) (hac3:∀ a,a∈j.access→a≠3):FnF Tryz.prog 75 [IsJ31 j,IsSl tPg ks] (fun B=>qes (fun q:List Pg×Int=>WL 3000 q.1) (zff B)):=by
 refine FnF.enter func75 ntmps75 rfl rfl ?_
 intro c hX
 obtain ⟨B0,hBe⟩:∃ B,c.w.heap.size=B:=⟨_,rfl⟩
 have hBw:B0≤c.w.heap.size:=by omega
 have hBw2:c.w.heap.size≤B0:=by omega
 refine t3 ?_
 intro i2
 refine s1 ?_
 intro i4
 refine t6 ?_
 refine kRF call115 (qws j) ?_
 (refine qa5 16 rfl ?_;intro x16 hx16)
 refine t3 ?_
 refine cN ?_ ?_ <;> intro h1
 ·refine t9 ?_
  exact rXF (([],_):List Pg×Int) results75 (hp:=by exact wl0) (hD0:=hX.2)
 obtain ⟨hvp,hal⟩:=hx16 (by simpa using h1)
 obtain ⟨_,hvs⟩:=za7 hvp
 refine t8 ?_
 intro i23
 refine t5 ?_
 refine qbr (b:=i23) (As':=[Is (.int .i64 _),Is (.int .i64 _),Is (.int .i64 _),IsSl tSt29 _,IsSl tI64 _,Is (.bool _),Is (.int .u64 (UV _)),Is (.int .u64 (UV _)),Is (.int .u64 (UV _)),Is (.int .u64 (UV _)),Is (.int .u64 (UV _)),Is (.int .u64 (UV _)),IsSl tPg _,qbd B0 (IsSl tPg _),IsSl tI64 _,IsSl tI64 _,Is (.int .i64 _),Is (.int .i64 _),Is (.int .i64 _),Is (.int .i64 _),IsSl tRs29 _,Is (.slice none 0 0),Is (.bool _),Is (.bool _),Is (.bool _),Is (.bool _)]) qae qbf ?_
 refine JC_mine i23 qbw hX.1 (fun hBi0=>?_)
 have hBi:B0≤i23:=by omega
 refine t5 ?_
 refine cN ?_ ?_ <;> intro h4
 ·exact absurd h4 (by rw [hsn];decide)
 refine t14 ?_
 refine qcd 212 tRs29 ?_
 refine qbr (b:=i23) (As':=[Is (.int .i64 _),Is (.int .i64 _),Is (.int .i64 _),IsSl tSt29 _,IsSl tI64 _,Is (.bool _),Is (.int .u64 (UV _)),Is (.int .u64 (UV _)),Is (.int .u64 (UV _)),Is (.int .u64 (UV _)),Is (.int .u64 (UV _)),Is (.int .u64 (UV _)),IsSl tPg _,qbd B0 (IsSl tPg _),IsSl tI64 _,IsSl tI64 _,Is (.int .i64 _),Is (.int .i64 _),Is (.int .i64 _),Is (.int .i64 _),IsSl tRs29 _,Is (.slice none 0 0),Is (.bool _),Is (.bool _),Is (.bool _),Is (.bool _)]) qae qbf ?_
 refine qav [(2,_),(4,_),(5,_)] [blk i4 _ _,blk i2 _ _] (fun y:Nat×Run31×(List Rs29)×(Option Addr×Nat)=>y.1≤(j.program).length∧(RI (1300*y.1) y.2.1∧y.2.2.1.length≤y.1)) (fun y=>[(9,Is (slV (y.2.2.1).length y.2.2.2)),(10,Is (.int .i64 (y.1:Nat)))]) (fun y=>[blk i23 209 [Is (.int .i64 y.2.1.job.client),Is (.int .i64 y.2.1.job.seq),Is (.int .i64 y.2.1.job.lines),IsSl tSt29 y.2.1.job.program,IsSl tI64 y.2.1.job.access,Is (.bool y.2.1.job.snapshot),Is (.int .u64 (UV y.2.1.job.vector0)),Is (.int .u64 (UV y.2.1.job.vector1)),Is (.int .u64 (UV y.2.1.job.vector2)),Is (.int .u64 (UV y.2.1.job.vector3)),Is (.int .u64 (UV y.2.1.job.vector4)),Is (.int .u64 (UV y.2.1.job.vector5)),IsSl tPg y.2.1.known,qbd B0 (IsSl tPg y.2.1.w),IsSl tI64 y.2.1.c,IsSl tI64 y.2.1.need,Is (.int .i64 y.2.1.code),Is (.int .i64 y.2.1.out.code),Is (.int .i64 y.2.1.out.statement),Is (.int .i64 y.2.1.out.want),IsSl tRs29 y.2.1.out.results,Is (.slice none 0 0),Is (.bool y.2.1.out.hint),Is (.bool y.2.1.out.deep),Is (.bool y.2.1.out.unposted),Is (.bool y.2.1.out.dead)],buf (slV (y.2.2.1).length y.2.2.2) 212 tRs29 (y.2.2.1)]) (fun y=>(j.program).length-y.1) (0,(⟨⟨_,_,_,_,_,_,_,_,_,_,_,_⟩,_,_,_,_,_,⟨_,_,_,_,[],_,_,_,_⟩⟩:Run31),[],(none,0)) ?_ qaj qab ?_
 ·exact ⟨by exact Nat.zero_le _,⟨⟨hsn,hks,wl0,Nat.le_refl 0⟩,Nat.le_refl 0⟩⟩
 rintro ⟨k,rq,rs,v_0⟩ ⟨hk,hI⟩
 dsimp only at hk hI ⊢
 refine t10 ?_
 refine cN ?_ ?_ <;> intro h20
 ·have hlt:k<(j.program).length:=by have:=of_decide_eq_true h20;omega
  clear h20
  obtain ⟨z,hz⟩:∃ q,(j.program)[k]?=some q:=⟨_,List.getElem?_eq_getElem hlt⟩
  obtain ⟨hI1,hIr⟩:=hI
  obtain ⟨za,hza⟩:∃ q,j.access[k]?=some q:=⟨_,List.getElem?_eq_getElem (by omega)⟩
  have hcz:=vS_col (hvs z (List.mem_of_getElem? hz))
  have hkz:=hkind z (List.mem_of_getElem? hz)
  have haz:=hac3 za (List.mem_of_getElem? hza)
  refine t5 ?_
  refine qaz rfl (by kernel_rfl) ?_
  refine qfi (its:=[]) ?_
  refine f1 0 ?_
  refine f1 1 ?_
  refine f1 2 ?_
  refine f1 3 ?_
  refine qkr 4 rfl (by kernel_rfl) (by exact qam (j:=_) (er rfl) (er rfl) rfl rfl rf hz) ?_
  refine f1 5 ?_
  refine f1 6 ?_
  refine f1 7 ?_
  refine f1 8 ?_
  refine qkr 9 rfl (by kernel_rfl) (by exact qam (j:=_) (er rfl) (er rfl) rfl rfl rf hza) ?_
  refine f1 10 ?_
  refine qne 12 rfl (by kernel_rfl) (fun _=>(qbl rfl qbm rfl)) ?_
  (refine JF_tx 11 [0,1,2,3,4,5,6,7,8,9,10,11] rfl (by kernel_rfl) (fun c'=>by ((refine qci qbs call117 (StmtR_ok B0 i23 rq z za (1300*k) hBi ?_ hI1 hkz hcz haz) ⟨qaq,⟨qaq,⟨qaq,trivial⟩⟩⟩);all_goals (omega))) ?_;intro x102 hx102)
  (refine qgr 11 12 (by kernel_rfl) rfl rfl ?_;intro i11)
  refine qe6 13 [0,1,2,3,4,5,6,7,8,9,10,11,12,13] rfl (by kernel_rfl) (fun c'=>by exact qa2 (er rfl) (er rfl) qag qae rf rf rf) ?_
  refine qd0 (by kernel_rfl) rfl ?_
  show JQ _ _ _ _ _ _
  refine t12 ?_
  refine cN ?_ ?_ <;> intro h23
  ·refine t17 ?_
   exact rXF (([],_):List Pg×Int) results75 (hp:=by exact wl0) (hD0:=hX.2)
  refine t15 ?_
  (refine qcp rfl rfl rfl (fun hg=>(by have hg0:=hg;(try simp at hg);exact zcw (Ev.sub rfl (SubL.iteT (by assumption) SubL.fresh)) rfl)) ?_)
  refine t4 ?_
  refine cN ?_ ?_ <;> intro h25
  ·refine t17 ?_
   refine cN ?_ ?_ <;> intro h27
   ·refine t4 ?_
    refine qap rfl (by ((refine qdj (by (try simp only [List.append_eq,List.nil_append,List.cons_append]);exact qgg) call118 (zfp B0 (⟨⟨_,_,_,_,_,_,_,_,_,_,_,_⟩,_,_,_,_,_,⟨_,_,_,_,[],_,_,_,_⟩⟩:Run31) _ ?_ ?_) ⟨qbc,⟨qbc,trivial⟩⟩ (qmm));all_goals (first|exact Nat.le_trans hx102.2.2.2 (by omega)|exact Nat.le_trans hx102.2.2.1.1 (by omega)))) ?_
    (refine qa5 137 rfl ?_;intro x137 hx137)
    refine t10 ?_
    exact rXF ((_,_):List Pg×Int) results75 (hp:=by exact hx137) (hD0:=hX.2)
   refine t5 ?_
   refine qap rfl (OpP.to (qac (size:=2) (qs:=[(0,_)]) rfl rfl rfl ⟨⟨rfl,_,(er rfl),qag⟩,trivial⟩ rf rf) (SubL.row1 (T:=tRs29) (x:=(⟨_,_⟩:Rs29)) rf rf rf qak)) ?_
   (refine qew rfl (qb6 (er rfl) (fun _=>qae) (by exact er rfl) (by exact qej rfl rfl rfl) qb8) ?_;intro i141)
   refine t9 ?_
   refine qdb (B0:=B0) (b:=i23) ?_
   refine qaa (k+1,(⟨⟨_,_,_,_,_,_,_,_,_,_,_,_⟩,_,_,_,_,_,⟨_,_,_,_,[],_,_,_,_⟩⟩:Run31),_,_) ?_ ?_ qaj qab
   ·exact ⟨by omega,⟨by exact hx102.mono (by omega),by simp;omega⟩⟩
   ·exact (by omega)
  refine t12 ?_
  refine cN ?_ ?_ <;> intro h27
  ·refine t4 ?_
   refine qap rfl (by ((refine qdj (by (try simp only [List.append_eq,List.nil_append,List.cons_append]);exact qgg) call118 (zfp B0 (⟨⟨_,_,_,_,_,_,_,_,_,_,_,_⟩,_,_,_,_,_,⟨_,_,_,_,[],_,_,_,_⟩⟩:Run31) _ ?_ ?_) ⟨qbc,⟨qbc,trivial⟩⟩ (qmm));all_goals (first|exact Nat.le_trans hx102.2.2.2 (by omega)|exact Nat.le_trans hx102.2.2.1.1 (by omega)))) ?_
   (refine qa5 137 rfl ?_;intro x137 hx137)
   refine t10 ?_
   exact rXF ((_,_):List Pg×Int) results75 (hp:=by exact hx137) (hD0:=hX.2)
  refine t5 ?_
  refine qap rfl (OpP.to (qac (size:=2) (qs:=[(0,_)]) rfl rfl rfl ⟨⟨rfl,_,(er rfl),qag⟩,trivial⟩ rf rf) (SubL.row1 (T:=tRs29) (x:=(⟨_,_⟩:Rs29)) rf rf rf qak)) ?_
  (refine qew rfl (qb6 (er rfl) (fun _=>qae) (by exact er rfl) (by exact qej rfl rfl rfl) qb8) ?_;intro i141)
  refine t9 ?_
  refine qdb (B0:=B0) (b:=i23) ?_
  refine qaa (k+1,(⟨⟨_,_,_,_,_,_,_,_,_,_,_,_⟩,_,_,_,_,_,⟨_,_,_,_,[],_,_,_,_⟩⟩:Run31),_,_) ?_ ?_ qaj qab
  ·exact ⟨by omega,⟨by exact hx102.mono (by omega),by simp;omega⟩⟩
  ·exact (by omega)
 have hke:k=(j.program).length:=by have:=of_decide_eq_false h20;omega
 clear h20
 subst hke
 have hIq:=hI.1
 have hqc:rq.c.length≤1300:=Nat.le_trans hI.1.2.2.2 (by omega)
 have hqw:rq.w.length≤1300:=Nat.le_trans hI.1.2.2.1.1 (by omega)
 refine qa7 hX (v:=slV rs.length v_0) qae ?_
 refine qb0 9 (IsSl tRs29 rs) rfl qgw ?_
 refine t22 ?_
 refine qcd 3 tI64 ?_
 refine qav [(4,_),(5,_)] [blk i4 _ _] (fun ya:Nat×(List Int)×(Option Addr×Nat)=>ya.1≤(rq.c).length∧(ya.2.1.length≤ya.1)) (fun ya=>[(12,Is (.int .i64 (ya.1:Nat)))]) (fun ya=>[blk i23 209 [Is (.int .i64 rq.job.client),Is (.int .i64 rq.job.seq),Is (.int .i64 rq.job.lines),IsSl tSt29 rq.job.program,IsSl tI64 rq.job.access,Is (.bool rq.job.snapshot),Is (.int .u64 (UV rq.job.vector0)),Is (.int .u64 (UV rq.job.vector1)),Is (.int .u64 (UV rq.job.vector2)),Is (.int .u64 (UV rq.job.vector3)),Is (.int .u64 (UV rq.job.vector4)),Is (.int .u64 (UV rq.job.vector5)),IsSl tPg rq.known,qbd B0 (IsSl tPg rq.w),IsSl tI64 rq.c,IsSl tI64 rq.need,Is (.int .i64 rq.code),Is (.int .i64 rq.out.code),Is (.int .i64 rq.out.statement),Is (.int .i64 rq.out.want),IsSl tRs29 rs,Is (slV (ya.2.1).length ya.2.2),Is (.bool rq.out.hint),Is (.bool rq.out.deep),Is (.bool rq.out.unposted),Is (.bool rq.out.dead)],buf (slV (ya.2.1).length ya.2.2) 3 tI64 (ya.2.1)]) (fun ya=>(rq.c).length-ya.1) (0,[],(none,0)) ?_ qaj qab ?_
 ·exact ⟨by exact Nat.zero_le _,Nat.le_refl 0⟩
 rintro ⟨ka,ck,va_0⟩ ⟨hka,hIa⟩
 dsimp only at hka hIa ⊢
 refine t12 ?_
 refine cN ?_ ?_ <;> intro h32
 ·have hlta:ka<(rq.c).length:=by have:=of_decide_eq_true h32;omega
  clear h32
  obtain ⟨za,hza⟩:∃ q,(rq.c)[ka]?=some q:=⟨_,List.getElem?_eq_getElem hlta⟩
  have hI8:=hIa
  refine t16 ?_
  refine qav [(4,_),(5,_),(12,_),(147,_),(148,_),(149,_),(150,_),(151,_),(152,_)] [blk i4 _ _,blk i23 _ _,buf _ _ _ _] (fun yb:Nat×Bool=>yb.1≤(rq.w).length) (fun yb=>[(13,Is (.bool yb.2)),(14,Is (.int .i64 (yb.1:Nat)))]) (fun yb=>[]) (fun yb=>(rq.w).length-yb.1) (0,false) (Nat.zero_le _) qaj qab ?_
  rintro ⟨kb,wr⟩ hkb
  dsimp only at hkb ⊢
  refine t8 ?_
  refine qi1 160 (IsSl tPg rq.w) rfl SubL.fresh ?_
  refine t4 ?_
  refine cN ?_ ?_ <;> intro h36
  ·have hltb:kb<(rq.w).length:=by have:=of_decide_eq_true h36;omega
   clear h36
   obtain ⟨zb,hzb⟩:∃ q,(rq.w)[kb]?=some q:=⟨_,List.getElem?_eq_getElem hltb⟩
   refine t4 ?_
   refine qaz rfl (by kernel_rfl) ?_
   refine qaf 20 (by kernel_rfl) ?_
   refine t7 ?_
   (refine qd2 rfl rfl (fun hg=>(by have hg0:=hg;(try simp at hg);exact qam (j:=kb) (Ev.sub rfl (SubL.iteT (by assumption) SubL.fresh)) evG rfl rfl rf hzb)) ?_)
   refine t7 ?_
   (refine qd2 rfl rfl (fun hg=>(by have hg0:=hg;(try simp at hg);exact qam (j:=_) evG evG rfl rfl rf hza)) ?_)
   refine t4 ?_
   refine ⟨rfl,?_⟩
   refine qar ?_
   refine t7 ?_
   refine qaa (kb+1,_) ?_ ?_ qaj qab
   ·exact (by omega)
   ·exact (by omega)
  have hkeb:kb=(rq.w).length:=by have:=of_decide_eq_false h36;omega
  clear h36
  subst hkeb
  refine t11 ?_
  refine cN ?_ ?_ <;> intro h39
  ·refine qaz rfl (by kernel_rfl) ?_
   refine qfi (its:=[]) ?_
   refine qfz 0 rfl (by kernel_rfl) (fun _=>(qbb rfl)) ?_
   refine f1 1 ?_
   refine f1 2 ?_
   refine f1 3 ?_
   refine f1 4 ?_
   refine f1 5 ?_
   refine f1 6 ?_
   refine f1 7 ?_
   refine f1 8 ?_
   refine f1 9 ?_
   refine f1 10 ?_
   refine qkr 11 rfl (by kernel_rfl) (by exact qam (j:=_) (er rfl) (er rfl) rfl rfl rf hza) ?_
   refine f1 12 ?_
   refine qkr 13 rfl (by kernel_rfl) (OpP.to (qac (size:=1) (qs:=[(0,_)]) rfl rfl rfl ⟨⟨rfl,_,(er rfl),qag⟩,trivial⟩ rf rf) (SubL.row1 (T:=tI64) (x:=_) rf rf rf qak)) ?_
   (refine JF_b 14 [1,2,3,4,5,6,7,8,9,10,11,12,13,14] rfl (by kernel_rfl) (fun c'=>by exact qb6 (er rfl) (fun _=>qae) (by exact er rfl) (by exact qej rfl rfl rfl) qb8) ?_;intro i200)
   refine f1 15 ?_
   refine f1 16 ?_
   refine f1 17 ?_
   refine qe6 18 [0,1,2,3,4,5,6,7,8,9,10,11,12,13,14,15,16,17,18] rfl (by kernel_rfl) (fun c'=>by exact qa2 (er rfl) (er rfl) qag qae rf rf rf) ?_
   refine qd0 (by kernel_rfl) rfl ?_
   show JQ _ _ _ _ _ _
   refine t7 ?_
   refine qaa (ka+1,_,_) ?_ ?_ qaj qab
   ·exact ⟨by omega,by (simp;exact hI8)⟩
   ·exact (by omega)
  refine t8 ?_
  refine qaa (ka+1,_,_) ?_ ?_ qaj qab
  ·exact ⟨by omega,by exact Nat.le_succ_of_le hI8⟩
  ·exact (by omega)
 have hkea:ka=(rq.c).length:=by have:=of_decide_eq_false h32;omega
 clear h32
 subst hkea
 refine t6 ?_
 refine qaz rfl (by kernel_rfl) ?_
 refine qaf 9 (by kernel_rfl) ?_
 refine t9 ?_
 refine ⟨rfl,?_⟩
 refine qeb (by kernel_rfl) rfl (qas (er rfl) (er rfl) qag qae qbm rf rf rf) ?_
 refine qar ?_
 refine t2 ?_
 exact rXF ((_,_):List Pg×Int) results75 (hp:=by exact hIq.2.2.1.mono (by omega)) (hD0:=hX.2)
theorem acc_ne {q:Int} (h:0≤q):0≤q.tmod 2∧q.tmod 2≤1:=by
 rw [Int.tmod_eq_emod_of_nonneg h];omega
theorem ze3 (b n:Nat) (s:Option Addr×Nat) (lines:Int) (x:Hs) (cl:Int) (pr:List St29) (hn:8≤n∧n≤200) (hH:x.pages.length=n) (hln:LnI x.pages) (hsq:0≤x.seq∧x.seq≤100000) (htb:x.table.length≤8000) (hpl:pr.length≤1) (hkd:∀ s,s∈pr→1≤s.kind∧s.kind≤4) :
  FnX Tryz.prog 42 [Is (.pointer (some ⟨b,0,none⟩)),Is (.int .i64 cl),IsSl tSt29 pr] [blk b 42 [Is (slV n s),Is (.int .i64 lines),Is (.int .i64 x.seq),IsSl tRw x.table,Is (.int .i64 x.cur.phase),Is (.int .i64 x.cur.level),Is (.int .u32 (UV x.cur.key))],buf (slV n s) 48 tPg x.pages]
  (fun i:List Pg×Int×List Rw×Int=>(i.1.length=n∧LnI i.1)∧(0≤i.2.1∧i.2.1≤x.seq+1)∧i.2.2.1.length≤x.table.length+1) (fun i=>Is (.int .i64 i.2.2.2)) (fun i=>[blk b 42 [Is (slV n s),Is (.int .i64 lines),Is (.int .i64 (i.2.1)),IsSl tRw (i.2.2.1),Is (.int .i64 x.cur.phase),Is (.int .i64 x.cur.level),Is (.int .u32 (UV x.cur.key))],buf (slV n s) 48 tPg (i.1)]):=by
 refine Fn.enterB func42 ntmps42 rfl rfl ?_
 intro c hX hbelow
 refine t6 ?_
 refine qaz rfl (by kernel_rfl) ?_
 refine qaf 14 (by kernel_rfl) ?_
 refine t12 ?_
 refine qkq (qbl rfl qbm rfl) ?_
 refine qcy rfl rfl rfl (by kernel_rfl) (qca qaq qag rfl rfl rfl qbm) ?_
 refine ⟨rfl,?_⟩
 intro i7
 refine qar ?_
 refine t8 ?_
 refine qcd 3 tI64 ?_
 refine qav [(0,_),(2,_),(6,_),(7,_)] [blk b _ _,buf (slV n s) _ _ _] (fun y:Nat×(List Int)×Int×Int×Int×(Option Addr×Nat)=>y.1≤(pr).length∧((∀ a,a∈y.2.1→a≠3)∧y.2.1.length≤y.1)) (fun y=>[(8,Is (.int .i64 (y.1:Nat)))]) (fun y=>[blk i7 154 [Is (.int .i64 y.2.2.1),Is (.int .i64 y.2.2.2.1),Is (.int .i64 y.2.2.2.2.1),IsSl tSt29 pr,Is (slV (y.2.1).length y.2.2.2.2.2),Is (.bool false),Is (.int .u64 0),Is (.int .u64 0),Is (.int .u64 0),Is (.int .u64 0),Is (.int .u64 0),Is (.int .u64 0)],buf (slV (y.2.1).length y.2.2.2.2.2) 3 tI64 (y.2.1)]) (fun y=>(pr).length-y.1) (0,[],_,_,_,(none,0)) ?_ qaj qab ?_
 ·exact ⟨by exact Nat.zero_le _,⟨fun a h=>absurd h List.not_mem_nil,Nat.le_refl 0⟩⟩
 rintro ⟨k,ac,j1,j2,j3,v_0⟩ ⟨hk,hI⟩
 dsimp only at hk hI ⊢
 refine t9 ?_
 refine cN ?_ ?_ <;> intro h3
 ·have hlt:k<(pr).length:=by have:=of_decide_eq_true h3;omega
  clear h3
  obtain ⟨z,hz⟩:∃ q,(pr)[k]?=some q:=⟨_,List.getElem?_eq_getElem hlt⟩
  obtain ⟨hI1,hIl⟩:=hI
  have hkz:=hkd z (List.mem_of_getElem? hz)
  refine t5 ?_
  obtain ⟨av,hav⟩:∃ a:Int,1+x.seq.tmod 2=a:=⟨_,rfl⟩
  have hq2:=acc_ne hsq.1
  have hav3:av≠3:=by omega
  have hrr:∀ a,a∈ac++[av]→a≠3:=fun a ha=>by
   rcases List.mem_append.1 ha with ha|ha
   ·exact hI1 a ha
   ·rw [List.mem_singleton] at ha;subst ha;exact hav3
  refine t6 ?_
  refine qap rfl (qjd (er rfl) (er rfl) (r:=av) (by have hq2:=acc_ne hsq.1;rw [qpi (by omega)];exact hav)) ?_
  refine t22 ?_
  refine cN ?_ ?_ <;> intro h6
  ·exact absurd h6 (by simp;omega)
  refine t6 ?_
  refine qap rfl (OpP.to (qac (size:=1) (qs:=[(0,_)]) rfl rfl rfl ⟨⟨rfl,_,(er rfl),qag⟩,trivial⟩ rf rf) (SubL.row1 (T:=tI64) (x:=_) rf rf rf qak)) ?_
  (refine qew rfl (qb6 (er rfl) (fun _=>qae) (by exact er rfl) (by exact qej rfl rfl rfl) qb8) ?_;intro i53)
  refine t10 ?_
  refine qaa (k+1,_,_,_,_,_) ?_ ?_ qaj qab
  ·exact ⟨by omega,⟨hrr,by simp;omega⟩⟩
  ·exact (by omega)
 have hke:k=(pr).length:=by have:=of_decide_eq_false h3;omega
 clear h3
 subst hke
 refine t6 ?_
 refine qaz rfl (by kernel_rfl) ?_
 refine qfi (its:=[]) ?_
 refine f1 0 ?_
 refine f1 1 ?_
 refine f1 2 ?_
 refine f1 3 ?_
 refine f1 4 ?_
 refine qne 6 rfl (by kernel_rfl) (fun _=>(qbl rfl qbm rfl)) ?_
 (refine zay 5 [0,1,2,3,4,5] rfl (by kernel_rfl) (by ((refine qdj (by (try simp only [List.append_eq,List.nil_append,List.cons_append]);exact qgg) call75 (ze4 (⟨j1,j2,j3,pr,ac,false,0#64,0#64,0#64,0#64,0#64,0#64⟩:J31) x.pages ?_ rfl ?_ ?_ ?_) ⟨qaq,⟨qaq,trivial⟩⟩ (qmm));all_goals (first|omega|exact hI.1))) ?_;intro x60 hx60)
 (refine qgr 10 6 (by kernel_rfl) rfl rfl ?_;intro i10)
 refine qe6 7 [0,1,2,3,4,5,6,7] rfl (by kernel_rfl) (fun c'=>by exact qa2 (er rfl) (er rfl) qag qae rf rf rf) ?_
 refine qd0 (by kernel_rfl) rfl ?_
 show JQ _ _ _ _ _ _
 refine t10 ?_
 refine cN ?_ ?_ <;> intro h10
 ·refine t10 ?_
  refine qat (Bs:=[_]) (_,_,_,_) ?_ rfl results42 eXF qab (hD0:=hX.2)
  exact ⟨⟨hH,hln⟩,⟨hsq.1,(show x.seq≤x.seq+1 by omega)⟩,Nat.le_succ _⟩
 refine t19 ?_
 (refine qew rfl (qia qbs qbs call48 (qij b n s _ _ _ _ _ _ x.pages x60.1 hH hn.2 hx60.2) ⟨qaq,⟨qaq,trivial⟩⟩) ?_;intro i78)
 refine t10 ?_
 refine qap rfl (by ((refine qad call76 (Apply_ok x.table pr ?_ ?_) ⟨qaq,⟨qaq,trivial⟩⟩);all_goals (first|omega|(simp;done)|(simp;omega)|(refine Nat.le_trans (qah _ _) ?_;omega)|(refine Nat.le_trans (qah _ _) (Nat.le_trans (Nat.add_le_add_right (qah _ _) _) ?_);omega)))) ?_
 (refine qa5 86 rfl ?_;intro x86 hx86)
 refine t16 ?_
 refine qat (Bs:=[_]) (_,_,_,_) ?_ rfl results42 eXF qab (hD0:=hX.2)
 exact ⟨⟨by rw [qk3];exact hH,qok _ hln⟩,⟨(show 0≤x.seq+1 by have:=hsq.1;omega),Int.le_refl _⟩,Nat.le_trans hx86 (show x.table.length+pr.length≤x.table.length+1 by omega)⟩
theorem KeyH_ok (k:Int):FnP Tryz.prog 74 [Is (.int .i64 k)] (VEx fun r:BitVec 32=>Is (.int .u32 (UV r))):=by
 refine FnP.enter func74 ntmps74 rfl rfl ?_
 intro c hX
 refine t9 ?_
 refine qap rfl (by ((refine qad call7 (qc9 _ _ ?_ ?_) ⟨qaq,⟨qaq,trivial⟩⟩);all_goals (first|omega|(simp;done)|(simp;omega)|(refine Nat.le_trans (qah _ _) ?_;omega)|(refine Nat.le_trans (qah _ _) (Nat.le_trans (Nat.add_le_add_right (qah _ _) _) ?_);omega)))) ?_
 refine t3 ?_
 refine cN ?_ ?_ <;> intro h1
 ·refine t3 ?_
  refine qap rfl (by ((refine qad call7 (qc9 _ _ ?_ ?_) ⟨qaq,⟨qaq,trivial⟩⟩);all_goals (first|omega|(simp;done)|(simp;omega)|(refine Nat.le_trans (qah _ _) ?_;omega)|(refine Nat.le_trans (qah _ _) (Nat.le_trans (Nat.add_le_add_right (qah _ _) _) ?_);omega)))) ?_
  refine t7 ?_
  exact qcj (Bs:=[_]) _ rfl results74 eXF (List.nil_sublist _) (hD0:=hX.2)
 refine t5 ?_
 refine qap rfl (by ((refine qad call7 (qc9 _ _ ?_ ?_) ⟨qaq,⟨qaq,trivial⟩⟩);all_goals (first|omega|(simp;done)|(simp;omega)|(refine Nat.le_trans (qah _ _) ?_;omega)|(refine Nat.le_trans (qah _ _) (Nat.le_trans (Nat.add_le_add_right (qah _ _) _) ?_);omega)))) ?_
 refine t6 ?_
 exact qcj (Bs:=[_]) _ rfl results74 eXF (List.nil_sublist _) (hD0:=hX.2)
theorem qsg (a:Acn):FnP Tryz.prog 41 [IsAct a] (qes (fun r:St29=>1≤r.kind∧r.kind≤4) fun r=>qo2 r):=by
 refine FnP.enter func41 ntmps41 rfl rfl ?_
 intro c hX
 refine t3 ?_
 intro i1
 refine s1 ?_
 intro i2
 refine t6 ?_
 refine kRF call74 (KeyH_ok _) ?_
 (refine qgm 6 rfl ?_;intro x6)
 refine t2 ?_
 intro i3
 refine t8 ?_
 refine qap rfl (by ((refine qad call7 (qc9 _ _ ?_ ?_) ⟨qaq,⟨qaq,trivial⟩⟩);all_goals (first|omega|(simp;done)|(simp;omega)|(refine Nat.le_trans (qah _ _) ?_;omega)|(refine Nat.le_trans (qah _ _) (Nat.le_trans (Nat.add_le_add_right (qah _ _) _) ?_);omega)))) ?_
 refine t10 ?_
 refine qb1 [(1,_),(2,_),(3,_),(10,_)] [blk i3 _ _,blk i2 _ _,blk i1 _ _] (fun yc:Bool=>True) (fun yc=>[(12,Is (.bool yc))]) (fun yc=>[]) qaj qab ?_ ?_
 rotate_left
 focus
  refine cN ?_ ?_ <;> intro h4
  ·refine s1 ?_
   exact qai _ (trivial) qaj qab
  refine t6 ?_
  refine cN ?_ ?_ <;> intro h5
  ·refine s1 ?_
   exact qai _ (trivial) qaj qab
  refine t6 ?_
  refine cN ?_ ?_ <;> intro h6
  ·refine s1 ?_
   exact qai _ (trivial) qaj qab
  refine t6 ?_
  refine cN ?_ ?_ <;> intro h7
  ·refine s1 ?_
   exact qai _ (trivial) qaj qab
  refine t6 ?_
  refine cN ?_ ?_ <;> intro h8
  ·refine s1 ?_
   exact qai _ (trivial) qaj qab
  refine t6 ?_
  refine cN ?_ ?_ <;> intro h9
  ·refine s1 ?_
   exact qai _ (trivial) qaj qab
  refine t4 ?_
  exact qai _ (trivial) qaj qab
 rintro bb _
 refine cN ?_ ?_ <;> intro h4b
 ·refine t13 ?_
  refine qap rfl (qdo (size:=1) (qs:=[(0,_),(1,_),(2,_)]) rfl rfl rfl rfl ⟨⟨rfl,_,(er rfl),qag⟩,⟨⟨rfl,_,(er rfl),qag⟩,⟨⟨rfl,_,(er rfl),qag⟩,trivial⟩⟩⟩ rf qbm) ?_
  refine t12 ?_
  exact rXF (⟨_,_,_,_,_,_,_,_,(⟨_,_,_⟩:Co),_⟩:St29) results41 (hp:=by exact ⟨Int.le_refl 1,(by decide:(1:Int)≤4)⟩) (hD0:=hX.2)
 refine t6 ?_
 refine cN ?_ ?_ <;> intro h13
 ·refine qd8 (b:=i1) hX qae ?_
  refine qb0 1 (qc4 (tAct.cells a)) rfl (SubL.fact qbw) ?_
  refine qaz rfl (by kernel_rfl) ?_
  refine qfi (its:=[]) ?_
  refine f1 0 ?_
  refine f1 1 ?_
  refine qkr 2 rfl (by kernel_rfl) (by ((refine qad call7 (qc9 _ _ ?_ ?_) ⟨qaq,⟨qaq,trivial⟩⟩);all_goals (first|omega|(simp;done)|(simp;omega)|(refine Nat.le_trans (qah _ _) ?_;omega)|(refine Nat.le_trans (qah _ _) (Nat.le_trans (Nat.add_le_add_right (qah _ _) _) ?_);omega)))) ?_
  refine qfz 3 rfl (by kernel_rfl) (fun _=>(by exact qa0 (k:=3) (er rfl) rfl rfl rfl rfl qbm)) ?_
  refine qfz 4 rfl (by kernel_rfl) (fun _=>(by exact qbx (er rfl) rfl rfl rfl)) ?_
  refine f1 5 ?_
  refine qe6 6 [0,1,2,5,6] rfl (by kernel_rfl) (fun c'=>by exact qa2 (er rfl) (er rfl) qag qae rf rf rf) ?_
  refine f1 7 ?_
  refine qe6 8 [0,1,2,5,6,7,8] rfl (by kernel_rfl) (fun c'=>by exact qa2 (er rfl) (er rfl) qag qae rf rf rf) ?_
  refine f1 9 ?_
  refine qe6 10 [0,1,2,3,4,5,6,7,8,9,10] rfl (by kernel_rfl) (fun c'=>by exact qa2 (er rfl) (er rfl) qag qae rf rf rf) ?_
  refine qd0 (by kernel_rfl) rfl ?_
  show JQ _ _ _ _ _ _
  refine t9 ?_
  exact rXF (⟨_,_,_,_,_,_,_,_,(⟨_,_,_⟩:Co),_⟩:St29) results41 (hp:=by exact ⟨(by decide:(1:Int)≤2),(by decide:(2:Int)≤4)⟩) (hD0:=hX.2)
 refine t6 ?_
 refine cN ?_ ?_ <;> intro h15
 ·refine qd8 (b:=i1) hX qae ?_
  refine qb0 1 (qc4 (tAct.cells a)) rfl (SubL.fact qbw) ?_
  refine qaz rfl (by kernel_rfl) ?_
  refine qfi (its:=[]) ?_
  refine f1 0 ?_
  refine f1 1 ?_
  refine qkr 2 rfl (by kernel_rfl) (by ((refine qad call7 (qc9 _ _ ?_ ?_) ⟨qaq,⟨qaq,trivial⟩⟩);all_goals (first|omega|(simp;done)|(simp;omega)|(refine Nat.le_trans (qah _ _) ?_;omega)|(refine Nat.le_trans (qah _ _) (Nat.le_trans (Nat.add_le_add_right (qah _ _) _) ?_);omega)))) ?_
  refine f1 3 ?_
  refine f1 4 ?_
  refine qkr 5 rfl (by kernel_rfl) (by ((refine qad call7 (qc9 _ _ ?_ ?_) ⟨qaq,⟨qaq,trivial⟩⟩);all_goals (first|omega|(simp;done)|(simp;omega)|(refine Nat.le_trans (qah _ _) ?_;omega)|(refine Nat.le_trans (qah _ _) (Nat.le_trans (Nat.add_le_add_right (qah _ _) _) ?_);omega)))) ?_
  refine f1 6 ?_
  refine qe6 7 [0,1,2,3,4,5,6,7] rfl (by kernel_rfl) (fun c'=>by exact qa2 (er rfl) (er rfl) qag qae rf rf rf) ?_
  refine f1 8 ?_
  refine qe6 9 [0,1,2,3,4,5,6,7,8,9] rfl (by kernel_rfl) (fun c'=>by exact qa2 (er rfl) (er rfl) qag qae rf rf rf) ?_
  refine f1 10 ?_
  refine qe6 11 [0,1,2,3,4,5,6,7,8,9,10,11] rfl (by kernel_rfl) (fun c'=>by exact qa2 (er rfl) (er rfl) qag qae rf rf rf) ?_
  refine qd0 (by kernel_rfl) rfl ?_
  show JQ _ _ _ _ _ _
  refine t9 ?_
  exact rXF (⟨_,_,_,_,_,_,_,_,(⟨_,_,_⟩:Co),_⟩:St29) results41 (hp:=by exact ⟨(by decide:(1:Int)≤3),(by decide:(3:Int)≤4)⟩) (hD0:=hX.2)
 refine t13 ?_
 exact rXF (⟨_,_,_,_,_,_,_,_,(⟨_,_,_⟩:Co),_⟩:St29) results41 (hp:=by exact ⟨(by decide:(1:Int)≤4),Int.le_refl 4⟩) (hD0:=hX.2)
theorem DoH_ok (b n:Nat) (s:Option Addr×Nat) (lines:Int) (x:Hs) (a:Acn) (hn:8≤n∧n≤200) (hH:x.pages.length=n) (hln:LnI x.pages) (hsq:0≤x.seq∧x.seq≤90000) (htb:x.table.length≤7000) :
  FnX Tryz.prog 18 [Is (.pointer (some ⟨b,0,none⟩)),IsAct a] [blk b 42 [Is (slV n s),Is (.int .i64 lines),Is (.int .i64 x.seq),IsSl tRw x.table,Is (.int .i64 x.cur.phase),Is (.int .i64 x.cur.level),Is (.int .u32 (UV x.cur.key))],buf (slV n s) 48 tPg x.pages]
  (fun i:Hs=>(i.pages.length=n∧LnI i.pages)∧(0≤i.seq∧i.seq≤x.seq+2)∧i.table.length≤x.table.length+2) (fun i=>qbu []) (fun i=>[blk b 42 [Is (slV n s),Is (.int .i64 lines),Is (.int .i64 i.seq),IsSl tRw i.table,Is (.int .i64 i.cur.phase),Is (.int .i64 i.cur.level),Is (.int .u32 (UV i.cur.key))],buf (slV n s) 48 tPg i.pages]):=by
 refine Fn.enterB func18 ntmps18 rfl rfl ?_
 intro c hX hbelow
 refine t3 ?_
 intro i3
 refine t6 ?_
 refine qap rfl (by ((refine qad call7 (qc9 _ _ ?_ ?_) ⟨qaq,⟨qaq,trivial⟩⟩);all_goals (first|omega|(simp;done)|(simp;omega)|(refine Nat.le_trans (qah _ _) ?_;omega)|(refine Nat.le_trans (qah _ _) (Nat.le_trans (Nat.add_le_add_right (qah _ _) _) ?_);omega)))) ?_
 refine t7 ?_
 refine qap rfl (by ((refine qad call7 (qc9 _ _ ?_ ?_) ⟨qaq,⟨qaq,trivial⟩⟩);all_goals (first|omega|(simp;done)|(simp;omega)|(refine Nat.le_trans (qah _ _) ?_;omega)|(refine Nat.le_trans (qah _ _) (Nat.le_trans (Nat.add_le_add_right (qah _ _) _) ?_);omega)))) ?_
 refine t4 ?_
 obtain ⟨cl,hcl⟩:∃ q,a.client % 3=q:=⟨_,rfl⟩
 have hcl6:0≤cl∧cl<6:=by omega
 refine qb0 4 (Is (.int .i64 cl)) rfl (SubL.eq (by rw [hcl])) ?_
 refine t12 ?_
 refine qb1 [(0,_),(3,_),(4,_),(15,_)] [blk i3 _ _,blk b _ _,buf (slV n s) _ _ _] (fun yc:Bool=>True) (fun yc=>[(16,Is (.bool yc))]) (fun yc=>[]) qaj qab ?_ ?_
 rotate_left
 focus
  refine cN ?_ ?_ <;> intro h4
  ·refine s1 ?_
   exact qai _ (trivial) qaj qab
  refine t6 ?_
  refine cN ?_ ?_ <;> intro h5
  ·refine s1 ?_
   exact qai _ (trivial) qaj qab
  refine t6 ?_
  refine cN ?_ ?_ <;> intro h6
  ·refine s1 ?_
   exact qai _ (trivial) qaj qab
  refine t6 ?_
  refine cN ?_ ?_ <;> intro h7
  ·refine s1 ?_
   exact qai _ (trivial) qaj qab
  refine t6 ?_
  refine cN ?_ ?_ <;> intro h8
  ·refine s1 ?_
   exact qai _ (trivial) qaj qab
  refine t6 ?_
  refine cN ?_ ?_ <;> intro h9
  ·refine s1 ?_
   exact qai _ (trivial) qaj qab
  refine t6 ?_
  refine cN ?_ ?_ <;> intro h10
  ·refine s1 ?_
   exact qai _ (trivial) qaj qab
  refine t6 ?_
  refine cN ?_ ?_ <;> intro h11
  ·refine s1 ?_
   exact qai _ (trivial) qaj qab
  refine t6 ?_
  refine cN ?_ ?_ <;> intro h12
  ·refine s1 ?_
   exact qai _ (trivial) qaj qab
  refine t6 ?_
  refine cN ?_ ?_ <;> intro h13
  ·refine s1 ?_
   exact qai _ (trivial) qaj qab
  refine t4 ?_
  exact qai _ (trivial) qaj qab
 rintro bb _
 refine cN ?_ ?_ <;> intro h4b
 ·refine t3 ?_
  refine kRF call41 (qsg a) ?_
  (refine qa5 29 rfl ?_;intro x29 hx29)
  refine qap rfl (OpP.to (qac (size:=12) (qs:=[(0,_)]) rfl rfl rfl ⟨⟨rfl,_,(er rfl),qag⟩,trivial⟩ rf rf) (SubL.row1 (T:=tSt29) (x:=(⟨_,_,_,_,_,_,_,_,(⟨_,_,_⟩:Co),_⟩:St29)) rf rf rf qak)) ?_
  refine t4 ?_
  have hst:∀ s,s∈[x29]→1≤s.kind∧s.kind≤4:=fun s hs=>by
   rw [List.mem_singleton] at hs
   subst hs
   exact hx29
  refine t4 ?_
  (refine qe5 rfl (by ((refine qdw qbs qbs call42 (ze3 b n s lines x _ _ hn hH hln ⟨hsq.1,by omega⟩ ?_ ?_ ?_) ⟨qaq,⟨qaq,⟨qaq,trivial⟩⟩⟩);all_goals (first|omega|exact Nat.le_refl 1))) ?_;intro x34 hx34)
  refine t3 ?_
  obtain ⟨⟨hr1,hr2⟩,⟨hr3,hr4⟩,hr5⟩:=hx34
  refine cN ?_ ?_ <;> intro h16
  ·refine t4 ?_
   (refine qe5 rfl (qdw qbs qbs call43 (qzi b n s lines ⟨x34.1,x34.2.1,x34.2.2.1,x.cur⟩ cl hcl6 hn hr1 hr2) ⟨qaq,⟨qaq,trivial⟩⟩) ?_;intro x38 hx38)
   refine t6 ?_
   (refine qe5 rfl (by ((refine qdw qbs qbs call42 (ze3 b n s lines ⟨x38,x34.2.1,x34.2.2.1,x.cur⟩ _ _ hn hx38.1 hx38.2 ⟨hr3,Int.le_trans hr4 ?_⟩ ?_ ?_ ?_) ⟨qaq,⟨qaq,⟨qaq,trivial⟩⟩⟩);all_goals (first|omega|exact Nat.le_trans hr5 (by omega)|exact Nat.le_refl 1))) ?_;intro x42 hx42)
   refine t3 ?_
   obtain ⟨⟨hw1,hw2⟩,⟨hw3,hw4⟩,hw5⟩:=hx42
   refine qat (Bs:=[]) (⟨_,_,_,(⟨_,_,_⟩:Cu)⟩:Hs) ?_ rfl results18 trivial qab (hD0:=hX.2)
   exact by exact ⟨⟨hw1,hw2⟩,⟨hw3,Int.le_trans hw4 (show x34.2.1+1≤x.seq+2 by omega)⟩,Nat.le_trans hw5 (show x34.2.2.1.length+1≤x.table.length+2 by omega)⟩
  refine t3 ?_
  refine qat (Bs:=[]) (⟨_,_,_,(⟨_,_,_⟩:Cu)⟩:Hs) ?_ rfl results18 trivial qab (hD0:=hX.2)
  exact by exact ⟨⟨hr1,hr2⟩,⟨hr3,Int.le_trans hr4 (show x.seq+1≤x.seq+2 by omega)⟩,Nat.le_trans hr5 (show x.table.length+1≤x.table.length+2 by omega)⟩
 refine t6 ?_
 refine cN ?_ ?_ <;> intro h19
 ·refine t6 ?_
  refine qav [(0,_),(3,_),(4,_)] [blk i3 _ _] (fun y:Int×(List Pg)×Cu=>(0≤y.1∧y.1≤31)∧y.2.1.length=n∧LnI y.2.1) (fun y=>[(7,Is (.int .i64 y.1))]) (fun y=>[blk b 42 [Is (slV n s),Is (.int .i64 lines),Is (.int .i64 x.seq),IsSl tRw x.table,Is (.int .i64 (y.2.2).phase),Is (.int .i64 (y.2.2).level),Is (.int .u32 (UV (y.2.2).key))],buf (slV n s) 48 tPg (y.2.1)]) (fun y=>(31-y.1).toNat) (0,x.pages,x.cur) ?_ qaj qab ?_
  ·exact (⟨⟨Int.le_refl 0,(by decide:(0:Int)≤31)⟩,hH,hln⟩)
  rintro ⟨k,H,cu⟩ hI
  dsimp only at hI ⊢
  refine t6 ?_
  refine qap rfl (by ((refine qad call7 (qc9 _ _ ?_ ?_) ⟨qaq,⟨qaq,trivial⟩⟩);all_goals (first|omega|(simp;done)|(simp;omega)|(refine Nat.le_trans (qah _ _) ?_;omega)|(refine Nat.le_trans (qah _ _) (Nat.le_trans (Nat.add_le_add_right (qah _ _) _) ?_);omega)))) ?_
  refine t4 ?_
  refine cN ?_ ?_ <;> intro h21
  ·have hk30:k<1+a.n % 30:=of_decide_eq_true h21
   obtain ⟨⟨hk0,hk31⟩,hH2,hln2⟩:=hI
   refine t7 ?_
   (refine qe5 rfl (qdw qbs qbs call44 (ze1 b n s lines ⟨H,x.seq,x.table,cu⟩ cl hcl6 hn hH2 hln2) ⟨qaq,⟨qaq,trivial⟩⟩) ?_;intro x55 hx55)
   refine t8 ?_
   refine qaa (_,_,(⟨_,_,_⟩:Cu)) ?_ ?_ qaj qab
   ·exact ⟨⟨by omega,by omega⟩,hx55⟩
   ·(show (31-(k+1)).toNat<(31-k).toNat;omega)
  refine t6 ?_
  refine qat (Bs:=[]) (⟨H,x.seq,x.table,cu⟩:Hs) ?_ rfl results18 trivial qab (hD0:=hX.2)
  exact ⟨hI.2,⟨hsq.1,(show x.seq≤x.seq+2 by omega)⟩,Nat.le_add_right _ _⟩
 refine t6 ?_
 refine cN ?_ ?_ <;> intro h24
 ·refine t4 ?_
  refine qap rfl (by ((refine qad call7 (qc9 _ _ ?_ ?_) ⟨qaq,⟨qaq,trivial⟩⟩);all_goals (first|omega|(simp;done)|(simp;omega)|(refine Nat.le_trans (qah _ _) ?_;omega)|(refine Nat.le_trans (qah _ _) (Nat.le_trans (Nat.add_le_add_right (qah _ _) _) ?_);omega)))) ?_
  refine t3 ?_
  (refine qe5 rfl (by ((refine qdw qbs qbs call45 (qj0 b n s lines x (⟨_,_,_,_,_,[]⟩:Ep26) rfl ?_ hn hH hln) ⟨qaq,⟨qaq,trivial⟩⟩);all_goals (intro h5;exact absurd (show 1+a.n % 2=5 from h5) (by omega)))) ?_;intro x65 hx65)
  refine t3 ?_
  refine qat (Bs:=[]) (⟨x65.1,x.seq,x.table,x.cur⟩:Hs) ?_ rfl results18 trivial qab (hD0:=hX.2)
  exact ⟨⟨hx65.1,hx65.2.1⟩,⟨hsq.1,(show x.seq≤x.seq+2 by omega)⟩,Nat.le_add_right _ _⟩
 refine t6 ?_
 refine cN ?_ ?_ <;> intro h26
 ·refine t3 ?_
  (refine qe5 rfl (by ((refine qdw qbs qbs call45 (qj0 b n s lines x (⟨3,_,_,_,_,[]⟩:Ep26) rfl (fun h=>absurd (show (3:Int)=5 from h) ?_) hn hH hln) ⟨qaq,⟨qaq,trivial⟩⟩);all_goals (decide))) ?_;intro x70 hx70)
  refine t3 ?_
  refine qat (Bs:=[]) (⟨x70.1,x.seq,x.table,x.cur⟩:Hs) ?_ rfl results18 trivial qab (hD0:=hX.2)
  exact ⟨⟨hx70.1,hx70.2.1⟩,⟨hsq.1,(show x.seq≤x.seq+2 by omega)⟩,Nat.le_add_right _ _⟩
 refine t6 ?_
 refine cN ?_ ?_ <;> intro h28
 ·refine t3 ?_
  (refine qe5 rfl (qdw qbs qbs call46 (qo3 b n s lines x cl hcl6 hn hH hln) ⟨qaq,⟨qaq,trivial⟩⟩) ?_;intro x75 hx75)
  refine t3 ?_
  refine qat (Bs:=[]) (⟨x75,x.seq,x.table,x.cur⟩:Hs) ?_ rfl results18 trivial qab (hD0:=hX.2)
  exact ⟨hx75,⟨hsq.1,(show x.seq≤x.seq+2 by omega)⟩,Nat.le_add_right _ _⟩
 refine t6 ?_
 refine cN ?_ ?_ <;> intro h30
 ·refine s1 ?_
  refine qaz rfl (by kernel_rfl) ?_
  refine qfi (its:=[]) ?_
  refine f1 0 ?_
  refine f1 1 ?_
  refine f1 2 ?_
  refine f1 3 ?_
  refine f1 4 ?_
  refine f1 5 ?_
  refine f1 6 ?_
  refine qkr 7 rfl (by kernel_rfl) (by ((refine qad call7 (qc9 _ _ ?_ ?_) ⟨qaq,⟨qaq,trivial⟩⟩);all_goals (first|omega|(simp;done)|(simp;omega)|(refine Nat.le_trans (qah _ _) ?_;omega)|(refine Nat.le_trans (qah _ _) (Nat.le_trans (Nat.add_le_add_right (qah _ _) _) ?_);omega)))) ?_
  refine qkr 8 rfl (by kernel_rfl) (qkm (er rfl) (er rfl) qil) ?_
  refine f1 9 ?_
  refine f1 10 ?_
  refine f1 11 ?_
  refine f1 12 ?_
  refine qne 14 rfl (by kernel_rfl) (fun _=>(qbl rfl qbm rfl)) ?_
  (refine zay 13 [0,1,2,3,4,5,6,7,8,9,10,11,12,13] rfl (by kernel_rfl) (by ((refine qdj (by (try simp only [List.append_eq,List.nil_append,List.cons_append]);exact qgg) call47 (zfr x.pages _ _ _ _ ?_) ⟨qaq,⟨qaq,⟨qaq,⟨qaq,⟨qaq,trivial⟩⟩⟩⟩⟩ (qt4));all_goals (first|omega|(simp;done)|(simp;omega)|(refine Nat.le_trans (qah _ _) ?_;omega)|(refine Nat.le_trans (qah _ _) (Nat.le_trans (Nat.add_le_add_right (qah _ _) _) ?_);omega)))) ?_;intro x91 hx91)
  (refine qgr 8 14 (by kernel_rfl) rfl rfl ?_;intro i8)
  refine qe6 15 [0,1,2,3,4,5,6,7,8,9,10,11,12,13,14,15] rfl (by kernel_rfl) (fun c'=>by exact qa2 (er rfl) (er rfl) qag qae rf rf rf) ?_
  refine qd0 (by kernel_rfl) rfl ?_
  show JQ _ _ _ _ _ _
  refine t8 ?_
  refine cN ?_ ?_ <;> intro h32
  ·refine t4 ?_
   (refine qew rfl (qia qbs qbs call48 (qij b n s _ _ _ _ _ _ x.pages x91.writes hH hn.2 hx91.2) ⟨qaq,⟨qaq,trivial⟩⟩) ?_;intro i98)
   refine t3 ?_
   refine qat (Bs:=[]) (⟨x91.writes.foldl qnr x.pages,x.seq,x.table,x.cur⟩:Hs) ?_ rfl results18 trivial qab (hD0:=hX.2)
   exact ⟨⟨(show (x91.writes.foldl qnr x.pages).length=n by rw [qk3];exact hH),qok _ hln⟩,⟨hsq.1,(show x.seq≤x.seq+2 by omega)⟩,Nat.le_add_right _ _⟩
  refine t3 ?_
  refine qat (Bs:=[]) (⟨_,_,_,(⟨_,_,_⟩:Cu)⟩:Hs) ?_ rfl results18 trivial qab (hD0:=hX.2)
  exact by exact ⟨⟨hH,hln⟩,⟨hsq.1,(show x.seq≤x.seq+2 by omega)⟩,Nat.le_add_right _ _⟩
 refine t3 ?_
 refine qat (Bs:=[]) (⟨_,_,_,(⟨_,_,_⟩:Cu)⟩:Hs) ?_ rfl results18 trivial qab (hD0:=hX.2)
 exact by exact ⟨⟨hH,hln⟩,⟨hsq.1,(show x.seq≤x.seq+2 by omega)⟩,Nat.le_add_right _ _⟩
theorem zc4:∀ n:Nat,LnI (qz5 n)
 | 0=>fun i p h=>by simp [qz5] at h
 | n+1=>fun i p h=>by
  unfold qz5 at h
  rcases Nat.lt_or_ge i n with hi|hi
  ·rw [List.getElem?_append_left (by rw [qj9];exact hi)] at h
   exact zc4 n i p h
  ·rw [List.getElem?_append_right (by rw [qj9];exact hi),qj9] at h
   have h1:=(List.getElem?_eq_some_iff.1 h).1
   simp at h1
   have:i=n:=by omega
   subst this
   simp at h
   subst h
   rfl
theorem zfq (n:Nat) (l:List Acn) (hn:8≤n∧n≤200) (hl:l.length≤1000):FnX Tryz.prog 4 [Is (.int .i64 (96+(n:Int))),IsSl tAct l] []
  (fun i:Nat×(Option Addr×Nat)×Hs=>i.2.2.pages.length=n∧LnI i.2.2.pages) (fun i=>Is (.pointer (some ⟨i.1,0,none⟩))) (fun i=>[blk (i.1) 42 [Is (slV n (i.2.1)),Is (.int .i64 (96+(n:Int))),Is (.int .i64 i.2.2.seq),IsSl tRw i.2.2.table,Is (.int .i64 i.2.2.cur.phase),Is (.int .i64 i.2.2.cur.level),Is (.int .u32 (UV i.2.2.cur.key))],buf (slV n (i.2.1)) 48 tPg i.2.2.pages]):=by
 refine Fn.enterB func4 ntmps4 rfl rfl ?_
 intro c hX hbelow
 refine t8 ?_
 (refine qew rfl (qlo call17 (New_ok n hn.2) ⟨qaq,trivial⟩) ?_;intro i8)
 refine t5 ?_
 obtain ⟨b,s⟩:=i8
 dsimp only
 refine qbr (b:=b) (As':=[Is (slV n s),Is (.int .i64 (96+(n:Int))),Is (.int .i64 0),IsSl tRw [],Is (.int .i64 1),Is (.int .i64 0),Is (.int .u32 (UV 1#32))]) qae qbf ?_
 refine t5 ?_
 refine qav [(1,_),(4,_),(5,_)] [] (fun y:Nat×Hs=>y.1≤(l).length∧((y.2.pages.length=n∧LnI y.2.pages)∧(0≤y.2.seq∧y.2.seq≤2*(y.1:Int))∧y.2.table.length≤2*y.1)) (fun y=>[(6,Is (.int .i64 (y.1:Nat)))]) (fun y=>[blk b 42 [Is (slV n s),Is (.int .i64 (96+(n:Int))),Is (.int .i64 y.2.seq),IsSl tRw y.2.table,Is (.int .i64 y.2.cur.phase),Is (.int .i64 y.2.cur.level),Is (.int .u32 (UV y.2.cur.key))],buf (slV n s) 48 tPg y.2.pages]) (fun y=>(l).length-y.1) (0,⟨qz5 n,0,[],⟨1,0,1#32⟩⟩) ?_ qaj qab ?_
 ·exact ⟨by exact Nat.zero_le _,⟨⟨qj9 n,zc4 n⟩,⟨Int.le_refl 0,Int.le_refl 0⟩,Nat.le_refl 0⟩⟩
 rintro ⟨k,x⟩ ⟨hk,hI⟩
 dsimp only at hk hI ⊢
 refine t9 ?_
 refine cN ?_ ?_ <;> intro h3
 ·have hlt:k<(l).length:=by have:=of_decide_eq_true h3;omega
  clear h3
  obtain ⟨z,hz⟩:∃ q,(l)[k]?=some q:=⟨_,List.getElem?_eq_getElem hlt⟩
  obtain ⟨⟨hp1,hp2⟩,⟨hp3,hp4⟩,hp5⟩:=hI
  refine t10 ?_
  (refine qe5 rfl (by ((refine qdw qbs qbs call18 (DoH_ok b n s (96+(n:Int)) x z hn hp1 hp2 ⟨hp3,by omega⟩ ?_) ⟨qaq,⟨qaq,trivial⟩⟩);all_goals (first|omega|(simp;done)|(simp;omega)|(refine Nat.le_trans (qah _ _) ?_;omega)|(refine Nat.le_trans (qah _ _) (Nat.le_trans (Nat.add_le_add_right (qah _ _) _) ?_);omega)))) ?_;intro x20 hx20)
  refine t8 ?_
  refine qaa (k+1,(⟨_,_,_,(⟨_,_,_⟩:Cu)⟩:Hs)) ?_ ?_ qaj qab
  ·exact ⟨by omega,⟨hx20.1,⟨hx20.2.1.1,Int.le_trans hx20.2.1.2 (show x.seq+2≤2*((k+1:Nat):Int) by omega)⟩,Nat.le_trans hx20.2.2 (show x.table.length+2≤2*(k+1) by omega)⟩⟩
  ·exact (by omega)
 have hke:k=(l).length:=by have:=of_decide_eq_false h3;omega
 clear h3
 subst hke
 refine t12 ?_
 refine qat (Bs:=[_]) (b,s,x) ?_ rfl results4 eXF qab (hD0:=hX.2)
 exact hI.1
end Go.Proofs.YtghkkdjbaehboaaGreat
