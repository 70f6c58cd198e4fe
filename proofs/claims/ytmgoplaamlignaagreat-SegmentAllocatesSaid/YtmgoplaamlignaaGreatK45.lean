/- Texts laid together: walks of functions, what they compute, and plain laws of it. Own work. -/
import Derived.Test.YtmgoplaamlignaaGreatK44
import Derived.Test.YtmgoplaamlignaaGreatK42
import Derived.Test.YtmgoplaamlignaaGreatK40
import Derived.Test.YtmgoplaamlignaaGreatK19
import Derived.Test.YtmgoplaamlignaaGreatK1
namespace Go.Proofs.YtmgoplaamlignaaGreat
open Go.RowKit Tryz
set_option linter.unusedVariables false
set_option linter.unusedSimpArgs false
set_option maxRecDepth 100000
set_option maxHeartbeats 4000000
theorem zc7 (j:J31) (ks:List Pg) (hks:ks.length≤300) (hsn:j.snapshot=false) (hpl:j.program.length≤1) (hkind:∀ s,s∈j.program→1≤s.kind∧s.kind≤4) (hac3:∀ a,a∈j.access→a≠3):FnF Tryz.prog 105 [IsJ31 j,qal tPg ks] (fun B=>qek (fun q:List Pg×Int=>WL 3000 q.1) (zde B)):=by
 refine FnF.enter func105 ntmps105 rfl rfl ?_
 intro c hX
 obtain ⟨B0,hBe⟩:∃ B,c.w.heap.size=B:=⟨_,rfl⟩
 have hBw:B0≤c.w.heap.size:=by omega
 have hBw2:c.w.heap.size≤B0:=by omega
 refine t3 ?_
 intro i2
 refine s1 ?_
 intro i4
 refine t6 ?_
 refine kRF call124 (qvz j) ?_
 (refine qa5 16 rfl ?_;intro x16 hx16)
 refine t3 ?_
 refine cN ?_ ?_ <;> intro h1
 ·refine t9 ?_
  exact rXF (([],_):List Pg×Int) results105 (hp:=by exact wl0) (hD0:=hX.2)
 obtain ⟨hvp,hal⟩:=hx16 (by simpa using h1)
 obtain ⟨_,hvs⟩:=qzm hvp
 refine t8 ?_
 intro i23
 refine t5 ?_
 refine qbq (b:=i23) (As':=[Is (.int .i64 _),Is (.int .i64 _),Is (.int .i64 _),qal tSt29 _,qal tI64 _,Is (.bool _),Is (.int .u64 (UV _)),Is (.int .u64 (UV _)),Is (.int .u64 (UV _)),Is (.int .u64 (UV _)),Is (.int .u64 (UV _)),Is (.int .u64 (UV _)),qal tPg _,qbe B0 (qal tPg _),qal tI64 _,qal tI64 _,Is (.int .i64 _),Is (.int .i64 _),Is (.int .i64 _),Is (.int .i64 _),qal tRs29 _,Is (.slice none 0 0),Is (.bool _),Is (.bool _),Is (.bool _),Is (.bool _)]) qae qba ?_
 refine JC_mine i23 qbp hX.1 (fun hBi0=>?_)
 have hBi:B0≤i23:=by omega
 refine t5 ?_
 refine cN ?_ ?_ <;> intro h4
 ·exact absurd h4 (by rw [hsn];decide)
 refine t14 ?_
 refine qcn 221 tRs29 ?_
 refine qbq (b:=i23) (As':=[Is (.int .i64 _),Is (.int .i64 _),Is (.int .i64 _),qal tSt29 _,qal tI64 _,Is (.bool _),Is (.int .u64 (UV _)),Is (.int .u64 (UV _)),Is (.int .u64 (UV _)),Is (.int .u64 (UV _)),Is (.int .u64 (UV _)),Is (.int .u64 (UV _)),qal tPg _,qbe B0 (qal tPg _),qal tI64 _,qal tI64 _,Is (.int .i64 _),Is (.int .i64 _),Is (.int .i64 _),Is (.int .i64 _),qal tRs29 _,Is (.slice none 0 0),Is (.bool _),Is (.bool _),Is (.bool _),Is (.bool _)]) qae qba ?_
 refine qaz [(2,_),(4,_),(5,_)] [blk i4 _ _,blk i2 _ _] (fun y:Nat×Run31×(List Rs29)×(Option Addr×Nat)=>y.1≤(j.program).length∧(RI (1300*y.1) y.2.1∧y.2.2.1.length≤y.1)) (fun y=>[(9,Is (slV (y.2.2.1).length y.2.2.2)),(10,Is (.int .i64 (y.1:Nat)))]) (fun y=>[blk i23 218 [Is (.int .i64 y.2.1.job.client),Is (.int .i64 y.2.1.job.seq),Is (.int .i64 y.2.1.job.lines),qal tSt29 y.2.1.job.program,qal tI64 y.2.1.job.access,Is (.bool y.2.1.job.snapshot),Is (.int .u64 (UV y.2.1.job.vector0)),Is (.int .u64 (UV y.2.1.job.vector1)),Is (.int .u64 (UV y.2.1.job.vector2)),Is (.int .u64 (UV y.2.1.job.vector3)),Is (.int .u64 (UV y.2.1.job.vector4)),Is (.int .u64 (UV y.2.1.job.vector5)),qal tPg y.2.1.known,qbe B0 (qal tPg y.2.1.w),qal tI64 y.2.1.c,qal tI64 y.2.1.need,Is (.int .i64 y.2.1.code),Is (.int .i64 y.2.1.out.code),Is (.int .i64 y.2.1.out.statement),Is (.int .i64 y.2.1.out.want),qal tRs29 y.2.1.out.results,Is (.slice none 0 0),Is (.bool y.2.1.out.hint),Is (.bool y.2.1.out.deep),Is (.bool y.2.1.out.unposted),Is (.bool y.2.1.out.dead)],buf (slV (y.2.2.1).length y.2.2.2) 221 tRs29 (y.2.2.1)]) (fun y=>(j.program).length-y.1) (0,(⟨⟨_,_,_,_,_,_,_,_,_,_,_,_⟩,_,_,_,_,_,⟨_,_,_,_,[],_,_,_,_⟩⟩:Run31),[],(none,0)) ?_ qah qab ?_
 ·exact ⟨by exact Nat.zero_le _,⟨⟨hsn,hks,wl0,Nat.le_refl 0⟩,Nat.le_refl 0⟩⟩
 rintro ⟨k,rq,rs,v_0⟩ ⟨hk,hI⟩
 dsimp only at hk hI ⊢
 refine t10 ?_
 refine cN ?_ ?_ <;> intro h20
 ·have hlt:k<(j.program).length:=by have:=of_decide_eq_true h20;omega
  clear h20
  obtain ⟨z,hz⟩:∃ q,(j.program)[k]?=some q:=⟨_,List.getElem?_eq_getElem hlt⟩
  obtain ⟨hI1,hIr⟩:=hI
  obtain ⟨za,hza⟩:∃ q,j.access[k]?=some q:=⟨_,List.getElem?_eq_getElem (by omega)⟩
  have hcz:=vS_col (hvs z (List.mem_of_getElem? hz))
  have hkz:=hkind z (List.mem_of_getElem? hz)
  have haz:=hac3 za (List.mem_of_getElem? hza)
  refine t5 ?_
  refine qa0 rfl (by kernel_rfl) ?_
  refine qgl (its:=[]) ?_
  refine f1 0 ?_
  refine f1 1 ?_
  refine f1 2 ?_
  refine f1 3 ?_
  refine qkf 4 rfl (by kernel_rfl) (by exact qau (j:=_) (er rfl) (er rfl) rfl rfl rf hz) ?_
  refine f1 5 ?_
  refine f1 6 ?_
  refine f1 7 ?_
  refine f1 8 ?_
  refine qkf 9 rfl (by kernel_rfl) (by exact qau (j:=_) (er rfl) (er rfl) rfl rfl rf hza) ?_
  refine f1 10 ?_
  refine qm4 12 rfl (by kernel_rfl) (fun _=>(qbi rfl qbo rfl)) ?_
  (refine JF_tx 11 [0,1,2,3,4,5,6,7,8,9,10,11] rfl (by kernel_rfl) (fun c'=>by ((refine qch qbh call126 (StmtR_ok B0 i23 rq z za (1300*k) hBi ?_ hI1 hkz hcz haz) ⟨qar,⟨qar,⟨qar,trivial⟩⟩⟩);all_goals (omega))) ?_;intro x102 hx102)
  (refine qgk 11 12 (by kernel_rfl) rfl rfl ?_;intro i11)
  refine qfi 13 [0,1,2,3,4,5,6,7,8,9,10,11,12,13] rfl (by kernel_rfl) (fun c'=>by exact qa9 (er rfl) (er rfl) qaf qae rf rf rf) ?_
  refine qeq (by kernel_rfl) rfl ?_
  show JQ _ _ _ _ _ _
  refine t12 ?_
  refine cN ?_ ?_ <;> intro h23
  ·refine t17 ?_
   exact rXF (([],_):List Pg×Int) results105 (hp:=by exact wl0) (hD0:=hX.2)
  refine t15 ?_
  (refine qcq rfl rfl rfl (fun hg=>(by have hg0:=hg;(try simp at hg);exact za5 (Ev.sub rfl (SubL.iteT (by assumption) SubL.fresh)) rfl)) ?_)
  refine t4 ?_
  refine cN ?_ ?_ <;> intro h25
  ·refine t17 ?_
   refine cN ?_ ?_ <;> intro h27
   ·refine t4 ?_
    refine qap rfl (by ((refine qc9 (by (try simp only [List.append_eq,List.nil_append,List.cons_append]);exact qga) call127 (zdk B0 (⟨⟨_,_,_,_,_,_,_,_,_,_,_,_⟩,_,_,_,_,_,⟨_,_,_,_,[],_,_,_,_⟩⟩:Run31) _ ?_ ?_) ⟨qbb,⟨qbb,trivial⟩⟩ (qmb));all_goals (first|exact Nat.le_trans hx102.2.2.2 (by omega)|exact Nat.le_trans hx102.2.2.1.1 (by omega)))) ?_
    (refine qa5 137 rfl ?_;intro x137 hx137)
    refine t10 ?_
    exact rXF ((_,_):List Pg×Int) results105 (hp:=by exact hx137) (hD0:=hX.2)
   refine t5 ?_
   refine qap rfl (OpP.to (qad (size:=2) (qs:=[(0,_)]) rfl rfl rfl ⟨⟨rfl,_,(er rfl),qaf⟩,trivial⟩ rf rf) (SubL.row1 (T:=tRs29) (x:=(⟨_,_⟩:Rs29)) rf rf rf qaj)) ?_
   (refine qe6 rfl (qb9 (er rfl) (fun _=>qae) (by exact er rfl) (by exact qep rfl rfl rfl) qbt) ?_;intro i141)
   refine t9 ?_
   refine qc0 (B0:=B0) (b:=i23) ?_
   refine qaa (k+1,(⟨⟨_,_,_,_,_,_,_,_,_,_,_,_⟩,_,_,_,_,_,⟨_,_,_,_,[],_,_,_,_⟩⟩:Run31),_,_) ?_ ?_ qah qab
   ·exact ⟨by omega,⟨by exact hx102.mono (by omega),by simp;omega⟩⟩
   ·exact (by omega)
  refine t12 ?_
  refine cN ?_ ?_ <;> intro h27
  ·refine t4 ?_
   refine qap rfl (by ((refine qc9 (by (try simp only [List.append_eq,List.nil_append,List.cons_append]);exact qga) call127 (zdk B0 (⟨⟨_,_,_,_,_,_,_,_,_,_,_,_⟩,_,_,_,_,_,⟨_,_,_,_,[],_,_,_,_⟩⟩:Run31) _ ?_ ?_) ⟨qbb,⟨qbb,trivial⟩⟩ (qmb));all_goals (first|exact Nat.le_trans hx102.2.2.2 (by omega)|exact Nat.le_trans hx102.2.2.1.1 (by omega)))) ?_
   (refine qa5 137 rfl ?_;intro x137 hx137)
   refine t10 ?_
   exact rXF ((_,_):List Pg×Int) results105 (hp:=by exact hx137) (hD0:=hX.2)
  refine t5 ?_
  refine qap rfl (OpP.to (qad (size:=2) (qs:=[(0,_)]) rfl rfl rfl ⟨⟨rfl,_,(er rfl),qaf⟩,trivial⟩ rf rf) (SubL.row1 (T:=tRs29) (x:=(⟨_,_⟩:Rs29)) rf rf rf qaj)) ?_
  (refine qe6 rfl (qb9 (er rfl) (fun _=>qae) (by exact er rfl) (by exact qep rfl rfl rfl) qbt) ?_;intro i141)
  refine t9 ?_
  refine qc0 (B0:=B0) (b:=i23) ?_
  refine qaa (k+1,(⟨⟨_,_,_,_,_,_,_,_,_,_,_,_⟩,_,_,_,_,_,⟨_,_,_,_,[],_,_,_,_⟩⟩:Run31),_,_) ?_ ?_ qah qab
  ·exact ⟨by omega,⟨by exact hx102.mono (by omega),by simp;omega⟩⟩
  ·exact (by omega)
 have hke:k=(j.program).length:=by have:=of_decide_eq_false h20;omega
 clear h20
 subst hke
 have hIq:=hI.1
 have hqc:rq.c.length≤1300:=Nat.le_trans hI.1.2.2.2 (by omega)
 have hqw:rq.w.length≤1300:=Nat.le_trans hI.1.2.2.1.1 (by omega)
 refine qa8 hX (v:=slV rs.length v_0) qae ?_
 refine qb0 9 (qal tRs29 rs) rfl qfm ?_
 refine t22 ?_
 refine qcn 3 tI64 ?_
 refine qaz [(4,_),(5,_)] [blk i4 _ _] (fun ya:Nat×(List Int)×(Option Addr×Nat)=>ya.1≤(rq.c).length∧(ya.2.1.length≤ya.1)) (fun ya=>[(12,Is (.int .i64 (ya.1:Nat)))]) (fun ya=>[blk i23 218 [Is (.int .i64 rq.job.client),Is (.int .i64 rq.job.seq),Is (.int .i64 rq.job.lines),qal tSt29 rq.job.program,qal tI64 rq.job.access,Is (.bool rq.job.snapshot),Is (.int .u64 (UV rq.job.vector0)),Is (.int .u64 (UV rq.job.vector1)),Is (.int .u64 (UV rq.job.vector2)),Is (.int .u64 (UV rq.job.vector3)),Is (.int .u64 (UV rq.job.vector4)),Is (.int .u64 (UV rq.job.vector5)),qal tPg rq.known,qbe B0 (qal tPg rq.w),qal tI64 rq.c,qal tI64 rq.need,Is (.int .i64 rq.code),Is (.int .i64 rq.out.code),Is (.int .i64 rq.out.statement),Is (.int .i64 rq.out.want),qal tRs29 rs,Is (slV (ya.2.1).length ya.2.2),Is (.bool rq.out.hint),Is (.bool rq.out.deep),Is (.bool rq.out.unposted),Is (.bool rq.out.dead)],buf (slV (ya.2.1).length ya.2.2) 3 tI64 (ya.2.1)]) (fun ya=>(rq.c).length-ya.1) (0,[],(none,0)) ?_ qah qab ?_
 ·exact ⟨by exact Nat.zero_le _,Nat.le_refl 0⟩
 rintro ⟨ka,ck,va_0⟩ ⟨hka,hIa⟩
 dsimp only at hka hIa ⊢
 refine t12 ?_
 refine cN ?_ ?_ <;> intro h32
 ·have hlta:ka<(rq.c).length:=by have:=of_decide_eq_true h32;omega
  clear h32
  obtain ⟨za,hza⟩:∃ q,(rq.c)[ka]?=some q:=⟨_,List.getElem?_eq_getElem hlta⟩
  have hI8:=hIa
  refine t16 ?_
  refine qaz [(4,_),(5,_),(12,_),(147,_),(148,_),(149,_),(150,_),(151,_),(152,_)] [blk i4 _ _,blk i23 _ _,buf _ _ _ _] (fun yb:Nat×Bool=>yb.1≤(rq.w).length) (fun yb=>[(13,Is (.bool yb.2)),(14,Is (.int .i64 (yb.1:Nat)))]) (fun yb=>[]) (fun yb=>(rq.w).length-yb.1) (0,false) (Nat.zero_le _) qah qab ?_
  rintro ⟨kb,wr⟩ hkb
  dsimp only at hkb ⊢
  refine t8 ?_
  refine qge 160 (qal tPg rq.w) rfl SubL.fresh ?_
  refine t4 ?_
  refine cN ?_ ?_ <;> intro h36
  ·have hltb:kb<(rq.w).length:=by have:=of_decide_eq_true h36;omega
   clear h36
   obtain ⟨zb,hzb⟩:∃ q,(rq.w)[kb]?=some q:=⟨_,List.getElem?_eq_getElem hltb⟩
   refine t4 ?_
   refine qa0 rfl (by kernel_rfl) ?_
   refine qag 20 (by kernel_rfl) ?_
   refine t7 ?_
   (refine qem rfl rfl (fun hg=>(by have hg0:=hg;(try simp at hg);exact qau (j:=kb) (Ev.sub rfl (SubL.iteT (by assumption) SubL.fresh)) evG rfl rfl rf hzb)) ?_)
   refine t7 ?_
   (refine qem rfl rfl (fun hg=>(by have hg0:=hg;(try simp at hg);exact qau (j:=_) evG evG rfl rfl rf hza)) ?_)
   refine t4 ?_
   refine ⟨rfl,?_⟩
   refine qat ?_
   refine t7 ?_
   refine qaa (kb+1,_) ?_ ?_ qah qab
   ·exact (by omega)
   ·exact (by omega)
  have hkeb:kb=(rq.w).length:=by have:=of_decide_eq_false h36;omega
  clear h36
  subst hkeb
  refine t11 ?_
  refine cN ?_ ?_ <;> intro h39
  ·refine qa0 rfl (by kernel_rfl) ?_
   refine qgl (its:=[]) ?_
   refine qhq 0 rfl (by kernel_rfl) (fun _=>(qay rfl)) ?_
   refine f1 1 ?_
   refine f1 2 ?_
   refine f1 3 ?_
   refine f1 4 ?_
   refine f1 5 ?_
   refine f1 6 ?_
   refine f1 7 ?_
   refine f1 8 ?_
   refine f1 9 ?_
   refine f1 10 ?_
   refine qkf 11 rfl (by kernel_rfl) (by exact qau (j:=_) (er rfl) (er rfl) rfl rfl rf hza) ?_
   refine f1 12 ?_
   refine qkf 13 rfl (by kernel_rfl) (OpP.to (qad (size:=1) (qs:=[(0,_)]) rfl rfl rfl ⟨⟨rfl,_,(er rfl),qaf⟩,trivial⟩ rf rf) (SubL.row1 (T:=tI64) (x:=_) rf rf rf qaj)) ?_
   (refine JF_b 14 [1,2,3,4,5,6,7,8,9,10,11,12,13,14] rfl (by kernel_rfl) (fun c'=>by exact qb9 (er rfl) (fun _=>qae) (by exact er rfl) (by exact qep rfl rfl rfl) qbt) ?_;intro i200)
   refine f1 15 ?_
   refine f1 16 ?_
   refine f1 17 ?_
   refine qfi 18 [0,1,2,3,4,5,6,7,8,9,10,11,12,13,14,15,16,17,18] rfl (by kernel_rfl) (fun c'=>by exact qa9 (er rfl) (er rfl) qaf qae rf rf rf) ?_
   refine qeq (by kernel_rfl) rfl ?_
   show JQ _ _ _ _ _ _
   refine t7 ?_
   refine qaa (ka+1,_,_) ?_ ?_ qah qab
   ·exact ⟨by omega,by (simp;exact hI8)⟩
   ·exact (by omega)
  refine t8 ?_
  refine qaa (ka+1,_,_) ?_ ?_ qah qab
  ·exact ⟨by omega,by exact Nat.le_succ_of_le hI8⟩
  ·exact (by omega)
 have hkea:ka=(rq.c).length:=by have:=of_decide_eq_false h32;omega
 clear h32
 subst hkea
 refine t6 ?_
 refine qa0 rfl (by kernel_rfl) ?_
 refine qag 9 (by kernel_rfl) ?_
 refine t9 ?_
 refine ⟨rfl,?_⟩
 refine qef (by kernel_rfl) rfl (qav (er rfl) (er rfl) qaf qae qbo rf rf rf) ?_
 refine qat ?_
 refine t2 ?_
 exact rXF ((_,_):List Pg×Int) results105 (hp:=by exact hIq.2.2.1.mono (by omega)) (hD0:=hX.2)
theorem acc_ne {q:Int} (h:0≤q):0≤q.tmod 2∧q.tmod 2≤1:=by
 rw [Int.tmod_eq_emod_of_nonneg h];omega
theorem zc6 (b n:Nat) (s:Option Addr×Nat) (lines:Int) (x:Hs) (cl:Int) (pr:List St29) (hn:8≤n∧n≤200) (hH:x.pages.length=n) (hln:LnI x.pages) (hsq:0≤x.seq∧x.seq≤100000) (htb:x.table.length≤8000) (hpl:pr.length≤1) (hkd:∀ s,s∈pr→1≤s.kind∧s.kind≤4) :
  FnX Tryz.prog 84 [Is (.pointer (some ⟨b,0,none⟩)),Is (.int .i64 cl),qal tSt29 pr] [blk b 62 [Is (slV n s),Is (.int .i64 lines),Is (.int .i64 x.seq),qal tRw x.table,Is (.int .i64 x.cur.phase),Is (.int .i64 x.cur.level),Is (.int .u32 (UV x.cur.key))],buf (slV n s) 53 tPg x.pages]
  (fun i:List Pg×Int×List Rw×Int=>(i.1.length=n∧LnI i.1)∧(0≤i.2.1∧i.2.1≤x.seq+1)∧i.2.2.1.length≤x.table.length+1) (fun i=>Is (.int .i64 i.2.2.2)) (fun i=>[blk b 62 [Is (slV n s),Is (.int .i64 lines),Is (.int .i64 (i.2.1)),qal tRw (i.2.2.1),Is (.int .i64 x.cur.phase),Is (.int .i64 x.cur.level),Is (.int .u32 (UV x.cur.key))],buf (slV n s) 53 tPg (i.1)]):=by
 refine Fn.enterB func84 ntmps84 rfl rfl ?_
 intro c hX hbelow
 refine t6 ?_
 refine qa0 rfl (by kernel_rfl) ?_
 refine qag 14 (by kernel_rfl) ?_
 refine t12 ?_
 refine qka (qbi rfl qbo rfl) ?_
 refine qcp rfl rfl rfl (by kernel_rfl) (qbz qar qaf rfl rfl rfl qbo) ?_
 refine ⟨rfl,?_⟩
 intro i7
 refine qat ?_
 refine t8 ?_
 refine qcn 3 tI64 ?_
 refine qaz [(0,_),(2,_),(6,_),(7,_)] [blk b _ _,buf (slV n s) _ _ _] (fun y:Nat×(List Int)×Int×Int×Int×(Option Addr×Nat)=>y.1≤(pr).length∧((∀ a,a∈y.2.1→a≠3)∧y.2.1.length≤y.1)) (fun y=>[(8,Is (.int .i64 (y.1:Nat)))]) (fun y=>[blk i7 184 [Is (.int .i64 y.2.2.1),Is (.int .i64 y.2.2.2.1),Is (.int .i64 y.2.2.2.2.1),qal tSt29 pr,Is (slV (y.2.1).length y.2.2.2.2.2),Is (.bool false),Is (.int .u64 0),Is (.int .u64 0),Is (.int .u64 0),Is (.int .u64 0),Is (.int .u64 0),Is (.int .u64 0)],buf (slV (y.2.1).length y.2.2.2.2.2) 3 tI64 (y.2.1)]) (fun y=>(pr).length-y.1) (0,[],_,_,_,(none,0)) ?_ qah qab ?_
 ·exact ⟨by exact Nat.zero_le _,⟨fun a h=>absurd h List.not_mem_nil,Nat.le_refl 0⟩⟩
 rintro ⟨k,ac,j1,j2,j3,v_0⟩ ⟨hk,hI⟩
 dsimp only at hk hI ⊢
 refine t9 ?_
 refine cN ?_ ?_ <;> intro h3
 ·have hlt:k<(pr).length:=by have:=of_decide_eq_true h3;omega
  clear h3
  obtain ⟨z,hz⟩:∃ q,(pr)[k]?=some q:=⟨_,List.getElem?_eq_getElem hlt⟩
  obtain ⟨hI1,hIl⟩:=hI
  have hkz:=hkd z (List.mem_of_getElem? hz)
  refine t5 ?_
  obtain ⟨av,hav⟩:∃ a:Int,1+x.seq.tmod 2=a:=⟨_,rfl⟩
  have hq2:=acc_ne hsq.1
  have hav3:av≠3:=by omega
  have hrr:∀ a,a∈ac++[av]→a≠3:=fun a ha=>by
   rcases List.mem_append.1 ha with ha|ha
   ·exact hI1 a ha
   ·rw [List.mem_singleton] at ha;subst ha;exact hav3
  refine t6 ?_
  refine qap rfl (qft (er rfl) (er rfl) (r:=av) (by have hq2:=acc_ne hsq.1;rw [qo3 (by omega)];exact hav)) ?_
  refine t22 ?_
  refine cN ?_ ?_ <;> intro h6
  ·exact absurd h6 (by simp;omega)
  refine t6 ?_
  refine qap rfl (OpP.to (qad (size:=1) (qs:=[(0,_)]) rfl rfl rfl ⟨⟨rfl,_,(er rfl),qaf⟩,trivial⟩ rf rf) (SubL.row1 (T:=tI64) (x:=_) rf rf rf qaj)) ?_
  (refine qe6 rfl (qb9 (er rfl) (fun _=>qae) (by exact er rfl) (by exact qep rfl rfl rfl) qbt) ?_;intro i53)
  refine t10 ?_
  refine qaa (k+1,_,_,_,_,_) ?_ ?_ qah qab
  ·exact ⟨by omega,⟨hrr,by simp;omega⟩⟩
  ·exact (by omega)
 have hke:k=(pr).length:=by have:=of_decide_eq_false h3;omega
 clear h3
 subst hke
 refine t6 ?_
 refine qa0 rfl (by kernel_rfl) ?_
 refine qgl (its:=[]) ?_
 refine f1 0 ?_
 refine f1 1 ?_
 refine f1 2 ?_
 refine f1 3 ?_
 refine f1 4 ?_
 refine qm4 6 rfl (by kernel_rfl) (fun _=>(qbi rfl qbo rfl)) ?_
 (refine qy9 5 [0,1,2,3,4,5] rfl (by kernel_rfl) (by ((refine qc9 (by (try simp only [List.append_eq,List.nil_append,List.cons_append]);exact qga) call105 (zc7 (⟨j1,j2,j3,pr,ac,false,0#64,0#64,0#64,0#64,0#64,0#64⟩:J31) x.pages ?_ rfl ?_ ?_ ?_) ⟨qar,⟨qar,trivial⟩⟩ (qmb));all_goals (first|omega|exact hI.1))) ?_;intro x60 hx60)
 (refine qgk 10 6 (by kernel_rfl) rfl rfl ?_;intro i10)
 refine qfi 7 [0,1,2,3,4,5,6,7] rfl (by kernel_rfl) (fun c'=>by exact qa9 (er rfl) (er rfl) qaf qae rf rf rf) ?_
 refine qeq (by kernel_rfl) rfl ?_
 show JQ _ _ _ _ _ _
 refine t10 ?_
 refine cN ?_ ?_ <;> intro h10
 ·refine t10 ?_
  refine qax (Bs:=[_]) (_,_,_,_) ?_ rfl results84 eXF qab (hD0:=hX.2)
  exact ⟨⟨hH,hln⟩,⟨hsq.1,(show x.seq≤x.seq+1 by omega)⟩,Nat.le_succ _⟩
 refine t19 ?_
 (refine qe6 rfl (qhx qbh qbh call23 (qh9 b n s _ _ _ _ _ _ x.pages x60.1 hH hn.2 hx60.2) ⟨qar,⟨qar,trivial⟩⟩) ?_;intro i78)
 refine t10 ?_
 refine qap rfl (by ((refine qac call106 (Apply_ok x.table pr ?_ ?_) ⟨qar,⟨qar,trivial⟩⟩);all_goals (first|omega|(simp;done)|(simp;omega)|(refine Nat.le_trans (qai _ _) ?_;omega)|(refine Nat.le_trans (qai _ _) (Nat.le_trans (Nat.add_le_add_right (qai _ _) _) ?_);omega)))) ?_
 (refine qa5 86 rfl ?_;intro x86 hx86)
 refine t16 ?_
 refine qax (Bs:=[_]) (_,_,_,_) ?_ rfl results84 eXF qab (hD0:=hX.2)
 exact ⟨⟨by rw [qks];exact hH,qoh _ hln⟩,⟨(show 0≤x.seq+1 by have:=hsq.1;omega),Int.le_refl _⟩,Nat.le_trans hx86 (show x.table.length+pr.length≤x.table.length+1 by omega)⟩
theorem KeyH_ok (k:Int):FnP Tryz.prog 104 [Is (.int .i64 k)] (VEx fun r:BitVec 32=>Is (.int .u32 (UV r))):=by
 refine FnP.enter func104 ntmps104 rfl rfl ?_
 intro c hX
 refine t9 ?_
 refine qap rfl (by ((refine qac call9 (qd4 _ _ ?_ ?_) ⟨qar,⟨qar,trivial⟩⟩);all_goals (first|omega|(simp;done)|(simp;omega)|(refine Nat.le_trans (qai _ _) ?_;omega)|(refine Nat.le_trans (qai _ _) (Nat.le_trans (Nat.add_le_add_right (qai _ _) _) ?_);omega)))) ?_
 refine t3 ?_
 refine cN ?_ ?_ <;> intro h1
 ·refine t3 ?_
  refine qap rfl (by ((refine qac call9 (qd4 _ _ ?_ ?_) ⟨qar,⟨qar,trivial⟩⟩);all_goals (first|omega|(simp;done)|(simp;omega)|(refine Nat.le_trans (qai _ _) ?_;omega)|(refine Nat.le_trans (qai _ _) (Nat.le_trans (Nat.add_le_add_right (qai _ _) _) ?_);omega)))) ?_
  refine t7 ?_
  exact qci (Bs:=[_]) _ rfl results104 eXF (List.nil_sublist _) (hD0:=hX.2)
 refine t5 ?_
 refine qap rfl (by ((refine qac call9 (qd4 _ _ ?_ ?_) ⟨qar,⟨qar,trivial⟩⟩);all_goals (first|omega|(simp;done)|(simp;omega)|(refine Nat.le_trans (qai _ _) ?_;omega)|(refine Nat.le_trans (qai _ _) (Nat.le_trans (Nat.add_le_add_right (qai _ _) _) ?_);omega)))) ?_
 refine t6 ?_
 exact qci (Bs:=[_]) _ rfl results104 eXF (List.nil_sublist _) (hD0:=hX.2)
theorem qsb (a:Acn):FnP Tryz.prog 83 [IsAct a] (qek (fun r:St29=>1≤r.kind∧r.kind≤4) fun r=>qov r):=by
 refine FnP.enter func83 ntmps83 rfl rfl ?_
 intro c hX
 refine t3 ?_
 intro i1
 refine s1 ?_
 intro i2
 refine t6 ?_
 refine kRF call104 (KeyH_ok _) ?_
 (refine qf1 6 rfl ?_;intro x6)
 refine t2 ?_
 intro i3
 refine t8 ?_
 refine qap rfl (by ((refine qac call9 (qd4 _ _ ?_ ?_) ⟨qar,⟨qar,trivial⟩⟩);all_goals (first|omega|(simp;done)|(simp;omega)|(refine Nat.le_trans (qai _ _) ?_;omega)|(refine Nat.le_trans (qai _ _) (Nat.le_trans (Nat.add_le_add_right (qai _ _) _) ?_);omega)))) ?_
 refine t10 ?_
 refine qb3 [(1,_),(2,_),(3,_),(10,_)] [blk i3 _ _,blk i2 _ _,blk i1 _ _] (fun yc:Bool=>True) (fun yc=>[(12,Is (.bool yc))]) (fun yc=>[]) qah qab ?_ ?_
 rotate_left
 focus
  refine cN ?_ ?_ <;> intro h4
  ·refine s1 ?_
   exact qak _ (trivial) qah qab
  refine t6 ?_
  refine cN ?_ ?_ <;> intro h5
  ·refine s1 ?_
   exact qak _ (trivial) qah qab
  refine t6 ?_
  refine cN ?_ ?_ <;> intro h6
  ·refine s1 ?_
   exact qak _ (trivial) qah qab
  refine t6 ?_
  refine cN ?_ ?_ <;> intro h7
  ·refine s1 ?_
   exact qak _ (trivial) qah qab
  refine t6 ?_
  refine cN ?_ ?_ <;> intro h8
  ·refine s1 ?_
   exact qak _ (trivial) qah qab
  refine t6 ?_
  refine cN ?_ ?_ <;> intro h9
  ·refine s1 ?_
   exact qak _ (trivial) qah qab
  refine t4 ?_
  exact qak _ (trivial) qah qab
 rintro bb _
 refine cN ?_ ?_ <;> intro h4b
 ·refine t13 ?_
  refine qap rfl (qd6 (size:=1) (qs:=[(0,_),(1,_),(2,_)]) rfl rfl rfl rfl ⟨⟨rfl,_,(er rfl),qaf⟩,⟨⟨rfl,_,(er rfl),qaf⟩,⟨⟨rfl,_,(er rfl),qaf⟩,trivial⟩⟩⟩ rf qbo) ?_
  refine t12 ?_
  exact rXF (⟨_,_,_,_,_,_,_,_,(⟨_,_,_⟩:Co),_⟩:St29) results83 (hp:=by exact ⟨Int.le_refl 1,(by decide:(1:Int)≤4)⟩) (hD0:=hX.2)
 refine t6 ?_
 refine cN ?_ ?_ <;> intro h13
 ·refine qd2 (b:=i1) hX qae ?_
  refine qb0 1 (qdo (tAct.cells a)) rfl (SubL.fact qbp) ?_
  refine qa0 rfl (by kernel_rfl) ?_
  refine qgl (its:=[]) ?_
  refine f1 0 ?_
  refine f1 1 ?_
  refine qkf 2 rfl (by kernel_rfl) (by ((refine qac call9 (qd4 _ _ ?_ ?_) ⟨qar,⟨qar,trivial⟩⟩);all_goals (first|omega|(simp;done)|(simp;omega)|(refine Nat.le_trans (qai _ _) ?_;omega)|(refine Nat.le_trans (qai _ _) (Nat.le_trans (Nat.add_le_add_right (qai _ _) _) ?_);omega)))) ?_
  refine qhq 3 rfl (by kernel_rfl) (fun _=>(by exact qa1 (k:=3) (er rfl) rfl rfl rfl rfl qbo)) ?_
  refine qhq 4 rfl (by kernel_rfl) (fun _=>(by exact qbw (er rfl) rfl rfl rfl)) ?_
  refine f1 5 ?_
  refine qfi 6 [0,1,2,5,6] rfl (by kernel_rfl) (fun c'=>by exact qa9 (er rfl) (er rfl) qaf qae rf rf rf) ?_
  refine f1 7 ?_
  refine qfi 8 [0,1,2,5,6,7,8] rfl (by kernel_rfl) (fun c'=>by exact qa9 (er rfl) (er rfl) qaf qae rf rf rf) ?_
  refine f1 9 ?_
  refine qfi 10 [0,1,2,3,4,5,6,7,8,9,10] rfl (by kernel_rfl) (fun c'=>by exact qa9 (er rfl) (er rfl) qaf qae rf rf rf) ?_
  refine qeq (by kernel_rfl) rfl ?_
  show JQ _ _ _ _ _ _
  refine t9 ?_
  exact rXF (⟨_,_,_,_,_,_,_,_,(⟨_,_,_⟩:Co),_⟩:St29) results83 (hp:=by exact ⟨(by decide:(1:Int)≤2),(by decide:(2:Int)≤4)⟩) (hD0:=hX.2)
 refine t6 ?_
 refine cN ?_ ?_ <;> intro h15
 ·refine qd2 (b:=i1) hX qae ?_
  refine qb0 1 (qdo (tAct.cells a)) rfl (SubL.fact qbp) ?_
  refine qa0 rfl (by kernel_rfl) ?_
  refine qgl (its:=[]) ?_
  refine f1 0 ?_
  refine f1 1 ?_
  refine qkf 2 rfl (by kernel_rfl) (by ((refine qac call9 (qd4 _ _ ?_ ?_) ⟨qar,⟨qar,trivial⟩⟩);all_goals (first|omega|(simp;done)|(simp;omega)|(refine Nat.le_trans (qai _ _) ?_;omega)|(refine Nat.le_trans (qai _ _) (Nat.le_trans (Nat.add_le_add_right (qai _ _) _) ?_);omega)))) ?_
  refine f1 3 ?_
  refine f1 4 ?_
  refine qkf 5 rfl (by kernel_rfl) (by ((refine qac call9 (qd4 _ _ ?_ ?_) ⟨qar,⟨qar,trivial⟩⟩);all_goals (first|omega|(simp;done)|(simp;omega)|(refine Nat.le_trans (qai _ _) ?_;omega)|(refine Nat.le_trans (qai _ _) (Nat.le_trans (Nat.add_le_add_right (qai _ _) _) ?_);omega)))) ?_
  refine f1 6 ?_
  refine qfi 7 [0,1,2,3,4,5,6,7] rfl (by kernel_rfl) (fun c'=>by exact qa9 (er rfl) (er rfl) qaf qae rf rf rf) ?_
  refine f1 8 ?_
  refine qfi 9 [0,1,2,3,4,5,6,7,8,9] rfl (by kernel_rfl) (fun c'=>by exact qa9 (er rfl) (er rfl) qaf qae rf rf rf) ?_
  refine f1 10 ?_
  refine qfi 11 [0,1,2,3,4,5,6,7,8,9,10,11] rfl (by kernel_rfl) (fun c'=>by exact qa9 (er rfl) (er rfl) qaf qae rf rf rf) ?_
  refine qeq (by kernel_rfl) rfl ?_
  show JQ _ _ _ _ _ _
  refine t9 ?_
  exact rXF (⟨_,_,_,_,_,_,_,_,(⟨_,_,_⟩:Co),_⟩:St29) results83 (hp:=by exact ⟨(by decide:(1:Int)≤3),(by decide:(3:Int)≤4)⟩) (hD0:=hX.2)
 refine t13 ?_
 exact rXF (⟨_,_,_,_,_,_,_,_,(⟨_,_,_⟩:Co),_⟩:St29) results83 (hp:=by exact ⟨(by decide:(1:Int)≤4),Int.le_refl 4⟩) (hD0:=hX.2)
end Go.Proofs.YtmgoplaamlignaaGreat
