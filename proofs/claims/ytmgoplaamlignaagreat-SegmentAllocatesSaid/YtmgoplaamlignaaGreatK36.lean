/- Texts laid together: walks of functions, what they compute, and plain laws of it. Own work. -/
import Derived.Test.YtmgoplaamlignaaGreatK32
import Derived.Test.YtmgoplaamlignaaGreatK1
namespace Go.Proofs.YtmgoplaamlignaaGreat
open Go.RowKit Tryz
set_option linter.unusedVariables false
set_option linter.unusedSimpArgs false
set_option maxRecDepth 100000
set_option maxHeartbeats 4000000
theorem low32 (h:BitVec 32) {d:Int} (hd:0≤d∧d≤5):∃ i:Nat,UV (lowV h d)=(i:Int)∧i<32:=by
 refine ⟨(lowV h d).toNat,rfl,?_⟩
 rw [qvk h (by omega)]
 have h1:(2:Nat) ^ d.toNat≤2 ^ 5:=Nat.pow_le_pow_right (by omega) (by omega)
 have h2:=Nat.mod_lt h.toNat (show 0<(2:Nat) ^ d.toNat from Nat.pow_pos (by omega))
 omega
theorem qU8 {n:Int} (i:Nat) (h:i<1000) (e:n=(i:Int)):IntKind.u32.wrap (n.tdiv 8)=((i / 8:Nat):Int):=by
 rw [e,Int.tdiv_eq_ediv_of_nonneg (by omega),wU32 (by omega)];omega
theorem rU8 {n:Int} (i:Nat) (e:n=(i:Int)):n.tmod 8=((i % 8:Nat):Int):=by
 rw [e,Int.tmod_eq_emod_of_nonneg (by omega)];omega
theorem qu4 (h:BitVec 32) (ks:List Pg):FnF Tryz.prog 208 [Is (.int .u32 (UV h)),qal tPg ks] (fun B=>qek PS23 fun r=>qqh B r):=by
 refine FnF.enter func208 ntmps208 rfl rfl ?_
 intro c hX
 refine t3 ?_
 intro i4
 refine t5 ?_
 refine kRF call217 (qsz _) ?_
 (refine qa5 21 rfl ?_;intro x21 hx21)
 refine t6 ?_
 intro i5
 refine s1 ?_
 intro i6
 refine t8 ?_
 obtain ⟨hn1,hdp⟩:=hx21
 refine t6 ?_
 refine cN ?_ ?_ <;> intro h2
 ·refine t9 ?_
  exact rXF (⟨_,_,(⟨_,_,_,_,_,_,(⟨_,_⟩:Pt),_,_,_⟩:O23),_⟩:S23) results208 (hp:=by exact ⟨by exact wl0,by exact hn1,by exact Nat.zero_le _⟩)
 refine t9 ?_
 refine cN ?_ ?_ <;> intro h4
 ·refine t4 ?_
  refine kXF call207 (qbm c.w.heap.size (⟨_,_,_,_,_,_,(⟨_,_⟩:Pt),_,_,_⟩:O23) _) ?_
  refine t5 ?_
  exact rXF (⟨_,_,(⟨_,_,_,_,_,_,(⟨_,_⟩:Pt),_,_,_⟩:O23),_⟩:S23) results208 (hp:=by exact ⟨by exact wl0,by exact Nat.zero_le _,by exact Nat.zero_le _⟩)
 refine t8 ?_
 refine qap rfl (qdc (er rfl) (er rfl)) ?_
 refine t2 ?_
 refine cN ?_ ?_ <;> intro h6
 ·refine t3 ?_
  refine kXF call207 (qbm c.w.heap.size (⟨_,_,_,_,_,_,(⟨_,_⟩:Pt),_,_,_⟩:O23) _) ?_
  refine t5 ?_
  exact rXF (⟨_,_,(⟨_,_,_,_,_,_,(⟨_,_⟩:Pt),_,_,_⟩:O23),_⟩:S23) results208 (hp:=by exact ⟨by exact wl0,by exact Nat.zero_le _,by exact Nat.zero_le _⟩)
 obtain ⟨i,hi,hi32⟩:=low32 h hdp
 have hq4:i / 8<4:=by omega
 have hm8:i % 8<8:=by omega
 refine t7 ?_
 refine qap rfl (by ((refine qac call218 (ql9 _ _ ?_) ⟨qar,⟨qar,trivial⟩⟩);all_goals (omega))) ?_
 refine t7 ?_
 refine kRF call172 (qkz _ _) ?_
 (refine qa5 48 rfl ?_;intro x48 hx48)
 refine s1 ?_
 intro i10
 refine t5 ?_
 obtain ⟨hpn,hpb,hpc,hpg⟩:=hx48
 refine t7 ?_
 refine cN ?_ ?_ <;> intro h10
 ·refine t10 ?_
  exact rXF (⟨_,_,(⟨_,_,_,_,_,_,(⟨_,_⟩:Pt),_,_,_⟩:O23),_⟩:S23) results208 (hp:=by exact ⟨by exact wl0,by exact hpn,by exact Nat.zero_le _⟩)
 refine t11 ?_
 refine cN ?_ ?_ <;> intro h12
 ·refine t7 ?_
  refine kXF call207 (qbm c.w.heap.size (⟨_,_,_,_,_,_,(⟨_,_⟩:Pt),_,_,_⟩:O23) _) ?_
  refine t5 ?_
  exact rXF (⟨_,_,(⟨_,_,_,_,_,_,(⟨_,_⟩:Pt),_,_,_⟩:O23),_⟩:S23) results208 (hp:=by exact ⟨by exact wl0,by exact Nat.zero_le _,by exact hpc⟩)
 refine t6 ?_
 refine qap rfl (qi3 (er rfl) (er rfl) (by omega) (qU8 i (by omega) hi)) ?_
 refine s1 ?_
 refine qap rfl (qan (k:=i / 8) (sz:=2) (er rfl) (er rfl) rfl rfl rfl hq4) ?_
 refine qap rfl (qbs (n:=2) (er rfl) qbp rf rf rf (qs3 _ hq4) (qwk _ hq4)) ?_
 refine kRF call167 (qhp _ _ _ _) ?_
 refine t5 ?_
 intro i11
 refine t12 ?_
 refine cN ?_ ?_ <;> intro h15
 ·refine t5 ?_
  refine kXF call207 (qbm c.w.heap.size (⟨_,_,_,_,_,_,(⟨_,_⟩:Pt),_,_,_⟩:O23) _) ?_
  refine t5 ?_
  exact rXF (⟨_,_,(⟨_,_,_,_,_,_,(⟨_,_⟩:Pt),_,_,_⟩:O23),_⟩:S23) results208 (hp:=by exact ⟨by exact wl0,by exact Nat.zero_le _,by exact hpc⟩)
 refine t9 ?_
 refine cN ?_ ?_ <;> intro h17
 ·refine t3 ?_
  refine qap rfl (qi3 (er rfl) (er rfl) (by omega) (qU8 i (by omega) hi)) ?_
  refine s1 ?_
  refine qap rfl (qan (k:=i / 8) (sz:=2) (er rfl) (er rfl) rfl rfl rfl hq4) ?_
  refine s1 ?_
  refine qap rfl (qif (er rfl) qbp rf rf (qu8 _ hq4)) ?_
  refine qap rfl (OpP.to (qad (size:=1) (qs:=[(0,_)]) rfl rfl rfl ⟨⟨rfl,_,(er rfl),qaf⟩,trivial⟩ rf rf) (SubL.row1 (T:=tI64) (x:=_) rf rf rf qaj)) ?_
  refine t6 ?_
  exact rXF (⟨_,_,(⟨_,_,_,_,_,_,(⟨_,_⟩:Pt),_,_,_⟩:O23),_⟩:S23) results208 (hp:=by exact ⟨by exact wl0,by exact Nat.le_refl 1,by exact Nat.zero_le _⟩)
 refine t5 ?_
 refine kRF call219 (qgu _) ?_
 (refine qf1 95 rfl ?_;intro x95)
 refine t4 ?_
 intro i14
 refine t11 ?_
 refine cN ?_ ?_ <;> intro h20
 ·refine t4 ?_
  refine kXF call207 (qbm c.w.heap.size (⟨_,_,_,_,_,_,(⟨_,_⟩:Pt),_,_,_⟩:O23) _) ?_
  refine t5 ?_
  exact rXF (⟨_,_,(⟨_,_,_,_,_,_,(⟨_,_⟩:Pt),_,_,_⟩:O23),_⟩:S23) results208 (hp:=by exact ⟨by exact wl0,by exact Nat.zero_le _,by exact hpc⟩)
 refine t7 ?_
 intro i16
 refine t5 ?_
 refine qa0 rfl (by kernel_rfl) ?_
 refine qag 8 (by kernel_rfl) ?_
 refine s1 ?_
 refine qbc (qkb (er rfl) (er rfl) (by omega) (rU8 i hi)) ?_
 refine qbc (qan (k:=i % 8) (sz:=2) (er rfl) (er rfl) rfl rfl rfl hm8) ?_
 refine qbc (qbs (n:=2) (er rfl) qbp rf rf rf (qpl _ hm8) (qwa _ hm8)) ?_
 refine t2 ?_
 refine qbc (qac call184 (qhg _) ⟨qar,trivial⟩) ?_
 refine qbc (qdc (er rfl) (er rfl)) ?_
 refine ⟨rfl,?_⟩
 refine qat ?_
 refine s1 ?_
 refine cN ?_ ?_ <;> intro h23
 ·refine t15 ?_
  exact rXF (⟨_,_,(⟨_,_,_,_,_,_,(⟨_,_⟩:Pt),_,_,_⟩:O23),_⟩:S23) results208 (hp:=by exact ⟨by exact wl0,by exact Nat.zero_le _,by exact hpc⟩)
 refine t5 ?_
 refine qap rfl (qkb (er rfl) (er rfl) (by omega) (rU8 i hi)) ?_
 refine t2 ?_
 refine kRF call184 (qhg _) ?_
 refine qap rfl (qan (k:=i % 8) (sz:=2) (er rfl) (er rfl) rfl rfl rfl hm8) ?_
 refine qk0 (qav (Rs:=tS8.cells (setSl x95.1 (i % 8) (atR x48.page))) (er rfl) (er rfl) qaf qae (sl_set _ _ hm8) rf rf (qpl _ hm8)) ?_
 refine t6 ?_
 refine qap rfl (by ((refine qac call227 (qf5 _ (⟨(⟨_,_⟩:Pt),(⟨_,_⟩:Pt),(⟨_,_⟩:Pt),(⟨_,_⟩:Pt),(⟨_,_⟩:Pt),(⟨_,_⟩:Pt),(⟨_,_⟩:Pt),(⟨_,_⟩:Pt)⟩:S8) ?_) ⟨qbb,⟨qbb,trivial⟩⟩);all_goals (first|first|assumption|exact qe7 _ _ _ _|exact qdd _ ⟨by decide,by decide⟩))) ?_
 refine t4 ?_
 intro i17
 refine t5 ?_
 refine qcw (b:=i17) (fun _=>qae) ?_
 intro p17 hln17
 refine t8 ?_
 refine qap rfl (OpP.fr (qa2 (size:=9) (qs:=[(0,_)]) rfl rfl rfl ⟨⟨rfl,_,(er rfl),qaf⟩,trivial⟩ rf rf) qcf (SubL.row1 (T:=tPg) (x:=(⟨_,_,_,_,_,_,_,_,_⟩:Pg)) rf rf rf qaj)) ?_
 refine t6 ?_
 exact rXF (⟨_,_,(⟨_,_,_,_,_,_,(⟨_,_⟩:Pt),_,_,_⟩:O23),_⟩:S23) results208 (hp:=by exact ⟨by exact wl1 (by assumption),by exact Nat.zero_le _,by exact hpc⟩)
theorem zb0 (fr ks:List Pg):FnF Tryz.prog 209 [qal tPg fr,qal tPg ks] (fun B=>qek PS23 fun r=>qqh B r):=by
 refine FnF.enter func209 ntmps209 rfl rfl ?_
 intro c hX
 refine t3 ?_
 intro i4
 refine t5 ?_
 refine kRF call19 (qbu _ _) ?_
 refine t4 ?_
 intro i5
 refine t11 ?_
 refine cN ?_ ?_ <;> intro h2
 ·refine t2 ?_
  refine qap rfl (OpP.to (qad (size:=1) (qs:=[(0,_)]) rfl rfl rfl ⟨⟨rfl,_,(er rfl),qaf⟩,trivial⟩ rf rf) (SubL.row1 (T:=tI64) (x:=_) rf rf rf qaj)) ?_
  refine t6 ?_
  exact rXF (⟨_,_,(⟨_,_,_,_,_,_,(⟨_,_⟩:Pt),_,_,_⟩:O23),_⟩:S23) results209 (hp:=by exact ⟨by exact wl0,by exact Nat.le_refl 1,Nat.zero_le _⟩)
 refine t6 ?_
 refine kRF call49 (qb5 _) ?_
 refine t2 ?_
 refine cN ?_ ?_ <;> intro h4
 ·refine t3 ?_
  refine kXF call207 (qbm c.w.heap.size (⟨_,_,_,_,_,_,(⟨_,_⟩:Pt),_,_,_⟩:O23) _) ?_
  refine t5 ?_
  exact rXF (⟨_,_,(⟨_,_,_,_,_,_,(⟨_,_⟩:Pt),_,_,_⟩:O23),_⟩:S23) results209 (hp:=by exact ⟨by exact wl0,by exact Nat.zero_le _,Nat.zero_le _⟩)
 refine t5 ?_
 refine kRF call171 (qjj _) ?_
 (refine qa5 49 rfl ?_;intro x49 hx49)
 refine t4 ?_
 intro i7
 refine t6 ?_
 obtain ⟨hd0,hd5⟩:=hx49
 refine t5 ?_
 refine cN ?_ ?_ <;> intro h7
 ·refine t3 ?_
  refine kXF call207 (qbm c.w.heap.size (⟨_,_,_,_,_,_,(⟨_,_⟩:Pt),_,_,_⟩:O23) _) ?_
  refine t5 ?_
  exact rXF (⟨_,_,(⟨_,_,_,_,_,_,(⟨_,_⟩:Pt),_,_,_⟩:O23),_⟩:S23) results209 (hp:=by exact ⟨by exact wl0,by exact Nat.zero_le _,Nat.zero_le _⟩)
 refine t8 ?_
 refine qap rfl (qdc (er rfl) (er rfl)) ?_
 refine t2 ?_
 refine cN ?_ ?_ <;> intro h9
 ·refine t3 ?_
  refine kXF call207 (qbm c.w.heap.size (⟨_,_,_,_,_,_,(⟨_,_⟩:Pt),_,_,_⟩:O23) _) ?_
  refine t5 ?_
  exact rXF (⟨_,_,(⟨_,_,_,_,_,_,(⟨_,_⟩:Pt),_,_,_⟩:O23),_⟩:S23) results209 (hp:=by exact ⟨by exact wl0,by exact Nat.zero_le _,Nat.zero_le _⟩)
 refine t10 ?_
 refine cN ?_ ?_ <;> intro h11
 ·refine t3 ?_
  refine kXF call207 (qbm c.w.heap.size (⟨_,_,_,_,_,_,(⟨_,_⟩:Pt),_,_,_⟩:O23) _) ?_
  refine t5 ?_
  exact rXF (⟨_,_,(⟨_,_,_,_,_,_,(⟨_,_⟩:Pt),_,_,_⟩:O23),_⟩:S23) results209 (hp:=by exact ⟨by exact wl0,by exact Nat.zero_le _,Nat.zero_le _⟩)
 have hd55:x49.1.depth≠5:=by simpa using h11
 have hd4:x49.1.depth≤4:=by omega
 clear h11
 refine t10 ?_
 refine cN ?_ ?_ <;> intro h13
 ·have hd2:x49.1.depth≤2:=by have:=of_decide_eq_true h13;omega
  have h24:(2:Nat) ^ x49.1.depth.toNat≤2 ^ 2:=Nat.pow_le_pow_right (by omega) (by omega)
  obtain ⟨m,hm⟩:∃ m,(2:Nat) ^ x49.1.depth.toNat=m:=⟨_,rfl⟩
  have hm4:m≤4:=by omega
  have hsh:=shI x49.1.depth (by omega)
  rw [hm] at hsh
  clear h13 h24
  refine t6 ?_
  refine kRF call167 (qhp _ _ _ _) ?_
  refine t5 ?_
  intro i9
  refine t12 ?_
  refine cN ?_ ?_ <;> intro h15
  ·refine t4 ?_
   refine kXF call207 (qbm c.w.heap.size (⟨_,_,_,_,_,_,(⟨_,_⟩:Pt),_,_,_⟩:O23) _) ?_
   refine t6 ?_
   exact rXF (⟨_,_,(⟨_,_,_,_,_,_,(⟨_,_⟩:Pt),_,_,_⟩:O23),_⟩:S23) results209 (hp:=by exact ⟨by exact wl0,by exact Nat.zero_le _,Nat.zero_le _⟩)
  refine t9 ?_
  refine cN ?_ ?_ <;> intro h17
  ·refine t6 ?_
   refine qap rfl (OpP.to (qad (size:=1) (qs:=[(0,_)]) rfl rfl rfl ⟨⟨rfl,_,(er rfl),qaf⟩,trivial⟩ rf rf) (SubL.row1 (T:=tI64) (x:=_) rf rf rf qaj)) ?_
   refine t7 ?_
   exact rXF (⟨_,_,(⟨_,_,_,_,_,_,(⟨_,_⟩:Pt),_,_,_⟩:O23),_⟩:S23) results209 (hp:=by exact ⟨by exact wl0,by exact Nat.le_refl 1,Nat.zero_le _⟩)
  refine t5 ?_
  refine kRF call219 (qgu _) ?_
  (refine qf1 94 rfl ?_;intro x94)
  refine t4 ?_
  intro i12
  refine t11 ?_
  refine cN ?_ ?_ <;> intro h20
  ·refine t3 ?_
   refine kXF call207 (qbm c.w.heap.size (⟨_,_,_,_,_,_,(⟨_,_⟩:Pt),_,_,_⟩:O23) _) ?_
   refine t6 ?_
   exact rXF (⟨_,_,(⟨_,_,_,_,_,_,(⟨_,_⟩:Pt),_,_,_⟩:O23),_⟩:S23) results209 (hp:=by exact ⟨by exact wl0,by exact Nat.zero_le _,Nat.zero_le _⟩)
  refine t9 ?_
  refine qbq (b:=i12) (As':=tS8.cells (⟨(⟨_,_⟩:Pt),(⟨_,_⟩:Pt),(⟨_,_⟩:Pt),(⟨_,_⟩:Pt),(⟨_,_⟩:Pt),(⟨_,_⟩:Pt),(⟨_,_⟩:Pt),(⟨_,_⟩:Pt)⟩:S8)) qae qba ?_
  refine qaz [(0,_),(1,_),(4,_),(5,_),(7,_),(9,_),(12,_)] [blk i9 _ _,blk i7 _ _,blk i5 _ _,blk i4 _ _] (fun y:Nat×S8=>y.1≤m) (fun y=>[(14,Is (.int .i64 (y.1:Nat)))]) (fun y=>[blk i12 351 (tS8.cells y.2)]) (fun y=>m-y.1) (0,(⟨(⟨_,_⟩:Pt),(⟨_,_⟩:Pt),(⟨_,_⟩:Pt),(⟨_,_⟩:Pt),(⟨_,_⟩:Pt),(⟨_,_⟩:Pt),(⟨_,_⟩:Pt),(⟨_,_⟩:Pt)⟩:S8)) (Nat.zero_le _) qah qab ?_
  rintro ⟨k,s⟩ hk
  dsimp only at hk ⊢
  refine t7 ?_
  refine qap rfl (qpq (er rfl) (er rfl) (by omega) hsh) ?_
  refine t3 ?_
  refine cN ?_ ?_ <;> intro h23
  ·have hlt:k<m:=by have:=of_decide_eq_true h23;omega
   clear h23
   have hk8:k<8:=by omega
   have hkm:k+m<8:=by omega
   refine t4 ?_
   refine qa0 rfl (by kernel_rfl) ?_
   refine qag 10 (by kernel_rfl) ?_
   refine t4 ?_
   refine qbc (qpq (er rfl) (er rfl) (by omega) hsh) ?_
   refine qbc (qft (er rfl) (er rfl) (r:=((k+m:Nat):Int)) (qo3 (by omega))) ?_
   refine s1 ?_
   refine qbc (qan (k:=k) (sz:=2) (er rfl) (er rfl) rfl rfl rfl hk8) ?_
   refine qbc (qbs (n:=2) (er rfl) qbp rf rf rf (qpl _ hk8) (qwa _ hk8)) ?_
   refine qbc (qan (k:=k+m) (sz:=2) (er rfl) (er rfl) rfl rfl rfl hkm) ?_
   refine ⟨rfl,?_⟩
   refine qef (by kernel_rfl) rfl (qav (Rs:=tS8.cells (setSl s (k+m) (slAt s k))) (er rfl) (er rfl) qaf qae (sl_set _ _ hkm) rf rf (qpl _ hkm)) ?_
   refine qat ?_
   refine t7 ?_
   refine qam (b:=i12) (As':=tS8.cells (⟨(⟨_,_⟩:Pt),(⟨_,_⟩:Pt),(⟨_,_⟩:Pt),(⟨_,_⟩:Pt),(⟨_,_⟩:Pt),(⟨_,_⟩:Pt),(⟨_,_⟩:Pt),(⟨_,_⟩:Pt)⟩:S8)) qae qba ?_
   refine qaa (k+1,(⟨(⟨_,_⟩:Pt),(⟨_,_⟩:Pt),(⟨_,_⟩:Pt),(⟨_,_⟩:Pt),(⟨_,_⟩:Pt),(⟨_,_⟩:Pt),(⟨_,_⟩:Pt),(⟨_,_⟩:Pt)⟩:S8)) ?_ ?_ qah qab
   ·exact (by omega)
   ·exact (by omega)
  have hke:k=m:=by have:=of_decide_eq_false h23;omega
  clear h23
  subst hke
  refine t18 ?_
  refine qap rfl (by ((refine qac call227 (qf5 _ (⟨(⟨_,_⟩:Pt),(⟨_,_⟩:Pt),(⟨_,_⟩:Pt),(⟨_,_⟩:Pt),(⟨_,_⟩:Pt),(⟨_,_⟩:Pt),(⟨_,_⟩:Pt),(⟨_,_⟩:Pt)⟩:S8) ?_) ⟨qbb,⟨qbb,trivial⟩⟩);all_goals (first|first|assumption|exact qe7 _ _ _ _|exact qdd _ ⟨by decide,by decide⟩))) ?_
  refine t4 ?_
  intro i15
  refine t5 ?_
  refine qcw (b:=i15) (fun _=>qae) ?_
  intro p15 hln15
  refine t3 ?_
  refine qap rfl (by ((refine qac call228 (qgt _ (⟨(⟨_,_⟩:Pt),_,(⟨_,_⟩:Pt),(⟨_,_⟩:Pt),(⟨_,_⟩:Pt),(⟨_,_⟩:Pt)⟩:Rt) ?_) ⟨qbb,⟨qbb,trivial⟩⟩);all_goals (exact qdd _ ⟨by decide,by decide⟩))) ?_
  refine t4 ?_
  intro i17
  refine t5 ?_
  refine qcw (b:=i17) (fun _=>qae) ?_
  intro p17 hln17
  refine t3 ?_
  refine qap rfl (OpP.fr (qa2 (size:=9) (qs:=[(0,_),(1,_)]) rfl rfl rfl ⟨⟨rfl,_,(er rfl),qaf⟩,⟨⟨rfl,_,(er rfl),qaf⟩,trivial⟩⟩ rf rf) qcf (SubL.row2 (T:=tPg) (x:=(⟨_,_,_,_,_,_,_,_,_⟩:Pg)) (y:=(⟨_,_,_,_,_,_,_,_,_⟩:Pg)) rf rf rf rf qaj qaj)) ?_
  refine qap rfl (by ((refine qaw call52 (qcc _ _ ?_) ⟨qar,⟨qar,trivial⟩⟩);all_goals ((simp;done)))) ?_
  refine t7 ?_
  exact rXF (⟨_,_,(⟨_,_,_,_,_,_,(⟨_,_⟩:Pt),_,_,_⟩:O23),_⟩:S23) results209 (hp:=by exact ⟨by exact qgf (n:=0) wl0 (wl2 (n:=0) (by assumption) (by assumption)) (by decide),by exact Nat.zero_le _,Nat.zero_le _⟩)
 have hd3:3≤x49.1.depth:=by have:=of_decide_eq_false h13;omega
 obtain ⟨m,hm,hm1,hm2⟩:∃ m:Nat,qwq x49.1.depth=(m:Int)∧1≤m∧m≤2:=by
  unfold qwq
  split
  ·exact ⟨1,rfl,by omega,by omega⟩
  ·rw [if_pos (by omega)];exact ⟨2,rfl,by omega,by omega⟩
 clear h13
 refine t6 ?_
 refine qap rfl (by ((refine qac call229 (qwp _ ?_) ⟨qar,trivial⟩);all_goals (omega))) ?_
 refine t5 ?_
 refine qb0 19 (Is (.int .i64 (m:Nat))) rfl (SubL.eq (by rw [hm])) ?_
 refine t6 ?_
 refine qaz [(0,_),(1,_),(4,_),(5,_),(7,_),(19,_)] [blk i7 _ _,blk i5 _ _,blk i4 _ _] (fun kb:Nat=>kb≤(m+m)∧(m≤kb)) (fun kb=>[(20,Is (.int .i64 (kb:Nat)))]) (fun kb=>[]) (fun kb=>(m+m)-kb) m ⟨by omega,Nat.le_refl m⟩ qah qab ?_
 rintro kb ⟨hkb,hIb⟩
 refine t5 ?_
 refine qap rfl (qs7 (er rfl) (er rfl) (r:=((m+m:Nat):Int)) (by rw [qo3 (by omega)];omega)) ?_
 refine t3 ?_
 refine cN ?_ ?_ <;> intro h32
 ·have hltb:kb<(m+m):=by have:=of_decide_eq_true h32;omega
  clear h32
  have hk4:kb<4:=by omega
  have hkm:kb-m<4:=by omega
  refine t9 ?_
  refine qap rfl (qan (k:=kb) (sz:=2) (er rfl) (er rfl) rfl rfl rfl hk4) ?_
  refine qap rfl (qbs (n:=2) (er rfl) qbp rf rf rf (qs3 _ hk4) (qwk _ hk4)) ?_
  refine s1 ?_
  refine qap rfl (qhc (er rfl) (er rfl)) ?_
  refine t2 ?_
  refine cN ?_ ?_ <;> intro h34
  ·refine t9 ?_
   exact qaa (kb+1) ⟨by omega,by omega⟩ (by omega) qah qab
  refine t7 ?_
  refine qap rfl (qip (er rfl) (er rfl) (r:=((kb-m:Nat):Int)) (by rw [qo3 (by omega)];omega)) ?_
  refine s1 ?_
  refine qap rfl (qan (k:=kb-m) (sz:=2) (er rfl) (er rfl) rfl rfl rfl hkm) ?_
  refine qap rfl (qbs (n:=2) (er rfl) qbp rf rf rf (qs3 _ hkm) (qwk _ hkm)) ?_
  refine kRF call167 (qhp _ _ _ _) ?_
  refine t5 ?_
  intro i21
  refine t12 ?_
  refine cN ?_ ?_ <;> intro h36
  ·refine t4 ?_
   refine kXF call207 (qbm c.w.heap.size (⟨_,_,_,_,_,_,(⟨_,_⟩:Pt),_,_,_⟩:O23) _) ?_
   refine t10 ?_
   exact rXF (⟨_,_,(⟨_,_,_,_,_,_,(⟨_,_⟩:Pt),_,_,_⟩:O23),_⟩:S23) results209 (hp:=by exact ⟨by exact wl0,by exact Nat.zero_le _,Nat.zero_le _⟩)
  refine t9 ?_
  refine cN ?_ ?_ <;> intro h38
  ·refine t4 ?_
   refine qap rfl (qip (er rfl) (er rfl) (r:=((kb-m:Nat):Int)) (by rw [qo3 (by omega)];omega)) ?_
   refine s1 ?_
   refine qap rfl (qan (k:=kb-m) (sz:=2) (er rfl) (er rfl) rfl rfl rfl hkm) ?_
   refine s1 ?_
   refine qap rfl (qif (er rfl) qbp rf rf (qu8 _ hkm)) ?_
   refine qap rfl (OpP.to (qad (size:=1) (qs:=[(0,_)]) rfl rfl rfl ⟨⟨rfl,_,(er rfl),qaf⟩,trivial⟩ rf rf) (SubL.row1 (T:=tI64) (x:=_) rf rf rf qaj)) ?_
   refine t11 ?_
   exact rXF (⟨_,_,(⟨_,_,_,_,_,_,(⟨_,_⟩:Pt),_,_,_⟩:O23),_⟩:S23) results209 (hp:=by exact ⟨by exact wl0,by exact Nat.le_refl 1,Nat.zero_le _⟩)
  refine t5 ?_
  refine kRF call219 (qgu _) ?_
  (refine qf1 187 rfl ?_;intro x187)
  refine t4 ?_
  intro i24
  refine t11 ?_
  refine cN ?_ ?_ <;> intro h41
  ·refine t3 ?_
   refine kXF call207 (qbm c.w.heap.size (⟨_,_,_,_,_,_,(⟨_,_⟩:Pt),_,_,_⟩:O23) _) ?_
   refine t10 ?_
   exact rXF (⟨_,_,(⟨_,_,_,_,_,_,(⟨_,_⟩:Pt),_,_,_⟩:O23),_⟩:S23) results209 (hp:=by exact ⟨by exact wl0,by exact Nat.zero_le _,Nat.zero_le _⟩)
  refine t5 ?_
  refine qap rfl (OpP.to (qad (size:=1) (qs:=[(0,_)]) rfl rfl rfl ⟨⟨rfl,_,(er rfl),qaf⟩,trivial⟩ rf rf) (SubL.row1 (T:=tI64) (x:=_) rf rf rf qaj)) ?_
  refine qap rfl (OpP.to (qad (size:=1) (qs:=[(0,_)]) rfl rfl rfl ⟨⟨rfl,_,(er rfl),qaf⟩,trivial⟩ rf rf) (SubL.row1 (T:=tI64) (x:=_) rf rf rf qaj)) ?_
  refine qap rfl (by ((refine qac call224 (qqc _ [3] [96] ?_ ?_) ⟨qar,⟨qar,⟨qar,trivial⟩⟩⟩);all_goals (decide))) ?_
  (refine qa5 198 rfl ?_;intro x198 hx198)
  refine t14 ?_
  refine cN ?_ ?_ <;> intro h44
  ·refine t4 ?_
   refine kXF call207 (qbm c.w.heap.size (⟨_,_,_,_,_,_,(⟨_,_⟩:Pt),_,_,_⟩:O23) _) ?_
   refine t10 ?_
   exact rXF (⟨_,_,(⟨_,_,_,_,_,_,(⟨_,_⟩:Pt),_,_,_⟩:O23),_⟩:S23) results209 (hp:=by exact ⟨by exact wl0,by exact Nat.zero_le _,Nat.zero_le _⟩)
  refine t9 ?_
  refine cN ?_ ?_ <;> intro h46
  ·refine t4 ?_
   refine kXF call207 (qbm c.w.heap.size (⟨_,_,_,_,_,_,(⟨_,_⟩:Pt),_,_,_⟩:O23) _) ?_
   refine t10 ?_
   exact rXF (⟨_,_,(⟨_,_,_,_,_,_,(⟨_,_⟩:Pt),_,_,_⟩:O23),_⟩:S23) results209 (hp:=by exact ⟨by exact wl0,by exact Nat.zero_le _,Nat.zero_le _⟩)
  obtain ⟨hlu,hlv⟩:=hx198 (by simpa using h46)
  obtain ⟨pa,hza⟩:=qtc hlu
  have hla:Ln pa:=hlv _ (List.mem_of_getElem? hza)
  refine t6 ?_
  refine qap rfl (by exact qau (j:=0) (er rfl) (er rfl) rfl rfl rf hza) ?_
  refine s1 ?_
  refine kRF call184 (qhg _) ?_
  refine s1 ?_
  refine qap rfl (qan (k:=kb) (sz:=2) (er rfl) (er rfl) rfl rfl rfl hk4) ?_
  refine qk0 (qav (Rs:=tRt.cells (setPg x49.1 kb (atR pa))) (er rfl) (er rfl) qaf qae (pg_set _ _ hk4) rf rf (qs3 _ hk4)) ?_
  refine t3 ?_
  refine qa0 rfl (by kernel_rfl) ?_
  refine qag 11 (by kernel_rfl) ?_
  refine s1 ?_
  refine qbc (by exact qau (j:=0) (er rfl) (er rfl) rfl rfl rf hza) ?_
  refine t2 ?_
  refine qbc (by ((refine qac call227 (qf5 _ (⟨(⟨_,_⟩:Pt),(⟨_,_⟩:Pt),(⟨_,_⟩:Pt),(⟨_,_⟩:Pt),(⟨_,_⟩:Pt),(⟨_,_⟩:Pt),(⟨_,_⟩:Pt),(⟨_,_⟩:Pt)⟩:S8) ?_) ⟨qbb,⟨qbb,trivial⟩⟩);all_goals (first|first|assumption|exact qe7 _ _ _ _|exact qdd _ ⟨by decide,by decide⟩))) ?_
  refine t3 ?_
  refine qka (qbi rfl qbo rfl) ?_
  refine qcp rfl rfl rfl (by kernel_rfl) (qbz qar qaf rfl rfl rfl qbo) ?_
  refine s1 ?_
  refine ⟨rfl,?_⟩
  intro i28
  refine qat ?_
  refine t2 ?_
  refine qcw (b:=i28) (fun _=>qae) ?_
  intro p28 hln28
  refine t3 ?_
  refine qap rfl (by ((refine qac call228 (qgt _ (⟨(⟨_,_⟩:Pt),_,(⟨_,_⟩:Pt),(⟨_,_⟩:Pt),(⟨_,_⟩:Pt),(⟨_,_⟩:Pt)⟩:Rt) ?_) ⟨qbb,⟨qbb,trivial⟩⟩);all_goals (exact qdd _ ⟨by decide,by decide⟩))) ?_
  refine t4 ?_
  intro i30
  refine t5 ?_
  refine qcw (b:=i30) (fun _=>qae) ?_
  intro p30 hln30
  refine t3 ?_
  refine qap rfl (OpP.fr (qa2 (size:=9) (qs:=[(0,_),(1,_)]) rfl rfl rfl ⟨⟨rfl,_,(er rfl),qaf⟩,⟨⟨rfl,_,(er rfl),qaf⟩,trivial⟩⟩ rf rf) qcf (SubL.row2 (T:=tPg) (x:=(⟨_,_,_,_,_,_,_,_,_⟩:Pg)) (y:=(⟨_,_,_,_,_,_,_,_,_⟩:Pg)) rf rf rf rf qaj qaj)) ?_
  refine qap rfl (by ((refine qaw call52 (qcc _ _ ?_) ⟨qar,⟨qar,trivial⟩⟩);all_goals ((simp;done)))) ?_
  refine t11 ?_
  exact rXF (⟨_,_,(⟨_,_,_,_,_,_,(⟨_,_⟩:Pt),_,_,_⟩:O23),_⟩:S23) results209 (hp:=by exact ⟨by exact qgf (n:=0) wl0 (wl2 (n:=0) (by assumption) (by assumption)) (by decide),by exact Nat.zero_le _,Nat.zero_le _⟩)
 have hkeb:kb=(m+m):=by have:=of_decide_eq_false h32;omega
 clear h32
 subst hkeb
 refine t18 ?_
 refine qap rfl (by ((refine qac call228 (qgt _ (⟨(⟨_,_⟩:Pt),_,(⟨_,_⟩:Pt),(⟨_,_⟩:Pt),(⟨_,_⟩:Pt),(⟨_,_⟩:Pt)⟩:Rt) ?_) ⟨qbb,⟨qbb,trivial⟩⟩);all_goals (exact qdd _ ⟨by decide,by decide⟩))) ?_
 refine t4 ?_
 intro i32
 refine t5 ?_
 refine qcw (b:=i32) (fun _=>qae) ?_
 intro p32 hln32
 refine t2 ?_
 refine qap rfl (OpP.fr (qa2 (size:=9) (qs:=[(0,_)]) rfl rfl rfl ⟨⟨rfl,_,(er rfl),qaf⟩,trivial⟩ rf rf) qcf (SubL.row1 (T:=tPg) (x:=(⟨_,_,_,_,_,_,_,_,_⟩:Pg)) rf rf rf qaj)) ?_
 refine t6 ?_
 exact rXF (⟨_,_,(⟨_,_,_,_,_,_,(⟨_,_⟩:Pt),_,_,_⟩:O23),_⟩:S23) results209 (hp:=by exact ⟨by exact wl1 (by assumption),by exact Nat.zero_le _,Nat.zero_le _⟩)
theorem qg7 (kind:Int) (key:BitVec 32) (to:Pt) (fr ks:List Pg):FnF Tryz.prog 170 [Is (.int .i64 kind),Is (.int .u32 (UV key)),qm6 to,qal tPg fr,qal tPg ks] (fun B=>qek PS23 fun r=>qqh B r):=by
 refine FnF.enter func170 ntmps170 rfl rfl ?_
 intro c hX
 refine t3 ?_
 intro i7
 refine s1 ?_
 intro i10
 refine t28 ?_
 (refine JL_i rfl rfl rfl (fun hp hg=>(by have hpg:=Bool.and_eq_true_iff.2 ⟨hp,hg⟩;have hg0:=hg;(try simp at hg);exact qac call70 (qb8 _) ⟨qar,trivial⟩)) ?_)
 refine t5 ?_
 refine cN ?_ ?_ <;> intro h1
 ·refine t3 ?_
  refine kXF call207 (qbm c.w.heap.size (⟨_,_,_,_,_,_,(⟨_,_⟩:Pt),_,_,_⟩:O23) _) ?_
  refine t5 ?_
  exact rXF (⟨_,_,(⟨_,_,_,_,_,_,(⟨_,_⟩:Pt),_,_,_⟩:O23),_⟩:S23) results170 (hp:=by exact ⟨wl0,Nat.zero_le _,Nat.zero_le _⟩)
 refine t15 ?_
 refine cN ?_ ?_ <;> intro h4
 ·refine t4 ?_
  refine qap rfl (qaw call208 (qu4 _ _) ⟨qar,⟨qar,trivial⟩⟩) ?_
  (refine qa5 53 rfl ?_;intro x53 hx53)
  refine t6 ?_
  exact rXF (⟨_,_,(⟨_,_,_,_,_,_,(⟨_,_⟩:Pt),_,_,_⟩:O23),_⟩:S23) results170 (hp:=by exact hx53)
 refine t6 ?_
 refine cN ?_ ?_ <;> intro h6
 ·refine t4 ?_
  refine qap rfl (qaw call209 (zb0 _ _) ⟨qar,⟨qar,trivial⟩⟩) ?_
  (refine qa5 58 rfl ?_;intro x58 hx58)
  refine t6 ?_
  exact rXF (⟨_,_,(⟨_,_,_,_,_,_,(⟨_,_⟩:Pt),_,_,_⟩:O23),_⟩:S23) results170 (hp:=by exact hx58)
 refine t6 ?_
 refine kRF call210 (qnm _) ?_
 refine s1 ?_
 refine kRF call172 (qkz _ _) ?_
 (refine qa5 62 rfl ?_;intro x62 hx62)
 refine s1 ?_
 intro i11
 refine t5 ?_
 have hpl:PL23 x62:=hx62
 obtain ⟨hpn,hpb,hpc,hpg⟩:=hx62
 have hbl:=hpb.2
 refine t7 ?_
 refine cN ?_ ?_ <;> intro h9
 ·refine t10 ?_
  exact rXF (⟨_,_,(⟨_,_,_,_,_,_,(⟨_,_⟩:Pt),_,_,_⟩:O23),_⟩:S23) results170 (hp:=by exact ⟨wl0,hpn,Nat.zero_le _⟩)
 refine t7 ?_
 intro i12
 refine t11 ?_
 refine cN ?_ ?_ <;> intro h12
 ·refine t5 ?_
  refine kXF call207 (qbm c.w.heap.size (⟨_,_,_,_,_,_,(⟨_,_⟩:Pt),_,_,_⟩:O23) _) ?_
  refine t5 ?_
  exact rXF (⟨_,_,(⟨_,_,_,_,_,_,(⟨_,_⟩:Pt),_,_,_⟩:O23),_⟩:S23) results170 (hp:=by exact ⟨wl0,Nat.zero_le _,hpc⟩)
 refine t9 ?_
 refine cN ?_ ?_ <;> intro h14
 ·refine t7 ?_
  refine qap rfl (qaw call211 (qy2 _ _ (⟨_,_⟩:Pt) _ _) ⟨qbb,⟨qbb,⟨qbb,⟨qbb,⟨qbb,trivial⟩⟩⟩⟩⟩) ?_
  (refine qa5 86 rfl ?_;intro x86 hx86)
  refine t5 ?_
  exact rXF (⟨_,_,(⟨_,_,_,_,_,_,(⟨_,_⟩:Pt),_,_,_⟩:O23),_⟩:S23) results170 (hp:=by exact hx86)
 refine t8 ?_
 refine qap rfl (by ((refine qac call212 (qpz _ _ ?_) ⟨qar,⟨qar,trivial⟩⟩);all_goals (have:=hpb.2;omega))) ?_
 (refine qa5 92 rfl ?_;intro x92 hx92)
 refine t8 ?_
 obtain ⟨hi1,hi2⟩:=hx92
 refine t4 ?_
 refine qap rfl (OpP.to (qad (size:=1) (qs:=[(0,_)]) rfl rfl rfl ⟨⟨rfl,_,(er rfl),qaf⟩,trivial⟩ rf rf) (SubL.row1 (T:=tI64) (x:=_) rf rf rf qaj)) ?_
 refine t12 ?_
 refine cN ?_ ?_ <;> intro h18
 ·refine t20 ?_
  refine cN ?_ ?_ <;> intro h21
  ·have hz:x62.bucket.es[x92.1]?=some _:=List.getElem?_eq_getElem (hi2 h21)
   refine t22 ?_
   exact rXF (⟨_,_,(⟨_,_,_,_,_,_,(⟨_,_⟩:Pt),_,_,_⟩:O23),_⟩:S23) results170 (hp:=by exact ⟨wl0,Nat.zero_le _,Nat.le_refl 1⟩)
  refine t12 ?_
  exact rXF (⟨_,_,(⟨_,_,_,_,_,_,(⟨_,_⟩:Pt),_,_,_⟩:O23),_⟩:S23) results170 (hp:=by exact ⟨wl0,Nat.zero_le _,Nat.le_refl 1⟩)
 refine t11 ?_
 refine cN ?_ ?_ <;> intro h24
 ·refine t10 ?_
  refine kXF call207 (qbm c.w.heap.size (⟨_,_,_,_,_,_,(⟨_,_⟩:Pt),_,_,_⟩:O23) _) ?_
  refine t6 ?_
  exact rXF (⟨_,_,(⟨_,_,_,_,_,_,(⟨_,_⟩:Pt),_,_,_⟩:O23),_⟩:S23) results170 (hp:=by exact ⟨wl0,Nat.zero_le _,Nat.le_refl 1⟩)
 skip
 refine t7 ?_
 refine cN ?_ ?_ <;> intro h27
 ·have hfo:x92.2=true:=by
   cases hq:x92.2 with
   | true=>rfl
   | false=>rw [hq,h27] at h24;cases h24
  have hz:x62.bucket.es[x92.1]?=some _:=List.getElem?_eq_getElem (hi2 hfo)
  have hlt:=hi2 hfo
  refine t5 ?_
  intro i16
  refine t22 ?_
  refine qa0 rfl (by kernel_rfl) ?_
  refine qag 13 (by kernel_rfl) ?_
  refine qka (qbx tEn rfl rfl) ?_
  refine t3 ?_
  refine qbc (qdb (er rfl) rfl rfl rfl ⟨_,_,(er rfl),rf⟩ (by omega) (by omega)) ?_
  refine qd1 rfl rfl rfl rf (by kernel_rfl) (qd0 qar (by exact qep rfl rfl rfl) qbt) ?_
  refine t4 ?_
  refine qbc (qdb (er rfl) rfl rfl ⟨_,_,(er rfl),(show _=((x92.1+1:Nat):Int) by rfl)⟩ rfl (by omega) (by omega)) ?_
  refine qd1 rfl rfl rfl rf (by kernel_rfl) (qd0 qar (by exact qep rfl rfl rfl) qbt) ?_
  refine s1 ?_
  refine ⟨rfl,?_⟩
  intro i152
  refine qef (by kernel_rfl) rfl (qav (er rfl) (er rfl) qaf qae qbo rf rf rf) ?_
  refine qat ?_
  refine t2 ?_
  refine qa8 hX (v:=slV _ i152) qae ?_
  refine t4 ?_
  refine qap rfl (by ((refine qac call213 (qe2 _ (⟨_,_,(⟨_,_⟩:Pt),_⟩:Bk) ?_) ⟨qbb,⟨qbb,trivial⟩⟩);all_goals (first|first|assumption|exact qe7 _ _ _ _|exact qdd _ ⟨by decide,by decide⟩))) ?_
  refine t4 ?_
  intro i17
  refine t5 ?_
  refine qcw (b:=i17) (fun _=>qae) ?_
  intro p17 hln17
  refine t2 ?_
  refine qap rfl (OpP.fr (qa2 (size:=9) (qs:=[(0,_)]) rfl rfl rfl ⟨⟨rfl,_,(er rfl),qaf⟩,trivial⟩ rf rf) qcf (SubL.row1 (T:=tPg) (x:=(⟨_,_,_,_,_,_,_,_,_⟩:Pg)) rf rf rf qaj)) ?_
  refine t8 ?_
  exact rXF (⟨_,_,(⟨_,_,_,_,_,_,(⟨_,_⟩:Pt),_,_,_⟩:O23),_⟩:S23) results170 (hp:=by exact ⟨wl1 (by assumption),Nat.zero_le _,hpc⟩)
 refine t6 ?_
 refine cN ?_ ?_ <;> intro h34
 ·refine t10 ?_
  refine kXF call207 (qbm c.w.heap.size (⟨_,_,_,_,_,_,(⟨_,_⟩:Pt),_,_,_⟩:O23) _) ?_
  refine t6 ?_
  exact rXF (⟨_,_,(⟨_,_,_,_,_,_,(⟨_,_⟩:Pt),_,_,_⟩:O23),_⟩:S23) results170 (hp:=by exact ⟨wl0,Nat.zero_le _,Nat.le_refl 1⟩)
 refine t10 ?_
 refine qap rfl (qaw call214 (qvo x62 (⟨_,(⟨_,_⟩:Pt)⟩:En) _ hpl) ⟨qbb,⟨qbb,⟨qbb,trivial⟩⟩⟩) ?_
 (refine qa5 176 rfl ?_;intro x176 hx176)
 refine t4 ?_
 exact rXF (⟨_,_,(⟨_,_,_,_,_,_,(⟨_,_⟩:Pt),_,_,_⟩:O23),_⟩:S23) results170 (hp:=by exact hx176)
end Go.Proofs.YtmgoplaamlignaaGreat
