/- Texts laid together: walks of functions, what they compute, and plain laws of it. Own work. -/
import Derived.Test.YtmgoplaamlignaaGreatK29
import Derived.Test.YtmgoplaamlignaaGreatK12
import Derived.Test.YtmgoplaamlignaaGreatK1
namespace Go.Proofs.YtmgoplaamlignaaGreat
open Go.RowKit Tryz
set_option linter.unusedVariables false
set_option linter.unusedSimpArgs false
set_option maxRecDepth 100000
set_option maxHeartbeats 4000000
theorem qe2 (p:Pg) (b:Bk) (hp:Ln p):FnP Tryz.prog 213 [qdw p,IsBk b] (qbv [qul,IsIX]):=(qor p b).px hp
theorem qgt (p:Pg) (r:Rt) (hp:Ln p):FnP Tryz.prog 228 [qdw p,IsRt r] (qbv [qul,IsIX]):=(qr6 p r).px hp
theorem qf5 (p:Pg) (s:S8) (hp:Ln p):FnP Tryz.prog 227 [qdw p,IsS8 s] (qbv [qul,IsIX]):=(qpa p s).px hp
def PS23 (r:S23):Prop:=WL 3 r.writes∧r.need.length≤1∧r.out.check.length≤1
theorem qtc {α:Type} {xs:List α} (h:xs.length=1):∃ a,xs[0]?=some a:=⟨_,List.getElem?_eq_getElem (by omega)⟩
theorem two_of {α:Type} {xs:List α} (h:xs.length=2):∃ a b,xs[0]?=some a∧xs[1]?=some b:=⟨_,_,List.getElem?_eq_getElem (by omega),List.getElem?_eq_getElem (by omega)⟩
theorem shI (d:Int) (h:0≤d∧d≤60):IntKind.i64.wrap (1*2 ^ (min d.toNat IntKind.i64.bits))=((2 ^ d.toNat:Nat):Int):=by
 rw [show min d.toNat IntKind.i64.bits=d.toNat from Nat.min_eq_left (by show d.toNat≤64;omega),Int.one_mul]
 have h1:(2:Nat) ^ d.toNat≤2 ^ 60:=Nat.pow_le_pow_right (by omega) (by omega)
 have e:(2:Int) ^ d.toNat=((2 ^ d.toNat:Nat):Int):=by simp
 rw [e]
 generalize (2:Nat) ^ d.toNat=m at h1 ⊢
 exact qo3 (by omega)
theorem qy2 (kind:Int) (key:BitVec 32) (to:Pt) (fr ks:List Pg):FnF Tryz.prog 211 [Is (.int .i64 kind),Is (.int .u32 (UV key)),qm6 to,qal tPg fr,qal tPg ks] (fun B=>qek PS23 fun r=>qqh B r):=by
 refine FnF.enter func211 ntmps211 rfl rfl ?_
 intro c hX
 refine t3 ?_
 intro i7
 refine s1 ?_
 intro i10
 refine t5 ?_
 refine kRF call19 (qbu _ _) ?_
 refine t4 ?_
 intro i11
 refine t8 ?_
 refine kRF call49 (qb5 _) ?_
 refine t2 ?_
 refine cN ?_ ?_ <;> intro h2
 ·refine t3 ?_
  refine kXF call207 (qbm c.w.heap.size (⟨_,_,_,_,_,_,(⟨_,_⟩:Pt),_,_,_⟩:O23) _) ?_
  refine t5 ?_
  exact rXF (⟨_,_,(⟨_,_,_,_,_,_,(⟨_,_⟩:Pt),_,_,_⟩:O23),_⟩:S23) results211 (hp:=by exact ⟨wl0,Nat.zero_le _,by exact Nat.zero_le _⟩)
 refine t9 ?_
 refine cN ?_ ?_ <;> intro h4
 ·refine t2 ?_
  refine qap rfl (OpP.to (qad (size:=1) (qs:=[(0,_)]) rfl rfl rfl ⟨⟨rfl,_,(er rfl),qaf⟩,trivial⟩ rf rf) (SubL.row1 (T:=tI64) (x:=_) rf rf rf qaj)) ?_
  refine t7 ?_
  exact rXF (⟨_,_,(⟨_,_,_,_,_,_,(⟨_,_⟩:Pt),_,_,_⟩:O23),_⟩:S23) results211 (hp:=by exact ⟨wl0,Nat.zero_le _,by exact Nat.le_refl 1⟩)
 refine t9 ?_
 refine cN ?_ ?_ <;> intro h6
 ·refine t2 ?_
  refine qap rfl (OpP.to (qad (size:=1) (qs:=[(0,_)]) rfl rfl rfl ⟨⟨rfl,_,(er rfl),qaf⟩,trivial⟩ rf rf) (SubL.row1 (T:=tI64) (x:=_) rf rf rf qaj)) ?_
  refine s1 ?_
  refine kXF call207 (qbm c.w.heap.size (⟨_,_,_,_,_,_,(⟨_,_⟩:Pt),_,_,_⟩:O23) _) ?_
  refine t5 ?_
  exact rXF (⟨_,_,(⟨_,_,_,_,_,_,(⟨_,_⟩:Pt),_,_,_⟩:O23),_⟩:S23) results211 (hp:=by exact ⟨wl0,Nat.zero_le _,by exact Nat.le_refl 1⟩)
 refine t5 ?_
 refine qap rfl (OpP.to (qad (size:=1) (qs:=[(0,_),(1,_)]) rfl rfl rfl ⟨⟨rfl,_,(er rfl),qaf⟩,⟨⟨rfl,_,(er rfl),qaf⟩,trivial⟩⟩ rf rf) (SubL.row2 (T:=tI64) (x:=_) (y:=_) rf rf rf rf qaj qaj)) ?_
 refine qap rfl (OpP.to (qad (size:=1) (qs:=[(0,_)]) rfl rfl rfl ⟨⟨rfl,_,(er rfl),qaf⟩,trivial⟩ rf rf) (SubL.row1 (T:=tI64) (x:=_) rf rf rf qaj)) ?_
 refine qap rfl (by ((refine qac call224 (qqc _ [2,3] [96] ?_ ?_) ⟨qar,⟨qar,⟨qar,trivial⟩⟩⟩);all_goals (decide))) ?_
 (refine qa5 44 rfl ?_;intro x44 hx44)
 refine t14 ?_
 refine cN ?_ ?_ <;> intro h9
 ·refine t4 ?_
  refine kXF call207 (qbm c.w.heap.size (⟨_,_,_,_,_,_,(⟨_,_⟩:Pt),_,_,_⟩:O23) _) ?_
  refine t5 ?_
  exact rXF (⟨_,_,(⟨_,_,_,_,_,_,(⟨_,_⟩:Pt),_,_,_⟩:O23),_⟩:S23) results211 (hp:=by exact ⟨wl0,Nat.zero_le _,by exact Nat.zero_le _⟩)
 refine t9 ?_
 refine cN ?_ ?_ <;> intro h11
 ·refine t4 ?_
  refine kXF call207 (qbm c.w.heap.size (⟨_,_,_,_,_,_,(⟨_,_⟩:Pt),_,_,_⟩:O23) _) ?_
  refine t5 ?_
  exact rXF (⟨_,_,(⟨_,_,_,_,_,_,(⟨_,_⟩:Pt),_,_,_⟩:O23),_⟩:S23) results211 (hp:=by exact ⟨wl0,Nat.zero_le _,by exact Nat.zero_le _⟩)
 obtain ⟨hlu,hlv⟩:=hx44 (by simpa using h11)
 obtain ⟨pa,pb,hza,hzb⟩:=two_of hlu
 have hla:Ln pa:=hlv _ (List.mem_of_getElem? hza)
 have hlb:Ln pb:=hlv _ (List.mem_of_getElem? hzb)
 refine t3 ?_
 refine qa0 rfl (by kernel_rfl) ?_
 refine qag 15 (by kernel_rfl) ?_
 refine s1 ?_
 refine qbc (by exact qau (j:=0) (er rfl) (er rfl) rfl rfl rf hza) ?_
 refine t4 ?_
 refine qbc (OpP.to (qad (size:=3) (qs:=[(0,_)]) rfl rfl rfl ⟨⟨rfl,_,(er rfl),qaf⟩,trivial⟩ rf rf) (SubL.row1 (T:=tEn) (x:=(⟨_,(⟨_,_⟩:Pt)⟩:En)) rf rf rf qaj)) ?_
 refine s1 ?_
 refine qbc (by ((refine qac call213 (qe2 _ (⟨_,_,(⟨_,_⟩:Pt),_⟩:Bk) ?_) ⟨qbb,⟨qbb,trivial⟩⟩);all_goals (first|first|assumption|exact qe7 _ _ _ _|exact qdd _ ⟨by decide,by decide⟩))) ?_
 refine t3 ?_
 refine qka (qbi rfl qbo rfl) ?_
 refine qcp rfl rfl rfl (by kernel_rfl) (qbz qar qaf rfl rfl rfl qbo) ?_
 refine s1 ?_
 refine ⟨rfl,?_⟩
 intro i15
 refine qat ?_
 refine t2 ?_
 refine qcw (b:=i15) (fun _=>qae) ?_
 intro p15 hln15
 refine qa0 rfl (by kernel_rfl) ?_
 refine qag 15 (by kernel_rfl) ?_
 refine s1 ?_
 refine qbc (by exact qau (j:=1) (er rfl) (er rfl) rfl rfl rf hzb) ?_
 refine t2 ?_
 refine qbc (by exact qau (j:=0) (er rfl) (er rfl) rfl rfl rf hza) ?_
 refine s1 ?_
 refine qbc (qac call184 (qhg _) ⟨qar,trivial⟩) ?_
 refine qbc (qd6 (size:=2) (qs:=[(0,_)]) rfl rfl rfl rfl ⟨⟨rfl,_,(er rfl),qaf⟩,trivial⟩ rf qbo) ?_
 refine qbc (by ((refine qac call227 (qf5 _ (⟨(⟨_,_⟩:Pt),(⟨_,_⟩:Pt),(⟨_,_⟩:Pt),(⟨_,_⟩:Pt),(⟨_,_⟩:Pt),(⟨_,_⟩:Pt),(⟨_,_⟩:Pt),(⟨_,_⟩:Pt)⟩:S8) ?_) ⟨qbb,⟨qbb,trivial⟩⟩);all_goals (first|first|assumption|exact qe7 _ _ _ _|exact qdd _ ⟨by decide,by decide⟩))) ?_
 refine t3 ?_
 refine qka (qbi rfl qbo rfl) ?_
 refine qcp rfl rfl rfl (by kernel_rfl) (qbz qar qaf rfl rfl rfl qbo) ?_
 refine s1 ?_
 refine ⟨rfl,?_⟩
 intro i17
 refine qat ?_
 refine t2 ?_
 refine qcw (b:=i17) (fun _=>qae) ?_
 intro p17 hln17
 refine qa0 rfl (by kernel_rfl) ?_
 refine qag 18 (by kernel_rfl) ?_
 refine t2 ?_
 refine qbc (by exact qau (j:=0) (er rfl) (er rfl) rfl rfl rf hza) ?_
 refine s1 ?_
 refine qbc (qac call184 (qhg _) ⟨qar,trivial⟩) ?_
 refine s1 ?_
 refine qbc (by exact qau (j:=1) (er rfl) (er rfl) rfl rfl rf hzb) ?_
 refine s1 ?_
 refine qbc (qac call184 (qhg _) ⟨qar,trivial⟩) ?_
 refine qbc (qd6 (size:=2) (qs:=[(0,_)]) rfl rfl rfl rfl ⟨⟨rfl,_,(er rfl),qaf⟩,trivial⟩ rf qbo) ?_
 refine s1 ?_
 refine qbc (by ((refine qac call228 (qgt _ (⟨(⟨_,_⟩:Pt),_,(⟨_,_⟩:Pt),(⟨_,_⟩:Pt),(⟨_,_⟩:Pt),(⟨_,_⟩:Pt)⟩:Rt) ?_) ⟨qbb,⟨qbb,trivial⟩⟩);all_goals (exact qdd _ ⟨by decide,by decide⟩))) ?_
 refine t3 ?_
 refine qka (qbi rfl qbo rfl) ?_
 refine qcp rfl rfl rfl (by kernel_rfl) (qbz qar qaf rfl rfl rfl qbo) ?_
 refine s1 ?_
 refine ⟨rfl,?_⟩
 intro i19
 refine qat ?_
 refine t2 ?_
 refine qcw (b:=i19) (fun _=>qae) ?_
 intro p19 hln19
 refine t4 ?_
 refine qap rfl (OpP.fr (qa2 (size:=9) (qs:=[(0,_),(1,_),(2,_)]) rfl rfl rfl ⟨⟨rfl,_,(er rfl),qaf⟩,⟨⟨rfl,_,(er rfl),qaf⟩,⟨⟨rfl,_,(er rfl),qaf⟩,trivial⟩⟩⟩ rf rf) qcf (SubL.row3 (T:=tPg) (x:=(⟨_,_,_,_,_,_,_,_,_⟩:Pg)) (y:=(⟨_,_,_,_,_,_,_,_,_⟩:Pg)) (z:=(⟨_,_,_,_,_,_,_,_,_⟩:Pg)) rf rf rf rf rf qaj qaj qaj)) ?_
 refine qap rfl (by ((refine qaw call52 (qcc _ _ ?_) ⟨qar,⟨qar,trivial⟩⟩);all_goals ((simp;done)))) ?_
 refine t6 ?_
 exact rXF (⟨_,_,(⟨_,_,_,_,_,_,(⟨_,_⟩:Pt),_,_,_⟩:O23),_⟩:S23) results211 (hp:=by exact ⟨qgf (n:=0) wl0 (wl3 (n:=0) (by assumption) (by assumption) (by assumption)) (by decide),Nat.zero_le _,Nat.zero_le _⟩)
theorem qvo (p:P23) (e:En) (fr:List Pg) (hp:PL23 p):FnF Tryz.prog 214 [IsP23 p,IsEn e,qal tPg fr] (fun B=>qek PS23 fun r=>qqh B r):=by
 obtain ⟨hp1,⟨hpd,hpl⟩,hpc,hpg⟩:=hp
 refine FnF.enter func214 ntmps214 rfl rfl ?_
 intro c hX
 refine t3 ?_
 intro i3
 refine s1 ?_
 intro i4
 refine s1 ?_
 intro i6
 refine t7 ?_
 intro i7
 refine t8 ?_
 intro i8
 refine t12 ?_
 refine cN ?_ ?_ <;> intro h3
 ·refine t5 ?_
  refine qap rfl (by ((refine qac call231 (qnp _ (⟨_,(⟨_,_⟩:Pt)⟩:En) ?_) ⟨qbb,⟨qbb,trivial⟩⟩);all_goals (omega))) ?_
  (refine qa5 31 rfl ?_;intro x31 hx31)
  refine t9 ?_
  refine qap rfl (by ((refine qac call213 (qe2 _ (⟨_,_,(⟨_,_⟩:Pt),_⟩:Bk) ?_) ⟨qbb,⟨qbb,trivial⟩⟩);all_goals (first|first|assumption|exact qe7 _ _ _ _|exact qdd _ ⟨by decide,by decide⟩))) ?_
  refine t4 ?_
  intro i9
  refine t5 ?_
  refine qcw (b:=i9) (fun _=>qae) ?_
  intro p9 hln9
  refine t8 ?_
  refine qap rfl (OpP.fr (qa2 (size:=9) (qs:=[(0,_)]) rfl rfl rfl ⟨⟨rfl,_,(er rfl),qaf⟩,trivial⟩ rf rf) qcf (SubL.row1 (T:=tPg) (x:=(⟨_,_,_,_,_,_,_,_,_⟩:Pg)) rf rf rf qaj)) ?_
  refine t7 ?_
  exact rXF (⟨_,_,(⟨_,_,_,_,_,_,(⟨_,_⟩:Pt),_,_,_⟩:O23),_⟩:S23) results214 (hp:=by exact ⟨wl1 (by assumption),Nat.zero_le _,hpc⟩)
 refine t10 ?_
 refine cN ?_ ?_ <;> intro h8
 ·refine t3 ?_
  refine kXF call207 (qbm c.w.heap.size (⟨_,_,_,_,_,_,(⟨_,_⟩:Pt),_,_,_⟩:O23) _) ?_
  refine t5 ?_
  exact rXF (⟨_,_,(⟨_,_,_,_,_,_,(⟨_,_⟩:Pt),_,_,_⟩:O23),_⟩:S23) results214 (hp:=by exact ⟨wl0,Nat.zero_le _,hpc⟩)
 have hne:p.bucket.depth≠16:=by simpa using h8
 clear h8
 refine t5 ?_
 refine qap rfl (OpP.to (qad (size:=1) (qs:=[(0,_)]) rfl rfl rfl ⟨⟨rfl,_,(er rfl),qaf⟩,trivial⟩ rf rf) (SubL.row1 (T:=tI64) (x:=_) rf rf rf qaj)) ?_
 refine t3 ?_
 refine qap rfl (OpP.to (qad (size:=1) (qs:=[(0,_)]) rfl rfl rfl ⟨⟨rfl,_,(er rfl),qaf⟩,trivial⟩ rf rf) (SubL.row1 (T:=tI64) (x:=_) rf rf rf qaj)) ?_
 refine qap rfl (by ((refine qac call224 (qqc _ [2] [p.page.l] ?_ ?_) ⟨qar,⟨qar,⟨qar,trivial⟩⟩⟩);all_goals (first|decide|simp))) ?_
 (refine qa5 57 rfl ?_;intro x57 hx57)
 refine t14 ?_
 refine cN ?_ ?_ <;> intro h11
 ·refine t10 ?_
  refine kXF call207 (qbm c.w.heap.size (⟨_,_,_,_,_,_,(⟨_,_⟩:Pt),_,_,_⟩:O23) _) ?_
  refine t5 ?_
  exact rXF (⟨_,_,(⟨_,_,_,_,_,_,(⟨_,_⟩:Pt),_,_,_⟩:O23),_⟩:S23) results214 (hp:=by exact ⟨wl0,Nat.zero_le _,hpc⟩)
 refine t9 ?_
 refine cN ?_ ?_ <;> intro h14
 ·refine t4 ?_
  refine kXF call207 (qbm c.w.heap.size (⟨_,_,_,_,_,_,(⟨_,_⟩:Pt),_,_,_⟩:O23) _) ?_
  refine t5 ?_
  exact rXF (⟨_,_,(⟨_,_,_,_,_,_,(⟨_,_⟩:Pt),_,_,_⟩:O23),_⟩:S23) results214 (hp:=by exact ⟨wl0,Nat.zero_le _,hpc⟩)
 obtain ⟨hlu,hlv⟩:=hx57 (by simpa using h14)
 obtain ⟨pa,hza⟩:=qtc hlu
 have hla:Ln pa:=hlv _ (List.mem_of_getElem? hza)
 refine t3 ?_
 refine qa0 rfl (by kernel_rfl) ?_
 refine qag 12 (by kernel_rfl) ?_
 refine t6 ?_
 refine qbc (by exact qau (j:=0) (er rfl) (er rfl) rfl rfl rf hza) ?_
 refine s1 ?_
 refine qbc (qac call184 (qhg _) ⟨qar,trivial⟩) ?_
 refine s1 ?_
 refine qka (qbi rfl qbo rfl) ?_
 refine qcp rfl rfl rfl (by kernel_rfl) (qbz qar qaf rfl rfl rfl qbo) ?_
 refine ⟨rfl,?_⟩
 intro i13
 refine qat ?_
 refine t11 ?_
 refine qap rfl (by exact qg3 (k:=p.bucket.depth.toNat) ql1 (er rfl) (by omega) qca) ?_
 refine t5 ?_
 intro i14
 refine t10 ?_
 refine qcn 281 tEn ?_
 refine qcn 281 tEn ?_
 refine qaz [(3,_),(4,_),(6,_),(7,_),(8,_),(11,_),(13,_),(14,_)] [blk i8 _ _,blk i7 _ _,blk i6 _ _,blk i4 _ _,blk i3 _ _] (fun y:Nat×Int×(BitVec 32)×Pt×(List En)×Int×(BitVec 32)×Pt×(List En)×(Option Addr×Nat)×(Option Addr×Nat)=>y.1≤(p.bucket.es).length∧(y.2.2.2.2.1.length≤y.1∧y.2.2.2.2.2.2.2.2.1.length≤y.1∧0≤y.2.1∧y.2.1≤16)) (fun y=>[(15,Is (.int .i64 (y.1:Nat)))]) (fun y=>[blk i13 298 [Is (.int .i64 y.2.1),Is (.int .u32 (UV y.2.2.1)),Is (.int .i64 y.2.2.2.1.line),Is (.int .i64 y.2.2.2.1.gen),Is (slV (y.2.2.2.2.1).length y.2.2.2.2.2.2.2.2.2.1)],blk i14 298 [Is (.int .i64 y.2.2.2.2.2.1),Is (.int .u32 (UV y.2.2.2.2.2.2.1)),Is (.int .i64 y.2.2.2.2.2.2.2.1.line),Is (.int .i64 y.2.2.2.2.2.2.2.1.gen),Is (slV (y.2.2.2.2.2.2.2.2.1).length y.2.2.2.2.2.2.2.2.2.2)],buf (slV (y.2.2.2.2.1).length y.2.2.2.2.2.2.2.2.2.1) 281 tEn (y.2.2.2.2.1),buf (slV (y.2.2.2.2.2.2.2.2.1).length y.2.2.2.2.2.2.2.2.2.2) 281 tEn (y.2.2.2.2.2.2.2.2.1)]) (fun y=>(p.bucket.es).length-y.1) (0,_,_,(⟨_,_⟩:Pt),[],_,_,(⟨_,_⟩:Pt),[],(none,0),(none,0)) ?_ qah qab ?_
 ·exact ⟨by exact Nat.zero_le _,⟨Nat.le_refl 0,Nat.le_refl 0,by dsimp only;omega,by dsimp only;omega⟩⟩
 rintro ⟨k,dx,px,nx,xs,dy,py,ny,ys,v_0,v_1⟩ ⟨hk,hI⟩
 dsimp only at hk hI ⊢
 refine t10 ?_
 refine cN ?_ ?_ <;> intro h19
 ·have hlt:k<(p.bucket.es).length:=by have:=of_decide_eq_true h19;omega
  clear h19
  obtain ⟨z,hz⟩:∃ q,(p.bucket.es)[k]?=some q:=⟨_,List.getElem?_eq_getElem hlt⟩
  refine t5 ?_
  refine qa0 rfl (by kernel_rfl) ?_
  refine qag 13 (by kernel_rfl) ?_
  refine t6 ?_
  refine qbc (qac call210 (qnm _) ⟨qar,trivial⟩) ?_
  refine t2 ?_
  refine qbc (by ((refine qac call218 (ql9 _ _ ?_) ⟨qar,⟨qar,trivial⟩⟩);all_goals (omega))) ?_
  refine t3 ?_
  refine ⟨rfl,?_⟩
  refine qat ?_
  refine s1 ?_
  refine cN ?_ ?_ <;> intro h21
  ·refine qa0 rfl (by kernel_rfl) ?_
   refine qag 8 (by kernel_rfl) ?_
   refine t7 ?_
   refine qbc (OpP.to (qad (size:=3) (qs:=[(0,_)]) rfl rfl rfl ⟨⟨rfl,_,(er rfl),qaf⟩,trivial⟩ rf rf) (SubL.row1 (T:=tEn) (x:=(⟨_,(⟨_,_⟩:Pt)⟩:En)) rf rf rf qaj)) ?_
   refine ⟨rfl,?_⟩
   (refine JD_s (by kernel_rfl) rfl rfl (qb9 (er rfl) (fun _=>qae) (by exact er rfl) (by exact qep rfl rfl rfl) qbt) ?_;intro i122)
   refine qag 1 (by kernel_rfl) ?_
   refine s1 ?_
   refine ⟨rfl,?_⟩
   refine qef (by kernel_rfl) rfl (qav (er rfl) (er rfl) qaf qae qbo rf rf rf) ?_
   refine qat ?_
   refine t7 ?_
   refine qaa (k+1,_,_,(⟨_,_⟩:Pt),_,_,_,(⟨_,_⟩:Pt),_,_,_) ?_ ?_ qah qab
   ·exact ⟨by omega,⟨by (simp;omega),by (simp;omega),by dsimp only;omega,by dsimp only;omega⟩⟩
   ·exact (by omega)
  refine qa0 rfl (by kernel_rfl) ?_
  refine qag 8 (by kernel_rfl) ?_
  refine t7 ?_
  refine qbc (OpP.to (qad (size:=3) (qs:=[(0,_)]) rfl rfl rfl ⟨⟨rfl,_,(er rfl),qaf⟩,trivial⟩ rf rf) (SubL.row1 (T:=tEn) (x:=(⟨_,(⟨_,_⟩:Pt)⟩:En)) rf rf rf qaj)) ?_
  refine ⟨rfl,?_⟩
  (refine JD_s (by kernel_rfl) rfl rfl (qb9 (er rfl) (fun _=>qae) (by exact er rfl) (by exact qep rfl rfl rfl) qbt) ?_;intro i132)
  refine qag 1 (by kernel_rfl) ?_
  refine s1 ?_
  refine ⟨rfl,?_⟩
  refine qef (by kernel_rfl) rfl (qav (er rfl) (er rfl) qaf qae qbo rf rf rf) ?_
  refine qat ?_
  refine t7 ?_
  refine qaa (k+1,_,_,(⟨_,_⟩:Pt),_,_,_,(⟨_,_⟩:Pt),_,_,_) ?_ ?_ qah qab
  ·exact ⟨by omega,⟨by (simp;omega),by (simp;omega),by dsimp only;omega,by dsimp only;omega⟩⟩
  ·exact (by omega)
 have hke:k=(p.bucket.es).length:=by have:=of_decide_eq_false h19;omega
 clear h19
 subst hke
 refine qa8 hX (v:=slV xs.length v_0) qae ?_
 refine qa8 hX (v:=slV ys.length v_1) qae ?_
 refine qbq (b:=i13) (As':=tBk.cells ⟨dx,px,nx,xs⟩) qae qba ?_
 refine qbq (b:=i14) (As':=tBk.cells ⟨dy,py,ny,ys⟩) qae qba ?_
 refine t7 ?_
 refine qa0 rfl (by kernel_rfl) ?_
 refine qag 9 (by kernel_rfl) ?_
 refine t2 ?_
 refine qbc (qac call210 (qnm _) ⟨qar,trivial⟩) ?_
 refine t2 ?_
 refine qbc (by ((refine qac call218 (ql9 _ _ ?_) ⟨qar,⟨qar,trivial⟩⟩);all_goals (dsimp only;omega))) ?_
 refine t3 ?_
 refine ⟨rfl,?_⟩
 refine qat ?_
 refine s1 ?_
 refine qb3 [(3,_),(6,_),(7,_),(11,_),(13,_),(14,_)] [blk i6 _ _,blk i3 _ _] (fun yc:Bk×Bk×O23=>yc.2.2.check.length≤1) (fun yc=>[]) (fun yc=>[blk i13 298 (tBk.cells yc.1),blk i14 298 (tBk.cells yc.2.1),blk i7 288 (tO23.cells yc.2.2)]) qah qab ?_ ?_
 rotate_left
 focus
  refine cN ?_ ?_ <;> intro h24
  ·refine t8 ?_
   refine cN ?_ ?_ <;> intro h25
   ·have h9:=of_decide_eq_true h25
    refine t5 ?_
    refine qap rfl (by ((refine qac call231 (qnp _ (⟨_,(⟨_,_⟩:Pt)⟩:En) ?_) ⟨qbb,⟨qbb,trivial⟩⟩);all_goals (omega))) ?_
    (refine qa5 150 rfl ?_;intro x150 hx150)
    refine t8 ?_
    refine qam (b:=i13) (As':=tBk.cells (⟨_,_,(⟨_,_⟩:Pt),_⟩:Bk)) qae qba ?_
    refine qam (b:=i14) (As':=tBk.cells (⟨_,_,(⟨_,_⟩:Pt),_⟩:Bk)) qae qba ?_
    refine qam (b:=i7) (As':=tO23.cells (⟨_,_,_,_,_,_,(⟨_,_⟩:Pt),_,_,_⟩:O23)) qae qba ?_
    refine qak ((⟨_,_,(⟨_,_⟩:Pt),_⟩:Bk),(⟨_,_,(⟨_,_⟩:Pt),_⟩:Bk),(⟨_,_,_,_,_,_,(⟨_,_⟩:Pt),_,_,_⟩:O23)) ?_ qah qab
    ·exact (hpc)
   refine s1 ?_
   refine qam (b:=i13) (As':=tBk.cells (⟨_,_,(⟨_,_⟩:Pt),_⟩:Bk)) qae qba ?_
   refine qam (b:=i14) (As':=tBk.cells (⟨_,_,(⟨_,_⟩:Pt),_⟩:Bk)) qae qba ?_
   refine qam (b:=i7) (As':=tO23.cells (⟨_,_,_,_,_,_,(⟨_,_⟩:Pt),_,_,_⟩:O23)) qae qba ?_
   refine qak ((⟨_,_,(⟨_,_⟩:Pt),_⟩:Bk),(⟨_,_,(⟨_,_⟩:Pt),_⟩:Bk),(⟨_,_,_,_,_,_,(⟨_,_⟩:Pt),_,_,_⟩:O23)) ?_ qah qab
   ·exact (hpc)
  refine t8 ?_
  refine cN ?_ ?_ <;> intro h28
  ·have h9:=of_decide_eq_true h28
   refine t5 ?_
   refine qap rfl (by ((refine qac call231 (qnp _ (⟨_,(⟨_,_⟩:Pt)⟩:En) ?_) ⟨qbb,⟨qbb,trivial⟩⟩);all_goals (omega))) ?_
   (refine qa5 160 rfl ?_;intro x160 hx160)
   refine t8 ?_
   refine qam (b:=i13) (As':=tBk.cells (⟨_,_,(⟨_,_⟩:Pt),_⟩:Bk)) qae qba ?_
   refine qam (b:=i14) (As':=tBk.cells (⟨_,_,(⟨_,_⟩:Pt),_⟩:Bk)) qae qba ?_
   refine qam (b:=i7) (As':=tO23.cells (⟨_,_,_,_,_,_,(⟨_,_⟩:Pt),_,_,_⟩:O23)) qae qba ?_
   refine qak ((⟨_,_,(⟨_,_⟩:Pt),_⟩:Bk),(⟨_,_,(⟨_,_⟩:Pt),_⟩:Bk),(⟨_,_,_,_,_,_,(⟨_,_⟩:Pt),_,_,_⟩:O23)) ?_ qah qab
   ·exact (hpc)
  refine s1 ?_
  refine qam (b:=i13) (As':=tBk.cells (⟨_,_,(⟨_,_⟩:Pt),_⟩:Bk)) qae qba ?_
  refine qam (b:=i14) (As':=tBk.cells (⟨_,_,(⟨_,_⟩:Pt),_⟩:Bk)) qae qba ?_
  refine qam (b:=i7) (As':=tO23.cells (⟨_,_,_,_,_,_,(⟨_,_⟩:Pt),_,_,_⟩:O23)) qae qba ?_
  refine qak ((⟨_,_,(⟨_,_⟩:Pt),_⟩:Bk),(⟨_,_,(⟨_,_⟩:Pt),_⟩:Bk),(⟨_,_,_,_,_,_,(⟨_,_⟩:Pt),_,_,_⟩:O23)) ?_ qah qab
  ·exact (hpc)
 rintro ⟨bx,bz,o⟩ hI
 dsimp only at hI ⊢
 refine t11 ?_
 refine qap rfl (by ((refine qac call213 (qe2 _ (⟨_,_,(⟨_,_⟩:Pt),_⟩:Bk) ?_) ⟨qbb,⟨qbb,trivial⟩⟩);all_goals (first|first|assumption|exact qe7 _ _ _ _|exact qdd _ ⟨by decide,by decide⟩))) ?_
 refine t4 ?_
 intro i16
 refine t5 ?_
 refine qcw (b:=i16) (fun _=>qae) ?_
 intro p16 hln16
 refine qa0 rfl (by kernel_rfl) ?_
 refine qag 11 (by kernel_rfl) ?_
 refine s1 ?_
 refine qbc (by exact qau (j:=0) (er rfl) (er rfl) rfl rfl rf hza) ?_
 refine t2 ?_
 refine qbc (by ((refine qac call213 (qe2 _ (⟨_,_,(⟨_,_⟩:Pt),_⟩:Bk) ?_) ⟨qbb,⟨qbb,trivial⟩⟩);all_goals (first|first|assumption|exact qe7 _ _ _ _|exact qdd _ ⟨by decide,by decide⟩))) ?_
 refine t3 ?_
 refine qka (qbi rfl qbo rfl) ?_
 refine qcp rfl rfl rfl (by kernel_rfl) (qbz qar qaf rfl rfl rfl qbo) ?_
 refine s1 ?_
 refine ⟨rfl,?_⟩
 intro i18
 refine qat ?_
 refine t2 ?_
 refine qcw (b:=i18) (fun _=>qae) ?_
 intro p18 hln18
 refine qa0 rfl (by kernel_rfl) ?_
 refine qag 6 (by kernel_rfl) ?_
 refine t2 ?_
 refine qbc (OpP.fr (qa2 (size:=9) (qs:=[(0,_),(1,_)]) rfl rfl rfl ⟨⟨rfl,_,(er rfl),qaf⟩,⟨⟨rfl,_,(er rfl),qaf⟩,trivial⟩⟩ rf rf) qcf (SubL.row2 (T:=tPg) (x:=(⟨_,_,_,_,_,_,_,_,_⟩:Pg)) (y:=(⟨_,_,_,_,_,_,_,_,_⟩:Pg)) rf rf rf rf qaj qaj)) ?_
 refine qbc (by ((refine qaw call52 (qcc _ _ ?_) ⟨qar,⟨qar,trivial⟩⟩);all_goals ((simp;done)))) ?_
 refine t2 ?_
 refine ⟨rfl,?_⟩
 refine qef (by kernel_rfl) rfl (qav (er rfl) (er rfl) qaf qae qbo rf rf rf) ?_
 refine qat ?_
 refine t2 ?_
 exact rXF (⟨_,_,(⟨_,_,_,_,_,_,(⟨_,_⟩:Pt),_,_,_⟩:O23),_⟩:S23) results214 (hp:=by exact ⟨qgf (n:=0) wl0 (wl2 (n:=0) (by assumption) (by assumption)) (by decide),Nat.zero_le _,hI⟩)
def vnL (n:N24):Bool:=if (decide (n.level>0)&&((n.entries.length:Int)==0||UV (enAt n.entries (n.entries.length-1)).key != UV n.high))=true then false else (!n.dead||(n.level==0&&(n.entries.length:Int)==0 && !n.leftmost && !decide (n.right=Pt.nil)))
def vnE (n:N24):Nat→List En→Bool
 | _,[]=>vnL n
 | k,e :: r=>if (decide (UV e.key<1)||decide (UV e.key>UV n.high)||(!qdz e.to)||(n.level==0&&decide (UV e.key>4294967294))||(decide ((k:Int)>0)&&decide (UV (enAt n.entries (k-1)).key≥UV e.key)))=true then false else vnE n (k+1) r
theorem vnE_L (n:N24):∀ (l:List En) (k:Nat),vnE n k l=true→vnL n=true
 | [],k,h=>h
 | e :: r,k,h=>by
  unfold vnE at h
  split at h
  ·cases h
  ·exact vnE_L n r (k+1) h
def vN (n:N24):Bool:=if (decide (n.level<0)||decide (n.level>8)||decide (UV n.high<1)||(decide (n.right=Pt.nil) != (UV n.high==4294967295))||(!decide (n.right=Pt.nil) && !qdz n.right)||decide ((n.entries.length:Int)>5))=true then false else vnE n 0 n.entries
def qhy (n:N24):Prop:=n.entries.length≤5∧(0≤n.level∧n.level≤8)∧(0<n.level→∃ e,n.entries.getLast?=some e∧UV e.key=UV n.high)
theorem qdt:qhy N24.nil:=⟨by decide,by decide,fun h=>absurd h (by decide)⟩
theorem vN_ok {n:N24} (h:vN n=true):qhy n:=by
 unfold vN at h
 split at h
 ·cases h
 ·rename_i h1
  replace h:=vnE_L n _ _ h
  simp at h1
  refine ⟨by omega,by omega,fun hp=>?_⟩
  unfold vnL at h
  split at h
  ·cases h
  ·rename_i h3
   have hd:decide (n.level>0)=true:=decide_eq_true hp
   rw [hd,Bool.true_and] at h3
   simp at h3
   have hne:n.entries.length≠0:=by
    intro h0
    have:=h3.1
    exact this (List.eq_nil_of_length_eq_zero h0)
   refine ⟨enAt n.entries (n.entries.length-1),?_,by simpa using h3.2⟩
   rw [List.getLast?_eq_getElem?]
   exact qnj (by omega)
theorem qlt (n:N24):FnP Tryz.prog 222 [qv5 n] (Is (.bool (vN n))):=by
 obtain ⟨W,hE⟩:∃ W,vN n=W:=⟨_,rfl⟩
 rw [hE]
 unfold vN at hE
 have hlast:0<n.entries.length→n.entries[n.entries.length-1]?=some (enAt n.entries (n.entries.length-1)):=fun h=>qnj (by omega)
 refine FnP.enter func222 ntmps222 rfl rfl ?_
 intro c hX
 refine t3 ?_
 intro i1
 refine t8 ?_
 refine qap rfl (qdc (er rfl) (er rfl)) ?_
 refine t32 ?_
 (refine JL_i rfl rfl rfl (fun hp hg=>(by have hpg:=Bool.and_eq_true_iff.2 ⟨hp,hg⟩;have hg0:=hg;(try simp at hg);exact qac call70 (qb8 _) ⟨qar,trivial⟩)) ?_)
 refine t11 ?_
 refine cN ?_ ?_ <;> intro h2
 ·replace hE:=qce hE h2
  refine t7 ?_
  subst hE
  exact qaq (Bs:=[_]) results222 eRF () SubL.rfl' (List.nil_sublist _)
 replace hE:=qdr hE h2
 have hl5:n.entries.length≤5:=by
  rw [Bool.or_eq_false_iff] at h2
  have:=of_decide_eq_false h2.2
  omega
 clear h2
 refine t9 ?_
 refine qaz [(1,_),(2,_),(3,_)] [blk i1 _ _] (fun k:Nat=>k≤(n.entries).length∧vnE n k (List.drop k (n.entries))=W) (fun k=>[(4,Is (.int .i64 (k:Nat)))]) (fun k=>[]) (fun k=>(n.entries).length-k) 0 ⟨by exact Nat.zero_le _,hE⟩ qde qab ?_
 clear hE
 rintro k ⟨hk,hE⟩
 refine t10 ?_
 refine cN ?_ ?_ <;> intro h5
 ·have hlt:k<(n.entries).length:=by have:=of_decide_eq_true h5;omega
  clear h5
  obtain ⟨z,hz⟩:∃ q,(n.entries)[k]?=some q:=⟨_,List.getElem?_eq_getElem hlt⟩
  rw [qjc hz,vnE] at hE
  (try dsimp only at hE)
  have hz1:0<k→n.entries[k-1]?=some (enAt n.entries (k-1)):=fun _=>qnj (by omega)
  refine t12 ?_
  intro i5
  refine t4 ?_
  refine qa0 rfl (by kernel_rfl) ?_
  refine qag 42 (by kernel_rfl) ?_
  refine t13 ?_
  (refine qem rfl rfl (fun hg=>(by have hg0:=hg;(try simp at hg);exact qac call70 (qb8 _) ⟨qar,trivial⟩)) ?_)
  refine t20 ?_
  (refine JW_i rfl rfl (fun hp hg=>(by have hpg:=Bool.and_eq_true_iff.2 ⟨hp,hg⟩;have hg0:=hg;(try simp at hg);exact qau (j:=k-1) evG evG rfl rfl (by omega) (hz1 (by omega)))) ?_)
  refine t7 ?_
  refine ⟨rfl,?_⟩
  refine qat ?_
  refine s1 ?_
  refine cN ?_ ?_ <;> intro h8
  ·replace hE:=qce hE h8
   refine t11 ?_
   subst hE
   exact qaq (Bs:=[_]) results222 eRF () SubL.rfl' (List.nil_sublist _)
  replace hE:=qdr hE h8
  refine t8 ?_
  exact qaa (k+1) ⟨by omega,hE⟩ (by omega) qde qab
 have hke:k=(n.entries).length:=by have:=of_decide_eq_false h5;omega
 clear h5
 subst hke
 rw [List.drop_length,vnE] at hE
 unfold vnL at hE
 refine t7 ?_
 refine qa0 rfl (by kernel_rfl) ?_
 refine qag 23 (by kernel_rfl) ?_
 refine t15 ?_
 (refine JW_i rfl rfl (fun hp hg=>(by have hpg:=Bool.and_eq_true_iff.2 ⟨hp,hg⟩;have hg0:=hg;(try simp at hg);exact qau (j:=n.entries.length-1) evG evG rfl rfl (by have h9:=List.length_pos_iff.2 hg;omega) (hlast (List.length_pos_iff.2 hg)))) ?_)
 refine t7 ?_
 refine ⟨rfl,?_⟩
 refine qat ?_
 refine s1 ?_
 refine cN ?_ ?_ <;> intro h10
 ·replace hE:=qce hE h10
  refine t7 ?_
  subst hE
  exact qaq (Bs:=[_]) results222 eRF () SubL.rfl' (List.nil_sublist _)
 replace hE:=qdr hE h10
 refine t31 ?_
 subst hE
 exact qaq (Bs:=[_]) results222 eRF () SubL.rfl' (List.nil_sublist _)
theorem qpb (p:Pg) (to:Pt) (lv:Int):FnP Tryz.prog 225 [qdw p,qm6 to,Is (.int .i64 lv)] (qek (fun r:Pg×Int=>Ln p→Ln r.1) fun r=>qbv [qdw r.1,Is (.int .i64 r.2)]):=by
 refine FnP.enter func225 ntmps225 rfl rfl ?_
 intro c hX
 refine t3 ?_
 intro i3
 refine s1 ?_
 intro i4
 refine s1 ?_
 intro i6
 refine t7 ?_
 refine qap rfl (qdc (er rfl) (er rfl)) ?_
 refine t29 ?_
 (refine JL_i rfl rfl rfl (fun hp hg=>(by have hpg:=Bool.and_eq_true_iff.2 ⟨hp,hg⟩;have hg0:=hg;(try simp at hg);exact qac call70 (qb8 _) ⟨qar,trivial⟩)) ?_)
 refine t5 ?_
 refine cN ?_ ?_ <;> intro h2
 ·refine t9 ?_
  exact qmn ((⟨_,_,_,_,_,_,_,_,_⟩:Pg),_) results225 (hp:=by exact fun _=>ln0)
 refine t6 ?_
 intro i9
 refine t6 ?_
 refine kRF call82 (qfr _) ?_
 refine t2 ?_
 refine qap rfl (qfd (er rfl) rfl rfl (qhs _)) ?_
 refine qap rfl (by exact qd5 (k:=32) qgi (er rfl) (by omega) qca) ?_
 refine t7 ?_
 generalize BitVec.setWidth 64 (qg2 to)+BitVec.ofInt 64 lv<<<32=w0
 refine t7 ?_
 exact qmn ((⟨_,_,_,_,_,_,_,_,_⟩:Pg),_) results225 (hp:=by exact qvl rfl)
theorem qr7 (p:Pg) (n:N24):FnP Tryz.prog 202 [qdw p,qv5 n] (qek (fun r:Pg×Int=>Ln p→Ln r.1) fun r=>qbv [qdw r.1,Is (.int .i64 r.2)]):=by
 refine FnP.enter func202 ntmps202 rfl rfl ?_
 intro c hX
 refine t3 ?_
 intro i2
 refine s1 ?_
 intro i3
 refine s1 ?_
 intro i4
 refine t7 ?_
 refine kRF call63 (qel _) ?_
 refine t3 ?_
 (refine qcq rfl rfl rfl (fun hg=>(by have hg0:=hg;(try simp at hg);exact qac call222 (qlt n) ⟨qar,trivial⟩)) ?_)
 refine t4 ?_
 refine cN ?_ ?_ <;> intro h1
 ·refine t9 ?_
  exact qmn ((⟨_,_,_,_,_,_,_,_,_⟩:Pg),_) results202 (hp:=by exact fun _=>ln0)
 have hv:vN n=true:=by simp at h1;exact h1.2
 have hl:=(vN_ok hv).1
 refine t23 ?_
 refine qb3 [(2,_),(3,_),(4,_),(5,_)] [blk i4 _ _,blk i3 _ _,blk i2 _ _] (fun yc:(BitVec 32)=>True) (fun yc=>[(6,Is (.int .u32 (UV yc)))]) (fun yc=>[]) qah qab ?_ ?_
 rotate_left
 focus
  refine cN ?_ ?_ <;> intro h4
  ·refine t5 ?_
   exact qak _ (trivial) qah qab
  refine s1 ?_
  exact qak _ (trivial) qah qab
 rintro a _
 refine t7 ?_
 refine qb3 [(2,_),(3,_),(4,_),(5,_)] [blk i4 _ _,blk i3 _ _,blk i2 _ _] (fun yc:(BitVec 32)=>True) (fun yc=>[(6,Is (.int .u32 (UV yc)))]) (fun yc=>[]) qah qab ?_ ?_
 rotate_left
 focus
  refine cN ?_ ?_ <;> intro h6
  ·refine t5 ?_
   exact qak _ (trivial) qah qab
  refine s1 ?_
  exact qak _ (trivial) qah qab
 rintro a2 _
 refine t8 ?_
 intro i7
 refine t6 ?_
 refine kRF call26 (qg8 _) ?_
 refine s1 ?_
 refine kRF call98 (qmj _ _ _) ?_
 refine t6 ?_
 refine qa0 rfl (by kernel_rfl) ?_
 refine qag 11 (by kernel_rfl) ?_
 refine t5 ?_
 refine qbc (qac call82 (qfr _) ⟨qar,trivial⟩) ?_
 refine s1 ?_
 refine qbc (by exact qd5 (k:=32) qgi (er rfl) (by omega) qca) ?_
 refine t3 ?_
 refine ⟨rfl,?_⟩
 refine qef (by kernel_rfl) rfl (qav (er rfl) (er rfl) qaf qae qbo rf rf rf) ?_
 refine qat ?_
 refine t8 ?_
 refine qbq (b:=i7) (As':=tPg.cells (⟨_,_,_,_,_,_,_,_,_⟩:Pg)) qae qba ?_
 refine qaz [(3,_),(4,_),(5,_),(7,_)] [blk i4 _ _,blk i3 _ _] (fun y:Nat×Pg=>y.1≤(n.entries).length∧(y.2.l=p.l)) (fun y=>[(8,Is (.int .i64 (y.1:Nat)))]) (fun y=>[blk i7 53 (tPg.cells y.2)]) (fun y=>(n.entries).length-y.1) (0,(⟨_,_,_,_,_,_,_,_,_⟩:Pg)) ?_ qah qab ?_
 ·exact ⟨by exact Nat.zero_le _,rfl⟩
 rintro ⟨k,q⟩ ⟨hk,hI⟩
 dsimp only at hk hI ⊢
 refine t10 ?_
 refine cN ?_ ?_ <;> intro h12
 ·have hlt:k<(n.entries).length:=by have:=of_decide_eq_true h12;omega
  clear h12
  obtain ⟨z,hz⟩:∃ q,(n.entries)[k]?=some q:=⟨_,List.getElem?_eq_getElem hlt⟩
  rcases (show k=0∨k=1∨k=2∨k=3∨k=4 by omega) with rfl|rfl|rfl|rfl|rfl
  all_goals
   refine t4 ?_
   refine qa0 rfl (by kernel_rfl) ?_
   refine qag 21 (by kernel_rfl) ?_
   refine t9 ?_
   refine qbc (by exact qd5 (k:=32) qgi (er rfl) (by omega) qca) ?_
   refine t6 ?_
   refine qbc (qac call82 (qfr _) ⟨qar,trivial⟩) ?_
   refine t3 ?_
   refine qbc (qan (k:=_) (sz:=1) (er rfl) (er rfl) rfl rfl qca (by decide)) ?_
   refine ⟨rfl,?_⟩
   refine qef (by kernel_rfl) rfl (qav (er rfl) (er rfl) qaf qae qbo rf rf rf) ?_
   refine qat ?_
   refine t7 ?_
   refine qam (b:=i7) (As':=tPg.cells (⟨_,_,_,_,_,_,_,_,_⟩:Pg)) qae qba ?_
   first|((guard_hyp hlt:(0:Nat)<(n.entries).length);refine qaa (1,(⟨_,_,_,_,_,_,_,_,_⟩:Pg)) ?_ ?_ qah qab)|((guard_hyp hlt:(1:Nat)<(n.entries).length);refine qaa (2,(⟨_,_,_,_,_,_,_,_,_⟩:Pg)) ?_ ?_ qah qab)|((guard_hyp hlt:(2:Nat)<(n.entries).length);refine qaa (3,(⟨_,_,_,_,_,_,_,_,_⟩:Pg)) ?_ ?_ qah qab)|((guard_hyp hlt:(3:Nat)<(n.entries).length);refine qaa (4,(⟨_,_,_,_,_,_,_,_,_⟩:Pg)) ?_ ?_ qah qab)|((guard_hyp hlt:(4:Nat)<(n.entries).length);refine qaa (5,(⟨_,_,_,_,_,_,_,_,_⟩:Pg)) ?_ ?_ qah qab)
   ·exact ⟨by omega,hI⟩
   ·exact (by omega)
 have hke:k=(n.entries).length:=by have:=of_decide_eq_false h12;omega
 clear h12
 subst hke
 refine t13 ?_
 exact qmn ((⟨_,_,_,_,_,_,_,_,_⟩:Pg),_) results202 (hp:=by exact qvl hI)
theorem qlv (p:Pg):FnP Tryz.prog 189 [qdw p] (VEx fun r:Pt×Int×Int=>qbv [qm6 r.1,Is (.int .i64 r.2.1),Is (.int .i64 r.2.2)]):=by
 refine FnP.enter func189 ntmps189 rfl rfl ?_
 intro c hX
 refine t3 ?_
 intro i1
 refine s1 ?_
 intro i2
 refine t12 ?_
 refine cN ?_ ?_ <;> intro h1
 ·refine t10 ?_
  exact qci (Bs:=[_,_,_]) ((⟨_,_⟩:Pt),_,_) rfl results189 eXF (List.nil_sublist _)
 refine t11 ?_
 refine cN ?_ ?_ <;> intro h3
 ·refine t10 ?_
  exact qci (Bs:=[_,_,_]) ((⟨_,_⟩:Pt),_,_) rfl results189 eXF (List.nil_sublist _)
 refine t8 ?_
 refine kRF call103 (qfg _) ?_
 refine s1 ?_
 intro i5
 refine t7 ?_
 refine kRF call70 (qb8 _) ?_
 refine t9 ?_
 refine cN ?_ ?_ <;> intro h6
 ·refine t10 ?_
  exact qci (Bs:=[_,_,_]) ((⟨_,_⟩:Pt),_,_) rfl results189 eXF (List.nil_sublist _)
 refine t3 ?_
 refine qa0 rfl (by kernel_rfl) ?_
 refine qdf (it:=blk i2 _ _) (by repeat (first|exact Drop1.here _ _|apply Drop1.next)) ?_
 refine qdj (its:=[_]) 9 (by kernel_rfl) ?_
 refine t4 ?_
 refine qbc (by exact qhi (k:=32) qgi (er rfl) (by omega) qca) ?_
 refine s1 ?_
 refine qc6 (s:=36) rfl rfl rfl (by kernel_rfl) (fun c'=>by exact qa9 (er rfl) (er rfl) qaf qae rf rf rf) ?_
 refine t2 ?_
 refine ⟨rfl,?_⟩
 intro _
 refine qat ?_
 refine t2 ?_
 exact qci (Bs:=[_,_,_]) ((⟨_,_⟩:Pt),_,_) rfl results189 eXF (List.nil_sublist _)
theorem qdq (p:Pg) (n:N24) (hp:Ln p):FnP Tryz.prog 202 [qdw p,qv5 n] (qbv [qul,IsIX]):=(qr7 p n).px hp
theorem qjg (p:Pg) (to:Pt) (lv:Int) (hp:Ln p):FnP Tryz.prog 225 [qdw p,qm6 to,Is (.int .i64 lv)] (qbv [qul,IsIX]):=(qpb p to lv).px hp
theorem qa3 (B:Nat) (o:O24) (e:Int):FnP Tryz.prog 192 [qv4 o,Is (.int .i64 e)] (qjm B ⟨[],[],{ o with code:=e },true⟩):=by
 refine FnP.enter func192 ntmps192 rfl rfl ?_
 intro c hX
 refine t3 ?_
 intro i2
 refine s1 ?_
 intro i4
 refine t17 ?_
 exact qaq (Bs:=[_]) results192 eRF () SubL.rfl' (List.nil_sublist _)
theorem child_ok (n:N24) (key:BitVec 32) (hn:n.entries.length≤1000):FnP Tryz.prog 191 [qv5 n,Is (.int .u32 (UV key))] (VEx fun r:En=>IsEn r):=by
 refine FnP.enter func191 ntmps191 rfl rfl ?_
 intro c hX
 refine t3 ?_
 intro i2
 refine s1 ?_
 intro i4
 refine t9 ?_
 refine qaz [(1,_),(2,_),(4,_)] [blk i4 _ _,blk i2 _ _] (fun k:Nat=>k≤(n.entries).length) (fun k=>[(5,Is (.int .i64 (k:Nat)))]) (fun k=>[]) (fun k=>(n.entries).length-k) 0 (Nat.zero_le _) qah qab ?_
 rintro k hk
 refine t10 ?_
 refine cN ?_ ?_ <;> intro h2
 ·have hlt:k<(n.entries).length:=by have:=of_decide_eq_true h2;omega
  clear h2
  obtain ⟨z,hz⟩:∃ q,(n.entries)[k]?=some q:=⟨_,List.getElem?_eq_getElem hlt⟩
  refine t16 ?_
  refine cN ?_ ?_ <;> intro h4
  ·refine t16 ?_
   exact qci (Bs:=[_]) (⟨_,(⟨_,_⟩:Pt)⟩:En) rfl results191 eXF (List.nil_sublist _)
  refine t8 ?_
  exact qaa (k+1) (by omega) (by omega) qah qab
 have hke:k=(n.entries).length:=by have:=of_decide_eq_false h2;omega
 clear h2
 subst hke
 refine t12 ?_
 exact qci (Bs:=[_]) (⟨_,(⟨_,_⟩:Pt)⟩:En) rfl results191 eXF (List.nil_sublist _)
theorem qln (p:P24):FnP Tryz.prog 196 [qum p] (VEx fun r:Bool=>Is (.bool r)):=by
 refine FnP.enter func196 ntmps196 rfl rfl ?_
 intro c hX
 refine t3 ?_
 intro i1
 refine t13 ?_
 exact qci (Bs:=[_]) _ rfl results196 eXF (List.nil_sublist _)
theorem qxy (o:O24) (p:P24):FnP Tryz.prog 197 [qv4 o,qum p] (qek (fun r:O24=>r.check=o.check∧r.entries=o.entries) fun r=>qv4 r):=by
 refine FnP.enter func197 ntmps197 rfl rfl ?_
 intro c hX
 refine t3 ?_
 intro i2
 refine s1 ?_
 intro i3
 refine s1 ?_
 intro i4
 refine t40 ?_
 refine s1 ?_
 refine kXF call196 (qln (⟨_,_,_,_,(⟨_,_,_,_,_,_,_,_,_⟩:Pg),(⟨_,_,_,_,(⟨_,_⟩:Pt),_⟩:N24),(⟨_,_,_,_,(⟨_,_⟩:Pt),_⟩:N24),_,_,_⟩:P24)) ?_
 (refine qf1 26 rfl ?_;intro x26)
 refine t2 ?_
 refine cN ?_ ?_ <;> intro h4
 ·refine t16 ?_
  exact rXF (⟨_,_,_,_,_,_,_,(⟨_,_⟩:Pt),_,_,_,_,_⟩:O24) results197 (hp:=by exact ⟨rfl,rfl⟩)
 refine t9 ?_
 exact rXF (⟨_,_,_,_,_,_,_,(⟨_,_⟩:Pt),_,_,_,_,_⟩:O24) results197 (hp:=by exact ⟨rfl,rfl⟩)
theorem qqz (l:List En) (key:BitVec 32) (hl:l.length≤1000):FnP Tryz.prog 201 [qal tEn l,Is (.int .u32 (UV key))] (qek (fun r:Nat×Bool=>r.1≤l.length∧(r.2=true→r.1<l.length)∧(∀ e,l.getLast?=some e→UV key≤UV e.key→r.1<l.length)) fun r=>qbv [Is (.int .i64 (r.1:Nat)),Is (.bool r.2)]):=by
 refine FnP.enter func201 ntmps201 rfl rfl ?_
 intro c hX
 refine qgn (t:=0) rfl (fun hlen=>?_)
 refine t13 ?_
 refine qaz [(0,_),(1,_),(4,_),(5,_)] [] (fun k:Nat=>k≤(l).length∧(∀ j e,j<k→l[j]?=some e→UV e.key<UV key)) (fun k=>[(6,Is (.int .i64 (k:Nat)))]) (fun k=>[]) (fun k=>(l).length-k) 0 ⟨by exact Nat.zero_le _,fun j e h=>absurd h (Nat.not_lt_zero _)⟩ qah qab ?_
 rintro k ⟨hk,hI⟩
 refine t9 ?_
 refine cN ?_ ?_ <;> intro h2
 ·have hlt:k<(l).length:=by have:=of_decide_eq_true h2;omega
  clear h2
  obtain ⟨z,hz⟩:∃ q,(l)[k]?=some q:=⟨_,List.getElem?_eq_getElem hlt⟩
  refine t15 ?_
  refine cN ?_ ?_ <;> intro h4
  ·refine s1 ?_
   refine qa0 rfl (by kernel_rfl) ?_
   refine qag 10 (by kernel_rfl) ?_
   refine t10 ?_
   refine ⟨rfl,?_⟩
   refine qat ?_
   refine t7 ?_
   exact qmn (_,_) results201 (hp:=by exact ⟨by omega,fun _=>by omega,fun _ _ _=>by omega⟩)
  have hr:∀ j e,j<k+1→l[j]?=some e→UV e.key<UV key:=fun j e hj he=>by
   rcases Nat.lt_or_ge j k with h|h
   ·exact hI j e h he
   ·have:j=k:=by omega
    subst this
    rw [hz] at he;cases he
    have:=of_decide_eq_false h4
    omega
  refine t8 ?_
  exact qaa (k+1) ⟨by omega,hr⟩ (by omega) qah qab
 have hke:k=(l).length:=by have:=of_decide_eq_false h2;omega
 clear h2
 subst hke
 refine t14 ?_
 exact qcd (Bs:=[_,_]) (_,_) rfl results201 eXF (List.nil_sublist _) (by exact ⟨Nat.le_refl _,fun h=>Bool.noConfusion h,fun e he hk=>by
 rw [List.getLast?_eq_getElem?] at he
 have h1:=(List.getElem?_eq_some_iff.1 he).1
 have h2:=hI _ e (by omega) he
 omega⟩)
end Go.Proofs.YtmgoplaamlignaaGreat
