/- Texts laid together: walks of functions, what they compute, and plain laws of it. Own work. -/
import Derived.Test.YtmgoplaamlignaaGreatK28
import Derived.Test.YtmgoplaamlignaaGreatK24
import Derived.Test.YtmgoplaamlignaaGreatK16
import Derived.Test.YtmgoplaamlignaaGreatK1
namespace Go.Proofs.YtmgoplaamlignaaGreat
open Go.RowKit Tryz
set_option linter.unusedVariables false
set_option linter.unusedSimpArgs false
set_option maxRecDepth 100000
set_option maxHeartbeats 4000000
theorem qbm (B:Nat) (o:O23) (e:Int):FnP Tryz.prog 207 [IsO23 o,Is (.int .i64 e)] (qqh B ⟨[],[],{ o with code:=e },true⟩):=by
 refine FnP.enter func207 ntmps207 rfl rfl ?_
 intro c hX
 refine t3 ?_
 intro i2
 refine s1 ?_
 intro i4
 refine t17 ?_
 exact qaq (Bs:=[_]) results207 eRF () SubL.rfl' (List.nil_sublist _)
theorem qsz (ks:List Pg):FnP Tryz.prog 217 [qal tPg ks] (qek (fun r:Pg×Rt×List Int×Int=>r.2.2.1.length≤1∧0≤r.2.1.depth∧r.2.1.depth≤5) fun r=>qbv [qdw r.1,IsRt r.2.1,qal tI64 r.2.2.1,Is (.int .i64 r.2.2.2)]):=by
 refine FnP.enter func217 ntmps217 rfl rfl ?_
 intro c hX
 refine t3 ?_
 intro i2
 refine s1 ?_
 intro i3
 refine t7 ?_
 refine kRF call19 (qbu _ _) ?_
 refine t4 ?_
 intro i6
 refine t11 ?_
 refine cN ?_ ?_ <;> intro h2
 ·refine t4 ?_
  refine qap rfl (OpP.to (qad (size:=1) (qs:=[(0,_)]) rfl rfl rfl ⟨⟨rfl,_,(er rfl),qaf⟩,trivial⟩ rf rf) (SubL.row1 (T:=tI64) (x:=_) rf rf rf qaj)) ?_
  refine t8 ?_
  exact qcd (Bs:=[_,_,_,_]) ((⟨_,_,_,_,_,_,_,_,_⟩:Pg),(⟨(⟨_,_⟩:Pt),_,(⟨_,_⟩:Pt),(⟨_,_⟩:Pt),(⟨_,_⟩:Pt),(⟨_,_⟩:Pt)⟩:Rt),_,_) rfl results217 eXF (List.nil_sublist _) (by exact ⟨Nat.le_refl 1,Int.le_refl 0,(by omega:(0:Int)≤5)⟩)
 refine t5 ?_
 refine kRF call171 (qjj _) ?_
 (refine qa5 22 rfl ?_;intro x22 hx22)
 refine t4 ?_
 intro i8
 refine t11 ?_
 refine cN ?_ ?_ <;> intro h5
 ·refine t12 ?_
  exact qcd (Bs:=[_,_,_,_]) ((⟨_,_,_,_,_,_,_,_,_⟩:Pg),(⟨(⟨_,_⟩:Pt),_,(⟨_,_⟩:Pt),(⟨_,_⟩:Pt),(⟨_,_⟩:Pt),(⟨_,_⟩:Pt)⟩:Rt),_,_) rfl results217 eXF (List.nil_sublist _) (by exact ⟨Nat.zero_le _,Int.le_refl 0,(by omega:(0:Int)≤5)⟩)
 refine t3 ?_
 refine qa0 rfl (by kernel_rfl) ?_
 refine qdf (it:=blk i3 _ _) (by repeat (first|exact Drop1.here _ _|apply Drop1.next)) ?_
 refine qdf (it:=blk i2 _ _) (by repeat (first|exact Drop1.here _ _|apply Drop1.next)) ?_
 refine qdj (its:=[_,_]) 6 (by kernel_rfl) ?_
 refine t2 ?_
 refine qc6 (s:=31) rfl rfl rfl (by kernel_rfl) (fun c'=>by exact qa9 (er rfl) (er rfl) qaf qae rf rf rf) ?_
 refine qc6 (s:=32) rfl rfl rfl (by kernel_rfl) (fun c'=>by exact qa9 (er rfl) (er rfl) qaf qae rf rf rf) ?_
 refine t2 ?_
 refine ⟨rfl,?_⟩
 intro _ _
 refine qat ?_
 refine t2 ?_
 exact qcd (Bs:=[_,_,_,_]) ((⟨_,_,_,_,_,_,_,_,_⟩:Pg),(⟨(⟨_,_⟩:Pt),_,(⟨_,_⟩:Pt),(⟨_,_⟩:Pt),(⟨_,_⟩:Pt),(⟨_,_⟩:Pt)⟩:Rt),_,_) rfl results217 eXF (List.nil_sublist _) (by exact ⟨Nat.zero_le _,hx22⟩)
theorem qgp:okBk Bk.nil:=⟨by decide,by decide⟩
def PL23 (r:P23):Prop:=r.need.length≤1∧okBk r.bucket∧r.out.check.length≤1∧Ln r.page
theorem qsn (at_:Pt) (h:BitVec 32) (r:Rt) (ks:List Pg):FnP Tryz.prog 220 [qm6 at_,Is (.int .u32 (UV h)),IsRt r,qal tPg ks] (qek PL23 fun r=>IsP23 r):=by
 refine FnP.enter func220 ntmps220 rfl rfl ?_
 intro c hX
 refine t3 ?_
 intro i4
 refine s1 ?_
 intro i6
 refine s1 ?_
 intro i8
 refine t6 ?_
 intro i9
 refine t10 ?_
 refine qbq (b:=i9) (As':=tPt.cells (⟨_,_⟩:Pt)) qae qba ?_
 refine qaz [(1,_),(3,_),(6,_),(8,_),(9,_)] [blk i8 _ _,blk i6 _ _] (fun y:Nat×Pt=>y.1≤257) (fun y=>[(10,Is (.int .i64 (y.1:Nat)))]) (fun y=>[blk i9 88 (tPt.cells y.2)]) (fun y=>257-y.1) (0,(⟨_,_⟩:Pt)) (Nat.zero_le _) qah qab ?_
 rintro ⟨k,a⟩ hk
 dsimp only at hk ⊢
 refine t7 ?_
 refine cN ?_ ?_ <;> intro h3
 ·have hlt:k<257:=by have:=of_decide_eq_true h3;omega
  clear h3
  refine t8 ?_
  refine kRF call167 (qhp _ _ _ _) ?_
  refine t5 ?_
  intro i11
  refine t16 ?_
  refine cN ?_ ?_ <;> intro h6
  ·refine t4 ?_
   refine qap rfl (OpP.to (qad (size:=1) (qs:=[(0,_)]) rfl rfl rfl ⟨⟨rfl,_,(er rfl),qaf⟩,trivial⟩ rf rf) (SubL.row1 (T:=tI64) (x:=_) rf rf rf qaj)) ?_
   refine t11 ?_
   exact rXF (⟨_,_,(⟨_,_,_,_,_,_,_,_,_⟩:Pg),(⟨_,_,(⟨_,_⟩:Pt),_⟩:Bk),(⟨_,_,_,_,_,_,(⟨_,_⟩:Pt),_,_,_⟩:O23)⟩:P23) results220 (hp:=by exact ⟨by simp,qgp,Nat.zero_le _,ln0⟩)
  refine t9 ?_
  refine cN ?_ ?_ <;> intro h8
  ·refine t7 ?_
   refine cN ?_ ?_ <;> intro h9
   ·refine t19 ?_
    exact rXF (⟨_,_,(⟨_,_,_,_,_,_,_,_,_⟩:Pg),(⟨_,_,(⟨_,_⟩:Pt),_⟩:Bk),(⟨_,_,_,_,_,_,(⟨_,_⟩:Pt),_,_,_⟩:O23)⟩:P23) results220 (hp:=by exact ⟨by simp,qgp,Nat.zero_le _,ln0⟩)
   refine t17 ?_
   exact rXF (⟨_,_,(⟨_,_,_,_,_,_,_,_,_⟩:Pg),(⟨_,_,(⟨_,_⟩:Pt),_⟩:Bk),(⟨_,_,_,_,_,_,(⟨_,_⟩:Pt),_,_,_⟩:O23)⟩:P23) results220 (hp:=by exact ⟨by simp,qgp,Nat.zero_le _,ln0⟩)
  refine t5 ?_
  refine kRF call233 (qpe _) ?_
  (refine qa5 48 rfl ?_;intro x48 hx48)
  refine t4 ?_
  intro i14
  refine t11 ?_
  refine cN ?_ ?_ <;> intro h13
  ·refine t14 ?_
   exact rXF (⟨_,_,(⟨_,_,_,_,_,_,_,_,_⟩:Pg),(⟨_,_,(⟨_,_⟩:Pt),_⟩:Bk),(⟨_,_,_,_,_,_,(⟨_,_⟩:Pt),_,_,_⟩:O23)⟩:P23) results220 (hp:=by exact ⟨by simp,qgp,Nat.zero_le _,ln0⟩)
  have hok:=hx48 (by simpa using h13)
  obtain ⟨⟨hb1,hb2⟩,hbl⟩:=id hok
  refine t4 ?_
  refine qa0 rfl (by kernel_rfl) ?_
  refine qag 7 (by kernel_rfl) ?_
  refine t3 ?_
  refine qbc (by ((refine qac call218 (ql9 _ _ ?_) ⟨qar,⟨qar,trivial⟩⟩);all_goals (omega))) ?_
  refine t3 ?_
  refine ⟨rfl,?_⟩
  refine qat ?_
  refine s1 ?_
  refine cN ?_ ?_ <;> intro h15
  ·refine t24 ?_
   intro i16
   refine t7 ?_
   refine kRF call49 (qb5 _) ?_
   refine t2 ?_
   refine cN ?_ ?_ <;> intro h17
   ·refine t21 ?_
    exact rXF (⟨_,_,(⟨_,_,_,_,_,_,_,_,_⟩:Pg),(⟨_,_,(⟨_,_⟩:Pt),_⟩:Bk),(⟨_,_,_,_,_,_,(⟨_,_⟩:Pt),_,_,_⟩:O23)⟩:P23) results220 (hp:=by exact ⟨Nat.zero_le _,hok,Nat.zero_le _,qe7 _ _ _ _⟩)
   refine t18 ?_
   exact rXF (⟨_,_,(⟨_,_,_,_,_,_,_,_,_⟩:Pg),(⟨_,_,(⟨_,_⟩:Pt),_⟩:Bk),(⟨_,_,_,_,_,_,(⟨_,_⟩:Pt),_,_,_⟩:O23)⟩:P23) results220 (hp:=by exact ⟨Nat.zero_le _,hok,Nat.zero_le _,qe7 _ _ _ _⟩)
  refine t8 ?_
  refine qap rfl (qdc (er rfl) (er rfl)) ?_
  refine t2 ?_
  refine cN ?_ ?_ <;> intro h20
  ·refine t14 ?_
   exact rXF (⟨_,_,(⟨_,_,_,_,_,_,_,_,_⟩:Pg),(⟨_,_,(⟨_,_⟩:Pt),_⟩:Bk),(⟨_,_,_,_,_,_,(⟨_,_⟩:Pt),_,_,_⟩:O23)⟩:P23) results220 (hp:=by exact ⟨by simp,qgp,Nat.zero_le _,ln0⟩)
  refine t14 ?_
  refine qam (b:=i9) (As':=tPt.cells (⟨_,_⟩:Pt)) qae qba ?_
  refine qaa (k+1,(⟨_,_⟩:Pt)) ?_ ?_ qah qab
  ·exact (by omega)
  ·exact (by omega)
 have hke:k=257:=by have:=of_decide_eq_false h3;omega
 clear h3
 subst hke
 refine t13 ?_
 exact rXF (⟨_,_,(⟨_,_,_,_,_,_,_,_,_⟩:Pg),(⟨_,_,(⟨_,_⟩:Pt),_⟩:Bk),(⟨_,_,_,_,_,_,(⟨_,_⟩:Pt),_,_,_⟩:O23)⟩:P23) results220 (hp:=by exact ⟨by simp,qgp,Nat.zero_le _,ln0⟩)
theorem qI8 (i:Nat) (h:i<1000):IntKind.i64.wrap ((i:Int).tdiv 8)=((i / 8:Nat):Int):=by
 rw [Int.tdiv_eq_ediv_of_nonneg (by omega),qo3 (by omega)];omega
theorem rI8 (i:Nat):(i:Int).tmod 8=((i % 8:Nat):Int):=by
 rw [Int.tmod_eq_emod_of_nonneg (by omega)];omega
def setPg (r:Rt) (k:Nat) (p:Pt):Rt:=match k with
 | 0=>{ r with p0:=p }
 | 1=>{ r with p1:=p }
 | 2=>{ r with p2:=p }
 | _=>{ r with p3:=p }
theorem qwk (r:Rt) {k:Nat} (hk:k<4):((tRt.cells r).drop (3+k*2)).take 2=tPt.cells (pgAt r k):=by
 rcases (show k=0∨k=1∨k=2∨k=3 by omega) with rfl|rfl|rfl|rfl <;> rfl
theorem qs3 (r:Rt) {k:Nat} (hk:k<4):Nat.ble (3+k*2+2) (tRt.cells r).length=true:=Nat.ble_eq_true_of_le (by rw [tRt.len];show _≤11;omega)
theorem qu8 (r:Rt) {k:Nat} (hk:k<4):(tRt.cells r)[3+k*2]?=some (Is (.int .i64 (pgAt r k).line)):=by
 rcases (show k=0∨k=1∨k=2∨k=3 by omega) with rfl|rfl|rfl|rfl <;> rfl
theorem pg_set (r:Rt) (p:Pt) {k:Nat} (hk:k<4):ovr (tRt.cells r) (3+k*2) (tPt.cells p)=tRt.cells (setPg r k p):=by
 rcases (show k=0∨k=1∨k=2∨k=3 by omega) with rfl|rfl|rfl|rfl <;> rfl
def slAt (s:S8):Nat→Pt
 | 0=>s.s0
 | 1=>s.s1
 | 2=>s.s2
 | 3=>s.s3
 | 4=>s.s4
 | 5=>s.s5
 | 6=>s.s6
 | _=>s.s7
def setSl (s:S8) (k:Nat) (p:Pt):S8:=match k with
 | 0=>{ s with s0:=p }
 | 1=>{ s with s1:=p }
 | 2=>{ s with s2:=p }
 | 3=>{ s with s3:=p }
 | 4=>{ s with s4:=p }
 | 5=>{ s with s5:=p }
 | 6=>{ s with s6:=p }
 | _=>{ s with s7:=p }
theorem e8 {k:Nat} (hk:k<8):k=0∨k=1∨k=2∨k=3∨k=4∨k=5∨k=6∨k=7:=by omega
theorem qwa (s:S8) {k:Nat} (hk:k<8):((tS8.cells s).drop (0+k*2)).take 2=tPt.cells (slAt s k):=by
 rcases e8 hk with rfl|rfl|rfl|rfl|rfl|rfl|rfl|rfl <;> rfl
theorem qpl (s:S8) {k:Nat} (hk:k<8):Nat.ble (0+k*2+2) (tS8.cells s).length=true:=Nat.ble_eq_true_of_le (by rw [tS8.len];show _≤16;omega)
theorem sl_set (s:S8) (p:Pt) {k:Nat} (hk:k<8):ovr (tS8.cells s) (0+k*2) (tPt.cells p)=tS8.cells (setSl s k p):=by
 rcases e8 hk with rfl|rfl|rfl|rfl|rfl|rfl|rfl|rfl <;> rfl
theorem qkz (h:BitVec 32) (ks:List Pg):FnP Tryz.prog 172 [Is (.int .u32 (UV h)),qal tPg ks] (qek PL23 fun r=>IsP23 r):=by
 refine FnP.enter func172 ntmps172 rfl rfl ?_
 intro c hX
 refine t3 ?_
 intro i4
 refine t5 ?_
 refine kRF call217 (qsz _) ?_
 (refine qa5 19 rfl ?_;intro x19 hx19)
 refine t6 ?_
 intro i5
 refine s1 ?_
 intro i6
 refine t8 ?_
 obtain ⟨hn1,hdp⟩:=hx19
 refine t10 ?_
 refine cN ?_ ?_ <;> intro h2
 ·refine t11 ?_
  exact rXF (⟨_,_,(⟨_,_,_,_,_,_,_,_,_⟩:Pg),(⟨_,_,(⟨_,_⟩:Pt),_⟩:Bk),(⟨_,_,_,_,_,_,(⟨_,_⟩:Pt),_,_,_⟩:O23)⟩:P23) results172 (hp:=by exact ⟨by exact hn1,qgp,Nat.zero_le _,ln0⟩)
 refine t8 ?_
 refine qap rfl (qdc (er rfl) (er rfl)) ?_
 refine t2 ?_
 refine cN ?_ ?_ <;> intro h4
 ·refine t8 ?_
  exact rXF (⟨_,_,(⟨_,_,_,_,_,_,_,_,_⟩:Pg),(⟨_,_,(⟨_,_⟩:Pt),_⟩:Bk),(⟨_,_,_,_,_,_,(⟨_,_⟩:Pt),_,_,_⟩:O23)⟩:P23) results172 (hp:=by exact ⟨by exact Nat.zero_le _,qgp,Nat.zero_le _,ln0⟩)
 have hlo:UV (lowV h x19.2.1.depth)<32:=by
  unfold UV
  rw [qvk h (by omega)]
  have h1:(2:Nat) ^ x19.2.1.depth.toNat≤2 ^ 5:=Nat.pow_le_pow_right (by omega) (by omega)
  have h2:=Nat.mod_lt h.toNat (show 0<(2:Nat) ^ x19.2.1.depth.toNat from Nat.pow_pos (by omega))
  omega
 obtain ⟨i,hi⟩:∃ i:Nat,UV (lowV h x19.2.1.depth)=(i:Int):=⟨_,rfl⟩
 have hi32:i<32:=by omega
 have hq4:i / 8<4:=by omega
 have hm8:i % 8<8:=by omega
 clear hlo
 refine t7 ?_
 refine qap rfl (by ((refine qac call218 (ql9 _ _ ?_) ⟨qar,⟨qar,trivial⟩⟩);all_goals (omega))) ?_
 refine t5 ?_
 refine qb0 9 (Is (.int .i64 (i:Nat))) rfl (SubL.eq (by rw [← hi])) ?_
 refine t4 ?_
 intro i10
 refine t7 ?_
 refine qap rfl (qi3 (er rfl) (er rfl) (by omega) (qI8 i (by omega))) ?_
 refine s1 ?_
 refine qap rfl (qan (k:=i / 8) (sz:=2) (er rfl) (er rfl) rfl rfl rfl hq4) ?_
 refine qap rfl (qbs (n:=2) (er rfl) qbp rf rf rf (qs3 _ hq4) (qwk _ hq4)) ?_
 refine kRF call167 (qhp _ _ _ _) ?_
 refine t5 ?_
 intro i11
 refine t16 ?_
 refine cN ?_ ?_ <;> intro h9
 ·refine t3 ?_
  refine qap rfl (qi3 (er rfl) (er rfl) (by omega) (qI8 i (by omega))) ?_
  refine s1 ?_
  refine qap rfl (qan (k:=i / 8) (sz:=2) (er rfl) (er rfl) rfl rfl rfl hq4) ?_
  refine s1 ?_
  refine qap rfl (qif (er rfl) qbp rf rf (qu8 _ hq4)) ?_
  refine qap rfl (OpP.to (qad (size:=1) (qs:=[(0,_)]) rfl rfl rfl ⟨⟨rfl,_,(er rfl),qaf⟩,trivial⟩ rf rf) (SubL.row1 (T:=tI64) (x:=_) rf rf rf qaj)) ?_
  refine t6 ?_
  exact rXF (⟨_,_,(⟨_,_,_,_,_,_,_,_,_⟩:Pg),(⟨_,_,(⟨_,_⟩:Pt),_⟩:Bk),(⟨_,_,_,_,_,_,(⟨_,_⟩:Pt),_,_,_⟩:O23)⟩:P23) results172 (hp:=by exact ⟨by exact Nat.le_refl 1,qgp,Nat.zero_le _,ln0⟩)
 refine t9 ?_
 refine qb3 [(0,_),(1,_),(4,_),(6,_),(10,_)] [blk i6 _ _,blk i4 _ _] (fun yc:Pt=>True) (fun yc=>[]) (fun yc=>[blk i10 88 (tPt.cells yc)]) qah qab ?_ ?_
 rotate_left
 focus
  refine cN ?_ ?_ <;> intro h11
  ·refine t3 ?_
   refine kRF call219 (qgu _) ?_
   (refine qf1 76 rfl ?_;intro x76)
   refine t4 ?_
   intro i14
   refine t10 ?_
   (refine qcq rfl rfl rfl (fun hg=>(by have hg0:=hg;(try simp at hg);exact qkb evG evG (by omega) (rI8 i))) ?_)
   (refine qcq rfl rfl rfl (fun hg=>(by have hg0:=hg;(try simp at hg);exact qan (k:=i % 8) (sz:=2) evG evG rfl rfl rfl hm8)) ?_)
   (refine qcq rfl rfl rfl (fun hg=>(by have hg0:=hg;(try simp at hg);exact qbs (n:=2) evG qbp rf rf rf (qpl _ hm8) (qwa _ hm8))) ?_)
   refine s1 ?_
   (refine qcq rfl rfl rfl (fun hg=>(by have hg0:=hg;(try simp at hg);exact qhc evG evG)) ?_)
   refine t3 ?_
   refine cN ?_ ?_ <;> intro h13
   ·refine t2 ?_
    refine qap rfl (qkb (er rfl) (er rfl) (by omega) (rI8 i)) ?_
    refine qap rfl (qan (k:=i % 8) (sz:=2) (er rfl) (er rfl) rfl rfl rfl hm8) ?_
    refine qap rfl (qbs (n:=2) (er rfl) qbp rf rf rf (qpl _ hm8) (qwa _ hm8)) ?_
    refine t2 ?_
    refine qam (b:=i10) (As':=tPt.cells (⟨_,_⟩:Pt)) qae qba ?_
    exact qak (⟨_,_⟩:Pt) (trivial) qah qab
   refine s1 ?_
   refine qam (b:=i10) (As':=tPt.cells (⟨_,_⟩:Pt)) qae qba ?_
   exact qak (⟨_,_⟩:Pt) (trivial) qah qab
  refine s1 ?_
  refine qam (b:=i10) (As':=tPt.cells (⟨_,_⟩:Pt)) qae qba ?_
  exact qak (⟨_,_⟩:Pt) (trivial) qah qab
 rintro st _
 refine t6 ?_
 refine kXF call220 (qsn (⟨_,_⟩:Pt) _ (⟨(⟨_,_⟩:Pt),_,(⟨_,_⟩:Pt),(⟨_,_⟩:Pt),(⟨_,_⟩:Pt),(⟨_,_⟩:Pt)⟩:Rt) _) ?_
 (refine qa5 97 rfl ?_;intro x97 hx97)
 refine s1 ?_
 intro i16
 refine t5 ?_
 have hpl:PL23 x97:=hx97
 refine t4 ?_
 refine qap rfl (qhc (er rfl) (er rfl)) ?_
 refine t25 ?_
 refine qb3 [(4,_),(16,_)] [blk i4 _ _] (fun yc:P23=>PL23 yc) (fun yc=>[]) (fun yc=>[blk i16 300 (tP23.cells yc)]) qah qab ?_ ?_
 rotate_left
 focus
  refine cN ?_ ?_ <;> intro h16
  ·refine t6 ?_
   refine kXF call220 (qsn (⟨_,_⟩:Pt) _ (⟨(⟨_,_⟩:Pt),_,(⟨_,_⟩:Pt),(⟨_,_⟩:Pt),(⟨_,_⟩:Pt),(⟨_,_⟩:Pt)⟩:Rt) _) ?_
   (refine qa5 130 rfl ?_;intro x130 hx130)
   refine t2 ?_
   refine qam (b:=i16) (As':=tP23.cells (⟨_,_,(⟨_,_,_,_,_,_,_,_,_⟩:Pg),(⟨_,_,(⟨_,_⟩:Pt),_⟩:Bk),(⟨_,_,_,_,_,_,(⟨_,_⟩:Pt),_,_,_⟩:O23)⟩:P23)) qae qba ?_
   refine qak (⟨_,_,(⟨_,_,_,_,_,_,_,_,_⟩:Pg),(⟨_,_,(⟨_,_⟩:Pt),_⟩:Bk),(⟨_,_,_,_,_,_,(⟨_,_⟩:Pt),_,_,_⟩:O23)⟩:P23) ?_ qah qab
   ·exact (by exact hx130)
  refine s1 ?_
  refine qam (b:=i16) (As':=tP23.cells (⟨_,_,(⟨_,_,_,_,_,_,_,_,_⟩:Pg),(⟨_,_,(⟨_,_⟩:Pt),_⟩:Bk),(⟨_,_,_,_,_,_,(⟨_,_⟩:Pt),_,_,_⟩:O23)⟩:P23)) qae qba ?_
  refine qak (⟨_,_,(⟨_,_,_,_,_,_,_,_,_⟩:Pg),(⟨_,_,(⟨_,_⟩:Pt),_⟩:Bk),(⟨_,_,_,_,_,_,(⟨_,_⟩:Pt),_,_,_⟩:O23)⟩:P23) ?_ qah qab
  ·exact (by exact hpl)
 rintro o hI
 refine t13 ?_
 exact rXF (⟨_,_,(⟨_,_,_,_,_,_,_,_,_⟩:Pg),(⟨_,_,(⟨_,_⟩:Pt),_⟩:Bk),(⟨_,_,_,_,_,_,(⟨_,_⟩:Pt),_,_,_⟩:O23)⟩:P23) results172 (hp:=by exact ⟨hI.1,hI.2.1,hI.2.2.1,hI.2.2.2⟩)
theorem qpz (l:List En) (key:BitVec 32) (hl:l.length≤1000):FnP Tryz.prog 212 [qal tEn l,Is (.int .u32 (UV key))] (qek (fun r:Nat×Bool=>r.1≤l.length∧(r.2=true→r.1<l.length)) fun r=>qbv [Is (.int .i64 (r.1:Nat)),Is (.bool r.2)]):=by
 refine FnP.enter func212 ntmps212 rfl rfl ?_
 intro c hX
 refine qgn (t:=0) rfl (fun hlen=>?_)
 refine t13 ?_
 refine qaz [(0,_),(1,_),(4,_),(5,_)] [] (fun k:Nat=>k≤(l).length) (fun k=>[(6,Is (.int .i64 (k:Nat)))]) (fun k=>[]) (fun k=>(l).length-k) 0 (Nat.zero_le _) qah qab ?_
 rintro k hk
 refine t9 ?_
 refine cN ?_ ?_ <;> intro h2
 ·have hlt:k<(l).length:=by have:=of_decide_eq_true h2;omega
  clear h2
  obtain ⟨z,hz⟩:∃ q,(l)[k]?=some q:=⟨_,List.getElem?_eq_getElem hlt⟩
  refine t15 ?_
  refine cN ?_ ?_ <;> intro h4
  ·refine s1 ?_
   refine qa0 rfl (by kernel_rfl) ?_
   refine qag 10 (by kernel_rfl) ?_
   refine t10 ?_
   refine ⟨rfl,?_⟩
   refine qat ?_
   refine t7 ?_
   exact qmn (_,_) results212 (hp:=by exact ⟨by omega,fun _=>by omega⟩)
  refine t8 ?_
  exact qaa (k+1) (by omega) (by omega) qah qab
 have hke:k=(l).length:=by have:=of_decide_eq_false h2;omega
 clear h2
 subst hke
 refine t14 ?_
 exact qmn (_,_) results212 (hp:=by exact ⟨Nat.le_refl _,fun h=>Bool.noConfusion h⟩)
theorem qnp (l:List En) (e:En) (hl:l.length≤1000):FnP Tryz.prog 231 [qal tEn l,IsEn e] (qek (fun r:List En=>r.length≤l.length+1) fun r=>qal tEn r):=by
 refine FnP.enter func231 ntmps231 rfl rfl ?_
 intro c hX
 refine t3 ?_
 intro i3
 refine t8 ?_
 refine qap rfl (by ((refine qac call212 (qpz _ _ ?_) ⟨qar,⟨qar,trivial⟩⟩);all_goals (first|first|assumption|omega))) ?_
 (refine qa5 11 rfl ?_;intro x11 hx11)
 refine t8 ?_
 obtain ⟨hi1,hi2⟩:=hx11
 refine qa0 rfl (by kernel_rfl) ?_
 refine qag 12 (by kernel_rfl) ?_
 refine qka (qbx tEn rfl rfl) ?_
 refine t2 ?_
 refine qbc (qdb (er rfl) rfl rfl rfl ⟨_,_,(er rfl),rf⟩ (by omega) (by omega)) ?_
 refine qd1 rfl rfl rfl rf (by kernel_rfl) (qd0 qar (by exact qep rfl rfl rfl) qbt) ?_
 refine s1 ?_
 refine qbc (OpP.to (qad (size:=3) (qs:=[(0,_)]) rfl rfl rfl ⟨⟨rfl,_,(er rfl),qaf⟩,trivial⟩ rf rf) (SubL.row1 (T:=tEn) (x:=(⟨_,(⟨_,_⟩:Pt)⟩:En)) rf rf rf qaj)) ?_
 refine qd1 rfl rfl rfl rf (by kernel_rfl) (qd0 (by exact er rfl) (by exact qep rfl rfl rfl) qbt) ?_
 refine t2 ?_
 refine qbc (qdb (er rfl) rfl rfl ⟨_,_,(er rfl),rf⟩ rfl (by omega) (by omega)) ?_
 refine qd1 rfl rfl rfl rf (by kernel_rfl) (qd0 qar (by exact qep rfl rfl rfl) qbt) ?_
 refine ⟨rfl,?_⟩
 intro i25
 refine JD_1 (by kernel_rfl) rfl rfl (qeb rfl) ?_
 refine qat ?_
 refine t2 ?_
 refine qee hX qae ?_
 exact qcd (Bs:=[_]) _ rfl results231 eRF (List.nil_sublist _) (by simp;omega)
theorem qqc (fr:List Pg) (kinds others:List Int) (hk:kinds.length≤10) (ho:others.length≤10):FnP Tryz.prog 224 [qal tPg fr,qal tI64 kinds,qal tI64 others] (qek (fun r:List Pg×Int=>r.2=0→r.1.length=kinds.length∧∀ p,p∈r.1→Ln p) fun r=>qbv [qal tPg r.1,Is (.int .i64 r.2)]):=by
 refine FnP.enter func224 ntmps224 rfl rfl ?_
 intro c hX
 refine t16 ?_
 refine cN ?_ ?_ <;> intro h1
 ·refine t8 ?_
  exact qmn (_,_) results224 (hp:=by exact fun h=>absurd h (by decide))
 have hfk:kinds.length≤fr.length:=by have:=of_decide_eq_false h1;omega
 clear h1
 refine t20 ?_
 refine qcn 53 tPg ?_
 refine qaz [(0,_),(1,_),(6,_),(7,_)] [] (fun y:Nat×(List Int)×(List Pg)×(Option Addr×Nat)=>y.1≤(kinds).length∧(y.2.2.1.length=y.1∧y.2.1.length≤10+y.1∧∀ p,p∈y.2.2.1→Ln p)) (fun y=>[(9,qal tI64 y.2.1),(8,Is (slV (y.2.2.1).length y.2.2.2)),(10,Is (.int .i64 (y.1:Nat)))]) (fun y=>[buf (slV (y.2.2.1).length y.2.2.2) 53 tPg (y.2.2.1)]) (fun y=>(kinds).length-y.1) (0,_,[],(none,0)) ?_ qah qab ?_
 ·exact ⟨by exact Nat.zero_le _,⟨rfl,by dsimp only;omega,lns0⟩⟩
 rintro ⟨k,ls,out,v_0⟩ ⟨hk,hI⟩
 dsimp only at hk hI ⊢
 refine t9 ?_
 refine cN ?_ ?_ <;> intro h6
 ·have hlt:k<(kinds).length:=by have:=of_decide_eq_true h6;omega
  clear h6
  obtain ⟨z,hz⟩:∃ q,(kinds)[k]?=some q:=⟨_,List.getElem?_eq_getElem hlt⟩
  obtain ⟨g,hzk⟩:∃ q,fr[k]?=some q:=⟨_,List.getElem?_eq_getElem (by omega)⟩
  refine t5 ?_
  refine qa0 rfl (by kernel_rfl) ?_
  refine qag 15 (by kernel_rfl) ?_
  refine t2 ?_
  refine qbc (by exact qau (j:=_) (er rfl) (er rfl) rfl rfl rf hzk) ?_
  refine t5 ?_
  refine qbc (qac call183 (qjq _ _ _) ⟨qar,⟨qar,⟨qar,trivial⟩⟩⟩) ?_
  refine t3 ?_
  refine qka (qbi rfl qbo rfl) ?_
  refine qcp rfl rfl rfl (by kernel_rfl) (qbz qar qaf rfl rfl rfl qbo) ?_
  refine s1 ?_
  refine ⟨rfl,?_⟩
  intro i11
  refine qat ?_
  refine t10 ?_
  (refine qcq rfl rfl rfl (fun hg=>(by have hg0:=hg;(try simp at hg);exact qau (j:=_) evG evG rfl rfl rf hzk)) ?_)
  refine t2 ?_
  (refine qcq rfl rfl rfl (fun hg=>(by have hg0:=hg;(try simp at hg);exact qac call234 (Has_ok _ _) ⟨qar,⟨qar,trivial⟩⟩)) ?_)
  refine t3 ?_
  refine cN ?_ ?_ <;> intro h9
  ·refine t13 ?_
   exact qmn (_,_) results224 (hp:=by exact fun h=>absurd h (by decide))
  refine t3 ?_
  refine qa0 rfl (by kernel_rfl) ?_
  refine qag 10 (by kernel_rfl) ?_
  refine qka (qbx tI64 rfl rfl) ?_
  refine s1 ?_
  refine qd1 rfl rfl rfl rf (by kernel_rfl) (qd0 qar (by exact qep rfl rfl rfl) qbt) ?_
  refine t2 ?_
  refine qbc (by exact qau (j:=_) (er rfl) (er rfl) rfl rfl rf hzk) ?_
  refine t2 ?_
  refine qbc (OpP.to (qad (size:=1) (qs:=[(0,_)]) rfl rfl rfl ⟨⟨rfl,_,(er rfl),qaf⟩,trivial⟩ rf rf) (SubL.row1 (T:=tI64) (x:=_) rf rf rf qaj)) ?_
  refine qd1 rfl rfl rfl rf (by kernel_rfl) (qd0 (by exact er rfl) (by exact qep rfl rfl rfl) qbt) ?_
  refine ⟨rfl,?_⟩
  intro i57
  refine JD_1 (by kernel_rfl) rfl rfl (qeb rfl) ?_
  refine qat ?_
  refine s1 ?_
  refine qa8 hX (v:=slV _ i57) qae ?_
  refine qb0 9 (qal tI64 (ls++[g.l])) rfl (by simpa using qfm) ?_
  refine t3 ?_
  refine qap rfl (OpP.fr (qa2 (size:=9) (qs:=[(0,_)]) rfl rfl rfl ⟨⟨rfl,_,(er rfl),qaf⟩,trivial⟩ rf rf) qcf (SubL.row1 (T:=tPg) (x:=(⟨_,_,_,_,_,_,_,_,_⟩:Pg)) rf rf rf qaj)) ?_
  (refine qe6 rfl (qb9 (er rfl) (fun _=>qae) (by exact Ev.sub rfl (by exact qfm)) (by exact qep rfl rfl rfl) qbt) ?_;intro i61)
  refine t9 ?_
  refine qaa (k+1,_,_,_) ?_ ?_ qah qab
  ·exact ⟨by omega,⟨by simp;omega,by simp;omega,qw7 hI.2.2 (zbn _ _ _)⟩⟩
  ·exact (by omega)
 have hke:k=(kinds).length:=by have:=of_decide_eq_false h6;omega
 clear h6
 subst hke
 refine qa8 hX (v:=slV out.length v_0) qae ?_
 refine qb0 8 (qal tPg out) rfl qfm ?_
 refine t13 ?_
 exact qmn (_,_) results224 (hp:=by exact fun _=>⟨hI.1,hI.2.2⟩)
end Go.Proofs.YtmgoplaamlignaaGreat
