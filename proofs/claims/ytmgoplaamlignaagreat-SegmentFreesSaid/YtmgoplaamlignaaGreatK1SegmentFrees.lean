/- Texts laid together: walks of functions, what they compute, and plain laws of it. Own work. -/
import Derived.Test.YtmgoplaamlignaaGreatK45
import Derived.Test.YtmgoplaamlignaaGreatK40
import Derived.Test.YtmgoplaamlignaaGreatK22
import Derived.Test.YtmgoplaamlignaaGreatK19
import Derived.Test.YtmgoplaamlignaaGreatK26
import Derived.Test.YtmgoplaamlignaaGreatK23
import Derived.Test.YtmgoplaamlignaaGreatK39
import Derived.Test.YtmgoplaamlignaaGreatK18
import Derived.Test.YtmgoplaamlignaaGreatK9
import Derived.Test.YtmgoplaamlignaaGreatK1
namespace Go.Proofs.YtmgoplaamlignaaGreat
open Go.RowKit Tryz
set_option linter.unusedVariables false
set_option linter.unusedSimpArgs false
set_option maxRecDepth 100000
set_option maxHeartbeats 4000000
theorem DoH_ok (b n:Nat) (s:Option Addr×Nat) (lines:Int) (x:Hs) (a:Acn) (hn:8≤n∧n≤200) (hH:x.pages.length=n) (hln:LnI x.pages) (hsq:0≤x.seq∧x.seq≤90000) (htb:x.table.length≤7000) :
  FnX Tryz.prog 54 [Is (.pointer (some ⟨b,0,none⟩)),IsAct a] [blk b 62 [Is (slV n s),Is (.int .i64 lines),Is (.int .i64 x.seq),qal tRw x.table,Is (.int .i64 x.cur.phase),Is (.int .i64 x.cur.level),Is (.int .u32 (UV x.cur.key))],buf (slV n s) 53 tPg x.pages]
  (fun i:Hs=>(i.pages.length=n∧LnI i.pages)∧(0≤i.seq∧i.seq≤x.seq+2)∧i.table.length≤x.table.length+2) (fun i=>qbv []) (fun i=>[blk b 62 [Is (slV n s),Is (.int .i64 lines),Is (.int .i64 i.seq),qal tRw i.table,Is (.int .i64 i.cur.phase),Is (.int .i64 i.cur.level),Is (.int .u32 (UV i.cur.key))],buf (slV n s) 53 tPg i.pages]):=by
 refine Fn.enterB func54 ntmps54 rfl rfl ?_
 intro c hX hbelow
 refine t3 ?_
 intro i3
 refine t6 ?_
 refine qap rfl (by ((refine qac call9 (qd4 _ _ ?_ ?_) ⟨qar,⟨qar,trivial⟩⟩);all_goals (first|omega|(simp;done)|(simp;omega)|(refine Nat.le_trans (qai _ _) ?_;omega)|(refine Nat.le_trans (qai _ _) (Nat.le_trans (Nat.add_le_add_right (qai _ _) _) ?_);omega)))) ?_
 refine t7 ?_
 refine qap rfl (by ((refine qac call9 (qd4 _ _ ?_ ?_) ⟨qar,⟨qar,trivial⟩⟩);all_goals (first|omega|(simp;done)|(simp;omega)|(refine Nat.le_trans (qai _ _) ?_;omega)|(refine Nat.le_trans (qai _ _) (Nat.le_trans (Nat.add_le_add_right (qai _ _) _) ?_);omega)))) ?_
 refine t4 ?_
 obtain ⟨cl,hcl⟩:∃ q,a.client % 3=q:=⟨_,rfl⟩
 have hcl6:0≤cl∧cl<6:=by omega
 refine qb0 4 (Is (.int .i64 cl)) rfl (SubL.eq (by rw [hcl])) ?_
 refine t12 ?_
 refine qb3 [(0,_),(3,_),(4,_),(15,_)] [blk i3 _ _,blk b _ _,buf (slV n s) _ _ _] (fun yc:Bool=>True) (fun yc=>[(16,Is (.bool yc))]) (fun yc=>[]) qah qab ?_ ?_
 rotate_left
 focus
  refine cN ?_ ?_ <;> intro h4
  ·refine s1 ?_
   exact qak _ (trivial) qah qab
  refine t6 ?_
  refine cN ?_ ?_ <;> intro h5
  ·refine s1 ?_
   exact qak _ (trivial) qah qab
  refine t6 ?_
  refine cN ?_ ?_ <;> intro h6
  ·refine s1 ?_
   exact qak _ (trivial) qah qab
  refine t6 ?_
  refine cN ?_ ?_ <;> intro h7
  ·refine s1 ?_
   exact qak _ (trivial) qah qab
  refine t6 ?_
  refine cN ?_ ?_ <;> intro h8
  ·refine s1 ?_
   exact qak _ (trivial) qah qab
  refine t6 ?_
  refine cN ?_ ?_ <;> intro h9
  ·refine s1 ?_
   exact qak _ (trivial) qah qab
  refine t6 ?_
  refine cN ?_ ?_ <;> intro h10
  ·refine s1 ?_
   exact qak _ (trivial) qah qab
  refine t6 ?_
  refine cN ?_ ?_ <;> intro h11
  ·refine s1 ?_
   exact qak _ (trivial) qah qab
  refine t6 ?_
  refine cN ?_ ?_ <;> intro h12
  ·refine s1 ?_
   exact qak _ (trivial) qah qab
  refine t6 ?_
  refine cN ?_ ?_ <;> intro h13
  ·refine s1 ?_
   exact qak _ (trivial) qah qab
  refine t4 ?_
  exact qak _ (trivial) qah qab
 rintro bb _
 refine cN ?_ ?_ <;> intro h4b
 ·refine t3 ?_
  refine kRF call83 (qsb a) ?_
  (refine qa5 29 rfl ?_;intro x29 hx29)
  refine qap rfl (OpP.to (qad (size:=12) (qs:=[(0,_)]) rfl rfl rfl ⟨⟨rfl,_,(er rfl),qaf⟩,trivial⟩ rf rf) (SubL.row1 (T:=tSt29) (x:=(⟨_,_,_,_,_,_,_,_,(⟨_,_,_⟩:Co),_⟩:St29)) rf rf rf qaj)) ?_
  refine t4 ?_
  have hst:∀ s,s∈[x29]→1≤s.kind∧s.kind≤4:=fun s hs=>by
   rw [List.mem_singleton] at hs
   subst hs
   exact hx29
  refine t4 ?_
  (refine qe3 rfl (by ((refine qds qbh qbh call84 (zc6 b n s lines x _ _ hn hH hln ⟨hsq.1,by omega⟩ ?_ ?_ ?_) ⟨qar,⟨qar,⟨qar,trivial⟩⟩⟩);all_goals (first|omega|exact Nat.le_refl 1))) ?_;intro x34 hx34)
  refine t3 ?_
  obtain ⟨⟨hr1,hr2⟩,⟨hr3,hr4⟩,hr5⟩:=hx34
  refine cN ?_ ?_ <;> intro h16
  ·refine t4 ?_
   (refine qe3 rfl (qds qbh qbh call85 (qx1 b n s lines ⟨x34.1,x34.2.1,x34.2.2.1,x.cur⟩ cl hcl6 hn hr1 hr2) ⟨qar,⟨qar,trivial⟩⟩) ?_;intro x38 hx38)
   refine t6 ?_
   (refine qe3 rfl (by ((refine qds qbh qbh call84 (zc6 b n s lines ⟨x38,x34.2.1,x34.2.2.1,x.cur⟩ _ _ hn hx38.1 hx38.2 ⟨hr3,Int.le_trans hr4 ?_⟩ ?_ ?_ ?_) ⟨qar,⟨qar,⟨qar,trivial⟩⟩⟩);all_goals (first|omega|exact Nat.le_trans hr5 (by omega)|exact Nat.le_refl 1))) ?_;intro x42 hx42)
   refine t3 ?_
   obtain ⟨⟨hw1,hw2⟩,⟨hw3,hw4⟩,hw5⟩:=hx42
   refine qax (Bs:=[]) (⟨_,_,_,(⟨_,_,_⟩:Cu)⟩:Hs) ?_ rfl results54 trivial qab (hD0:=hX.2)
   exact by exact ⟨⟨hw1,hw2⟩,⟨hw3,Int.le_trans hw4 (show x34.2.1+1≤x.seq+2 by omega)⟩,Nat.le_trans hw5 (show x34.2.2.1.length+1≤x.table.length+2 by omega)⟩
  refine t3 ?_
  refine qax (Bs:=[]) (⟨_,_,_,(⟨_,_,_⟩:Cu)⟩:Hs) ?_ rfl results54 trivial qab (hD0:=hX.2)
  exact by exact ⟨⟨hr1,hr2⟩,⟨hr3,Int.le_trans hr4 (show x.seq+1≤x.seq+2 by omega)⟩,Nat.le_trans hr5 (show x.table.length+1≤x.table.length+2 by omega)⟩
 refine t6 ?_
 refine cN ?_ ?_ <;> intro h19
 ·refine t6 ?_
  refine qaz [(0,_),(3,_),(4,_)] [blk i3 _ _] (fun y:Int×(List Pg)×Cu=>(0≤y.1∧y.1≤31)∧y.2.1.length=n∧LnI y.2.1) (fun y=>[(7,Is (.int .i64 y.1))]) (fun y=>[blk b 62 [Is (slV n s),Is (.int .i64 lines),Is (.int .i64 x.seq),qal tRw x.table,Is (.int .i64 (y.2.2).phase),Is (.int .i64 (y.2.2).level),Is (.int .u32 (UV (y.2.2).key))],buf (slV n s) 53 tPg (y.2.1)]) (fun y=>(31-y.1).toNat) (0,x.pages,x.cur) ?_ qah qab ?_
  ·exact (⟨⟨Int.le_refl 0,(by decide:(0:Int)≤31)⟩,hH,hln⟩)
  rintro ⟨k,H,cu⟩ hI
  dsimp only at hI ⊢
  refine t6 ?_
  refine qap rfl (by ((refine qac call9 (qd4 _ _ ?_ ?_) ⟨qar,⟨qar,trivial⟩⟩);all_goals (first|omega|(simp;done)|(simp;omega)|(refine Nat.le_trans (qai _ _) ?_;omega)|(refine Nat.le_trans (qai _ _) (Nat.le_trans (Nat.add_le_add_right (qai _ _) _) ?_);omega)))) ?_
  refine t4 ?_
  refine cN ?_ ?_ <;> intro h21
  ·have hk30:k<1+a.n % 30:=of_decide_eq_true h21
   obtain ⟨⟨hk0,hk31⟩,hH2,hln2⟩:=hI
   refine t7 ?_
   (refine qe3 rfl (qds qbh qbh call86 (zc4 b n s lines ⟨H,x.seq,x.table,cu⟩ cl hcl6 hn hH2 hln2) ⟨qar,⟨qar,trivial⟩⟩) ?_;intro x55 hx55)
   refine t8 ?_
   refine qaa (_,_,(⟨_,_,_⟩:Cu)) ?_ ?_ qah qab
   ·exact ⟨⟨by omega,by omega⟩,hx55⟩
   ·(show (31-(k+1)).toNat<(31-k).toNat;omega)
  refine t6 ?_
  refine qax (Bs:=[]) (⟨H,x.seq,x.table,cu⟩:Hs) ?_ rfl results54 trivial qab (hD0:=hX.2)
  exact ⟨hI.2,⟨hsq.1,(show x.seq≤x.seq+2 by omega)⟩,Nat.le_add_right _ _⟩
 refine t6 ?_
 refine cN ?_ ?_ <;> intro h24
 ·refine t4 ?_
  refine qap rfl (by ((refine qac call9 (qd4 _ _ ?_ ?_) ⟨qar,⟨qar,trivial⟩⟩);all_goals (first|omega|(simp;done)|(simp;omega)|(refine Nat.le_trans (qai _ _) ?_;omega)|(refine Nat.le_trans (qai _ _) (Nat.le_trans (Nat.add_le_add_right (qai _ _) _) ?_);omega)))) ?_
  refine t3 ?_
  (refine qe3 rfl (by ((refine qds qbh qbh call87 (qjo b n s lines x (⟨_,_,_,_,_,[]⟩:Ep26) rfl ?_ hn hH hln) ⟨qar,⟨qar,trivial⟩⟩);all_goals (intro h5;exact absurd (show 1+a.n % 2=5 from h5) (by omega)))) ?_;intro x65 hx65)
  refine t3 ?_
  refine qax (Bs:=[]) (⟨x65.1,x.seq,x.table,x.cur⟩:Hs) ?_ rfl results54 trivial qab (hD0:=hX.2)
  exact ⟨⟨hx65.1,hx65.2.1⟩,⟨hsq.1,(show x.seq≤x.seq+2 by omega)⟩,Nat.le_add_right _ _⟩
 refine t6 ?_
 refine cN ?_ ?_ <;> intro h26
 ·refine t3 ?_
  (refine qe3 rfl (by ((refine qds qbh qbh call87 (qjo b n s lines x (⟨3,_,_,_,_,[]⟩:Ep26) rfl (fun h=>absurd (show (3:Int)=5 from h) ?_) hn hH hln) ⟨qar,⟨qar,trivial⟩⟩);all_goals (decide))) ?_;intro x70 hx70)
  refine t3 ?_
  refine qax (Bs:=[]) (⟨x70.1,x.seq,x.table,x.cur⟩:Hs) ?_ rfl results54 trivial qab (hD0:=hX.2)
  exact ⟨⟨hx70.1,hx70.2.1⟩,⟨hsq.1,(show x.seq≤x.seq+2 by omega)⟩,Nat.le_add_right _ _⟩
 refine t6 ?_
 refine cN ?_ ?_ <;> intro h28
 ·refine t3 ?_
  (refine qe3 rfl (qds qbh qbh call88 (qoy b n s lines x cl hcl6 hn hH hln) ⟨qar,⟨qar,trivial⟩⟩) ?_;intro x75 hx75)
  refine t3 ?_
  refine qax (Bs:=[]) (⟨x75,x.seq,x.table,x.cur⟩:Hs) ?_ rfl results54 trivial qab (hD0:=hX.2)
  exact ⟨hx75,⟨hsq.1,(show x.seq≤x.seq+2 by omega)⟩,Nat.le_add_right _ _⟩
 refine t6 ?_
 refine cN ?_ ?_ <;> intro h30
 ·refine s1 ?_
  refine qa0 rfl (by kernel_rfl) ?_
  refine qgl (its:=[]) ?_
  refine f1 0 ?_
  refine f1 1 ?_
  refine f1 2 ?_
  refine f1 3 ?_
  refine f1 4 ?_
  refine f1 5 ?_
  refine f1 6 ?_
  refine qkf 7 rfl (by kernel_rfl) (by ((refine qac call9 (qd4 _ _ ?_ ?_) ⟨qar,⟨qar,trivial⟩⟩);all_goals (first|omega|(simp;done)|(simp;omega)|(refine Nat.le_trans (qai _ _) ?_;omega)|(refine Nat.le_trans (qai _ _) (Nat.le_trans (Nat.add_le_add_right (qai _ _) _) ?_);omega)))) ?_
  refine qkf 8 rfl (by kernel_rfl) (qip (er rfl) (er rfl) qfv) ?_
  refine f1 9 ?_
  refine f1 10 ?_
  refine f1 11 ?_
  refine f1 12 ?_
  refine qm4 14 rfl (by kernel_rfl) (fun _=>(qbi rfl qbo rfl)) ?_
  (refine qy9 13 [0,1,2,3,4,5,6,7,8,9,10,11,12,13] rfl (by kernel_rfl) (by ((refine qc9 (by (try simp only [List.append_eq,List.nil_append,List.cons_append]);exact qga) call12 (zdm x.pages _ _ _ _ ?_) ⟨qar,⟨qar,⟨qar,⟨qar,⟨qar,trivial⟩⟩⟩⟩⟩ (qtt));all_goals (first|omega|(simp;done)|(simp;omega)|(refine Nat.le_trans (qai _ _) ?_;omega)|(refine Nat.le_trans (qai _ _) (Nat.le_trans (Nat.add_le_add_right (qai _ _) _) ?_);omega)))) ?_;intro x91 hx91)
  (refine qgk 8 14 (by kernel_rfl) rfl rfl ?_;intro i8)
  refine qfi 15 [0,1,2,3,4,5,6,7,8,9,10,11,12,13,14,15] rfl (by kernel_rfl) (fun c'=>by exact qa9 (er rfl) (er rfl) qaf qae rf rf rf) ?_
  refine qeq (by kernel_rfl) rfl ?_
  show JQ _ _ _ _ _ _
  refine t8 ?_
  refine cN ?_ ?_ <;> intro h32
  ·refine t4 ?_
   (refine qe6 rfl (qhx qbh qbh call23 (qh9 b n s _ _ _ _ _ _ x.pages x91.writes hH hn.2 hx91.2) ⟨qar,⟨qar,trivial⟩⟩) ?_;intro i98)
   refine t3 ?_
   refine qax (Bs:=[]) (⟨x91.writes.foldl qnk x.pages,x.seq,x.table,x.cur⟩:Hs) ?_ rfl results54 trivial qab (hD0:=hX.2)
   exact ⟨⟨(show (x91.writes.foldl qnk x.pages).length=n by rw [qks];exact hH),qoh _ hln⟩,⟨hsq.1,(show x.seq≤x.seq+2 by omega)⟩,Nat.le_add_right _ _⟩
  refine t3 ?_
  refine qax (Bs:=[]) (⟨_,_,_,(⟨_,_,_⟩:Cu)⟩:Hs) ?_ rfl results54 trivial qab (hD0:=hX.2)
  exact by exact ⟨⟨hH,hln⟩,⟨hsq.1,(show x.seq≤x.seq+2 by omega)⟩,Nat.le_add_right _ _⟩
 refine t3 ?_
 refine qax (Bs:=[]) (⟨_,_,_,(⟨_,_,_⟩:Cu)⟩:Hs) ?_ rfl results54 trivial qab (hD0:=hX.2)
 exact by exact ⟨⟨hH,hln⟩,⟨hsq.1,(show x.seq≤x.seq+2 by omega)⟩,Nat.le_add_right _ _⟩
theorem zbb:∀ n:Nat,LnI (qrc n)
 | 0=>fun i p h=>by simp [qrc] at h
 | n+1=>fun i p h=>by
  unfold qrc at h
  rcases Nat.lt_or_ge i n with hi|hi
  ·rw [List.getElem?_append_left (by rw [qjx];exact hi)] at h
   exact zbb n i p h
  ·rw [List.getElem?_append_right (by rw [qjx];exact hi),qjx] at h
   have h1:=(List.getElem?_eq_some_iff.1 h).1
   simp at h1
   have:i=n:=by omega
   subst this
   simp at h
   subst h
   rfl
theorem zdl (n:Nat) (l:List Acn) (hn:8≤n∧n≤200) (hl:l.length≤1000):FnX Tryz.prog 17 [Is (.int .i64 (96+(n:Int))),qal tAct l] []
  (fun i:Nat×(Option Addr×Nat)×Hs=>i.2.2.pages.length=n∧LnI i.2.2.pages) (fun i=>Is (.pointer (some ⟨i.1,0,none⟩))) (fun i=>[blk (i.1) 62 [Is (slV n (i.2.1)),Is (.int .i64 (96+(n:Int))),Is (.int .i64 i.2.2.seq),qal tRw i.2.2.table,Is (.int .i64 i.2.2.cur.phase),Is (.int .i64 i.2.2.cur.level),Is (.int .u32 (UV i.2.2.cur.key))],buf (slV n (i.2.1)) 53 tPg i.2.2.pages]):=by
 refine Fn.enterB func17 ntmps17 rfl rfl ?_
 intro c hX hbelow
 refine t8 ?_
 (refine qe6 rfl (qq3 call53 (New_ok n hn.2) ⟨qar,trivial⟩) ?_;intro i8)
 refine t5 ?_
 obtain ⟨b,s⟩:=i8
 dsimp only
 refine qbq (b:=b) (As':=[Is (slV n s),Is (.int .i64 (96+(n:Int))),Is (.int .i64 0),qal tRw [],Is (.int .i64 1),Is (.int .i64 0),Is (.int .u32 (UV 1#32))]) qae qba ?_
 refine t5 ?_
 refine qaz [(1,_),(4,_),(5,_)] [] (fun y:Nat×Hs=>y.1≤(l).length∧((y.2.pages.length=n∧LnI y.2.pages)∧(0≤y.2.seq∧y.2.seq≤2*(y.1:Int))∧y.2.table.length≤2*y.1)) (fun y=>[(6,Is (.int .i64 (y.1:Nat)))]) (fun y=>[blk b 62 [Is (slV n s),Is (.int .i64 (96+(n:Int))),Is (.int .i64 y.2.seq),qal tRw y.2.table,Is (.int .i64 y.2.cur.phase),Is (.int .i64 y.2.cur.level),Is (.int .u32 (UV y.2.cur.key))],buf (slV n s) 53 tPg y.2.pages]) (fun y=>(l).length-y.1) (0,⟨qrc n,0,[],⟨1,0,1#32⟩⟩) ?_ qah qab ?_
 ·exact ⟨by exact Nat.zero_le _,⟨⟨qjx n,zbb n⟩,⟨Int.le_refl 0,Int.le_refl 0⟩,Nat.le_refl 0⟩⟩
 rintro ⟨k,x⟩ ⟨hk,hI⟩
 dsimp only at hk hI ⊢
 refine t9 ?_
 refine cN ?_ ?_ <;> intro h3
 ·have hlt:k<(l).length:=by have:=of_decide_eq_true h3;omega
  clear h3
  obtain ⟨z,hz⟩:∃ q,(l)[k]?=some q:=⟨_,List.getElem?_eq_getElem hlt⟩
  obtain ⟨⟨hp1,hp2⟩,⟨hp3,hp4⟩,hp5⟩:=hI
  refine t10 ?_
  (refine qe3 rfl (by ((refine qds qbh qbh call54 (DoH_ok b n s (96+(n:Int)) x z hn hp1 hp2 ⟨hp3,by omega⟩ ?_) ⟨qar,⟨qar,trivial⟩⟩);all_goals (first|omega|(simp;done)|(simp;omega)|(refine Nat.le_trans (qai _ _) ?_;omega)|(refine Nat.le_trans (qai _ _) (Nat.le_trans (Nat.add_le_add_right (qai _ _) _) ?_);omega)))) ?_;intro x20 hx20)
  refine t8 ?_
  refine qaa (k+1,(⟨_,_,_,(⟨_,_,_⟩:Cu)⟩:Hs)) ?_ ?_ qah qab
  ·exact ⟨by omega,⟨hx20.1,⟨hx20.2.1.1,Int.le_trans hx20.2.1.2 (show x.seq+2≤2*((k+1:Nat):Int) by omega)⟩,Nat.le_trans hx20.2.2 (show x.table.length+2≤2*(k+1) by omega)⟩⟩
  ·exact (by omega)
 have hke:k=(l).length:=by have:=of_decide_eq_false h3;omega
 clear h3
 subst hke
 refine t12 ?_
 refine qax (Bs:=[_]) (b,s,x) ?_ rfl results17 eXF qab (hD0:=hX.2)
 exact hI.1
def nC (z:Int):Nat:=8+16*(1+(z % 5).toNat)
theorem nC_rng (z:Int):8≤nC z∧nC z≤200:=by unfold nC;omega
theorem SizeC_ok (z:Int):FnP Tryz.prog 18 [Is (.int .i64 z)] (Is (.int .i64 (96+(nC z:Int)))):=by
 have h1:=Int.emod_nonneg z (show (5:Int)≠0 by omega)
 have h2:=Int.emod_lt_of_pos z (show (0:Int)<5 by omega)
 have e:(96+(nC z:Int))=104+16*(1+z % 5):=by unfold nC;omega
 rw [e]
 refine FnP.enter func18 ntmps18 rfl rfl ?_
 intro c hX
 refine t8 ?_
 refine qap rfl (by ((refine qac call9 (qd4 _ _ ?_ ?_) ⟨qar,⟨qar,trivial⟩⟩);all_goals (first|omega|(simp;done)|(simp;omega)|(refine Nat.le_trans (qai _ _) ?_;omega)|(refine Nat.le_trans (qai _ _) (Nat.le_trans (Nat.add_le_add_right (qai _ _) _) ?_);omega)))) ?_
 refine t7 ?_
 refine qa4 results18 rfl () (SubL.eq ?_) (List.nil_sublist _)
 rfl
def zbp (z:Cs20):Bool:=decide ((z.acts.length:Int)≤40)&&decide ((z.pokes.length:Int)≤12)
theorem light_ok (z:Cs20):FnP Tryz.prog 7 [IsCs20 z] (Is (.bool (zbp z))):=by
 refine FnP.enter func7 ntmps7 rfl rfl ?_
 intro c hX
 refine t3 ?_
 intro i1
 refine t19 ?_
 refine qa4 results7 rfl () (SubL.eq ?_) (List.nil_sublist _)
 rfl
theorem pagesC_ok (z:Cs20) (hl:zbp z=true):FnP Tryz.prog 8 [IsCs20 z] (qek (fun r:List Pg=>r.length=nC z.size∧LnI r) fun r=>qbv [qal tPg r,Is (.int .i64 (96+(nC z.size:Int)))]):=by
 have hn:=nC_rng z.size
 have hll:z.acts.length≤1000∧z.pokes.length≤1000:=by unfold zbp at hl;simp at hl;omega
 refine FnP.enter func8 ntmps8 rfl rfl ?_
 intro c hX
 refine t3 ?_
 intro i1
 refine t5 ?_
 refine qa0 rfl (by kernel_rfl) ?_
 refine qgl (its:=[]) ?_
 refine f1 0 ?_
 refine f1 1 ?_
 refine qkf 2 rfl (by kernel_rfl) (qac call18 (SizeC_ok _) ⟨qar,trivial⟩) ?_
 refine f1 3 ?_
 refine f1 4 ?_
 (refine JF_tx 5 [0,1,2,3,4,5] rfl (by kernel_rfl) (fun c'=>by exact qym call17 (zdl (nC z.size) _ hn hll.1) ⟨qar,⟨qar,trivial⟩⟩) ?_;intro x10 hx10)
 refine f1 6 ?_
 refine qeq (by kernel_rfl) rfl ?_
 show JQ _ _ _ _ _ _
 refine t2 ?_
 obtain ⟨hx1,hx2⟩:=hx10
 refine qa8 hX (v:=slV (nC z.size) x10.2.1) qae ?_
 refine qbq (b:=x10.1) (As':=[qal tPg x10.2.2.pages,Is (.int .i64 (96+(nC z.size:Int))),Top,Top,Top,Top,Top]) qae qba ?_
 refine qd2 (b:=x10.1) hX qae ?_
 refine qb0 4 (qdo [qal tPg x10.2.2.pages,Is (.int .i64 (96+(nC z.size:Int))),Top,Top,Top,Top,Top]) rfl (SubL.fact qbp) ?_
 refine qa0 rfl (by kernel_rfl) ?_
 refine qgl (its:=[]) ?_
 refine f1 0 ?_
 refine f1 1 ?_
 refine f1 2 ?_
 refine f1 3 ?_
 refine f1 4 ?_
 refine f1 5 ?_
 refine qhq 7 rfl (by kernel_rfl) (fun _=>(qay rfl)) ?_
 refine qhq 8 rfl (by kernel_rfl) (fun _=>(by exact qn1 (er rfl))) ?_
 refine qhq 9 rfl (by kernel_rfl) (fun _=>(by exact qa1 (k:=1) (er rfl) rfl rfl rfl rfl qbo)) ?_
 refine qhq 10 rfl (by kernel_rfl) (fun _=>(by exact qbw (er rfl) rfl rfl rfl)) ?_
 (refine qy9 6 [0,1,2,3,4,5,6] rfl (by kernel_rfl) (qac call30 (zc5 (nC z.size) _ _ hn hx1 hx2 hll.2) ⟨qar,⟨qar,trivial⟩⟩) ?_;intro x17 hx17)
 refine f1 11 ?_
 refine f1 12 ?_
 refine qeq (by kernel_rfl) rfl ?_
 show JQ _ _ _ _ _ _
 refine t2 ?_
 exact qmn _ results8 (hp:=by exact hx17) (hD0:=hX.2)
theorem qrx (u:BitVec 32) (i:Nat):qk2 u i=decide (UV u / 2 ^ i % 2=1):=by
 unfold qk2
 rw [qir 32 1 (u>>>i) _ rfl,qlu]
 rfl
theorem qkv (u:BitVec 32) (i:Nat):qk2 u i=u.getLsbD i:=by
 rw [qrx,BitVec.getLsbD,Nat.testBit_eq_decide_div_mod_eq]
 unfold UV
 have e:((u.toNat:Int) / 2 ^ i % 2=1)↔(u.toNat / 2 ^ i % 2=1):=by
  rw [show ((u.toNat:Int) / 2 ^ i % 2)=((u.toNat / 2 ^ i % 2:Nat):Int) by push_cast;rfl]
  omega
 simp only [e]
theorem qvg (j i:Nat) (hj:j<32):(BitVec.ofInt 32 1<<<j).getLsbD i=decide (i=j):=by
 rw [show BitVec.ofInt 32 1=1#32 from rfl,BitVec.getLsbD_shiftLeft]
 by_cases h:i=j
 ·subst h;simp [hj]
 ·simp only [h,decide_false]
  by_cases h1:i<j
  ·simp [h1]
  ·have:i-j≠0:=by omega
   rw [BitVec.getLsbD_one]
   simp [this]
theorem bit_clear (u:BitVec 32) (j i:Nat) (hj:j<32) (hi:i<32):qk2 (u &&& ~~~(BitVec.ofInt 32 1<<<j)) i=(qk2 u i && !decide (i=j)):=by
 rw [qkv,qkv,BitVec.getLsbD_and,BitVec.getLsbD_not,qvg j i hj]
 simp [hi]
def qpg (u:BitVec 32):Prop:=∀ i,qk2 u i=true→1≤i∧i≤15
theorem ql2 (u:BitVec 32):qpg u↔UV (u &&& ~~~BitVec.ofInt 32 65534)=0:=by
 rw [uv0_iff]
 constructor
 ·intro h
  apply BitVec.eq_of_getLsbD_eq
  intro i hi
  rw [BitVec.getLsbD_and,BitVec.getLsbD_not]
  simp only [hi,decide_true,Bool.true_and]
  cases hb:u.getLsbD i with
  | false=>simp
  | true =>
   have h1:=h i (by rw [qkv];exact hb)
   have h2:(BitVec.ofInt 32 65534).getLsbD i=true:=by
    have:∀ k:Fin 16,1≤k.val→(BitVec.ofInt 32 65534).getLsbD k.val=true:=by decide +kernel
    exact this ⟨i,by omega⟩ h1.1
   rw [h2];simp
 ·intro h i hb
  rw [qkv] at hb
  have hi:i<32:=BitVec.lt_of_getLsbD hb
  have h1:=congrArg (fun x:BitVec 32=>x.getLsbD i) h
  simp only [BitVec.getLsbD_and,BitVec.getLsbD_not,hi,decide_true,Bool.true_and,hb] at h1
  have h2:(BitVec.ofInt 32 65534).getLsbD i=true:=by simpa using h1
  have h3:∀ k:Fin 32,(BitVec.ofInt 32 65534).getLsbD k.val=true→1≤k.val∧k.val≤15:=by decide +kernel
  exact h3 ⟨i,hi⟩ h2
theorem bit0_eq (u:BitVec 32) (k:Nat):bit0 u k = !qk2 u k:=by
 unfold bit0
 rw [qrx,qir 32 1 (u>>>k) _ rfl,qlu]
 have:UV u / 2 ^ k % 2=0∨UV u / 2 ^ k % 2=1:=by omega
 rcases this with h|h
 ·show (UV u / 2 ^ k % 2==0)=_
  rw [h];rfl
 ·show (UV u / 2 ^ k % 2==0)=_
  rw [h];rfl
theorem gen_le (x:BitVec 64):qm3 x≤16777215:=by rw [qxj];omega
theorem qlh (a b:List Pg) (l:Int):qgh (a++b) l=(qgh b l).or (qgh a l):=by
 unfold qgh
 rw [List.filter_append,List.getLast?_append]
theorem qri (p:Pg) (l:Int):qgh [p] l=if p.l=l then some p else none:=by
 unfold qgh
 by_cases h:p.l=l
 ·rw [if_pos h,List.filter_cons,if_pos (by simpa using h)];rfl
 ·rw [if_neg h,List.filter_cons,if_neg (by simpa using h)];rfl
theorem qh0 (p:Pg) (xs:List Pg) (l:Int):qgh (p :: xs) l=(qgh xs l).or (if p.l=l then some p else none):=by
 rw [show p :: xs=[p]++xs from rfl,qlh,qri]
theorem qvn {xs:List Pg} {l:Int} (h:∀ x,x∈xs→x.l≠l):qgh xs l=none:=by
 unfold qgh
 rw [List.filter_eq_nil_iff.2 fun x hx=>by simpa using h x hx]
 rfl
theorem qw8 {p:Pg} (l:Int):∀ {xs:List Pg},Asc xs→qgh (qfj xs p) l=if p.l=l then some p else qgh xs l
 | [],_=>by rw [show qfj [] p=[p] from rfl,qri];split <;> rfl
 | q :: xs,h=>by
  obtain ⟨h1,h2⟩:=List.pairwise_cons.1 h
  unfold qfj
  split
  ·rename_i hq
   rw [qh0,qw8 l h2,qh0]
   by_cases hp:p.l=l
   ·rw [if_pos hp,if_pos hp];rfl
   ·rw [if_neg hp,if_neg hp]
  ·rename_i hq
   split
   ·rename_i he
    rw [qh0,qh0]
    by_cases hp:p.l=l
    ·rw [if_pos hp,if_pos hp,qvn fun x hx=>by have:=h1 x hx;omega];rfl
    ·rw [if_neg hp,if_neg hp,if_neg (by omega)]
   ·rename_i he
    rw [qh0]
    by_cases hp:p.l=l
    ·rw [if_pos hp,if_pos hp,qvn fun x hx=>by
      rcases List.mem_cons.1 hx with e|e
      ·subst e;omega
      ·have:=h1 x e;omega]
     rfl
    ·rw [if_neg hp,if_neg hp];cases qgh (q :: xs) l <;> rfl
theorem qtm (l:Int):∀ (xs acc:List Pg),Asc acc→qgh (xs.foldl qfj acc) l=qgh (acc++xs) l
 | [],acc,_=>by rw [List.append_nil];rfl
 | x :: xs,acc,h=>by
  rw [List.foldl_cons,qtm l xs _ (qr1 h),qlh,qlh,qh0,qw8 l h]
  cases qgh xs l with
  | some y=>rfl
  | none=>by_cases hp:x.l=l <;> simp [hp]
theorem qyu (a b:List Pg) (l:Int):qgh (qcx a b) l=(qgh b l).or (qgh a l):=by
 unfold qcx
 rw [qtm l _ [] List.Pairwise.nil,List.nil_append,qlh]
theorem qvp {x:Pg}:∀ {w:List Pg},(∀ y,y∈w→y.l<x.l)→qfj w x=w++[x]
 | [],_=>rfl
 | y :: w,h=>by
  unfold qfj
  rw [if_pos (h y (List.mem_cons_self ..)),qvp fun z hz=>h z (List.mem_cons_of_mem _ hz)]
  rfl
theorem qxp:∀ (xs acc:List Pg),Asc (acc++xs)→xs.foldl qfj acc=acc++xs
 | [],acc,_=>by rw [List.append_nil];rfl
 | x :: xs,acc,h=>by
  have e:qfj acc x=acc++[x]:=qvp fun y hy=>(List.pairwise_append.1 h).2.2 y hy x (List.mem_cons_self ..)
  rw [List.foldl_cons,e,qxp xs _ (by rw [List.append_assoc];exact h),List.append_assoc]
  rfl
theorem qn8 {s:Int} (h:0≤s∧s≤8):qas s=104+16*s:=by unfold qas;rw [if_pos h]
theorem one64 (j i:Nat) (hj:j<64):(BitVec.ofInt 64 1<<<j).getLsbD i=decide (i=j):=by
 rw [show BitVec.ofInt 64 1=1#64 from rfl,BitVec.getLsbD_shiftLeft]
 by_cases h:i=j
 ·subst h;simp [hj]
 ·simp only [h,decide_false]
  by_cases h1:i<j
  ·simp [h1]
  ·have:i-j≠0:=by omega
   rw [BitVec.getLsbD_one]
   simp [this]
def clrH (h:Hd) (i:Nat):Hd:=⟨h.owner,h.used &&& ~~~(BitVec.ofInt 32 1<<<i)⟩
abbrev FrS:=List Pg×List (Int×Hd)
def hS (ks:List Pg) (st:FrS) (s:Int):Hd:=(qo1 st.2 s).getD (qeg ks s).2.1
def wrE (ks:List Pg) (e:Int×Hd):Pg:=(qfk (qeg ks e.1).1 e.2).1
def stepF (ks:List Pg) (lines:Int) (st:FrS) (p:Pt):FrS:=(st.1++[(relP (qb6 ks p.line)).1],qmp st.2 (qg9 lines p.line).1 (clrH (hS ks st (qg9 lines p.line).1) (qg9 lines p.line).2.1.toNat))
def errF (ks:List Pg) (lines:Int) (p:Pt):Option Int:=
 if qeo (qb6 ks p.line)=true then some 3 else
 if (qh1 (qb6 ks p.line).d0==0||qm3 (qb6 ks p.line).d0 != p.gen)=true then some 11 else
 if ((qeg ks (qg9 lines p.line).1).2.2.2 != 0)=true then some (qeg ks (qg9 lines p.line).1).2.2.2 else
 if (UV ((qeg ks (qg9 lines p.line).1).2.1.used>>>(qg9 lines p.line).2.1.toNat&&&BitVec.ofInt 32 1)==0)=true then some 14 else none
def stF (ks:List Pg) (lines:Int):List Pt→FrS→Except Int FrS
 | [],st=>.ok st
 | p :: r,st=>match errF ks lines p with
  | some e=>.error e
  | none=>stF ks lines r (stepF ks lines st p)
theorem mget_mem {α:Type} {k:Int} {v:α}:∀ {l:List (Int×α)},qo1 l k=some v→(k,v)∈l
 | [],h=>by simp [qo1] at h
 | (j,x) :: l,h=>by
  unfold qo1 at h
  split at h
  ·rename_i e
   have e2:=Option.some.inj h
   subst e e2
   exact List.mem_cons_self ..
  ·exact List.mem_cons_of_mem _ (mget_mem h)
theorem mget_not {α:Type} {k:Int}:∀ {l:List (Int×α)},qo1 l k=none→k ∉ l.map Prod.fst
 | [],_=>by simp
 | (j,x) :: l,h=>by
  unfold qo1 at h
  split at h
  ·cases h
  ·rename_i e
   simp only [List.map_cons,List.mem_cons,not_or]
   exact ⟨fun e2=>e e2.symm,mget_not h⟩
theorem loc_inv {lines x:Int} (h:(qg9 lines x).2.2=true):(0≤(qg9 lines x).1∧(qg9 lines x).1<(qa7 lines:Nat))∧(1≤(qg9 lines x).2.1∧(qg9 lines x).2.1≤15)∧x=qas (qg9 lines x).1+(qg9 lines x).2.1:=by
 have hn:=qe9 lines
 have hc:qfu lines=((qa7 lines:Nat):Int):=by unfold qa7;have:=qh5 lines;omega
 unfold qg9 at h ⊢
 split
 ·rename_i h1
  dsimp only
  rw [qn8 (by omega)]
  omega
 ·rename_i h1
  rw [if_neg h1] at h;cases h
theorem lat_asc {w:List Pg} (h:Asc w) {y:Pg} (hy:y∈w):qgh w y.l=some y:=by
 induction w with
 | nil=>cases hy
 | cons x w ih =>
  obtain ⟨h1,h2⟩:=List.pairwise_cons.1 h
  rw [qh0]
  rcases List.mem_cons.1 hy with e|e
  ·subst e
   rw [qvn fun z hz=>by have:=h1 z hz;omega,if_pos rfl];rfl
  ·rw [ih h2 e];rfl
theorem and_w (u:BitVec 32) {j:Nat} (hj:j<32):(u &&& ~~~(BitVec.ofInt 32 1<<<j)).setWidth 64=u.setWidth 64 &&& ~~~(BitVec.ofInt 64 1<<<j):=by
 apply BitVec.eq_of_getLsbD_eq
 intro i hi
 rw [BitVec.getLsbD_setWidth,BitVec.getLsbD_and,BitVec.getLsbD_and,BitVec.getLsbD_not,BitVec.getLsbD_not,BitVec.getLsbD_setWidth,qvg j i hj,one64 j i (by omega)]
 rcases Nat.lt_or_ge i 32 with h|h
 ·simp [hi,h]
 ·rw [BitVec.getLsbD_of_ge u i h];simp
theorem usable_clr {u:BitVec 32} {j:Nat} (h:qpg u) (hj:j<32):qpg (u &&& ~~~(BitVec.ofInt 32 1<<<j)):=fun i hi=>by
 have hi32:i<32:=by
  rw [qkv] at hi
  exact BitVec.lt_of_getLsbD hi
 rw [bit_clear u j i hj hi32] at hi
 exact h i (Bool.and_eq_true_iff.1 hi).1
theorem bit0_iff (u:BitVec 32) (k:Nat):(UV (u>>>k&&&BitVec.ofInt 32 1)==0) = !qk2 u k:=bit0_eq u k
structure HdOk (ks:List Pg) (lines:Int) (done:List Pt) (s:Int) (h:Hd):Prop where
 rng:0≤s∧s<(qa7 lines:Nat)
 kn:qe5 ks (qas s)=true
 lk:qeo (qb6 ks (qas s))=false
 rd:(qcj (qb6 ks (qas s))).2=0
 got:qeg ks s=(qb6 ks (qas s),(qcj (qb6 ks (qas s))).1,true,0)
 own:h.owner=(qcj (qb6 ks (qas s))).1.owner
 use:qpg h.used
 bit:∀ i:Nat,i<32→(∀ p,p∈done→p.line≠qas s+(i:Int))→qk2 h.used i=qk2 (qcj (qb6 ks (qas s))).1.used i
theorem HdOk.first {ks:List Pg} {lines s:Int} (done:List Pt) (hs:0≤s∧s<(qa7 lines:Nat)) (hb:qe5 ks (qas s)=true) (h:((qeg ks s).2.2.2 != 0)=false):HdOk ks lines done s (qeg ks s).2.1:=by
 obtain ⟨g1,g2,g3⟩:=qtr hb h
 exact ⟨hs,hb,g1,g2,g3,by rw [g3],by rw [g3];exact (ql2 _).2 (qzo g2).1,fun i _ _=>by rw [g3]⟩
theorem HdOk.wr {ks:List Pg} {lines s:Int} {done:List Pt} {h:Hd} (H:HdOk ks lines done s h):wrE ks (s,h)={ qb6 ks (qas s) with d1:=h.used.setWidth 64 }∧qcj (wrE ks (s,h))=(h,0)∧(wrE ks (s,h)).l=qas s∧qeo (wrE ks (s,h))=false:=by
 obtain ⟨_,h2,_,_,_,_,_,_,h3⟩:=qu5 H.rd
 have hn:=qbj (qb6 ks (qas s)).d0
 have ho:h.owner=UV (qb6 ks (qas s)).d0-1:=by rw [H.own,h3]
 have hw:=qnn H.rd (o:=h.owner) (u:=h.used) (by omega) ((ql2 _).1 H.use)
 have hp:(qeg ks s).1=qb6 ks (qas s):=by rw [H.got]
 have e:qfk (qeg ks s).1 h=({ qb6 ks (qas s) with d0:=BitVec.ofInt 64 (h.owner+1),d1:=h.used.setWidth 64 },0):=by rw [hp];exact hw
 have hb:=back_header (p:=(qeg ks s).1) (h:=h) (by rw [e])
 refine ⟨?_,hb.1,?_,?_⟩
 ·show (qfk (qeg ks s).1 h).1=_
  rw [e,ho]
  dsimp only
  rw [show UV (qb6 ks (qas s)).d0-1+1=UV (qb6 ks (qas s)).d0 by omega,show BitVec.ofInt 64 (UV (qb6 ks (qas s)).d0)=(qb6 ks (qas s)).d0 by unfold UV;simp]
 ·show (qfk (qeg ks s).1 h).1.l=_
  rw [hb.2.1,hp,qf4 H.kn]
 ·show qeo (qfk (qeg ks s).1 h).1=false
  unfold qeo
  rw [hb.2.2,hp]
  exact H.lk
theorem HdOk.clr {ks:List Pg} {lines s:Int} {done:List Pt} {h:Hd} (H:HdOk ks lines done s h) {i:Nat} (hi:i≤15) {p:Pt} (hp:p.line=qas s+(i:Int)):HdOk ks lines (done++[p]) s (clrH h i)∧wrE ks (s,clrH h i)=qvx (wrE ks (s,h)) (i:Int):=by
 have H2:HdOk ks lines (done++[p]) s (clrH h i):=⟨H.rng,H.kn,H.lk,H.rd,H.got,H.own,usable_clr H.use (by omega),fun j hj hno=>by
  have hji:j≠i:=fun e=>hno p (List.mem_append.2 (.inr (List.mem_singleton.2 rfl))) (by rw [hp,e])
  show qk2 (h.used &&& ~~~(BitVec.ofInt 32 1<<<i)) j=_
  rw [bit_clear h.used i j (by omega) hj,decide_eq_false hji,Bool.not_false,Bool.and_true]
  exact H.bit j hj fun q hq=>hno q (List.mem_append.2 (.inl hq))⟩
 refine ⟨H2,?_⟩
 rw [H2.wr.1,H.wr.1]
 unfold qvx
 rw [Int.toNat_natCast,show (clrH h i).used=h.used &&& ~~~(BitVec.ofInt 32 1<<<i) from rfl,and_w h.used (by omega)]
theorem HdOk.more {ks:List Pg} {lines s:Int} {done:List Pt} {h:Hd} (H:HdOk ks lines done s h) (p:Pt):HdOk ks lines (done++[p]) s h:=
 ⟨H.rng,H.kn,H.lk,H.rd,H.got,H.own,H.use,fun i hi hno=>H.bit i hi fun q hq=>hno q (List.mem_append.2 (.inl hq))⟩
structure FInv (ks:List Pg) (lines:Int) (done:List Pt) (st:FrS) (w:List Pg):Prop where
 asc:Asc w
 mem:∀ y,y∈w↔y∈st.1∨∃ e,e∈st.2∧y=wrE ks e
 nod:(st.2.map Prod.fst).Nodup
 pgl:st.1.map Pg.l=done.map Pt.line
 dat:∀ p,p∈done→(qg9 lines p.line).2.2=true
 hd:∀ e,e∈st.2→HdOk ks lines done e.1 e.2
theorem data_line {lines x s:Int} (h:(qg9 lines x).2.2=true) (hs:0≤s∧s≤8):x≠qas s:=by
 have hn:=qe9 lines
 obtain ⟨h1,h2,h3⟩:=loc_inv h
 rw [qn8 hs]
 rw [qn8 (by omega)] at h3
 omega
theorem FInv.look {ks:List Pg} {lines:Int} {done:List Pt} {st:FrS} {w:List Pg} (H:FInv ks lines done st w) {s:Int} (hs:0≤s∧s<(qa7 lines:Nat)):qb6 (qcx ks w) (qas s)=match qo1 st.2 s with
  | some h=>wrE ks (s,h)
  | none=>qb6 ks (qas s):=by
 have hn:=qe9 lines
 unfold qb6
 rw [qyu]
 cases hg:qo1 st.2 s with
 | some h =>
  have hm:=mget_mem hg
  have hw:=(H.hd _ hm).wr
  have h1:qgh w (qas s)=some (wrE ks (s,h)):=by
   have:=lat_asc H.asc ((H.mem _).2 (.inr ⟨_,hm,rfl⟩))
   rwa [hw.2.2.1] at this
  rw [h1];rfl
 | none =>
  have hk:=mget_not hg
  rw [qvn fun y hy e=>by
   rcases (H.mem y).1 hy with h1|⟨e1,h1,h2⟩
   ·have h3:y.l∈done.map Pt.line:=by rw [← H.pgl];exact List.mem_map_of_mem h1
    obtain ⟨p,hp,h4⟩:=List.mem_map.1 h3
    exact data_line (H.dat p hp) (s:=s) (by omega) (by rw [h4,e])
   ·subst h2
    have h3:=(H.hd e1 h1)
    have h4:=h3.wr.2.2.1
    have h5:=h3.rng
    rw [show (e1.1,e1.2)=e1 from rfl,e,qn8 (by omega),qn8 (by omega)] at h4
    exact hk (List.mem_map.2 ⟨e1,h1,by omega⟩)]
  rfl
theorem FInv.step {ks:List Pg} {lines:Int} {done:List Pt} {st:FrS} {w:List Pg} {p:Pt} (H:FInv ks lines done st w) (hl:(qg9 lines p.line).2.2=true) (hkn:qe5 ks p.line=true) (hkh:qe5 ks (qas (qg9 lines p.line).1)=true) (hnew:p.line ∉ done.map Pt.line)
  (hg:((qeg ks (qg9 lines p.line).1).2.2.2 != 0)=false) (hlk:qeo (qb6 ks p.line)=false) (hkd:qh1 (qb6 ks p.line).d0≠0) :
  qeo (qb6 (qcx ks w) (qas (qg9 lines p.line).1))=false∧(qcj (qb6 (qcx ks w) (qas (qg9 lines p.line).1))).2=0 ∧
  qk2 (qcj (qb6 (qcx ks w) (qas (qg9 lines p.line).1))).1.used (qg9 lines p.line).2.1.toNat=qk2 (qeg ks (qg9 lines p.line).1).2.1.used (qg9 lines p.line).2.1.toNat ∧
  FInv ks lines (done++[p]) (stepF ks lines st p) (qcx w [(relR (qb6 ks p.line)).1,qvx (qb6 (qcx ks w) (qas (qg9 lines p.line).1)) (qg9 lines p.line).2.1]):=by
 have hn:=qe9 lines
 obtain ⟨h1,h2,h3⟩:=loc_inv hl
 have h0:=HdOk.first done h1 hkh hg
 have hlook:=H.look h1
 have hbit:∀ q,q∈done→q.line≠qas (qg9 lines p.line).1+(((qg9 lines p.line).2.1.toNat:Nat):Int):=fun q hq e=>hnew (List.mem_map.2 ⟨q,hq,by omega⟩)
 unfold stepF
 generalize hlo:qg9 lines p.line=lo at *
 obtain ⟨s,i,b⟩:=lo
 dsimp only at *
 obtain ⟨n,rfl⟩:∃ n:Nat,i=(n:Int):=⟨i.toNat,by omega⟩
 rw [Int.toNat_natCast] at *
 have hX:∃ h,hS ks st s=h∧HdOk ks lines done s h∧qeo (qb6 (qcx ks w) (qas s))=false∧qcj (qb6 (qcx ks w) (qas s))=(h,0)∧qvx (qb6 (qcx ks w) (qas s)) (n:Int)=wrE ks (s,clrH h n):=by
  cases hm:qo1 st.2 s with
  | some h =>
   rw [hm] at hlook
   dsimp only at hlook
   have hh:=H.hd _ (mget_mem hm)
   refine ⟨h,by unfold hS;rw [hm];rfl,hh,by rw [hlook];exact hh.wr.2.2.2,by rw [hlook];exact hh.wr.2.1,by rw [hlook];exact ((hh.clr (i:=n) (p:=p) (by omega) h3).2).symm⟩
  | none =>
   rw [hm] at hlook
   dsimp only at hlook
   have e:hS ks st s=(qeg ks s).2.1:=by unfold hS;rw [hm];rfl
   have e2:(qeg ks s).2.1=(qcj (qb6 ks (qas s))).1:=by rw [h0.got]
   have e3:wrE ks (s,(qeg ks s).2.1)=qb6 ks (qas s):=by
    rw [h0.wr.1,e2]
    have:=(qzo h0.rd).2
    rw [this]
   refine ⟨_,e,h0,by rw [hlook];exact h0.lk,by rw [hlook,e2,← h0.rd],by rw [hlook,← e3];exact ((h0.clr (i:=n) (p:=p) (by omega) h3).2).symm⟩
 obtain ⟨h,e1,hh,e2,e3,e4⟩:=hX
 obtain ⟨hc1,hc2⟩:=hh.clr (i:=n) (p:=p) (by omega) h3
 refine ⟨e2,by rw [e3],?_,?_⟩
 ·rw [e3]
  dsimp only
  rw [hh.bit n (by omega) hbit,show (qeg ks s).2.1=(qcj (qb6 ks (qas s))).1 by rw [h0.got]]
 ·rw [e1,e4]
  have hpl:=qf4 hkn
  have hheap:qob (qb6 ks p.line).l=true:=by rw [hpl];unfold qob;rw [qn8 (by omega)] at h3;simp;omega
  have hr1:relR (qb6 ks p.line)=(tagP (qb6 ks p.line) ⟨0,qm3 (qb6 ks p.line).d0,0#32⟩,0):=by
   unfold relR
   rw [if_neg (by rw [hheap];simp),if_neg (by rw [hlk];simp),if_neg (by simpa using hkd)]
  have hr2:relP (qb6 ks p.line)=relR (qb6 ks p.line):=by
   rw [hr1]
   unfold relP
   rw [if_pos hheap,if_neg (by rw [hlk];simp),if_neg hkd]
  rw [hr2]
  have hal:(relR (qb6 ks p.line)).1.l=p.line:=by rw [hr1];exact hpl
  generalize (relR (qb6 ks p.line)).1=a at hal
  have hbl:=hc1.wr.2.2.1
  have hmw:qcx w [a,wrE ks (s,clrH h n)]=qfj (qfj w a) (wrE ks (s,clrH h n)):=by
   unfold qcx
   rw [List.foldl_append,qxp w [] H.asc]
   rfl
  have hane:a.l≠(wrE ks (s,clrH h n)).l:=by rw [hal,hbl];exact data_line (lines:=lines) (by rw [hlo];exact hl) (by omega)
  have hwl:∀ y,y∈w→y.l≠a.l:=fun y hy e=>by
   rcases (H.mem y).1 hy with g1|⟨x,g1,g2⟩
   ·have g3:y.l∈done.map Pt.line:=by rw [← H.pgl];exact List.mem_map_of_mem g1
    rw [e,hal] at g3;exact hnew g3
   ·subst g2
    have g4:=H.hd x g1
    have g5:=g4.rng
    rw [g4.wr.2.2.1,hal] at e
    exact data_line (lines:=lines) (s:=x.1) (by rw [hlo];exact hl) (by omega) e.symm
  refine ⟨by rw [hmw];exact qr1 (qr1 H.asc),fun y=>?_,qw4 H.nod,?_,?_,?_⟩
  ·rw [hmw,qw5 (qr1 H.asc),qw5 H.asc,H.mem]
   dsimp only
   constructor
   ·rintro (e|⟨e|⟨e,g1⟩,g2⟩)
    ·exact .inr ⟨_,(qjy H.nod).2 (.inl rfl),e⟩
    ·exact .inl (List.mem_append.2 (.inr (by rw [e];exact List.mem_singleton.2 rfl)))
    ·rcases e with e|⟨x,hx,rfl⟩
     ·exact .inl (List.mem_append.2 (.inl e))
     ·refine .inr ⟨x,(qjy H.nod).2 (.inr ⟨hx,fun e=>g2 ?_⟩),rfl⟩
      rw [(H.hd x hx).wr.2.2.1,hbl,e]
   ·rintro (e|⟨x,hx,rfl⟩)
    ·rcases List.mem_append.1 e with e|e
     ·have hyw:y∈w:=(H.mem y).2 (.inl e)
      refine .inr ⟨.inr ⟨.inl e,hwl y hyw⟩,fun g=>?_⟩
      have g3:y.l∈done.map Pt.line:=by rw [← H.pgl];exact List.mem_map_of_mem e
      obtain ⟨q,hq,g4⟩:=List.mem_map.1 g3
      exact data_line (H.dat q hq) (s:=s) (by omega) (by rw [g4,g,hbl])
     ·have:=List.mem_singleton.1 e
      subst this
      exact .inr ⟨.inl rfl,hane⟩
    ·rcases (qjy H.nod).1 hx with e|⟨e,g⟩
     ·rw [e];exact .inl rfl
     ·have hyw:wrE ks x∈w:=(H.mem _).2 (.inr ⟨x,e,rfl⟩)
      refine .inr ⟨.inr ⟨.inr ⟨x,e,rfl⟩,hwl _ hyw⟩,fun g2=>g ?_⟩
      have g3:=H.hd x e
      have g4:=g3.rng
      rw [g3.wr.2.2.1,hbl,qn8 (by omega),qn8 (by omega)] at g2
      omega
  ·rw [List.map_append,List.map_append,H.pgl]
   show done.map Pt.line++[a.l]=_
   rw [hal];rfl
  ·intro q hq
   rcases List.mem_append.1 hq with e|e
   ·exact H.dat q e
   ·rw [List.mem_singleton.1 e,hlo];exact hl
  ·intro x hx
   rcases (qjy H.nod).1 hx with e|⟨e,g⟩
   ·rw [e];exact hc1
   ·exact (H.hd x e).more p
theorem FInv.start (ks:List Pg) (lines:Int):FInv ks lines [] ([],[]) []:=⟨List.Pairwise.nil,fun y=>by simp,by simp,rfl,fun p hp=>(by cases hp),fun e he=>(by cases he)⟩
theorem relS_eq {ks:List Pg} {lines:Int}:∀ (r done:List Pt) (st:FrS) (w:List Pg),FInv ks lines done st w→(∀ p,p∈r→(qg9 lines p.line).2.2=true∧qe5 ks p.line=true∧qe5 ks (qas (qg9 lines p.line).1)=true)→((done++r).map Pt.line).Nodup →
  match stF ks lines r st with
  | .error e=>relS ks lines r w=qgs e
  | .ok st'=>∃ w',relS ks lines r w={ S19.nil with over:=true,writes:=w' }∧FInv ks lines (done++r) st' w'
 | [],done,st,w,H,_,_=>⟨w,rfl,by rw [List.append_nil];exact H⟩
 | p :: r,done,st,w,H,hr,hnd=>by
  obtain ⟨hl,hkn,hkh⟩:=hr p (List.mem_cons_self ..)
  have hn:=qe9 lines
  obtain ⟨h1,h2,h3⟩:=loc_inv hl
  have hnew:p.line ∉ done.map Pt.line:=fun hm=>by
   rw [List.map_append] at hnd
   exact (List.nodup_append.1 hnd).2.2 _ hm _ (List.mem_cons_self ..) rfl
  have hst:=fun a b c=>H.step hl hkn hkh hnew a b c
  have hlook:=H.look h1
  unfold stF relS errF
  by_cases c1:qeo (qb6 ks p.line)=true
  ·rw [if_pos c1,if_pos c1]
  rw [if_neg c1,if_neg c1]
  by_cases c2:(qh1 (qb6 ks p.line).d0==0||qm3 (qb6 ks p.line).d0 != p.gen)=true
  ·rw [if_pos c2,if_pos c2]
  rw [if_neg c2,if_neg c2]
  have hkd:qh1 (qb6 ks p.line).d0≠0:=fun e=>c2 (by rw [e];rfl)
  cases c3:((qeg ks (qg9 lines p.line).1).2.2.2 != 0) with
  | true =>
   rw [if_pos rfl]
   dsimp only
   have hnone:qo1 st.2 (qg9 lines p.line).1=none:=by
    cases hm:qo1 st.2 (qg9 lines p.line).1 with
    | none=>rfl
    | some h =>
     have g:=(H.hd _ (mget_mem hm)).got
     rw [g] at c3
     exact absurd (show ((0:Int) != 0)=true from c3) (by decide)
   rw [hnone] at hlook
   dsimp only at hlook
   rw [hlook]
   have hbad:=qxh hkh (show 0≤(qg9 lines p.line).1∧(qg9 lines p.line).1≤8 by omega) (f:=qgs) (z:=relS ks lines r (qcx w [(relR (qb6 ks p.line)).1,qvx (qb6 ks (qas (qg9 lines p.line).1)) (qg9 lines p.line).2.1])) c3
   rw [← hbad]
   by_cases c4:qeo (qb6 ks (qas (qg9 lines p.line).1))=true
   ·rw [if_pos c4,if_pos c4]
   rw [if_neg c4,if_neg c4]
   have c5:((qcj (qb6 ks (qas (qg9 lines p.line).1))).2 != 0)=true:=by
    revert c3
    unfold qeg
    rw [if_pos hkh,if_neg c4]
    exact id
   rw [if_pos c5,if_pos (by rw [c5];rfl)]
  | false =>
   obtain ⟨g1,g2,g3,g4⟩:=hst c3 (by simpa using c1) hkd
   rw [if_neg (show ¬ false=true by simp),if_neg (show ¬ qeo (qb6 (qcx ks w) (qas (qg9 lines p.line).1))=true by rw [g1];simp),bit0_iff,bit0_iff,g3,g2]
   cases c4:qk2 (qeg ks (qg9 lines p.line).1).2.1.used (qg9 lines p.line).2.1.toNat with
   | false=>rw [if_pos (show (!false)=true from rfl),if_pos (show ((0:Int) != 0 || !false)=true from rfl)]
   | true =>
    rw [if_neg (show ¬ (!true)=true by decide),if_neg (show ¬ ((0:Int) != 0 || !true)=true by decide)]
    dsimp only
    have ih:=relS_eq r (done++[p]) _ _ g4 (fun q hq=>hr q (List.mem_cons_of_mem _ hq)) (by rw [List.append_assoc];exact hnd)
    rw [List.append_assoc] at ih
    exact ih
theorem FInv.fin {ks:List Pg} {lines:Int} {done:List Pt} {st:FrS} {w ys:List Pg} (H:FInv ks lines done st w) (hnd:(done.map Pt.line).Nodup) (hp:ys.Perm (st.1++st.2.map (wrE ks))) (hs:Srt Pg.l 0 ys.length ys):ys=w:=by
 have hn:=qe9 lines
 have h3:(ys.map Pg.l).Nodup:=by
  refine ((hp.map Pg.l).nodup_iff).2 ?_
  rw [List.map_append,H.pgl]
  refine List.nodup_append.2 ⟨hnd,?_,fun a ha b hb e=>?_⟩
  ·rw [List.map_map]
   have h4:=H.nod
   rw [List.Nodup,List.pairwise_map] at h4 ⊢
   refine (List.Pairwise.and_mem.1 h4).imp fun {x y} hxy=>?_
   obtain ⟨hx,hy,hne⟩:=hxy
   have q1:=H.hd x hx
   have q2:=H.hd y hy
   have q3:=q1.rng
   have q4:=q2.rng
   show (wrE ks x).l≠(wrE ks y).l
   rw [q1.wr.2.2.1,q2.wr.2.2.1,qn8 (by omega),qn8 (by omega)]
   omega
  ·rw [List.map_map] at hb
   obtain ⟨x,hx,rfl⟩:=List.mem_map.1 hb
   obtain ⟨p,hp',rfl⟩:=List.mem_map.1 ha
   have q1:=H.hd x hx
   have q3:=q1.rng
   exact data_line (H.dat p hp') (s:=x.1) (by omega) (by rw [e];exact q1.wr.2.2.1)
 refine asc_ext (qz8 hs h3) H.asc fun x=>?_
 rw [hp.mem_iff,H.mem,List.mem_append,List.mem_map]
 constructor
 ·rintro (h|⟨e,h1,h2⟩)
  ·exact .inl h
  ·exact .inr ⟨e,h1,h2.symm⟩
 ·rintro (h|⟨e,h1,h2⟩)
  ·exact .inl h
  ·exact .inr ⟨e,h1,h2.symm⟩
theorem freeX_ok (a b:Pt):FnP Tryz.prog 67 [qm6 a,qdo (tPt.cells b)] (Is (.bool (a.line==b.line))):=by
 refine FnP.enter func67 ntmps67 rfl rfl ?_
 intro c hX
 refine t3 ?_
 intro i2
 refine t14 ?_
 refine qa4 results67 rfl () (SubL.eq ?_) (List.nil_sublist _)
 rfl
def ixV (f:Pt→Bool):List Pt→Nat→Int
 | [],_=>-1
 | x :: r,k=>if f x=true then (k:Int) else ixV f r (k+1)
theorem ixV_any (f:Pt→Bool):∀ (xs:List Pt) (k:Nat),decide (ixV f xs k≥0)=xs.any f
 | [],_=>rfl
 | x :: r,k=>by
  unfold ixV
  rw [List.any_cons]
  cases h:f x with
  | true=>rw [if_pos rfl,decide_eq_true (by omega)];rfl
  | false=>rw [if_neg (by simp),ixV_any f r (k+1)];rfl
theorem IndexX_ok (xs:List Pt) (p:Pt) (hl:xs.length≤4):FnP Tryz.prog 93 [qal tPt xs,IsFn 67 [qdo (tPt.cells p)]] (Is (.int .i64 (ixV (fun q=>q.line==p.line) xs 0))):=by
 obtain ⟨R,hR⟩:∃ R,ixV (fun q=>q.line==p.line) xs 0=R:=⟨_,rfl⟩
 rw [hR]
 refine FnP.enter func93 ntmps93 rfl rfl ?_
 intro c hX
 refine t14 ?_
 refine qbr (fun k:Nat=>k≤xs.length∧ixV (fun q=>q.line==p.line) (xs.drop k) k=R) (fun k=>[(0,qal tPt xs),(1,IsFn 67 [qdo (tPt.cells p)]),(7,Is (.int .i64 (xs.length:Nat))),(8,Is (.int .i64 (k:Nat)))]) (fun _=>[]) (fun k=>xs.length-k) 0 ⟨Nat.zero_le _,hR⟩ qbl qab ?_
 rintro k ⟨hk,hs⟩
 refine t6 ?_
 refine cN ?_ ?_ <;> intro h2
 ·have hlt:k<xs.length:=by have:=of_decide_eq_true h2;omega
  clear h2
  obtain ⟨x,hx⟩:∃ x,xs[k]?=some x:=⟨_,List.getElem?_eq_getElem hlt⟩
  rw [qjc hx] at hs
  unfold ixV at hs
  refine t15 ?_
  refine qap rfl (by first|exact qau (j:=k) (er rfl) (er rfl) rfl rfl (by first|rfl|omega) hx|exact qau (j:=k) (er rfl) (er rfl) rfl rfl (by first|rfl|omega) (by assumption)) ?_
  refine qap rfl (by first|exact qcm (n:=2) (er rfl) rfl rfl rfl rf qbo|exact qbs (n:=2) (er rfl) qbp rf rf rf rf qbo) ?_
  refine qap rfl (op_callFn (As:=[qm6 x]) (er rfl) call67 (freeX_ok x p) ⟨evS,trivial⟩) ?_
  refine t2 ?_
  refine cN ?_ ?_ <;> intro h4
  ·rw [if_pos h4] at hs
   subst hs
   refine t12 ?_
   refine qa4 results93 rfl () (SubL.eq ?_) (List.nil_sublist _)
   rfl
  rw [if_neg (by rw [h4];simp)] at hs
  clear h4
  refine t7 ?_
  exact qaa (k+1) ⟨by omega,hs⟩ (by omega) qbl qab
 have hke:k=xs.length:=by have:=of_decide_eq_false h2;omega
 subst hke
 rw [List.drop_length] at hs
 have hs':(-1:Int)=R:=hs
 subst hs'
 refine t11 ?_
 refine qa4 results93 rfl () (SubL.eq ?_) (List.nil_sublist _)
 rfl
theorem ContainsX_ok (xs:List Pt) (p:Pt) (hl:xs.length≤4):FnP Tryz.prog 66 [qal tPt xs,IsFn 67 [qdo (tPt.cells p)]] (Is (.bool (xs.any fun q=>q.line==p.line))):=by
 rw [← ixV_any _ xs 0]
 refine FnP.enter func66 ntmps66 rfl rfl ?_
 intro c hX
 refine t9 ?_
 refine kS call93 (IndexX_ok xs p hl) ?_
 refine t5 ?_
 refine qa4 results66 rfl () (SubL.eq ?_) (List.nil_sublist _)
 rfl
def askL (lines:Int) (l:List Pt):List Int:=l.flatMap fun p=>[p.line,qas (qg9 lines p.line).1]
theorem askL_snoc (lines:Int) {l:List Pt} {k:Nat} {p:Pt} (h:l[k]?=some p):askL lines (l.take (k+1))=askL lines (l.take k)++[p.line,qas (qg9 lines p.line).1]:=by
 unfold askL
 rw [List.take_add_one,h,List.flatMap_append]
 simp
theorem askL_len (lines:Int):∀ l:List Pt,(askL lines l).length=2*l.length
 | []=>rfl
 | p :: l=>by
  have:=askL_len lines l
  unfold askL at this ⊢
  rw [List.flatMap_cons,List.length_append,this,List.length_cons];simp;omega
def pgsF (ks:List Pg) (hs:List (Int×Hd)):List (Int×Pg):=hs.map fun e=>(e.1,(qeg ks e.1).1)
theorem pgs_put (ks:List Pg) (s:Int) (h:Hd):∀ hs:List (Int×Hd),qmp (pgsF ks hs) s (qeg ks s).1=pgsF ks (qmp hs s h)
 | []=>rfl
 | (j,x) :: hs=>by
  have ih:=pgs_put ks s h hs
  unfold pgsF at ih ⊢
  rw [List.map_cons]
  unfold qmp
  dsimp only
  by_cases e:j=s
  ·subst e;rw [if_pos rfl,if_pos rfl];rfl
  ·rw [if_neg e,if_neg e,List.map_cons,ih]
theorem pgs_get (ks:List Pg) {s:Int}:∀ {hs:List (Int×Hd)},s∈hs.map Prod.fst→qo1 (pgsF ks hs) s=some (qeg ks s).1
 | [],h=>by cases h
 | (j,x) :: hs,h=>by
  unfold pgsF
  rw [List.map_cons]
  unfold qo1
  dsimp only
  by_cases e:j=s
  ·subst e;rw [if_pos rfl]
  ·rw [if_neg e]
   exact pgs_get ks (by
    rcases List.mem_cons.1 h with g|g
    ·exact absurd g.symm e
    ·exact g)
def wrM (ks:List Pg) (hs:List (Int×Hd)):List (Int×Pg):=hs.map fun e=>(e.1,wrE ks e)
theorem wrM_at {ks:List Pg} {hs:List (Int×Hd)} {j:Nat} {e:Int×Hd} (h:hs[j]?=some e):(wrM ks hs)[j]?=some (e.1,wrE ks e):=by unfold wrM;rw [List.getElem?_map,h];rfl
theorem fr0 (lines:Int) (n:Nat):((!clB 0 lines||decide ((n:Int)<1))||decide ((n:Int)>3))=(((!qqp lines)||decide ((n:Int)<1))||decide ((n:Int)>3)):=by
 unfold clB qqp
 rfl
theorem any_line {l:List Pt} {x:Int}:l.any (fun q=>q.line==x)=false↔x ∉ l.map Pt.line:=by
 rw [List.any_eq_false]
 constructor
 ·intro h hm
  obtain ⟨q,hq,e⟩:=List.mem_map.1 hm
  exact h q hq (by simpa using e)
 ·intro h q hq e
  exact h (List.mem_map.2 ⟨q,hq,by simpa using e⟩)
theorem stF_size {ks:List Pg} {lines:Int} (st:FrS) (p:Pt):(stepF ks lines st p).1.length=st.1.length+1∧(stepF ks lines st p).2.length≤st.2.length+1:=⟨by unfold stepF;simp,mput_len _ _ _⟩
theorem FreeP_ok (ks:List Pg) (lines:Int) (l:List Pt) :
  FnP Tryz.prog 28 [Is (.int .i64 lines),qal tPt l,qal tPg ks] (qbv [qal tI64 (freR ks lines l).need,qal tPg (freR ks lines l).writes,Is (.int .i64 (freR ks lines l).code),Is (.bool (freR ks lines l).over)]):=by
 obtain ⟨W,hE⟩:∃ W,freR ks lines l=W:=⟨_,rfl⟩
 rw [hE]
 unfold freR at hE
 rw [fr0] at hE
 have hcn:=qe9 lines
 refine FnP.enter func28 ntmps28 rfl rfl ?_
 intro c hX
 refine t12 ?_
 refine kS call32 (qlj _) ?_
 refine t13 ?_
 refine cN ?_ ?_ <;> intro h1
 ·replace hE:=qce hE h1
  refine t10 ?_
  subst hE
  exact qaq (Bs:=[_,_,_,_]) results28 eT () SubL.rfl' (List.nil_sublist _)
 rw [ifF h1] at hE
 have hcl:(104≤lines∧lines≤256)∧1≤l.length∧l.length≤3:=by unfold qqp at h1;simp at h1;omega
 obtain ⟨hli,hll1,hll3⟩:=hcl
 clear h1
 refine t16 ?_
 refine qcn 3 tI64 ?_
 refine qbr (fun z:Nat×(Option Addr×Nat)=>z.1≤l.length∧frD ks lines l (l.take z.1) (l.drop z.1) (askL lines (l.take z.1))=W∧(∀ p,p∈l.take z.1→(qg9 lines p.line).2.2=true)∧((l.take z.1).map Pt.line).Nodup) (fun z=>[(0,Is (.int .i64 lines)),(1,qal tPt l),(2,qal tPg ks),(7,Is (.slice none 0 0)),(10,Is (slV (askL lines (l.take z.1)).length z.2)),(50,qal tPt l),(51,Is (.int .i64 (l.length:Nat))),(52,Is (.int .i64 (z.1:Nat)))]) (fun z=>[buf (slV (askL lines (l.take z.1)).length z.2) 3 tI64 (askL lines (l.take z.1))]) (fun z=>l.length-z.1) (0,(none,0)) ⟨Nat.zero_le _,hE,fun p hp=>(by cases hp),List.nodup_nil⟩ qbl qab ?_
 rintro ⟨k,a1⟩ ⟨hk,hs,hlc,hnd⟩
 dsimp only at hk hs hlc hnd ⊢
 clear hE
 refine t6 ?_
 refine cN ?_ ?_ <;> intro h5
 ·have hlt:k<l.length:=by have:=of_decide_eq_true h5;omega
  clear h5
  obtain ⟨p,hz⟩:∃ p,l[k]?=some p:=⟨_,List.getElem?_eq_getElem hlt⟩
  have hlocate:=Locate_ok lines p.line
  have htl:(l.take k).length≤4:=by rw [List.length_take];omega
  have hfl:(askL lines (l.take k)).length≤6:=by rw [askL_len,List.length_take];omega
  rw [qjc hz] at hs
  unfold frD at hs
  have has:=askL_snoc lines hz
  refine t7 ?_
  refine qap rfl (by first|exact qau (j:=k) (er rfl) (er rfl) rfl rfl (by first|rfl|omega) hz|exact qau (j:=k) (er rfl) (er rfl) rfl rfl (by first|rfl|omega) (by assumption)) ?_
  refine qap rfl (by first|exact qcm (n:=2) (er rfl) rfl rfl rfl rf qbo|exact qbs (n:=2) (er rfl) qbp rf rf rf rf qbo) ?_
  refine s1 ?_
  intro i12
  refine t5 ?_
  refine qd2 (b:=i12) hX qae ?_
  refine qb0 12 (qdo (tPt.cells p)) rfl (SubL.fact qbp) ?_
  refine t4 ?_
  refine kS call65 (hlocate) ?_
  refine t13 ?_
  refine qap rfl (qdb (er rfl) rfl rfl rfl ⟨_,_,(er rfl),(show _=((k:Nat):Int) by first|rfl|omega)⟩ (by omega) (by omega)) ?_
  refine qap rfl (op_makeFunc (Cs:=[qdo (tPt.cells p)]) ⟨evS,trivial⟩) ?_
  refine kS call66 (ContainsX_ok _ p htl) ?_
  refine t6 ?_
  refine qap rfl (by first|exact qcm (n:=2) (er rfl) rfl rfl rfl rf qbo|exact qbs (n:=2) (er rfl) qbp rf rf rf rf qbo) ?_
  refine kS call68 (qos _) ?_
  refine t10 ?_
  refine cN ?_ ?_ <;> intro h9
  ·have hbad:W=qgs 1:=by
    rw [← hs]
    by_cases g1:(!(qg9 lines p.line).2.2 || !qdz p)=true
    ·rw [if_pos g1]
    ·rw [if_neg g1,if_pos]
     revert g1 h9
     cases (qg9 lines p.line).2.2 <;> cases qdz p <;> simp
   subst hbad
   refine t15 ?_
   exact qaq (Bs:=[qal tI64 [],qal tPg [],Is (.int .i64 1),Is (.bool true)]) results28 eT () SubL.rfl' (List.nil_sublist _)
  have hgood:(qg9 lines p.line).2.2=true∧qdz p=true∧(l.take k).any (fun q=>q.line==p.line)=false:=by
   revert h9
   cases (qg9 lines p.line).2.2 <;> cases qdz p <;> cases (l.take k).any (fun q=>q.line==p.line) <;> simp
  obtain ⟨g1,g2,g3⟩:=hgood
  rw [if_neg (by rw [g1,g2];decide),if_neg (by rw [g3];decide),← has] at hs
  have htk:l.take k++[p]=l.take (k+1):=by rw [List.take_add_one,hz];rfl
  rw [htk] at hs
  have hlc':∀ q,q∈l.take (k+1)→(qg9 lines q.line).2.2=true:=fun q hq=>by
   rw [← htk] at hq
   rcases List.mem_append.1 hq with e|e
   ·exact hlc q e
   ·rw [List.mem_singleton.1 e];exact g1
  have hnd':((l.take (k+1)).map Pt.line).Nodup:=by
   rw [← htk,List.map_append]
   refine List.nodup_append.2 ⟨hnd,by simp,fun a ha b hb e=>any_line.1 g3 ?_⟩
   rw [List.mem_singleton.1 hb] at e
   rw [← e];exact ha
  clear h9
  refine t2 ?_
  refine qa0 rfl (by kernel_rfl) ?_
  refine qag 6 (by kernel_rfl) ?_
  refine t4 ?_
  refine qbc (qac call21 (qio _) ⟨evS,trivial⟩) ?_
  refine qbc (qcb (size:=1) (qs:=[(0,_),(1,_)]) rfl rfl rfl ⟨⟨rfl,_,(er rfl),qbn⟩,⟨⟨rfl,_,(er rfl),qbn⟩,trivial⟩⟩ rf rf) ?_
  refine ⟨rfl,?_⟩
  (refine JD_s (by kernel_rfl) rfl rfl (qb9 (er rfl) (fun _=>qae) (by first|exact er rfl|exact Ev.sub rfl (by first|exact SubL.row (xs:=[p.line,qas (qg9 lines p.line).1]) rf rf qev|exact subT)) (by exact qep rfl rfl rfl) qbt) ?_;intro i86)
  refine JD_1 (by kernel_rfl) rfl rfl (qeb rfl) ?_
  refine qat ?_
  refine t2 ?_
  rw [← has]
  refine t4 ?_
  exact qaa (k+1,i86) ⟨by dsimp only;omega,hs,hlc',hnd'⟩ (by dsimp only;omega) qbl qab
 have hk1:k=l.length:=by have:=of_decide_eq_false h5;omega
 subst hk1
 clear h5
 rw [List.take_length] at hs hlc hnd ⊢
 rw [List.drop_length] at hs
 have hE:frC ks lines l (askL lines l)=W:=hs
 clear hs
 unfold frC at hE
 have hal:(askL lines l).length≤1000000:=by rw [askL_len];omega
 refine qa8 hX (v:=slV (askL lines l).length a1) qae ?_
 refine qb0 10 (qal tI64 (askL lines l)) rfl (SubL.fact qbp) ?_
 refine t10 ?_
 refine kS call33 (qkn _ (askL lines l) hal) ?_
 refine t10 ?_
 refine cN ?_ ?_ <;> intro h14
 ·rw [ifT h14] at hE
  subst hE
  refine t11 ?_
  exact qaq (Bs:=[qal tI64 (qdu ks (askL lines l)),qal tPg [],Is (.int .i64 0),Is (.bool false)]) results28 eT () SubL.rfl' (List.nil_sublist _)
 rw [ifF h14] at hE
 have hkn:∀ x,x∈askL lines l→qe5 ks x=true:=fun x hx=>qnf (of_decide_eq_false h14) hx
 have hnil:qdu ks (askL lines l)=[]:=List.eq_nil_of_length_eq_zero (by have:=of_decide_eq_false h14;omega)
 have hok:∀ p,p∈l→(qg9 lines p.line).2.2=true∧qe5 ks p.line=true∧qe5 ks (qas (qg9 lines p.line).1)=true:=fun p hp=>⟨hlc p hp,hkn _ (List.mem_flatMap.2 ⟨p,hp,by simp⟩),hkn _ (List.mem_flatMap.2 ⟨p,hp,by simp⟩)⟩
 have hrel:=relS_eq l [] ([],[]) [] (FInv.start ks lines) hok (by simpa using hnd)
 rw [hE] at hrel
 obtain ⟨R,hR⟩:∃ R,stF ks lines l ([],[])=R:=⟨_,rfl⟩
 rw [hR] at hrel
 clear h14 hE
 refine t4 ?_
 (refine qzh rfl (op_makeMap qdw) ?_;intro i95)
 (refine qzh rfl (op_makeMap qut) ?_;intro i96)
 refine t13 ?_
 refine qcn 53 tPg ?_
 refine qbr (fun z:(Nat×FrS)×(Option Addr×Nat)=>z.1.1≤l.length∧stF ks lines (l.drop z.1.1) z.1.2=R∧z.1.2.1.length=z.1.1∧z.1.2.2.length≤z.1.1) (fun z=>[(0,Is (.int .i64 lines)),(1,qal tPt l),(2,qal tPg ks),(7,Is (slV z.1.2.1.length z.2)),(17,Is (.map (some i95))),(18,Is (.map (some i96))),(97,qal tPt l),(98,Is (.int .i64 (l.length:Nat))),(99,Is (.int .i64 (z.1.1:Nat)))]) (fun z=>[mp i95 qdw (pgsF ks z.1.2.2),mp i96 qut z.1.2.2,buf (slV z.1.2.1.length z.2) 53 tPg z.1.2.1]) (fun z=>l.length-z.1.1) ((0,([],[])),(none,0)) ⟨Nat.zero_le _,hR,rfl,Nat.le_refl _⟩ qbl qab ?_
 rintro ⟨⟨k,st⟩,a1⟩ ⟨hk,hs,hz1,hz2⟩
 dsimp only at hk hs hz1 hz2 ⊢
 refine t6 ?_
 refine cN ?_ ?_ <;> intro h18
 ·have hlt:k<l.length:=by have:=of_decide_eq_true h18;omega
  clear h18
  obtain ⟨p,hz⟩:∃ p,l[k]?=some p:=⟨_,List.getElem?_eq_getElem hlt⟩
  obtain ⟨hp1,hp2,hp3⟩:=hok p (List.mem_of_getElem? hz)
  obtain ⟨q1,q2,q3⟩:=loc_inv hp1
  have hlocate:=Locate_ok lines p.line
  obtain ⟨s,i,hloc⟩:∃ (s i:Nat),qg9 lines p.line=((s:Int),(i:Int),true):=⟨(qg9 lines p.line).1.toNat,(qg9 lines p.line).2.1.toNat,Prod.ext (show (qg9 lines p.line).1=(((qg9 lines p.line).1.toNat:Nat):Int) by omega) (Prod.ext (show (qg9 lines p.line).2.1=(((qg9 lines p.line).2.1.toNat:Nat):Int) by omega) hp1)⟩
  rw [qjc hz] at hs
  have hsz:=stF_size (ks:=ks) (lines:=lines) st p
  unfold stF errF at hs
  rw [hloc] at hlocate hs q1 q2
  dsimp only at hlocate hs q1 q2
  rw [Int.toNat_natCast] at hs
  have hpp:=pgs_put ks (s:Int) (clrH (hS ks st (s:Int)) i) st.2
  have hst:stepF ks lines st p=(st.1++[(relP (qb6 ks p.line)).1],qmp st.2 (s:Int) (clrH (hS ks st (s:Int)) i)):=by unfold stepF;rw [hloc];dsimp only;rw [Int.toNat_natCast]
  rw [hst] at hs hsz
  refine t6 ?_
  refine qap rfl (by first|exact qau (j:=k) (er rfl) (er rfl) rfl rfl (by first|rfl|omega) hz|exact qau (j:=k) (er rfl) (er rfl) rfl rfl (by first|rfl|omega) (by assumption)) ?_
  refine qap rfl (by first|exact qcm (n:=2) (er rfl) rfl rfl rfl rf qbo|exact qbs (n:=2) (er rfl) qbp rf rf rf rf qbo) ?_
  refine s1 ?_
  intro i20
  refine t8 ?_
  refine kS call65 (hlocate) ?_
  refine t14 ?_
  refine kS call60 (LatestP_ok _ _) ?_
  refine t4 ?_
  intro i24
  refine t7 ?_
  refine qap rfl (qan (k:=0) (sz:=1) (er rfl) (er rfl) rfl rfl qca (by first|decide|omega)) ?_
  refine s1 ?_
  refine kS call61 (que _) ?_
  refine s1 ?_
  intro i26
  refine t6 ?_
  refine qap rfl (by first|exact qcm (n:=9) (er rfl) rfl rfl rfl rf qbo|exact qbs (n:=9) (er rfl) qbp rf rf rf rf qbo) ?_
  refine kS call62 (LockedB_ok _) ?_
  refine t2 ?_
  refine cN ?_ ?_ <;> intro h23
  ·rw [if_pos h23] at hs
   have e:W=qgs 3:=by rw [← hs] at hrel;exact hrel
   subst e
   refine t15 ?_
   exact qaq (Bs:=[qal tI64 [],qal tPg [],Is (.int .i64 3),Is (.bool true)]) results28 eT () SubL.rfl' (List.nil_sublist _)
  rw [if_neg (by rw [h23];simp)] at hs
  clear h23
  refine t17 ?_
  refine cN ?_ ?_ <;> intro h25
  ·have g:(qh1 (qb6 ks p.line).d0==0||qm3 (qb6 ks p.line).d0 != p.gen)=true:=h25
   rw [if_pos g] at hs
   have e:W=qgs 11:=by rw [← hs] at hrel;exact hrel
   subst e
   refine t15 ?_
   exact qaq (Bs:=[qal tI64 [],qal tPg [],Is (.int .i64 11),Is (.bool true)]) results28 eT () SubL.rfl' (List.nil_sublist _)
  have g:(qh1 (qb6 ks p.line).d0==0||qm3 (qb6 ks p.line).d0 != p.gen)=false:=h25
  rw [if_neg (by rw [g];simp)] at hs
  clear h25
  refine t6 ?_
  refine kS call39 (qll _ _) ?_
  refine t6 ?_
  intro i27
  refine s1 ?_
  intro i28
  refine t13 ?_
  refine cN ?_ ?_ <;> intro h28
  ·rw [if_pos h28] at hs
   have e:W=qgs (qeg ks (s:Int)).2.2.2:=by rw [← hs] at hrel;exact hrel
   subst e
   refine t16 ?_
   exact qaq (Bs:=[qal tI64 [],qal tPg [],Is (.int .i64 (qeg ks (s:Int)).2.2.2),Is (.bool true)]) results28 eT () SubL.rfl' (List.nil_sublist _)
  rw [if_neg (by rw [h28];simp)] at hs
  clear h28
  refine t9 ?_
  refine qap rfl (by first|exact qex (k:=i) ql1 (er rfl) (by first|omega|exact qbj _) qca|exact qs6 (er rfl) (er rfl) (by first|omega|exact qbj _) rfl) ?_
  refine t4 ?_
  refine cN ?_ ?_ <;> intro h30
  ·rw [if_pos h30] at hs
   have e:W=qgs 14:=by rw [← hs] at hrel;exact hrel
   subst e
   refine t15 ?_
   exact qaq (Bs:=[qal tI64 [],qal tPg [],Is (.int .i64 14),Is (.bool true)]) results28 eT () SubL.rfl' (List.nil_sublist _)
  rw [if_neg (by rw [h30];simp)] at hs
  clear h30
  refine t7 ?_
  refine qap rfl (op_lookup2D Hd.nil hd_zero (er rfl) qbp (er rfl) rfl rfl rfl) ?_
  refine t4 ?_
  intro i31
  refine t9 ?_
  refine qin (fun _:Unit=>True) (fun _=>[(0,Is (.int .i64 lines)),(1,qal tPt l),(2,qal tPg ks),(7,Is (slV st.1.length a1)),(17,Is (.map (some i95))),(18,Is (.map (some i96))),(20,Is (.pointer (some ⟨i20,0,none⟩))),(21,Is (.int .i64 (s:Nat))),(22,Is (.int .i64 (i:Nat))),(24,Is (.pointer (some ⟨i24,0,none⟩))),(27,Is (.pointer (some ⟨i27,0,none⟩))),(28,Is (.pointer (some ⟨i28,0,none⟩))),(97,qal tPt l),(98,Is (.int .i64 (l.length:Nat))),(99,Is (.int .i64 (k:Nat)))]) (fun _=>[mp i95 qdw (pgsF ks st.2),mp i96 qut st.2,buf (slV st.1.length a1) 53 tPg st.1,blk i24 53 (tPg.cells (qb6 ks p.line)),blk i27 53 (tPg.cells (qeg ks (s:Int)).1),blk i28 74 [Is (.int .i64 (hS ks st (s:Int)).owner),Is (.int .u32 (UV (hS ks st (s:Int)).used))]]) ?_ ?_
  rotate_left
  focus
   refine cN ?_ ?_ <;> intro h33
   ·have hg:hS ks st (s:Int)=(qo1 st.2 (s:Int)).getD Hd.nil:=by
     unfold hS
     cases hm:qo1 st.2 (s:Int) with
     | none=>rw [hm] at h33;cases h33
     | some h=>rfl
    refine s1 ?_
    refine qap rfl (by first|exact qcm (n:=2) (er rfl) rfl rfl rfl rf qbo|exact qbs (n:=2) (er rfl) qbp rf rf rf rf qbo) ?_
    refine t2 ?_
    rw [hg]
    exact qak () trivial qbl qab
   have hg:hS ks st (s:Int)=(qeg ks (s:Int)).2.1:=by
    unfold hS
    cases hm:qo1 st.2 (s:Int) with
    | none=>rfl
    | some h=>rw [hm] at h33;cases h33
   refine s1 ?_
   rw [hg]
   exact qak () trivial qbl qab
  rintro _ _
  refine t6 ?_
  refine qap rfl (by first|exact qg3 (k:=i) ql1 (er rfl) (by first|omega|exact qbj _) qca|exact qpq (er rfl) (er rfl) (by first|omega|exact qbj _) rfl) ?_
  refine qap rfl (by first|exact qea ql1 ql1 (by simp) (qqa _ _)|exact qea (er rfl) (er rfl) (by simp) rfl) ?_
  refine t5 ?_
  refine qa0 rfl (by kernel_rfl) ?_
  refine qdf (it:=mp i96 qut _) (by repeat (first|exact Drop1.here _ _|apply Drop1.next)) ?_
  refine qdf (it:=mp i95 qdw _) (by repeat (first|exact Drop1.here _ _|apply Drop1.next)) ?_
  refine qdj (its:=[_,_]) 8 (by kernel_rfl) ?_
  refine t4 ?_
  refine qbc (by first|exact qcm (n:=9) (er rfl) rfl rfl rfl rf qbo|exact qbs (n:=9) (er rfl) qbp rf rf rf rf qbo) ?_
  refine qbc (by first|exact qcm (n:=2) (er rfl) rfl rfl rfl rf qbo|exact qbs (n:=2) (er rfl) qbp rf rf rf rf qbo) ?_
  refine qc6 (s:=204) rfl rfl rfl (by kernel_rfl) (fun c'=>by exact op_mapPut (V:=qdw) (v:=(qeg ks (s:Int)).1) (er rfl) (er rfl) evS qae rfl rfl) ?_
  refine qc6 (s:=205) rfl rfl rfl (by kernel_rfl) (fun c'=>by exact op_mapPut (V:=qut) (v:=clrH (hS ks st (s:Int)) i) (er rfl) (er rfl) evS qae rfl rfl) ?_
  refine ⟨rfl,?_⟩
  intro _ _
  refine qat ?_
  refine t2 ?_
  rw [hpp]
  refine s1 ?_
  refine qap rfl (by first|exact qcm (n:=9) (er rfl) rfl rfl rfl rf qbo|exact qbs (n:=9) (er rfl) qbp rf rf rf rf qbo) ?_
  refine kS call69 (Release_ok _) ?_
  refine t8 ?_
  refine qap rfl (by first|exact qcm (n:=9) (er rfl) rfl rfl rfl rf qbo|exact qbs (n:=9) (er rfl) qbp rf rf rf rf qbo) ?_
  refine qap rfl (qcb (size:=9) (qs:=[(0,_)]) rfl rfl rfl ⟨⟨rfl,_,(er rfl),qbn⟩,trivial⟩ rf rf) ?_
  (refine qe6 rfl (qb9 (er rfl) (fun _=>qae) (by first|exact er rfl|exact Ev.sub rfl (by first|exact SubL.row (xs:=[(relP (qb6 ks p.line)).1]) rf rf qev|exact subT)) (by exact qep rfl rfl rfl) qbt) ?_;intro i181)
  refine t8 ?_
  exact qaa ((k+1,(st.1++[(relP (qb6 ks p.line)).1],qmp st.2 (s:Int) (clrH (hS ks st (s:Int)) i))),i181) ⟨by dsimp only;omega,hs,by dsimp only;rw [List.length_append,List.length_singleton];omega,by have:=hsz.2;dsimp only at this ⊢;omega⟩ (by dsimp only;omega) qbl qab
 have hk1:k=l.length:=by have:=of_decide_eq_false h18;omega
 subst hk1
 clear h18
 rw [List.drop_length] at hs
 have hs':Except.ok st=R:=hs
 rw [← hs'] at hrel
 obtain ⟨w,e,hF⟩:=hrel
 rw [List.nil_append] at hF
 subst e
 have hwm:(wrM ks st.2).length=st.2.length:=by unfold wrM;rw [List.length_map]
 refine t9 ?_
 (refine qe6 rfl (op_range (er rfl) (fun _ _=>qae) rfl) ?_;intro i184)
 refine t3 ?_
 refine qbr (fun z:List Nat×(Option Addr×Nat)=>z.1.Nodup∧∀ j,j∈z.1→j<(wrM ks st.2).length) (fun z=>[(7,Is (slV (st.1++qu7 (wrM ks st.2) z.1).length z.2)),(17,Is (.map (some i95))),(184,Is (.pointer (some ⟨i184.1,0,none⟩)))]) (fun z=>[mp i95 qdw (pgsF ks st.2),buf (slV (st.1++qu7 (wrM ks st.2) z.1).length z.2) 53 tPg (st.1++qu7 (wrM ks st.2) z.1),itr i184.1 i96 i184.2.1 i184.2.2 z.1,mpr i96 qut st.2 i184.2.1 i184.2.2]) (fun z=>(wrM ks st.2).length-z.1.length) ([],a1) ⟨List.nodup_nil,fun j hj=>by cases hj⟩ (by dsimp only;rw [show qu7 (wrM ks st.2) []=[] from rfl,List.append_nil];exact qbl) (by dsimp only;rw [show qu7 (wrM ks st.2) []=[] from rfl,List.append_nil];exact qab) ?_
 rintro ⟨S,z2⟩ ⟨hnd',hS⟩
 dsimp only at hnd' hS ⊢
 have hpl:=pickM_len hS
 have hsl:=qte _ hnd' hS
 have hwl:(st.1++qu7 (wrM ks st.2) S).length≤6:=by rw [List.length_append];omega
 have hS2:∀ j,j∈S→j<st.2.length:=fun j hj=>by have:=hS j hj;omega
 refine t2 ?_
 (refine qe6 rfl (op_next (er rfl) qbp (fun _=>qae) (by assumption)) ?_;intro i185)
 refine qap rfl (by first|exact qjv (er rfl) rfl|exact op_extractHd (er rfl)) ?_
 refine t3 ?_
 obtain ⟨⟨more,Sf⟩,hst⟩:=i185
 dsimp only
 refine cN ?_ ?_ <;> intro h41
 ·subst h41
  obtain ⟨j,e1,hj,hjn⟩:∃ j,Sf=S++[j]∧j<st.2.length∧j ∉ S:=hst
  subst e1
  obtain ⟨⟨kj,xj⟩,hej⟩:∃ e,st.2[j]?=some e:=⟨st.2[j],List.getElem?_eq_getElem hj⟩
  have hewj:=wrM_at (ks:=ks) hej
  have hnd2:(S++[j]).Nodup:=List.nodup_append.2 ⟨hnd',by simp,fun x hx y hy=>by rw [List.mem_singleton] at hy;subst hy;exact fun e=>hjn (e ▸ hx)⟩
  have hSj:∀ i,i∈S++[j]→i<(wrM ks st.2).length:=fun i hi=>by
   rcases List.mem_append.1 hi with hi|hi
   ·exact hS i hi
   ·rw [List.mem_singleton] at hi;subst hi;omega
  have hsl':=qte _ hnd2 hSj
  rw [List.length_append,List.length_singleton] at hsl'
  have hmg:=pgs_get ks (s:=kj) (hs:=st.2) (List.mem_map.2 ⟨_,List.mem_of_getElem? hej,rfl⟩)
  refine t5 ?_
  refine qap rfl (op_entry (er rfl) qbp qbp hej) ?_
  refine t3 ?_
  intro i34
  refine t8 ?_
  refine qap rfl (op_lookupS hmg (er rfl) qbp (er rfl) rfl rfl rfl) ?_
  refine qap rfl (by first|exact qcm (n:=2) (er rfl) rfl rfl rfl rf qbo|exact qbs (n:=2) (er rfl) qbp rf rf rf rf qbo) ?_
  refine kS call41 (qhm _ _) ?_
  refine t4 ?_
  intro i35
  refine t4 ?_
  rw [show (qfk (qeg ks kj).1 xj).1=wrE ks (kj,xj) from rfl]
  refine t2 ?_
  refine qap rfl (by first|exact qcm (n:=9) (er rfl) rfl rfl rfl rf qbo|exact qbs (n:=9) (er rfl) qbp rf rf rf rf qbo) ?_
  refine qap rfl (qcb (size:=9) (qs:=[(0,_)]) rfl rfl rfl ⟨⟨rfl,_,(er rfl),qbn⟩,trivial⟩ rf rf) ?_
  (refine qe6 rfl (qb9 (er rfl) (fun _=>qae) (by first|exact er rfl|exact Ev.sub rfl (by first|exact SubL.row (xs:=[wrE ks (kj,xj)]) rf rf qev|exact subT)) (by exact qep rfl rfl rfl) qbt) ?_;intro i201)
  refine t3 ?_
  rw [List.append_assoc,← pickM_add hewj]
  exact qaa (S++[j],i201) ⟨hnd2,hSj⟩ (by dsimp only;rw [List.length_append,List.length_singleton];omega) qbl qab
 subst h41
 obtain ⟨e1,hall⟩:Sf=S∧∀ j,j<st.2.length→j∈S:=hst
 subst e1
 have hpl2:(st.1++qu7 (wrM ks st.2) Sf).length≤1048576:=by omega
 have hpm:(st.1++qu7 (wrM ks st.2) Sf).Perm (st.1++st.2.map (wrE ks)):=by
  refine List.Perm.append_left _ ?_
  have h1:Sf.Perm (List.range (wrM ks st.2).length):=qvi _ hnd' fun j=>⟨hS j,fun h=>hall j (by omega)⟩
  have h2:(wrM ks st.2).map Prod.snd=st.2.map (wrE ks):=by unfold wrM;rw [List.map_map];rfl
  rw [← h2,← pickM_all]
  exact h1.filterMap _
 refine t8 ?_
 (refine qe6 rfl (by first|((refine qdy qbh call42 (qje (st.1++qu7 (wrM ks st.2) Sf) (st.1++qu7 (wrM ks st.2) Sf).length z2 rfl ?_) ⟨evS,trivial⟩);all_goals (first|assumption))) ?_;intro i203)
 refine t7 ?_
 obtain ⟨ys,hy1,hy2⟩:=i203
 dsimp only
 have hym:ys=w:=hF.fin hnd (hy2.perm.trans hpm) (by rw [hy2.len];exact hy1)
 have hyl:(st.1++qu7 (wrM ks st.2) Sf).length=w.length:=by rw [← hym];exact hy2.len.symm
 rw [hyl,hym]
 refine qee hX (v:=slV w.length z2) qae ?_
 exact qaq (Bs:=[qal tI64 [],qal tPg w,Is (.int .i64 0),Is (.bool true)]) results28 eT () SubL.rfl' (List.nil_sublist _)
theorem relS_over {ks:List Pg} {lines:Int}:∀ (r:List Pt) (w:List Pg),(relS ks lines r w).over=true
 | [],_=>rfl
 | p :: r,w=>by
  unfold relS
  split
  ·rfl
  split
  ·rfl
  split
  ·rfl
  split
  ·rfl
  ·exact relS_over r _
theorem frD_need {ks:List Pg} {lines:Int} {all:List Pt}:∀ (r pre:List Pt) (ask:List Int),ask.length≤2*pre.length→pre.length+r.length≤3→(∀ x,x∈ask→96≤x∧x≤255)→(frD ks lines all pre r ask).over=false→ndOk ks (frD ks lines all pre r ask).need
 | [],pre,ask,h1,h2,h3,h=>by
  have e:frD ks lines all pre [] ask=frC ks lines all ask:=by unfold frD;rfl
  rw [e] at h ⊢
  unfold frC at h ⊢
  by_cases h4:decide (((qdu ks ask).length:Int)>0)=true
  ·rw [if_pos h4]
   exact qn4 (by simp at h2;omega) h3 h4
  ·rw [if_neg h4,relS_over] at h;cases h
 | p :: r,pre,ask,h1,h2,h3,h=>by
  unfold frD at h ⊢
  by_cases h4:(!(qg9 lines p.line).2.2 || !qdz p)=true
  ·rw [if_pos h4] at h;cases h
  rw [if_neg h4] at h ⊢
  by_cases h5:pre.any (fun q=>q.line==p.line)=true
  ·rw [if_pos h5] at h;cases h
  rw [if_neg h5] at h ⊢
  have hl:(qg9 lines p.line).2.2=true:=by
   revert h4
   cases (qg9 lines p.line).2.2 <;> simp
  obtain ⟨q1,q2,q3⟩:=loc_inv hl
  have hn:=qe9 lines
  refine frD_need r (pre++[p]) _ (by simp;omega) (by simp at h2 ⊢;omega) (fun x hx=>?_) h
  rcases List.mem_append.1 hx with e|e
  ·exact h3 x e
  ·rcases List.mem_cons.1 e with e|e
   ·rw [e,q3,qn8 (by omega)];omega
   ·rw [List.mem_singleton.1 e];exact zbo (by omega)
theorem fre_need {ks:List Pg} {lines:Int} {l:List Pt} (h:(freR ks lines l).over=false):ndOk ks (freR ks lines l).need:=by
 unfold freR at h ⊢
 by_cases h1:((!clB 0 lines||decide ((l.length:Int)<1))||decide ((l.length:Int)>3))=true
 ·rw [if_pos h1] at h;cases h
 rw [if_neg h1] at h ⊢
 have hl:l.length≤3:=by simp at h1;omega
 exact frD_need l [] [] (Nat.le_refl _) (by simp;omega) (fun x hx=>by cases hx) h
theorem refF_ok (p:Pt):FnP Tryz.prog 27 [qm6 p] (qm6 p):=by
 refine FnP.enter func27 ntmps27 rfl rfl ?_
 intro c hX
 refine t3 ?_
 intro i1
 refine s1 ?_
 intro i2
 refine t13 ?_
 exact qaq (Bs:=[qm6 p]) results27 eR () SubL.rfl' (List.nil_sublist _)
theorem SegmentFrees_ok (cs:Cs20) (li gs:List Int) (raw:List Pt):FnP Tryz.prog 6 [IsCs20 cs,qal tI64 li,qal tI64 gs,qal tPt raw] (Is (.bool true)):=by
 have hn:=nC_rng cs.size
 refine FnP.enter func6 ntmps6 rfl rfl ?_
 intro c hX
 refine t3 ?_
 intro i4
 refine t6 ?_
 refine qap rfl (by first|exact qcm (n:=4) (er rfl) rfl rfl rfl rf qbo|exact qbs (n:=4) (er rfl) qbp rf rf rf rf qbo) ?_
 refine kR call7 (light_ok cs) ?_
 refine t13 ?_
 refine cN ?_ ?_ <;> intro h1
 ·refine t7 ?_
  refine qa4 results6 rfl () (SubL.eq ?_) (List.nil_sublist _)
  rfl
 have hcl:zbp cs=true∧li.length≤5∧raw.length≤5:=by
  revert h1
  cases zbp cs with
  | false=>intro h1;cases h1
  | true=>intro h1;simp at h1;exact ⟨rfl,by omega,by omega⟩
 obtain ⟨hl,hli,hraw⟩:=hcl
 clear h1
 refine t4 ?_
 refine qap rfl (by first|exact qcm (n:=4) (er rfl) rfl rfl rfl rf qbo|exact qbs (n:=4) (er rfl) qbp rf rf rf rf qbo) ?_
 refine kR call8 (pagesC_ok cs hl) ?_
 (refine qa5 41 rfl ?_;intro x41 hx41)
 refine t8 ?_
 obtain ⟨hH,hLn⟩:=hx41
 obtain ⟨H,hHe⟩:∃ q,x41=q:=⟨_,rfl⟩
 rw [hHe] at hH hLn ⊢
 have hHl:H.length≤10000:=by omega
 have hH8:8≤H.length:=by omega
 clear hHe
 refine t16 ?_
 refine qcn 64 tPt ?_
 refine qaz [(1,_),(2,_),(3,_),(4,_),(8,_),(9,_),(10,_),(12,_)] [blk i4 _ _] (fun y:Nat×(List Pt)×(Option Addr×Nat)=>y.1≤(li).length∧(y.2.1.length≤y.1)) (fun y=>[(11,Is (slV (y.2.1).length y.2.2)),(13,Is (.int .i64 (y.1:Nat)))]) (fun y=>[buf (slV (y.2.1).length y.2.2) 64 tPt (y.2.1)]) (fun y=>(li).length-y.1) (0,[],(none,0)) ⟨by first|exact Nat.zero_le _|omega|(dsimp only;omega),Nat.le_refl 0⟩ qe8 qab ?_
 rintro ⟨k,ps,v_0⟩ ⟨hk,hI⟩
 dsimp only at hk hI ⊢
 refine t9 ?_
 refine cN ?_ ?_ <;> intro h7
 ·have hlt:k<(li).length:=by have:=of_decide_eq_true h7;omega
  clear h7
  obtain ⟨z,hz⟩:∃ q,(li)[k]?=some q:=⟨_,List.getElem?_eq_getElem hlt⟩
  obtain ⟨j,hj⟩:∃ j:Nat,z % (H.length:Int)=(j:Int):=⟨(z % (H.length:Int)).toNat,by have:=Int.emod_nonneg z (show (H.length:Int)≠0 by omega);omega⟩
  have hjl:j<H.length:=by have:=Int.emod_lt_of_pos z (show 0<(H.length:Int) by omega);omega
  obtain ⟨pg,hpg⟩:∃ pg,H[j]?=some pg:=⟨_,List.getElem?_eq_getElem hjl⟩
  have hgl:=gen_le pg.d0
  have hgn:0≤qm3 pg.d0:=qbj _
  obtain ⟨g0,hgz⟩:∃ g:Int,k<gs.length→gs[k]?=some g:=⟨gs.getD k 0,fun h=>by rw [List.getD_eq_getElem?_getD,List.getElem?_eq_getElem h];rfl⟩
  refine t9 ?_
  refine qap rfl (by first|exact qau (j:=_) (er rfl) (er rfl) rfl rfl (by first|rfl|omega) (by assumption)) ?_
  refine t3 ?_
  refine qap rfl (by first|((refine qac call9 (qd4 _ _ ?_ ?_) ⟨evR,⟨evR,trivial⟩⟩);all_goals (first|omega))) ?_
  refine qge 57 (Is (.int .i64 (j:Nat))) rfl (SubL.eq (ieq hj)) ?_
  refine qap rfl (by first|exact qau (j:=j) (er rfl) (er rfl) rfl rfl (by first|rfl|omega) hpg|exact qau (j:=j) (er rfl) (er rfl) rfl rfl (by first|rfl|omega) (by assumption)) ?_
  refine qap rfl (by first|exact qcm (n:=9) (er rfl) rfl rfl rfl rf qbo|exact qbs (n:=9) (er rfl) qbp rf rf rf rf qbo) ?_
  refine s1 ?_
  intro i14
  refine t4 ?_
  refine qa0 rfl (by kernel_rfl) ?_
  refine qgl (its:=[]) ?_
  refine qkf 0 rfl (by kernel_rfl) (by first|exact qbf (k:=0) (er rfl) rfl rfl rfl rfl|exact qa1 (k:=0) (er rfl) rfl rfl rfl rfl qbo) ?_
  refine qkf 1 rfl (by kernel_rfl) (by first|exact qbw (er rfl) rfl rfl rfl|exact qd9 (er rfl) qbp rf rf rf) ?_
  refine qkf 2 rfl (by kernel_rfl) (by first|exact qcm (n:=9) (er rfl) rfl rfl rfl rf qbo|exact qbs (n:=9) (er rfl) qbp rf rf rf rf qbo) ?_
  refine qkf 3 rfl (by kernel_rfl) (qac call26 (qg8 _) ⟨evR,trivial⟩) ?_
  refine qkf 4 rfl (by kernel_rfl) (qlg (qs:=[(0,_),(1,_)]) rfl rfl rfl rfl ⟨⟨rfl,_,(er rfl),qbn⟩,⟨⟨rfl,_,(er rfl),qbn⟩,trivial⟩⟩ rf qbo) ?_
  refine JF_n 5 rfl (by kernel_rfl) (qbi rfl qbo rfl) ?_
  (refine qgk 15 5 (by kernel_rfl) rfl rfl ?_;intro i15)
  refine qfi 6 [0,1,2,3,4,5,6] rfl (by kernel_rfl) (fun c'=>by exact qa9 (er rfl) (er rfl) qbn qae rf rf rf) ?_
  refine qeq (by kernel_rfl) rfl ?_
  show JQ _ _ _ _ _ _
  refine t11 ?_
  (first|refine qcq rfl rfl rfl (fun hg=>(by have hg0:=hg;(try simp at hg);exact (by have hzz:gs[k]?=some g0:=hgz (by simpa using hg0);exact qau (j:=_) evG evG rfl rfl rf hzz))) ?_|refine JL_i rfl rfl rfl (fun hp hg=>(by have hpg:=Bool.and_eq_true_iff.2 ⟨hp,hg⟩;have hg0:=hg;(try simp at hg);exact (by have hzz:gs[k]?=some g0:=hgz (by simpa using hg0);exact qau (j:=_) evG evG rfl rfl rf hzz))) ?_)
  refine s1 ?_
  (first|refine qcq rfl rfl rfl (fun hg=>(by have hg0:=hg;(try simp at hg);first|((refine qac call9 (qd4 _ _ ?_ ?_) ⟨evR,⟨evR,trivial⟩⟩);all_goals (first|omega)))) ?_|refine JL_i rfl rfl rfl (fun hp hg=>(by have hpg:=Bool.and_eq_true_iff.2 ⟨hp,hg⟩;have hg0:=hg;(try simp at hg);first|((refine qac call9 (qd4 _ _ ?_ ?_) ⟨evR,⟨evR,trivial⟩⟩);all_goals (first|omega)))) ?_)
  refine t4 ?_
  refine qb3 [(1,_),(2,_),(3,_),(4,_),(8,_),(9,_),(10,_),(11,_),(12,_),(13,_),(14,_),(15,_),(44,_),(45,_),(46,_),(50,_),(51,_),(52,_),(53,_),(54,_),(55,_),(56,_),(57,_),(58,_),(59,_),(60,_),(61,_),(62,_),(63,_),(64,_),(65,_),(66,_),(67,_),(68,_),(69,_),(70,_),(71,_),(72,_),(73,_),(74,_),(75,_)] [blk i14 _ _,blk i4 _ _,buf _ _ _ _] (fun yc:Int=>True) (fun yc=>[]) (fun yc=>[blk i15 64 [Is (.int .i64 pg.l),Is (.int .i64 yc)]]) qe8 qab ?_ ?_
  rotate_left
  focus
   refine cN ?_ ?_ <;> intro h11
   ·refine t7 ?_
    exact qak _ (trivial) qe8 qab
   refine s1 ?_
   exact qak _ (trivial) qe8 qab
  rintro gg _
  refine t2 ?_
  refine qap rfl (by first|exact qcm (n:=2) (er rfl) rfl rfl rfl rf qbo|exact qbs (n:=2) (er rfl) qbp rf rf rf rf qbo) ?_
  refine qap rfl (qad (size:=2) (qs:=[(0,_)]) rfl rfl rfl ⟨⟨rfl,_,(er rfl),qbn⟩,trivial⟩ rf rf) ?_
  (refine qe6 rfl (qb9 (er rfl) (fun _=>qae) (by first|exact er rfl|exact Ev.sub rfl (by first|exact SubL.row (xs:=[(⟨pg.l,gg⟩:Pt)]) rf rf ql5|exact subR)) (by exact qep rfl rfl rfl) qbt) ?_;intro i84)
  refine t9 ?_
  exact qaa (k+1,ps++[(⟨pg.l,gg⟩:Pt)],_) ⟨by first|omega|(dsimp only;omega)|(simp;omega),by simp;omega⟩ (by first|omega|(dsimp only;omega)|(simp;omega)) qe8 qab
 have hke:k=(li).length:=by have:=of_decide_eq_false h7;omega
 clear h7
 subst hke
 refine t9 ?_
 (refine qe6 rfl (qb9 (er rfl) (fun _=>qae) evR (by exact qep rfl rfl rfl) qbt) ?_;intro i87)
 refine t5 ?_
 obtain ⟨xs,hxs⟩:∃ q,ps++raw=q:=⟨_,rfl⟩
 rw [hxs]
 have hxl:xs.length≤10:=by rw [← hxs,List.length_append];omega
 refine qa8 hX (v:=slV xs.length i87) qae ?_
 refine qb0 11 (qal tPt xs) rfl (SubL.fact qbp) ?_
 refine t5 ?_
 refine qcn 88 tPt ?_
 refine qaz [(4,_),(8,_),(9,_),(10,_),(11,_)] [blk i4 _ _] (fun y:Nat×(List Pt)×(Option Addr×Nat)=>y.1≤(xs).length∧(y.2.1=List.take y.1 xs)) (fun y=>[(12,Is (slV (y.2.1).length y.2.2)),(16,Is (.int .i64 (y.1:Nat)))]) (fun y=>[buf (slV (y.2.1).length y.2.2) 88 tPt (y.2.1)]) (fun y=>(xs).length-y.1) (0,[],(none,0)) ⟨by first|exact Nat.zero_le _|omega|(dsimp only;omega),rfl⟩ qe8 qab ?_
 rintro ⟨k,qs,v_0⟩ ⟨hk,hI⟩
 dsimp only at hk hI ⊢
 refine t9 ?_
 refine cN ?_ ?_ <;> intro h16
 ·have hlt:k<(xs).length:=by have:=of_decide_eq_true h16;omega
  clear h16
  obtain ⟨z,hz⟩:∃ q,(xs)[k]?=some q:=⟨_,List.getElem?_eq_getElem hlt⟩
  have hql:qs.length≤10:=by rw [hI,List.length_take];omega
  refine t8 ?_
  refine qap rfl (by first|exact qau (j:=_) (er rfl) (er rfl) rfl rfl (by first|rfl|omega) (by assumption)) ?_
  refine qap rfl (by first|exact qcm (n:=2) (er rfl) rfl rfl rfl rf qbo|exact qbs (n:=2) (er rfl) qbp rf rf rf rf qbo) ?_
  refine kR call27 (refF_ok _) ?_
  refine qap rfl (qad (size:=2) (qs:=[(0,_)]) rfl rfl rfl ⟨⟨rfl,_,(er rfl),qbn⟩,trivial⟩ rf rf) ?_
  (refine qe6 rfl (qb9 (er rfl) (fun _=>qae) (by first|exact er rfl|exact Ev.sub rfl (by first|exact SubL.row (xs:=[z]) rf rf ql5|exact subR)) (by exact qep rfl rfl rfl) qbt) ?_;intro i101)
  refine t9 ?_
  exact qaa (k+1,qs++[z],_) ⟨by first|omega|(dsimp only;omega)|(simp;omega),by rw [hI,List.take_add_one,hz];rfl⟩ (by first|omega|(dsimp only;omega)|(simp;omega)) qe8 qab
 have hke:k=(xs).length:=by have:=of_decide_eq_false h16;omega
 clear h16
 subst hke
 (try rw [List.take_length])
 (try rw [List.take_length] at hI)
 have hqs:qs=xs:=hI
 rw [hqs]
 refine qa8 hX (v:=slV xs.length v_0) qae ?_
 refine qb0 12 (qal tPt xs) rfl (SubL.fact qbp) ?_
 refine t10 ?_
 refine kR call10 (KnownH_ok H _ hHl) ?_
 (refine qa5 105 rfl ?_;intro x105 hx105)
 refine t5 ?_
 obtain ⟨k0,hk0⟩:∃ q,x105=q:=⟨_,rfl⟩
 rw [hk0] at hx105 ⊢
 clear hk0
 refine t5 ?_
 refine qaz [(8,_),(9,_),(10,_),(11,_),(12,_)] [] (fun y:Nat×(List Pg)=>y.1≤300∧(y.2.length≤200+30*y.1∧y.1≤cntK y.2)) (fun y=>[(17,qal tPg y.2),(18,Is (.int .i64 (y.1:Nat)))]) (fun y=>[]) (fun y=>300-y.1) (0,k0) ⟨by first|exact Nat.zero_le _|omega|(dsimp only;omega),⟨(show k0.length≤200+30*0 by omega),Nat.zero_le _⟩⟩ qe8 qab ?_
 rintro ⟨k,ks⟩ ⟨hk,hI⟩
 dsimp only at hk hI ⊢
 refine t7 ?_
 refine cN ?_ ?_ <;> intro h21
 ·have hlt:k<300:=by have:=of_decide_eq_true h21;omega
  clear h21
  obtain ⟨hi1,hi2⟩:=hI
  have hck:=cntK_le ks
  have hkl:ks.length≤10000:=by omega
  refine t9 ?_
  refine kR call28 (FreeP_ok ks _ _) ?_
  refine t16 ?_
  refine kR call29 (FreeR_ok ks _ _ hkl) ?_
  refine s1 ?_
  intro i23
  refine t5 ?_
  obtain ⟨W,hW⟩:∃ W,freR ks (96+(nC cs.size:Int)) xs=W:=⟨_,rfl⟩
  have hnd:=fre_need (ks:=ks) (lines:=96+(nC cs.size:Int)) (l:=xs)
  rw [hW] at hnd ⊢
  obtain ⟨nd,fs,ws,s,cd,ov⟩:=W
  dsimp only at hnd ⊢
  clear hW
  refine t15 ?_
  (first|refine qcq rfl rfl rfl (fun hg=>(by have hg0:=hg;(try simp at hg);exact qac call13 (SameInts_ok _ _) ⟨evR,⟨evR,trivial⟩⟩)) ?_|refine JL_i rfl rfl rfl (fun hp hg=>(by have hpg:=Bool.and_eq_true_iff.2 ⟨hp,hg⟩;have hg0:=hg;(try simp at hg);exact qac call13 (SameInts_ok _ _) ⟨evR,⟨evR,trivial⟩⟩)) ?_)
  refine t6 ?_
  (first|refine qcq rfl rfl rfl (fun hg=>(by have hg0:=hg;(try simp at hg);exact qac call14 (SamePages_ok _ _) ⟨evR,⟨evR,trivial⟩⟩)) ?_|refine JL_i rfl rfl rfl (fun hp hg=>(by have hpg:=Bool.and_eq_true_iff.2 ⟨hp,hg⟩;have hg0:=hg;(try simp at hg);exact qac call14 (SamePages_ok _ _) ⟨evR,⟨evR,trivial⟩⟩)) ?_)
  refine t4 ?_
  refine cN ?_ ?_ <;> intro h25
  ·exact absurd h25 (by simp)
  clear h25
  refine t8 ?_
  refine cN ?_ ?_ <;> intro h27
  ·refine t2 ?_
   refine qap rfl (qac call15 (awake_ok) trivial) ?_
   refine t10 ?_
   refine qa4 results6 rfl () (SubL.eq ?_) (List.nil_sublist _)
   rfl
  obtain ⟨hd1,hd2,hd3,hd4⟩:=hnd h27
  have hgr:=fetch_grow hLn (hnd h27)
  have hf1:nd.length≤10000:=by omega
  have hf2:∀ x,x∈nd→qe5 ks x=false∧96≤x∧x≤300:=fun x hx=>⟨(hd4 x hx).1,(hd4 x hx).2.1,by have:=(hd4 x hx).2.2;omega⟩
  have hf3:=hd3
  refine t7 ?_
  refine kR call16 (FetchH_ok ks H nd hkl hf1 hf2 hf3) ?_
  refine t14 ?_
  refine cN ?_ ?_ <;> intro h30
  ·exact absurd h30 (by rw [decide_eq_true (show (nd.length:Int)>0 by omega)];decide)
  clear h30
  refine t13 ?_
  exact qaa (k+1,ks++nd.map (pgF H)) ⟨by first|omega|(dsimp only;omega)|(simp;omega),⟨(show (ks++nd.map (pgF H)).length≤200+30*(k+1) by rw [List.length_append,List.length_map];omega),(show k+1≤cntK (ks++nd.map (pgF H)) by omega)⟩⟩ (by first|omega|(dsimp only;omega)|(simp;omega)) qe8 qab
 exact absurd (cntK_le ks) (by have h9:=of_decide_eq_false h21;have h10:=hI.2;omega)
section
open Go.RowKit Go.ChangeShapes Go.WideShapes Go.ChangeAt
section
variable {H:Type} {enc:TypeId×Value→H} {w:World} {base:Nat} {sp:Nat→Bool} {held:Bool}
def Pt.wf (a:Pt):Prop:=qix a.line∧qix a.gen
theorem cN_bodega_pointer_Pointer:Tryz.prog.cellsOf 64=2:=by kernel_rfl
theorem rds_Pt:Rds enc Tryz.prog w base sp held 64 tPt Pt.wf:=by
 intro fuel cs x h
 obtain ⟨xs,n,_,_,hlen,hxs,hf⟩:=DataW.trod_struct Tryz.underlying64 h
 rw [cN_bodega_pointer_Pointer] at hlen
 match cs,hlen with
 | [c0,c1],_ =>
  match xs,hxs with
  | [x0,x1],_ =>
   have f0:DataW.trod enc Tryz.prog w base sp held n 3 (([c0,c1].drop 0).take (Tryz.prog.cellsOf 3))=some x0:=hf 0 _ rfl
   rw [qgc] at f0
   obtain ⟨a0,g0,o0,w0⟩:=(rds_i64 Tryz.underlying3) _ _ _ f0
   have f1:DataW.trod enc Tryz.prog w base sp held n 3 (([c0,c1].drop 1).take (Tryz.prog.cellsOf 3))=some x1:=hf 1 _ rfl
   rw [qgc] at f1
   obtain ⟨a1,g1,o1,w1⟩:=(rds_i64 Tryz.underlying3) _ _ _ f1
   exact ⟨⟨a0,a1⟩,(g0.append g1),(qd8 o0 o1),⟨w0,w1⟩⟩
end
end
end Go.Proofs.YtmgoplaamlignaaGreat
