/- Texts laid together: walks of functions, what they compute, and plain laws of it. Own work. -/
import Derived.Test.YtmgoplaamlignaaGreatK45
import Derived.Test.YtmgoplaamlignaaGreatK40
import Derived.Test.YtmgoplaamlignaaGreatK22
import Derived.Test.YtmgoplaamlignaaGreatK19
import Derived.Test.YtmgoplaamlignaaGreatK26
import Derived.Test.YtmgoplaamlignaaGreatK23
import Derived.Test.YtmgoplaamlignaaGreatK39
import Derived.Test.YtmgoplaamlignaaGreatK18
import Derived.Test.YtmgoplaamlignaaGreatK1
namespace Go.Proofs.YtmgoplaamlignaaGreat
open Go.RowKit Tryz
set_option linter.unusedVariables false
set_option linter.unusedSimpArgs false
set_option maxRecDepth 100000
set_option maxHeartbeats 4000000
theorem DoH_ok (b n:Nat) (s:Option Addr×Nat) (lines:Int) (x:Hs) (a:Acn) (hn:8≤n∧n≤200) (hH:x.pages.length=n) (hln:LnI x.pages) (hsq:0≤x.seq∧x.seq≤90000) (htb:x.table.length≤7000) :
  FnX Tryz.prog 54 [Is (.pointer (some ⟨b,0,none⟩)),IsAct a] [blk b 62 [Is (slV n s),Is (.int .i64 lines),Is (.int .i64 x.seq),qal tRw x.table,Is (.int .i64 x.cur.phase),Is (.int .i64 x.cur.level),Is (.int .u32 (UV x.cur.key))],buf (slV n s) 53 tPg x.pages]
  (fun i:Hs=>(i.pages.length=n∧LnI i.pages)∧(0≤i.seq∧i.seq≤x.seq+2)∧i.table.length≤x.table.length+2) (fun i=>qbv []) (fun i=>[blk b 62 [Is (slV n s),Is (.int .i64 lines),Is (.int .i64 i.seq),qal tRw i.table,Is (.int .i64 i.cur.phase),Is (.int .i64 i.cur.level),Is (.int .u32 (UV i.cur.key))],buf (slV n s) 53 tPg i.pages]):=by
 refine Fn.enterB func54 ntmps54 rfl rfl ?_
 intro c hX hbelow
 refine t3 ?_
 intro i3
 refine t6 ?_
 refine qap rfl (by ((refine qac call9 (qd4 _ _ ?_ ?_) ⟨qar,⟨qar,trivial⟩⟩);all_goals (first|omega|(simp;done)|(simp;omega)|(refine Nat.le_trans (qai _ _) ?_;omega)|(refine Nat.le_trans (qai _ _) (Nat.le_trans (Nat.add_le_add_right (qai _ _) _) ?_);omega)))) ?_
 refine t7 ?_
 refine qap rfl (by ((refine qac call9 (qd4 _ _ ?_ ?_) ⟨qar,⟨qar,trivial⟩⟩);all_goals (first|omega|(simp;done)|(simp;omega)|(refine Nat.le_trans (qai _ _) ?_;omega)|(refine Nat.le_trans (qai _ _) (Nat.le_trans (Nat.add_le_add_right (qai _ _) _) ?_);omega)))) ?_
 refine t4 ?_
 obtain ⟨cl,hcl⟩:∃ q,a.client % 3=q:=⟨_,rfl⟩
 have hcl6:0≤cl∧cl<6:=by omega
 refine qb0 4 (Is (.int .i64 cl)) rfl (SubL.eq (by rw [hcl])) ?_
 refine t12 ?_
 refine qb3 [(0,_),(3,_),(4,_),(15,_)] [blk i3 _ _,blk b _ _,buf (slV n s) _ _ _] (fun yc:Bool=>True) (fun yc=>[(16,Is (.bool yc))]) (fun yc=>[]) qah qab ?_ ?_
 rotate_left
 focus
  refine cN ?_ ?_ <;> intro h4
  ·refine s1 ?_
   exact qak _ (trivial) qah qab
  refine t6 ?_
  refine cN ?_ ?_ <;> intro h5
  ·refine s1 ?_
   exact qak _ (trivial) qah qab
  refine t6 ?_
  refine cN ?_ ?_ <;> intro h6
  ·refine s1 ?_
   exact qak _ (trivial) qah qab
  refine t6 ?_
  refine cN ?_ ?_ <;> intro h7
  ·refine s1 ?_
   exact qak _ (trivial) qah qab
  refine t6 ?_
  refine cN ?_ ?_ <;> intro h8
  ·refine s1 ?_
   exact qak _ (trivial) qah qab
  refine t6 ?_
  refine cN ?_ ?_ <;> intro h9
  ·refine s1 ?_
   exact qak _ (trivial) qah qab
  refine t6 ?_
  refine cN ?_ ?_ <;> intro h10
  ·refine s1 ?_
   exact qak _ (trivial) qah qab
  refine t6 ?_
  refine cN ?_ ?_ <;> intro h11
  ·refine s1 ?_
   exact qak _ (trivial) qah qab
  refine t6 ?_
  refine cN ?_ ?_ <;> intro h12
  ·refine s1 ?_
   exact qak _ (trivial) qah qab
  refine t6 ?_
  refine cN ?_ ?_ <;> intro h13
  ·refine s1 ?_
   exact qak _ (trivial) qah qab
  refine t4 ?_
  exact qak _ (trivial) qah qab
 rintro bb _
 refine cN ?_ ?_ <;> intro h4b
 ·refine t3 ?_
  refine kRF call83 (qsb a) ?_
  (refine qa5 29 rfl ?_;intro x29 hx29)
  refine qap rfl (OpP.to (qad (size:=12) (qs:=[(0,_)]) rfl rfl rfl ⟨⟨rfl,_,(er rfl),qaf⟩,trivial⟩ rf rf) (SubL.row1 (T:=tSt29) (x:=(⟨_,_,_,_,_,_,_,_,(⟨_,_,_⟩:Co),_⟩:St29)) rf rf rf qaj)) ?_
  refine t4 ?_
  have hst:∀ s,s∈[x29]→1≤s.kind∧s.kind≤4:=fun s hs=>by
   rw [List.mem_singleton] at hs
   subst hs
   exact hx29
  refine t4 ?_
  (refine qe3 rfl (by ((refine qds qbh qbh call84 (zc6 b n s lines x _ _ hn hH hln ⟨hsq.1,by omega⟩ ?_ ?_ ?_) ⟨qar,⟨qar,⟨qar,trivial⟩⟩⟩);all_goals (first|omega|exact Nat.le_refl 1))) ?_;intro x34 hx34)
  refine t3 ?_
  obtain ⟨⟨hr1,hr2⟩,⟨hr3,hr4⟩,hr5⟩:=hx34
  refine cN ?_ ?_ <;> intro h16
  ·refine t4 ?_
   (refine qe3 rfl (qds qbh qbh call85 (qx1 b n s lines ⟨x34.1,x34.2.1,x34.2.2.1,x.cur⟩ cl hcl6 hn hr1 hr2) ⟨qar,⟨qar,trivial⟩⟩) ?_;intro x38 hx38)
   refine t6 ?_
   (refine qe3 rfl (by ((refine qds qbh qbh call84 (zc6 b n s lines ⟨x38,x34.2.1,x34.2.2.1,x.cur⟩ _ _ hn hx38.1 hx38.2 ⟨hr3,Int.le_trans hr4 ?_⟩ ?_ ?_ ?_) ⟨qar,⟨qar,⟨qar,trivial⟩⟩⟩);all_goals (first|omega|exact Nat.le_trans hr5 (by omega)|exact Nat.le_refl 1))) ?_;intro x42 hx42)
   refine t3 ?_
   obtain ⟨⟨hw1,hw2⟩,⟨hw3,hw4⟩,hw5⟩:=hx42
   refine qax (Bs:=[]) (⟨_,_,_,(⟨_,_,_⟩:Cu)⟩:Hs) ?_ rfl results54 trivial qab (hD0:=hX.2)
   exact by exact ⟨⟨hw1,hw2⟩,⟨hw3,Int.le_trans hw4 (show x34.2.1+1≤x.seq+2 by omega)⟩,Nat.le_trans hw5 (show x34.2.2.1.length+1≤x.table.length+2 by omega)⟩
  refine t3 ?_
  refine qax (Bs:=[]) (⟨_,_,_,(⟨_,_,_⟩:Cu)⟩:Hs) ?_ rfl results54 trivial qab (hD0:=hX.2)
  exact by exact ⟨⟨hr1,hr2⟩,⟨hr3,Int.le_trans hr4 (show x.seq+1≤x.seq+2 by omega)⟩,Nat.le_trans hr5 (show x.table.length+1≤x.table.length+2 by omega)⟩
 refine t6 ?_
 refine cN ?_ ?_ <;> intro h19
 ·refine t6 ?_
  refine qaz [(0,_),(3,_),(4,_)] [blk i3 _ _] (fun y:Int×(List Pg)×Cu=>(0≤y.1∧y.1≤31)∧y.2.1.length=n∧LnI y.2.1) (fun y=>[(7,Is (.int .i64 y.1))]) (fun y=>[blk b 62 [Is (slV n s),Is (.int .i64 lines),Is (.int .i64 x.seq),qal tRw x.table,Is (.int .i64 (y.2.2).phase),Is (.int .i64 (y.2.2).level),Is (.int .u32 (UV (y.2.2).key))],buf (slV n s) 53 tPg (y.2.1)]) (fun y=>(31-y.1).toNat) (0,x.pages,x.cur) ?_ qah qab ?_
  ·exact (⟨⟨Int.le_refl 0,(by decide:(0:Int)≤31)⟩,hH,hln⟩)
  rintro ⟨k,H,cu⟩ hI
  dsimp only at hI ⊢
  refine t6 ?_
  refine qap rfl (by ((refine qac call9 (qd4 _ _ ?_ ?_) ⟨qar,⟨qar,trivial⟩⟩);all_goals (first|omega|(simp;done)|(simp;omega)|(refine Nat.le_trans (qai _ _) ?_;omega)|(refine Nat.le_trans (qai _ _) (Nat.le_trans (Nat.add_le_add_right (qai _ _) _) ?_);omega)))) ?_
  refine t4 ?_
  refine cN ?_ ?_ <;> intro h21
  ·have hk30:k<1+a.n % 30:=of_decide_eq_true h21
   obtain ⟨⟨hk0,hk31⟩,hH2,hln2⟩:=hI
   refine t7 ?_
   (refine qe3 rfl (qds qbh qbh call86 (zc4 b n s lines ⟨H,x.seq,x.table,cu⟩ cl hcl6 hn hH2 hln2) ⟨qar,⟨qar,trivial⟩⟩) ?_;intro x55 hx55)
   refine t8 ?_
   refine qaa (_,_,(⟨_,_,_⟩:Cu)) ?_ ?_ qah qab
   ·exact ⟨⟨by omega,by omega⟩,hx55⟩
   ·(show (31-(k+1)).toNat<(31-k).toNat;omega)
  refine t6 ?_
  refine qax (Bs:=[]) (⟨H,x.seq,x.table,cu⟩:Hs) ?_ rfl results54 trivial qab (hD0:=hX.2)
  exact ⟨hI.2,⟨hsq.1,(show x.seq≤x.seq+2 by omega)⟩,Nat.le_add_right _ _⟩
 refine t6 ?_
 refine cN ?_ ?_ <;> intro h24
 ·refine t4 ?_
  refine qap rfl (by ((refine qac call9 (qd4 _ _ ?_ ?_) ⟨qar,⟨qar,trivial⟩⟩);all_goals (first|omega|(simp;done)|(simp;omega)|(refine Nat.le_trans (qai _ _) ?_;omega)|(refine Nat.le_trans (qai _ _) (Nat.le_trans (Nat.add_le_add_right (qai _ _) _) ?_);omega)))) ?_
  refine t3 ?_
  (refine qe3 rfl (by ((refine qds qbh qbh call87 (qjo b n s lines x (⟨_,_,_,_,_,[]⟩:Ep26) rfl ?_ hn hH hln) ⟨qar,⟨qar,trivial⟩⟩);all_goals (intro h5;exact absurd (show 1+a.n % 2=5 from h5) (by omega)))) ?_;intro x65 hx65)
  refine t3 ?_
  refine qax (Bs:=[]) (⟨x65.1,x.seq,x.table,x.cur⟩:Hs) ?_ rfl results54 trivial qab (hD0:=hX.2)
  exact ⟨⟨hx65.1,hx65.2.1⟩,⟨hsq.1,(show x.seq≤x.seq+2 by omega)⟩,Nat.le_add_right _ _⟩
 refine t6 ?_
 refine cN ?_ ?_ <;> intro h26
 ·refine t3 ?_
  (refine qe3 rfl (by ((refine qds qbh qbh call87 (qjo b n s lines x (⟨3,_,_,_,_,[]⟩:Ep26) rfl (fun h=>absurd (show (3:Int)=5 from h) ?_) hn hH hln) ⟨qar,⟨qar,trivial⟩⟩);all_goals (decide))) ?_;intro x70 hx70)
  refine t3 ?_
  refine qax (Bs:=[]) (⟨x70.1,x.seq,x.table,x.cur⟩:Hs) ?_ rfl results54 trivial qab (hD0:=hX.2)
  exact ⟨⟨hx70.1,hx70.2.1⟩,⟨hsq.1,(show x.seq≤x.seq+2 by omega)⟩,Nat.le_add_right _ _⟩
 refine t6 ?_
 refine cN ?_ ?_ <;> intro h28
 ·refine t3 ?_
  (refine qe3 rfl (qds qbh qbh call88 (qoy b n s lines x cl hcl6 hn hH hln) ⟨qar,⟨qar,trivial⟩⟩) ?_;intro x75 hx75)
  refine t3 ?_
  refine qax (Bs:=[]) (⟨x75,x.seq,x.table,x.cur⟩:Hs) ?_ rfl results54 trivial qab (hD0:=hX.2)
  exact ⟨hx75,⟨hsq.1,(show x.seq≤x.seq+2 by omega)⟩,Nat.le_add_right _ _⟩
 refine t6 ?_
 refine cN ?_ ?_ <;> intro h30
 ·refine s1 ?_
  refine qa0 rfl (by kernel_rfl) ?_
  refine qgl (its:=[]) ?_
  refine f1 0 ?_
  refine f1 1 ?_
  refine f1 2 ?_
  refine f1 3 ?_
  refine f1 4 ?_
  refine f1 5 ?_
  refine f1 6 ?_
  refine qkf 7 rfl (by kernel_rfl) (by ((refine qac call9 (qd4 _ _ ?_ ?_) ⟨qar,⟨qar,trivial⟩⟩);all_goals (first|omega|(simp;done)|(simp;omega)|(refine Nat.le_trans (qai _ _) ?_;omega)|(refine Nat.le_trans (qai _ _) (Nat.le_trans (Nat.add_le_add_right (qai _ _) _) ?_);omega)))) ?_
  refine qkf 8 rfl (by kernel_rfl) (qip (er rfl) (er rfl) qfv) ?_
  refine f1 9 ?_
  refine f1 10 ?_
  refine f1 11 ?_
  refine f1 12 ?_
  refine qm4 14 rfl (by kernel_rfl) (fun _=>(qbi rfl qbo rfl)) ?_
  (refine qy9 13 [0,1,2,3,4,5,6,7,8,9,10,11,12,13] rfl (by kernel_rfl) (by ((refine qc9 (by (try simp only [List.append_eq,List.nil_append,List.cons_append]);exact qga) call12 (zdm x.pages _ _ _ _ ?_) ⟨qar,⟨qar,⟨qar,⟨qar,⟨qar,trivial⟩⟩⟩⟩⟩ (qtt));all_goals (first|omega|(simp;done)|(simp;omega)|(refine Nat.le_trans (qai _ _) ?_;omega)|(refine Nat.le_trans (qai _ _) (Nat.le_trans (Nat.add_le_add_right (qai _ _) _) ?_);omega)))) ?_;intro x91 hx91)
  (refine qgk 8 14 (by kernel_rfl) rfl rfl ?_;intro i8)
  refine qfi 15 [0,1,2,3,4,5,6,7,8,9,10,11,12,13,14,15] rfl (by kernel_rfl) (fun c'=>by exact qa9 (er rfl) (er rfl) qaf qae rf rf rf) ?_
  refine qeq (by kernel_rfl) rfl ?_
  show JQ _ _ _ _ _ _
  refine t8 ?_
  refine cN ?_ ?_ <;> intro h32
  ·refine t4 ?_
   (refine qe6 rfl (qhx qbh qbh call23 (qh9 b n s _ _ _ _ _ _ x.pages x91.writes hH hn.2 hx91.2) ⟨qar,⟨qar,trivial⟩⟩) ?_;intro i98)
   refine t3 ?_
   refine qax (Bs:=[]) (⟨x91.writes.foldl qnk x.pages,x.seq,x.table,x.cur⟩:Hs) ?_ rfl results54 trivial qab (hD0:=hX.2)
   exact ⟨⟨(show (x91.writes.foldl qnk x.pages).length=n by rw [qks];exact hH),qoh _ hln⟩,⟨hsq.1,(show x.seq≤x.seq+2 by omega)⟩,Nat.le_add_right _ _⟩
  refine t3 ?_
  refine qax (Bs:=[]) (⟨_,_,_,(⟨_,_,_⟩:Cu)⟩:Hs) ?_ rfl results54 trivial qab (hD0:=hX.2)
  exact by exact ⟨⟨hH,hln⟩,⟨hsq.1,(show x.seq≤x.seq+2 by omega)⟩,Nat.le_add_right _ _⟩
 refine t3 ?_
 refine qax (Bs:=[]) (⟨_,_,_,(⟨_,_,_⟩:Cu)⟩:Hs) ?_ rfl results54 trivial qab (hD0:=hX.2)
 exact by exact ⟨⟨hH,hln⟩,⟨hsq.1,(show x.seq≤x.seq+2 by omega)⟩,Nat.le_add_right _ _⟩
theorem zbb:∀ n:Nat,LnI (qrc n)
 | 0=>fun i p h=>by simp [qrc] at h
 | n+1=>fun i p h=>by
  unfold qrc at h
  rcases Nat.lt_or_ge i n with hi|hi
  ·rw [List.getElem?_append_left (by rw [qjx];exact hi)] at h
   exact zbb n i p h
  ·rw [List.getElem?_append_right (by rw [qjx];exact hi),qjx] at h
   have h1:=(List.getElem?_eq_some_iff.1 h).1
   simp at h1
   have:i=n:=by omega
   subst this
   simp at h
   subst h
   rfl
theorem zdl (n:Nat) (l:List Acn) (hn:8≤n∧n≤200) (hl:l.length≤1000):FnX Tryz.prog 17 [Is (.int .i64 (96+(n:Int))),qal tAct l] []
  (fun i:Nat×(Option Addr×Nat)×Hs=>i.2.2.pages.length=n∧LnI i.2.2.pages) (fun i=>Is (.pointer (some ⟨i.1,0,none⟩))) (fun i=>[blk (i.1) 62 [Is (slV n (i.2.1)),Is (.int .i64 (96+(n:Int))),Is (.int .i64 i.2.2.seq),qal tRw i.2.2.table,Is (.int .i64 i.2.2.cur.phase),Is (.int .i64 i.2.2.cur.level),Is (.int .u32 (UV i.2.2.cur.key))],buf (slV n (i.2.1)) 53 tPg i.2.2.pages]):=by
 refine Fn.enterB func17 ntmps17 rfl rfl ?_
 intro c hX hbelow
 refine t8 ?_
 (refine qe6 rfl (qq3 call53 (New_ok n hn.2) ⟨qar,trivial⟩) ?_;intro i8)
 refine t5 ?_
 obtain ⟨b,s⟩:=i8
 dsimp only
 refine qbq (b:=b) (As':=[Is (slV n s),Is (.int .i64 (96+(n:Int))),Is (.int .i64 0),qal tRw [],Is (.int .i64 1),Is (.int .i64 0),Is (.int .u32 (UV 1#32))]) qae qba ?_
 refine t5 ?_
 refine qaz [(1,_),(4,_),(5,_)] [] (fun y:Nat×Hs=>y.1≤(l).length∧((y.2.pages.length=n∧LnI y.2.pages)∧(0≤y.2.seq∧y.2.seq≤2*(y.1:Int))∧y.2.table.length≤2*y.1)) (fun y=>[(6,Is (.int .i64 (y.1:Nat)))]) (fun y=>[blk b 62 [Is (slV n s),Is (.int .i64 (96+(n:Int))),Is (.int .i64 y.2.seq),qal tRw y.2.table,Is (.int .i64 y.2.cur.phase),Is (.int .i64 y.2.cur.level),Is (.int .u32 (UV y.2.cur.key))],buf (slV n s) 53 tPg y.2.pages]) (fun y=>(l).length-y.1) (0,⟨qrc n,0,[],⟨1,0,1#32⟩⟩) ?_ qah qab ?_
 ·exact ⟨by exact Nat.zero_le _,⟨⟨qjx n,zbb n⟩,⟨Int.le_refl 0,Int.le_refl 0⟩,Nat.le_refl 0⟩⟩
 rintro ⟨k,x⟩ ⟨hk,hI⟩
 dsimp only at hk hI ⊢
 refine t9 ?_
 refine cN ?_ ?_ <;> intro h3
 ·have hlt:k<(l).length:=by have:=of_decide_eq_true h3;omega
  clear h3
  obtain ⟨z,hz⟩:∃ q,(l)[k]?=some q:=⟨_,List.getElem?_eq_getElem hlt⟩
  obtain ⟨⟨hp1,hp2⟩,⟨hp3,hp4⟩,hp5⟩:=hI
  refine t10 ?_
  (refine qe3 rfl (by ((refine qds qbh qbh call54 (DoH_ok b n s (96+(n:Int)) x z hn hp1 hp2 ⟨hp3,by omega⟩ ?_) ⟨qar,⟨qar,trivial⟩⟩);all_goals (first|omega|(simp;done)|(simp;omega)|(refine Nat.le_trans (qai _ _) ?_;omega)|(refine Nat.le_trans (qai _ _) (Nat.le_trans (Nat.add_le_add_right (qai _ _) _) ?_);omega)))) ?_;intro x20 hx20)
  refine t8 ?_
  refine qaa (k+1,(⟨_,_,_,(⟨_,_,_⟩:Cu)⟩:Hs)) ?_ ?_ qah qab
  ·exact ⟨by omega,⟨hx20.1,⟨hx20.2.1.1,Int.le_trans hx20.2.1.2 (show x.seq+2≤2*((k+1:Nat):Int) by omega)⟩,Nat.le_trans hx20.2.2 (show x.table.length+2≤2*(k+1) by omega)⟩⟩
  ·exact (by omega)
 have hke:k=(l).length:=by have:=of_decide_eq_false h3;omega
 clear h3
 subst hke
 refine t12 ?_
 refine qax (Bs:=[_]) (b,s,x) ?_ rfl results17 eXF qab (hD0:=hX.2)
 exact hI.1
def nC (z:Int):Nat:=8+16*(1+(z % 5).toNat)
theorem nC_rng (z:Int):8≤nC z∧nC z≤200:=by unfold nC;omega
theorem SizeC_ok (z:Int):FnP Tryz.prog 18 [Is (.int .i64 z)] (Is (.int .i64 (96+(nC z:Int)))):=by
 have h1:=Int.emod_nonneg z (show (5:Int)≠0 by omega)
 have h2:=Int.emod_lt_of_pos z (show (0:Int)<5 by omega)
 have e:(96+(nC z:Int))=104+16*(1+z % 5):=by unfold nC;omega
 rw [e]
 refine FnP.enter func18 ntmps18 rfl rfl ?_
 intro c hX
 refine t8 ?_
 refine qap rfl (by ((refine qac call9 (qd4 _ _ ?_ ?_) ⟨qar,⟨qar,trivial⟩⟩);all_goals (first|omega|(simp;done)|(simp;omega)|(refine Nat.le_trans (qai _ _) ?_;omega)|(refine Nat.le_trans (qai _ _) (Nat.le_trans (Nat.add_le_add_right (qai _ _) _) ?_);omega)))) ?_
 refine t7 ?_
 refine qa4 results18 rfl () (SubL.eq ?_) (List.nil_sublist _)
 rfl
def zbp (z:Cs20):Bool:=decide ((z.acts.length:Int)≤40)&&decide ((z.pokes.length:Int)≤12)
theorem light_ok (z:Cs20):FnP Tryz.prog 7 [IsCs20 z] (Is (.bool (zbp z))):=by
 refine FnP.enter func7 ntmps7 rfl rfl ?_
 intro c hX
 refine t3 ?_
 intro i1
 refine t19 ?_
 refine qa4 results7 rfl () (SubL.eq ?_) (List.nil_sublist _)
 rfl
theorem pagesC_ok (z:Cs20) (hl:zbp z=true):FnP Tryz.prog 8 [IsCs20 z] (qek (fun r:List Pg=>r.length=nC z.size∧LnI r) fun r=>qbv [qal tPg r,Is (.int .i64 (96+(nC z.size:Int)))]):=by
 have hn:=nC_rng z.size
 have hll:z.acts.length≤1000∧z.pokes.length≤1000:=by unfold zbp at hl;simp at hl;omega
 refine FnP.enter func8 ntmps8 rfl rfl ?_
 intro c hX
 refine t3 ?_
 intro i1
 refine t5 ?_
 refine qa0 rfl (by kernel_rfl) ?_
 refine qgl (its:=[]) ?_
 refine f1 0 ?_
 refine f1 1 ?_
 refine qkf 2 rfl (by kernel_rfl) (qac call18 (SizeC_ok _) ⟨qar,trivial⟩) ?_
 refine f1 3 ?_
 refine f1 4 ?_
 (refine JF_tx 5 [0,1,2,3,4,5] rfl (by kernel_rfl) (fun c'=>by exact qym call17 (zdl (nC z.size) _ hn hll.1) ⟨qar,⟨qar,trivial⟩⟩) ?_;intro x10 hx10)
 refine f1 6 ?_
 refine qeq (by kernel_rfl) rfl ?_
 show JQ _ _ _ _ _ _
 refine t2 ?_
 obtain ⟨hx1,hx2⟩:=hx10
 refine qa8 hX (v:=slV (nC z.size) x10.2.1) qae ?_
 refine qbq (b:=x10.1) (As':=[qal tPg x10.2.2.pages,Is (.int .i64 (96+(nC z.size:Int))),Top,Top,Top,Top,Top]) qae qba ?_
 refine qd2 (b:=x10.1) hX qae ?_
 refine qb0 4 (qdo [qal tPg x10.2.2.pages,Is (.int .i64 (96+(nC z.size:Int))),Top,Top,Top,Top,Top]) rfl (SubL.fact qbp) ?_
 refine qa0 rfl (by kernel_rfl) ?_
 refine qgl (its:=[]) ?_
 refine f1 0 ?_
 refine f1 1 ?_
 refine f1 2 ?_
 refine f1 3 ?_
 refine f1 4 ?_
 refine f1 5 ?_
 refine qhq 7 rfl (by kernel_rfl) (fun _=>(qay rfl)) ?_
 refine qhq 8 rfl (by kernel_rfl) (fun _=>(by exact qn1 (er rfl))) ?_
 refine qhq 9 rfl (by kernel_rfl) (fun _=>(by exact qa1 (k:=1) (er rfl) rfl rfl rfl rfl qbo)) ?_
 refine qhq 10 rfl (by kernel_rfl) (fun _=>(by exact qbw (er rfl) rfl rfl rfl)) ?_
 (refine qy9 6 [0,1,2,3,4,5,6] rfl (by kernel_rfl) (qac call30 (zc5 (nC z.size) _ _ hn hx1 hx2 hll.2) ⟨qar,⟨qar,trivial⟩⟩) ?_;intro x17 hx17)
 refine f1 11 ?_
 refine f1 12 ?_
 refine qeq (by kernel_rfl) rfl ?_
 show JQ _ _ _ _ _ _
 refine t2 ?_
 exact qmn _ results8 (hp:=by exact hx17) (hD0:=hX.2)
theorem qrx (u:BitVec 32) (i:Nat):qk2 u i=decide (UV u / 2 ^ i % 2=1):=by
 unfold qk2
 rw [qir 32 1 (u>>>i) _ rfl,qlu]
 rfl
theorem qkv (u:BitVec 32) (i:Nat):qk2 u i=u.getLsbD i:=by
 rw [qrx,BitVec.getLsbD,Nat.testBit_eq_decide_div_mod_eq]
 unfold UV
 have e:((u.toNat:Int) / 2 ^ i % 2=1)↔(u.toNat / 2 ^ i % 2=1):=by
  rw [show ((u.toNat:Int) / 2 ^ i % 2)=((u.toNat / 2 ^ i % 2:Nat):Int) by push_cast;rfl]
  omega
 simp only [e]
theorem qvg (j i:Nat) (hj:j<32):(BitVec.ofInt 32 1<<<j).getLsbD i=decide (i=j):=by
 rw [show BitVec.ofInt 32 1=1#32 from rfl,BitVec.getLsbD_shiftLeft]
 by_cases h:i=j
 ·subst h;simp [hj]
 ·simp only [h,decide_false]
  by_cases h1:i<j
  ·simp [h1]
  ·have:i-j≠0:=by omega
   rw [BitVec.getLsbD_one]
   simp [this]
theorem bit_or (u:BitVec 32) (j i:Nat) (hj:j<32):qk2 (u|||BitVec.ofInt 32 1<<<j) i=(qk2 u i||decide (i=j)):=by
 rw [qkv,qkv,BitVec.getLsbD_or,qvg j i hj]
theorem qvy (i:Nat):∀ (q:List Nat) (u:BitVec 32),(∀ j,j∈q→j<32)→qk2 (orb u q) i=(qk2 u i||decide (i∈q))
 | [],u,_=>by simp [orb]
 | j :: q,u,h=>by
  have e:orb u (j :: q)=orb (u|||BitVec.ofInt 32 1<<<j) q:=rfl
  rw [e,qvy i q _ fun x hx=>h x (List.mem_cons_of_mem _ hx),bit_or u j i (h j (List.mem_cons_self ..))]
  by_cases h1:i=j <;> simp [h1]
def qpg (u:BitVec 32):Prop:=∀ i,qk2 u i=true→1≤i∧i≤15
theorem ql2 (u:BitVec 32):qpg u↔UV (u &&& ~~~BitVec.ofInt 32 65534)=0:=by
 rw [uv0_iff]
 constructor
 ·intro h
  apply BitVec.eq_of_getLsbD_eq
  intro i hi
  rw [BitVec.getLsbD_and,BitVec.getLsbD_not]
  simp only [hi,decide_true,Bool.true_and]
  cases hb:u.getLsbD i with
  | false=>simp
  | true =>
   have h1:=h i (by rw [qkv];exact hb)
   have h2:(BitVec.ofInt 32 65534).getLsbD i=true:=by
    have:∀ k:Fin 16,1≤k.val→(BitVec.ofInt 32 65534).getLsbD k.val=true:=by decide +kernel
    exact this ⟨i,by omega⟩ h1.1
   rw [h2];simp
 ·intro h i hb
  rw [qkv] at hb
  have hi:i<32:=BitVec.lt_of_getLsbD hb
  have h1:=congrArg (fun x:BitVec 32=>x.getLsbD i) h
  simp only [BitVec.getLsbD_and,BitVec.getLsbD_not,hi,decide_true,Bool.true_and,hb] at h1
  have h2:(BitVec.ofInt 32 65534).getLsbD i=true:=by simpa using h1
  have h3:∀ k:Fin 32,(BitVec.ofInt 32 65534).getLsbD k.val=true→1≤k.val∧k.val≤15:=by decide +kernel
  exact h3 ⟨i,hi⟩ h2
def fbL (u:BitVec 32):List Nat:=(List.range' 1 15).filter fun i=>!qk2 u i
theorem mem_fbL {u:BitVec 32} {i:Nat}:i∈fbL u↔(1≤i∧i≤15)∧qk2 u i=false:=by
 unfold fbL
 rw [List.mem_filter,List.mem_range']
 constructor
 ·rintro ⟨⟨j,h1,h2⟩,h3⟩
  exact ⟨by omega,by simpa using h3⟩
 ·rintro ⟨h1,h2⟩
  exact ⟨⟨i-1,by omega,by omega⟩,by simp [h2]⟩
theorem zak:∀ n:Fin 256,Lib.pop8 (n.val:Int)=((n.val % 2+n.val / 2 % 2+n.val / 4 % 2+n.val / 8 % 2+n.val / 16 % 2+n.val / 32 % 2+n.val / 64 % 2+n.val / 128 % 2:Nat):Int):=by decide +kernel
theorem qqy {j:Int} (h0:0≤j) (h1:j≤255):Lib.pop8 j=j % 2+j / 2 % 2+j / 4 % 2+j / 8 % 2+j / 16 % 2+j / 32 % 2+j / 64 % 2+j / 128 % 2:=by
 obtain ⟨n,rfl⟩:∃ n:Nat,j=n:=⟨j.toNat,by omega⟩
 have h:Lib.pop8 ((n:Nat):Int)=_:=zak ⟨n,by omega⟩
 rw [h]
 push_cast
 rfl
theorem qpx {α:Type} (p:α→Bool):∀ l:List α,((l.filter p).length:Int)=(l.map fun x=>if p x=true then (1:Int) else 0).sum
 | []=>rfl
 | x :: l=>by
  rw [List.filter_cons,List.map_cons,List.sum_cons,← qpx p l]
  by_cases h:p x=true
  ·rw [if_pos h,if_pos h,List.length_cons];omega
  ·rw [if_neg h,if_neg h];omega
theorem nb (x:Int) (i:Nat):(if (!decide (x / 2 ^ i % 2=1))=true then (1:Int) else 0)=1-x / 2 ^ i % 2:=by
 have h:0≤x / 2 ^ i % 2∧x / 2 ^ i % 2<2:=⟨Int.emod_nonneg _ (by decide),Int.emod_lt_of_pos _ (by decide)⟩
 by_cases h1:x / 2 ^ i % 2=1
 ·simp [h1]
 ·simp [h1];omega
theorem bl1 (x:Int):x / 2 ^ 1 % 2=x % 256 / 2 % 2:=by omega
theorem bl2 (x:Int):x / 2 ^ 2 % 2=x % 256 / 4 % 2:=by omega
theorem bl3 (x:Int):x / 2 ^ 3 % 2=x % 256 / 8 % 2:=by omega
theorem bl4 (x:Int):x / 2 ^ 4 % 2=x % 256 / 16 % 2:=by omega
theorem bl5 (x:Int):x / 2 ^ 5 % 2=x % 256 / 32 % 2:=by omega
theorem bl6 (x:Int):x / 2 ^ 6 % 2=x % 256 / 64 % 2:=by omega
theorem bl7 (x:Int):x / 2 ^ 7 % 2=x % 256 / 128 % 2:=by omega
theorem bl8 (x:Int):x / 2 ^ 8 % 2=x / 256 % 2:=by omega
theorem bl9 (x:Int):x / 2 ^ 9 % 2=x / 256 / 2 % 2:=by omega
theorem bl10 (x:Int):x / 2 ^ 10 % 2=x / 256 / 4 % 2:=by omega
theorem bl11 (x:Int):x / 2 ^ 11 % 2=x / 256 / 8 % 2:=by omega
theorem bl12 (x:Int):x / 2 ^ 12 % 2=x / 256 / 16 % 2:=by omega
theorem bl13 (x:Int):x / 2 ^ 13 % 2=x / 256 / 32 % 2:=by omega
theorem bl14 (x:Int):x / 2 ^ 14 % 2=x / 256 / 64 % 2:=by omega
theorem bl15 (x:Int):x / 2 ^ 15 % 2=x / 256 / 128 % 2:=by omega
theorem fbL_len {u:BitVec 32} (h:qpg u):((fbL u).length:Int)=15-popV u:=by
 have hb:∀ i,i<32→¬ (1≤i∧i≤15)→UV u / 2 ^ i % 2=0:=fun i h32 hi=>by
  have h1:qk2 u i=false:=Bool.eq_false_iff.2 fun e=>hi (h i e)
  rw [qrx] at h1
  have h2:=of_decide_eq_false h1
  have h3:0≤UV u / 2 ^ i % 2∧UV u / 2 ^ i % 2<2:=⟨Int.emod_nonneg _ (by decide),Int.emod_lt_of_pos _ (by decide)⟩
  omega
 have h0:=qbj u
 have hlt:UV u<65536:=by
  have e:=(ql2 u).1 h
  have h16:UV u / 65536=0:=by
   have e2:=(uv0_iff).1 e
   have e3:u>>>16=0#32:=by
    apply BitVec.eq_of_getLsbD_eq
    intro i hi
    rw [BitVec.getLsbD_ushiftRight]
    cases hb2:u.getLsbD (16+i) with
    | false=>simp
    | true=>have:=h (16+i) (by rw [qkv];exact hb2);omega
   have e4:=qlu 32 u 16
   rw [e3] at e4
   have e5:UV (0#32)=0:=rfl
   rw [e5] at e4
   exact e4.symm
  omega
 have b0:=hb 0 (by decide) (by decide)
 unfold fbL
 rw [qpx]
 simp only [qrx,nb]
 unfold popV
 have w1:UV (u>>>24)=0:=by rw [qlu];omega
 have w2:UV (u>>>16&&&BitVec.ofInt 32 255)=0:=by rw [qir 32 8 _ _ rfl,qlu];omega
 have w3:UV (u>>>8&&&BitVec.ofInt 32 255)=UV u / 256:=by rw [qir 32 8 _ _ rfl,qlu];omega
 have w4:UV (u&&&BitVec.ofInt 32 255)=UV u % 256:=by rw [qir 32 8 _ _ rfl];omega
 rw [w1,w2,w3,w4,qqy (j:=UV u / 256) (by omega) (by omega),qqy (j:=UV u % 256) (by omega) (by omega),qqy (j:=0) (by decide) (by decide)]
 have hr:List.range' 1 15=[1,2,3,4,5,6,7,8,9,10,11,12,13,14,15]:=by decide
 rw [hr]
 have b1:UV u % 256 % 2=0:=by clear hb h w1 w2 w3 w4 hr hlt h0;omega
 rw [b1]
 clear b0 b1 w1 w2 w3 w4 hb h
 generalize UV u=x at *
 have e1:=bl1 x
 have e2:=bl2 x
 have e3:=bl3 x
 have e4:=bl4 x
 have e5:=bl5 x
 have e6:=bl6 x
 have e7:=bl7 x
 have e8:=bl8 x
 have e9:=bl9 x
 have e10:=bl10 x
 have e11:=bl11 x
 have e12:=bl12 x
 have e13:=bl13 x
 have e14:=bl14 x
 have e15:=bl15 x
 simp only [List.map_cons,List.map_nil,List.sum_cons,List.sum_nil]
 rw [e1,e2,e3,e4,e5,e6,e7,e8,e9,e10,e11,e12,e13,e14,e15]
 clear e1 e2 e3 e4 e5 e6 e7 e8 e9 e10 e11 e12 e13 e14 e15 h0 hlt
 generalize x % 256 / 2 % 2=a1
 generalize x % 256 / 4 % 2=a2
 generalize x % 256 / 8 % 2=a3
 generalize x % 256 / 16 % 2=a4
 generalize x % 256 / 32 % 2=a5
 generalize x % 256 / 64 % 2=a6
 generalize x % 256 / 128 % 2=a7
 generalize x / 256 / 128 % 2=b15
 generalize x / 256 / 64 % 2=b14
 generalize x / 256 / 32 % 2=b13
 generalize x / 256 / 16 % 2=b12
 generalize x / 256 / 8 % 2=b11
 generalize x / 256 / 4 % 2=b10
 generalize x / 256 / 2 % 2=b9
 generalize x / 256 % 2=b8
 omega
theorem qmd (p:Nat→Bool) (i f:Nat):(List.range' i (f+1)).filter p=if p i=true then i :: (List.range' (i+1) f).filter p else (List.range' (i+1) f).filter p:=by
 rw [List.range'_succ,List.filter_cons]
theorem hE1_bad {ks:List Pg} {o s:Int} (hb:qe5 ks (qas s)=true) (hs:0≤s∧s≤8) (h:((qeg ks s).2.2.2 != 0)=true):hE1 ks o (qas s)=some (qeg ks s).2.2.2:=
 qxh hb hs (f:=fun e=>some e) (z:=if ((qcj (qb6 ks (qas s))).1.owner != o)=true then some 11 else none) h
theorem hE1_good {ks:List Pg} {o s:Int} (hb:qe5 ks (qas s)=true) (h:((qeg ks s).2.2.2 != 0)=false):hE1 ks o (qas s)=if (qp2 ks s).owner=o then none else some 11:=by
 obtain ⟨g1,g2,g3⟩:=qtr hb h
 unfold hE1 qp2
 rw [if_neg (by rw [g1];simp),if_neg (by rw [g2];simp),g3]
 dsimp only
 by_cases g:(qcj (qb6 ks (qas s))).1.owner=o
 ·rw [if_neg (by simpa using g),if_pos g]
 ·rw [if_pos (by simpa using g),if_neg g]
theorem hdE_eq {ks:List Pg} {o:Int}:∀ {T:List Int},(∀ s,s∈T→(0≤s∧s≤8)∧qe5 ks (qas s)=true)→hdE ks o T=(T.map qas).findSome? (hE1 ks o)
 | [],_=>rfl
 | s :: T,h=>by
  have ih:=hdE_eq (ks:=ks) (o:=o) (T:=T) (fun x hx=>h x (List.mem_cons_of_mem _ hx))
  obtain ⟨hs,hb⟩:=h s (List.mem_cons_self ..)
  rw [List.map_cons,List.findSome?_cons,← ih]
  conv=>lhs;unfold hdE
  cases hc:((qeg ks s).2.2.2 != 0) with
  | true=>rw [if_pos (by simpa using hc),hE1_bad hb hs hc]
  | false =>
   rw [if_neg (by simpa using hc),hE1_good hb hc]
   by_cases g:(qp2 ks s).owner=o
   ·rw [if_neg (by simpa using g),if_pos g]
   ·rw [if_pos g,if_neg g]
theorem hdE_none {ks:List Pg} {o:Int}:∀ {T:List Int},hdE ks o T=none→∀ s,s∈T→(qeg ks s).2.2.2=0∧(qp2 ks s).owner=o
 | [],_,s,h=>by cases h
 | x :: T,h,s,hs=>by
  unfold hdE at h
  split at h
  ·cases h
  ·rename_i h1
   split at h
   ·cases h
   ·rename_i h2
    rcases List.mem_cons.1 hs with e|e
    ·subst e;exact ⟨by simpa using h1,by simpa using h2⟩
    ·exact hdE_none h s e
theorem bit0_eq (u:BitVec 32) (k:Nat):bit0 u k = !qk2 u k:=by
 unfold bit0
 rw [qrx,qir 32 1 (u>>>k) _ rfl,qlu]
 have:UV u / 2 ^ k % 2=0∨UV u / 2 ^ k % 2=1:=by omega
 rcases this with h|h
 ·show (UV u / 2 ^ k % 2==0)=_
  rw [h];rfl
 ·show (UV u / 2 ^ k % 2==0)=_
  rw [h];rfl
theorem qxm (u:BitVec 32) (l:Int):∀ k,qiu u l k=((List.range k).filter fun i=>decide (1≤i) && !qk2 u i).map fun i:Nat=>l+(i:Int)
 | 0=>rfl
 | k+1=>by
  rw [List.range_succ,List.filter_append,List.map_append,← qxm u l k]
  conv=>lhs;unfold qiu
  rw [bit0_eq]
  by_cases h:(decide (1≤k) && !qk2 u k)=true
  ·rw [if_pos h,List.filter_cons,if_pos h];rfl
  ·rw [if_neg h,List.filter_cons,if_neg h];exact (List.append_nil _).symm
theorem free16 (u:BitVec 32) (l:Int):qiu u l 16=(fbL u).map fun i:Nat=>l+(i:Int):=by
 rw [qxm,show List.range 16=0 :: List.range' 1 15 from rfl,List.filter_cons,if_neg (by simp)]
 unfold fbL
 congr 1
theorem qp4 {α:Type} {p q:α→Bool}:∀ {l:List α},(∀ x,x∈l→p x=q x)→l.find? p=l.find? q
 | [],_=>rfl
 | a :: l,h=>by
  rw [List.find?_cons,List.find?_cons,h a (List.mem_cons_self ..),qp4 (l:=l) fun x hx=>h x (List.mem_cons_of_mem _ hx)]
def Told (ks:List Pg) (s:Int):Prop:=qo8 ks s=(fbL (qp2 ks s).used).map (fun i:Nat=>qas s+(i:Int))∧qpg (qp2 ks s).used
theorem src_eq {ks:List Pg} {cnt:Nat} {S:List Int} (h:∀ s,s∈S→Told ks s):qzf ks (cnt:Int) S=(srcV ks cnt S).flatMap (qo8 ks):=by
 have e:(S.find? fun s=>decide (((qo8 ks s).length:Int)≥(cnt:Int)))=S.find? fun s=>decide (vacV (qp2 ks s)≥(cnt:Int)):=qp4 fun s hs=>by
  obtain ⟨h1,h2⟩:=h s hs
  rw [h1,List.length_map,fbL_len h2]
  rfl
 unfold qzf srcV
 rw [e]
 cases S.find? fun s=>decide (vacV (qp2 ks s)≥(cnt:Int)) with
 | some s=>exact (List.append_nil _).symm
 | none=>rfl
@[reducible] def stP (ks:List Pg) (ps:Pk):List Int×List Int:=(qi6 ks ps,qpw ps)
theorem qxt {ks:List Pg} {cnt:Int} {ls:List Int} {st:List Int×List Int} (h:¬ (st.2.length:Int)<cnt):chR ks cnt ls st = .ok st:=by
 cases ls with
 | nil=>rfl
 | cons l r=>unfold chR;rw [if_neg (by simpa using h)]
theorem gen_le (x:BitVec 64):qm3 x≤16777215:=by rw [qxj];omega
theorem ck_unk {ks:List Pg} {l:Int} {st:List Int×List Int} (hb:qe5 ks l=false):chE ks l=none∧qg0 ks st l=(st.1++[l],st.2++[l])∧pkV ks l=0:=by
 unfold chE qg0 pkV
 rw [hb]
 exact ⟨rfl,rfl,rfl⟩
theorem ck_lock {ks:List Pg} {l:Int} (hb:qe5 ks l=true) (h1:qeo (qb6 ks l)=true):chE ks l=some 3∧pkV ks l=3:=by
 unfold chE pkV
 rw [hb,h1]
 exact ⟨rfl,rfl⟩
theorem ck_kind {ks:List Pg} {l:Int} (hb:qe5 ks l=true) (h1:¬ qeo (qb6 ks l)=true) (h2:¬ qh1 (qb6 ks l).d0=0):chE ks l=some 11∧pkV ks l=11:=by
 unfold chE pkV
 have h1':qeo (qb6 ks l)=false:=by simpa using h1
 rw [hb,h1']
 exact ⟨by rw [if_neg (by decide),if_neg (by decide),if_pos (by simpa using h2)],by rw [if_pos rfl,if_neg (by decide),if_pos h2]⟩
theorem ck_max {ks:List Pg} {l:Int} {st:List Int×List Int} (hb:qe5 ks l=true) (h1:¬ qeo (qb6 ks l)=true) (h2:qh1 (qb6 ks l).d0=0) (h3:qm3 (qb6 ks l).d0=16777215):chE ks l=none∧qg0 ks st l=st∧pkV ks l = -1:=by
 have h1':qeo (qb6 ks l)=false:=by simpa using h1
 unfold chE qg0 pkV
 rw [hb,h1',h2,h3]
 exact ⟨rfl,rfl,rfl⟩
theorem ck_ok {ks:List Pg} {l:Int} {st:List Int×List Int} (hb:qe5 ks l=true) (h1:¬ qeo (qb6 ks l)=true) (h2:qh1 (qb6 ks l).d0=0) (h3:¬ qm3 (qb6 ks l).d0=16777215):chE ks l=none∧qg0 ks st l=(st.1,st.2++[l])∧pkV ks l=0:=by
 have h1':qeo (qb6 ks l)=false:=by simpa using h1
 have h4:=gen_le (qb6 ks l).d0
 unfold chE qg0 pkV
 rw [hb,h1',h2]
 exact ⟨rfl,by rw [if_neg (by decide),if_pos (decide_eq_true (by omega))],by rw [if_pos rfl,if_neg (by decide),if_neg (by decide),if_neg h3]⟩
theorem bit_new {u:BitVec 32} {q:List Nat} {i:Nat} (h:∀ j,j∈q→j<i) (hi:i≤32):qk2 (orb u q) i=qk2 u i:=by
 rw [qvy i q u fun j hj=>by have:=h j hj;omega,decide_eq_false (fun hm=>by have:=h i hm;omega),Bool.or_false]
theorem qru {ks:List Pg} {s:Int} {cnt:Nat} {u:BitVec 32} {R:List Int} {ps:Pk}:∀ (f i:Nat) (q:List Nat),i+f=16→(∀ j,j∈q→j<i) →
  chR ks (cnt:Int) (((List.range' i f).filter fun k=>!qk2 u k).map (fun k:Nat=>qas s+(k:Int))++R) (stP ks (ps++[(s,q)])) =
   (match inn ks s cnt f i (quy ps+q.length) (orb u q) q with
    | .error e=>.error e
    | .ok q'=>chR ks (cnt:Int) R (stP ks (ps++[(s,q')])))
 | 0,i,q,_,_=>rfl
 | f+1,i,q,hf,hq=>by
  have hlen:(stP ks (ps++[(s,q)])).2.length=quy ps+q.length:=by show (qpw (ps++[(s,q)])).length=_;rw [qvm,qv7]
  by_cases hc:quy ps+q.length<cnt
  ·have hlt:decide (((stP ks (ps++[(s,q)])).2.length:Int)<(cnt:Int))=true:=decide_eq_true (by rw [hlen];omega)
   rw [qmd]
   conv=>rhs;unfold inn
   rw [if_pos hc,bit_new hq (by omega)]
   cases hbit:qk2 u i with
   | true =>
    rw [if_neg (by simp),if_pos rfl]
    exact qru f (i+1) q (by omega) fun j hj=>by have:=hq j hj;omega
   | false =>
    rw [if_pos (by simp),if_neg (by simp),List.map_cons,List.cons_append]
    conv=>lhs;unfold chR
    rw [if_pos hlt]
    have ihs:=qru (ks:=ks) (s:=s) (cnt:=cnt) (u:=u) (R:=R) (ps:=ps) f (i+1) q (by omega) (fun j hj=>by have:=hq j hj;omega)
    have iht:=qru (ks:=ks) (s:=s) (cnt:=cnt) (u:=u) (R:=R) (ps:=ps) f (i+1) (q++[i]) (by omega) (fun j hj=>by
     rcases List.mem_append.1 hj with h|h
     ·have:=hq j h;omega
     ·have:=List.mem_singleton.1 h;omega)
    rw [orb_snoc,List.length_append,List.length_singleton,← Nat.add_assoc] at iht
    obtain ⟨l,hl⟩:∃ l,qas s+(i:Int)=l:=⟨_,rfl⟩
    rw [hl]
    cases hb:qe5 ks l with
    | false =>
     obtain ⟨c1,c2,c3⟩:=ck_unk (st:=stP ks (ps++[(s,q)])) hb
     rw [c1,c3,if_neg (by decide),if_pos rfl,← iht]
     dsimp only
     rw [c2,show stP ks (ps++[(s,q++[i])])=((stP ks (ps++[(s,q)])).1++[l],(stP ks (ps++[(s,q)])).2++[l]) by
      show (qi6 ks _,qpw _)=_
      rw [qyp (by rw [hl];exact hb),qhz,hl]]
    | true =>
     by_cases h1:qeo (qb6 ks l)=true
     ·obtain ⟨c1,c3⟩:=ck_lock hb h1
      rw [c1,c3,if_neg (by decide),if_neg (by decide)]
     ·by_cases h2:qh1 (qb6 ks l).d0=0
      ·by_cases h3:qm3 (qb6 ks l).d0=16777215
       ·obtain ⟨c1,c2,c3⟩:=ck_max (st:=stP ks (ps++[(s,q)])) hb h1 h2 h3
        rw [c1,c3,if_pos rfl]
        dsimp only
        rw [c2]
        exact ihs
       ·obtain ⟨c1,c2,c3⟩:=ck_ok (st:=stP ks (ps++[(s,q)])) hb h1 h2 h3
        rw [c1,c3,if_neg (by decide),if_pos rfl,← iht]
        dsimp only
        rw [c2,show stP ks (ps++[(s,q++[i])])=((stP ks (ps++[(s,q)])).1,(stP ks (ps++[(s,q)])).2++[l]) by
         show (qi6 ks _,qpw _)=_
         rw [qyo (by rw [hl];exact hb),qhz,hl]]
      ·obtain ⟨c1,c3⟩:=ck_kind hb h1 h2
       rw [c1,c3,if_neg (by decide),if_neg (by decide)]
  ·have hnl:¬ ((stP ks (ps++[(s,q)])).2.length:Int)<(cnt:Int):=by rw [hlen];omega
   rw [qxt hnl]
   conv=>rhs;unfold inn
   rw [if_neg hc]
   dsimp only
   rw [qxt hnl]
theorem chR_out {ks:List Pg} {cnt:Nat}:∀ (ss:List Int) (ps:Pk),(∀ s,s∈ss→Told ks s) →
  chR ks (cnt:Int) (ss.flatMap (qo8 ks)) (stP ks ps)=(match outS ks cnt ss (quy ps) ps with|.error e=>.error e|.ok ps'=>.ok (stP ks ps'))
 | [],ps,_=>rfl
 | s :: ss,ps,h=>by
  rw [List.flatMap_cons,(h s (List.mem_cons_self ..)).1,show stP ks ps=stP ks (ps++[(s,[])]) by show (qi6 ks ps,qpw ps)=(qi6 ks _,qpw _);rw [need_nil,qrh]]
  unfold fbL
  rw [qru 15 1 [] rfl (fun j hj=>by cases hj)]
  conv=>rhs;unfold outS
  rw [show inn ks s cnt 15 1 (quy ps+([]:List Nat).length) (orb (qp2 ks s).used []) []=inn ks s cnt 15 1 (quy ps) (qp2 ks s).used [] from rfl]
  cases inn ks s cnt 15 1 (quy ps) (qp2 ks s).used [] with
  | error e=>rfl
  | ok q =>
   dsimp only
   rw [chR_out ss (ps++[(s,q)]) fun x hx=>h x (List.mem_cons_of_mem _ hx),qv7]
theorem qlh (a b:List Pg) (l:Int):qgh (a++b) l=(qgh b l).or (qgh a l):=by
 unfold qgh
 rw [List.filter_append,List.getLast?_append]
theorem qri (p:Pg) (l:Int):qgh [p] l=if p.l=l then some p else none:=by
 unfold qgh
 by_cases h:p.l=l
 ·rw [if_pos h,List.filter_cons,if_pos (by simpa using h)];rfl
 ·rw [if_neg h,List.filter_cons,if_neg (by simpa using h)];rfl
theorem qh0 (p:Pg) (xs:List Pg) (l:Int):qgh (p :: xs) l=(qgh xs l).or (if p.l=l then some p else none):=by
 rw [show p :: xs=[p]++xs from rfl,qlh,qri]
theorem qvn {xs:List Pg} {l:Int} (h:∀ x,x∈xs→x.l≠l):qgh xs l=none:=by
 unfold qgh
 rw [List.filter_eq_nil_iff.2 fun x hx=>by simpa using h x hx]
 rfl
theorem qw8 {p:Pg} (l:Int):∀ {xs:List Pg},Asc xs→qgh (qfj xs p) l=if p.l=l then some p else qgh xs l
 | [],_=>by rw [show qfj [] p=[p] from rfl,qri];split <;> rfl
 | q :: xs,h=>by
  obtain ⟨h1,h2⟩:=List.pairwise_cons.1 h
  unfold qfj
  split
  ·rename_i hq
   rw [qh0,qw8 l h2,qh0]
   by_cases hp:p.l=l
   ·rw [if_pos hp,if_pos hp];rfl
   ·rw [if_neg hp,if_neg hp]
  ·rename_i hq
   split
   ·rename_i he
    rw [qh0,qh0]
    by_cases hp:p.l=l
    ·rw [if_pos hp,if_pos hp,qvn fun x hx=>by have:=h1 x hx;omega];rfl
    ·rw [if_neg hp,if_neg hp,if_neg (by omega)]
   ·rename_i he
    rw [qh0]
    by_cases hp:p.l=l
    ·rw [if_pos hp,if_pos hp,qvn fun x hx=>by
      rcases List.mem_cons.1 hx with e|e
      ·subst e;omega
      ·have:=h1 x e;omega]
     rfl
    ·rw [if_neg hp,if_neg hp];cases qgh (q :: xs) l <;> rfl
theorem qtm (l:Int):∀ (xs acc:List Pg),Asc acc→qgh (xs.foldl qfj acc) l=qgh (acc++xs) l
 | [],acc,_=>by rw [List.append_nil];rfl
 | x :: xs,acc,h=>by
  rw [List.foldl_cons,qtm l xs _ (qr1 h),qlh,qlh,qh0,qw8 l h]
  cases qgh xs l with
  | some y=>rfl
  | none=>by_cases hp:x.l=l <;> simp [hp]
theorem qyu (a b:List Pg) (l:Int):qgh (qcx a b) l=(qgh b l).or (qgh a l):=by
 unfold qcx
 rw [qtm l _ [] List.Pairwise.nil,List.nil_append,qlh]
theorem qvp {x:Pg}:∀ {w:List Pg},(∀ y,y∈w→y.l<x.l)→qfj w x=w++[x]
 | [],_=>rfl
 | y :: w,h=>by
  unfold qfj
  rw [if_pos (h y (List.mem_cons_self ..)),qvp fun z hz=>h z (List.mem_cons_of_mem _ hz)]
  rfl
theorem qxp:∀ (xs acc:List Pg),Asc (acc++xs)→xs.foldl qfj acc=acc++xs
 | [],acc,_=>by rw [List.append_nil];rfl
 | x :: xs,acc,h=>by
  have e:qfj acc x=acc++[x]:=qvp fun y hy=>(List.pairwise_append.1 h).2.2 y hy x (List.mem_cons_self ..)
  rw [List.foldl_cons,e,qxp xs _ (by rw [List.append_assoc];exact h),List.append_assoc]
  rfl
theorem zbi {w:List Pg} {x:Pg} (h:Asc w):qcx w [x]=qfj w x:=by
 unfold qcx
 rw [List.foldl_append,qxp w [] h]
 rfl
theorem qxc {a x:Pg} (e:a.l=x.l):∀ {w:List Pg},(∀ y,y∈w→y.l<x.l)→qfj (w++[a]) x=w++[x]
 | [],_=>by
  show qfj [a] x=[x]
  unfold qfj
  rw [if_neg (by omega),if_pos e]
 | y :: w,h=>by
  rw [List.cons_append]
  unfold qfj
  rw [if_pos (h y (List.mem_cons_self ..)),qxc e fun z hz=>h z (List.mem_cons_of_mem _ hz)]
  rfl
def setQ (p:Pg) (q:List Nat):Pg:=q.foldl (fun (p:Pg) (i:Nat)=>setU p (i:Int)) p
theorem zaa (p:Pg) (q:List Nat) (i:Nat):setQ p (q++[i])=setU (setQ p q) (i:Int):=by unfold setQ;rw [List.foldl_append];rfl
theorem qlb:∀ (q:List Nat) (p:Pg),(setQ p q).l=p.l
 | [],_=>rfl
 | i :: q,p=>qlb q (setU p (i:Int))
def wwP (ks:List Pg) (ps:Pk):List Pg:=(ps.filter fun x=>!x.2.isEmpty).map fun x=>setQ (qb6 ks (qas x.1)) x.2
theorem qzk (ks:List Pg) (ps:Pk) (s:Int):wwP ks (ps++[(s,[])])=wwP ks ps:=by unfold wwP;simp
theorem quv (ks:List Pg) (ps:Pk) (s:Int) {q:List Nat} (h:q≠[]):wwP ks (ps++[(s,q)])=wwP ks ps++[setQ (qb6 ks (qas s)) q]:=by
 unfold wwP
 rw [List.filter_append,List.map_append,List.filter_cons,if_pos (by cases q with|nil=>exact absurd rfl h|cons a q=>rfl)]
 rfl
structure OkP (ks:List Pg) (lines:Int) (ps:Pk):Prop where
 asc:(ps.map Prod.fst).Pairwise (· < ·)
 rng:∀ x,x∈ps→(0≤x.1∧x.1<(qa7 lines:Nat))∧qe5 ks (qas x.1)=true∧∀ j,j∈x.2→1≤j∧j≤15
theorem qn8 {s:Int} (h:0≤s∧s≤8):qas s=104+16*s:=by unfold qas;rw [if_pos h]
theorem ww_lines {ks:List Pg} {lines:Int} {ps:Pk} (h:OkP ks lines ps) {y:Pg} (hy:y∈wwP ks ps):∃ s,s∈ps.map Prod.fst∧y.l=qas s:=by
 unfold wwP at hy
 obtain ⟨x,hx,rfl⟩:=List.mem_map.1 hy
 have hx':=(List.mem_filter.1 hx).1
 exact ⟨x.1,List.mem_map.2 ⟨x,hx',rfl⟩,by rw [qlb,qf4 (h.rng x hx').2.1]⟩
theorem ww_asc {ks:List Pg} {lines:Int} {ps:Pk} (h:OkP ks lines ps):Asc (wwP ks ps):=by
 unfold wwP
 refine List.pairwise_map.2 (List.Pairwise.filter _ ?_)
 have h1:=List.pairwise_map.1 h.asc
 refine (List.Pairwise.and_mem.1 h1).imp fun {a b} hab=>?_
 obtain ⟨ha,hb,hlt⟩:=hab
 have g1:=h.rng a ha
 have g2:=h.rng b hb
 have hn:=qe9 lines
 rw [qlb,qlb,qf4 g1.2.1,qf4 g2.2.1,qn8 (by omega),qn8 (by omega)]
 omega
theorem loc_at {lines s:Int} {i:Nat} (hs:0≤s∧s<(qa7 lines:Nat)) (hi:1≤i∧i≤15):qg9 lines (qas s+(i:Int))=(s,(i:Int),true):=by
 have hn:=qe9 lines
 have hc:qfu lines=((qa7 lines:Nat):Int):=by unfold qa7;have:=qh5 lines;omega
 rw [qn8 (by omega)]
 unfold qg9
 rw [if_pos ⟨by omega,by omega,by omega⟩]
 exact Prod.ext (by show (104+16*s+(i:Int)-104) / 16=s;omega) (Prod.ext (by show (104+16*s+(i:Int)-104) % 16=(i:Int);omega) rfl)
theorem wr_step {ks:List Pg} {lines s:Int} {ps:Pk} {q:List Nat} {i:Nat} (h:OkP ks lines (ps++[(s,q++[i])])):wrS ks lines (wwP ks (ps++[(s,q)])) (qas s+(i:Int))=wwP ks (ps++[(s,q++[i])]):=by
 have hm:(s,q++[i])∈ps++[(s,q++[i])]:=List.mem_append.2 (.inr (List.mem_singleton.2 rfl))
 obtain ⟨hs,hb,hj⟩:=h.rng _ hm
 have hi:=hj i (List.mem_append.2 (.inr (List.mem_singleton.2 rfl)))
 have hn:=qe9 lines
 dsimp only at hs hb
 have h0:OkP ks lines (ps++[(s,q)]):=⟨by simpa using h.asc,fun x hx=>by
  rcases List.mem_append.1 hx with e|e
  ·exact h.rng x (List.mem_append.2 (.inl e))
  ·rw [List.mem_singleton.1 e];exact ⟨hs,hb,fun j hj'=>hj j (List.mem_append.2 (.inl hj'))⟩⟩
 have h1:OkP ks lines ps:=⟨by have:=h.asc;rw [List.map_append] at this;exact (List.pairwise_append.1 this).1,fun x hx=>h.rng x (List.mem_append.2 (.inl hx))⟩
 have hlt:∀ y,y∈wwP ks ps→y.l<qas s:=fun y hy=>by
  obtain ⟨t,ht,e⟩:=ww_lines h1 hy
  have h2:=h.asc
  rw [List.map_append] at h2
  have h3:=(List.pairwise_append.1 h2).2.2 t ht s (List.mem_singleton.2 rfl)
  obtain ⟨x,hx,rfl⟩:=List.mem_map.1 ht
  have h4:=(h1.rng x hx).1
  rw [e,qn8 (by omega),qn8 (by omega)]
  omega
 unfold wrS
 rw [loc_at hs hi]
 dsimp only
 have hp:qb6 (qcx ks (wwP ks (ps++[(s,q)]))) (qas s)=setQ (qb6 ks (qas s)) q:=by
  unfold qb6
  rw [qyu]
  by_cases hq:q=[]
  ·subst hq
   rw [qzk,qvn fun y hy=>by have:=hlt y hy;omega]
   rfl
  ·rw [quv ks ps s hq,qlh,qri,if_pos (by rw [qlb];exact qf4 hb)]
   rfl
 rw [hp,← zaa,quv ks ps s (q:=q++[i]) (by simp),zbi (ww_asc h0)]
 by_cases hq:q=[]
 ·subst hq
  rw [qzk]
  exact qvp fun y hy=>by rw [qlb,qf4 hb];exact hlt y hy
 ·rw [quv ks ps s hq]
  exact qxc (by rw [qlb,qlb]) fun y hy=>by rw [qlb,qf4 hb];exact hlt y hy
theorem wr_seg {ks:List Pg} {lines s:Int} {ps:Pk}:∀ (r q:List Nat),OkP ks lines (ps++[(s,q++r)])→(r.map fun i:Nat=>qas s+(i:Int)).foldl (wrS ks lines) (wwP ks (ps++[(s,q)]))=wwP ks (ps++[(s,q++r)])
 | [],q,_=>by rw [List.append_nil];rfl
 | i :: r,q,h=>by
  have e:q++i :: r=(q++[i])++r:=by simp
  rw [e] at h ⊢
  have h1:OkP ks lines (ps++[(s,q++[i])]):=⟨by simpa using h.asc,fun x hx=>by
   rcases List.mem_append.1 hx with e|e
   ·exact h.rng x (List.mem_append.2 (.inl e))
   ·rw [List.mem_singleton.1 e]
    have:=h.rng _ (List.mem_append.2 (.inr (List.mem_singleton.2 rfl)))
    exact ⟨this.1,this.2.1,fun j hj=>this.2.2 j (List.mem_append.2 (.inl hj))⟩⟩
  rw [List.map_cons,List.foldl_cons,wr_step h1]
  exact wr_seg r (q++[i]) h
theorem wr_all {ks:List Pg} {lines:Int}:∀ (rs ps:Pk),OkP ks lines (ps++rs)→(qpw rs).foldl (wrS ks lines) (wwP ks ps)=wwP ks (ps++rs)
 | [],ps,_=>by rw [List.append_nil];rfl
 | (s,q) :: rs,ps,h=>by
  have e:ps++(s,q) :: rs=(ps++[(s,q)])++rs:=by simp
  rw [e] at h ⊢
  have h1:OkP ks lines (ps++[(s,[]++q)]):=⟨by have:=h.asc;rw [List.map_append] at this;exact (List.pairwise_append.1 this).1,fun x hx=>h.rng x (List.mem_append.2 (.inl hx))⟩
  have e2:qpw ((s,q) :: rs)=(q.map fun i:Nat=>qas s+(i:Int))++qpw rs:=by unfold qpw;simp
  have h3:=wr_seg q [] h1
  rw [qzk,List.nil_append] at h3
  rw [e2,List.foldl_append,h3]
  exact wr_all rs (ps++[(s,q)]) h
theorem lpA_eq {ks:List Pg} {lines:Int}:∀ (ls:List Int) (fr w:List Pg),lpA ks lines ls fr w={ S19.nil with fresh:=fr++ls.map (qb6 ks),writes:=ls.foldl (wrS ks lines) w,over:=true }
 | [],fr,w=>by rw [List.map_nil,List.append_nil];rfl
 | l :: r,fr,w=>by
  show lpA ks lines r (fr++[qb6 ks l]) (wrS ks lines w l)=_
  rw [lpA_eq r]
  simp
theorem one64 (j i:Nat) (hj:j<64):(BitVec.ofInt 64 1<<<j).getLsbD i=decide (i=j):=by
 rw [show BitVec.ofInt 64 1=1#64 from rfl,BitVec.getLsbD_shiftLeft]
 by_cases h:i=j
 ·subst h;simp [hj]
 ·simp only [h,decide_false]
  by_cases h1:i<j
  ·simp [h1]
  ·have:i-j≠0:=by omega
   rw [BitVec.getLsbD_one]
   simp [this]
theorem or_w (u:BitVec 32) {j:Nat} (hj:j<32):(u|||BitVec.ofInt 32 1<<<j).setWidth 64=u.setWidth 64|||BitVec.ofInt 64 1<<<j:=by
 apply BitVec.eq_of_getLsbD_eq
 intro i hi
 rw [BitVec.getLsbD_setWidth,BitVec.getLsbD_or,BitVec.getLsbD_or,BitVec.getLsbD_setWidth,qvg j i hj,one64 j i (by omega)]
 simp [hi]
theorem orb_w:∀ (q:List Nat) (u:BitVec 32),(∀ j,j∈q→j<32)→(orb u q).setWidth 64=q.foldl (fun d i=>d|||BitVec.ofInt 64 1<<<i) (u.setWidth 64)
 | [],_,_=>rfl
 | i :: q,u,h=>by
  show (orb (u|||BitVec.ofInt 32 1<<<i) q).setWidth 64=_
  rw [orb_w q _ fun j hj=>h j (List.mem_cons_of_mem _ hj),or_w u (h i (List.mem_cons_self ..))]
  rfl
theorem zab:∀ (q:List Nat) (p:Pg),setQ p q={ p with d1:=q.foldl (fun d i=>d|||BitVec.ofInt 64 1<<<i) p.d1 }
 | [],_=>rfl
 | i :: q,p=>by
  show setQ (setU p (i:Int)) q=_
  rw [zab q]
  rfl
theorem qx6 {u:BitVec 32} {q:List Nat} (h:qpg u) (hq:∀ j,j∈q→1≤j∧j≤15):qpg (orb u q):=fun i hi=>by
 rw [qvy i q u fun j hj=>by have:=hq j hj;omega] at hi
 rcases Bool.or_eq_true_iff.1 hi with e|e
 ·exact h i e
 ·exact hq i (of_decide_eq_true e)
theorem write_orb {p:Pg} {q:List Nat} (h:(qcj p).2=0) (hq:∀ j,j∈q→1≤j∧j≤15):(qfk p ⟨(qcj p).1.owner,orb (qcj p).1.used q⟩).1=setQ p q:=by
 obtain ⟨h1,h2,_,_,_,_,_,_,h3⟩:=qu5 h
 obtain ⟨g1,g2⟩:=qzo h
 have hu:qpg (qcj p).1.used:=(ql2 _).2 g1
 have hn:=qbj p.d0
 have ho:(qcj p).1.owner=UV p.d0-1:=by rw [h3]
 rw [qnn h (by omega) ((ql2 _).1 (qx6 hu hq)),orb_w q _ fun j hj=>by have:=hq j hj;omega,g2,zab,ho]
 dsimp only
 rw [show UV p.d0-1+1=UV p.d0 by omega,show BitVec.ofInt 64 (UV p.d0)=p.d0 by unfold UV;simp]
theorem ownV_asc (bm:BitVec 32):∀ n:Nat,(qf8 bm n).Pairwise (· < ·)
 | 0=>List.Pairwise.nil
 | n+1=>by
  unfold qf8
  split
  ·refine List.pairwise_append.2 ⟨ownV_asc bm n,List.pairwise_singleton _ _,fun a ha b hb=>?_⟩
   have:=qnz ha
   have:=List.mem_singleton.1 hb
   omega
  ·exact ownV_asc bm n
theorem inn_rng {ks:List Pg} {s:Int} {cnt:Nat}:∀ (f i ch:Nat) (u:BitVec 32) (q q':List Nat),i+f=16→1≤i→(∀ j,j∈q→1≤j∧j≤15)→inn ks s cnt f i ch u q = .ok q'→∀ j,j∈q'→1≤j∧j≤15
 | 0,i,ch,u,q,q',_,_,hq,h=>by
  have e:q=q':=Except.ok.inj h
  subst e;exact hq
 | f+1,i,ch,u,q,q',hf,hi,hq,h=>by
  unfold inn at h
  split at h
  ·split at h
   ·exact inn_rng f (i+1) ch u q q' (by omega) (by omega) hq h
   ·split at h
    ·exact inn_rng f (i+1) ch u q q' (by omega) (by omega) hq h
    ·split at h
     ·exact inn_rng f (i+1) (ch+1) _ (q++[i]) q' (by omega) (by omega) (fun j hj=>by
       rcases List.mem_append.1 hj with e|e
       ·exact hq j e
       ·rw [List.mem_singleton.1 e];omega) h
     ·cases h
  ·have e:q=q':=Except.ok.inj h
   subst e;exact hq
theorem outS_rng {ks:List Pg} {cnt:Nat}:∀ (ss:List Int) (ch:Nat) (ps ps':Pk),(∀ x,x∈ps→∀ j,j∈x.2→1≤j∧j≤15)→outS ks cnt ss ch ps = .ok ps'→ps'.map Prod.fst=ps.map Prod.fst++ss∧∀ x,x∈ps'→∀ j,j∈x.2→1≤j∧j≤15
 | [],ch,ps,ps',hq,h=>by
  have e:ps=ps':=Except.ok.inj h
  subst e;exact ⟨by simp,hq⟩
 | s :: ss,ch,ps,ps',hq,h=>by
  unfold outS at h
  split at h
  ·cases h
  ·rename_i q hin
   obtain ⟨h1,h2⟩:=outS_rng ss (ch+q.length) (ps++[(s,q)]) ps' (fun x hx=>by
    rcases List.mem_append.1 hx with e|e
    ·exact hq x e
    ·rw [List.mem_singleton.1 e];exact inn_rng 15 1 ch _ [] q rfl (by omega) (fun j hj=>by cases hj) hin) h
   exact ⟨by rw [h1];simp,h2⟩
theorem src_ok {ks:List Pg} {cnt:Nat} {S:List Int} (h:S.Pairwise (· < ·)):(srcV ks cnt S).Pairwise (· < ·)∧∀ s,s∈srcV ks cnt S→s∈S:=by
 unfold srcV
 split
 ·rename_i s hs
  exact ⟨List.pairwise_singleton _ _,fun x hx=>by rw [List.mem_singleton.1 hx];exact List.mem_of_find?_eq_some hs⟩
 ·exact ⟨h,fun _ hx=>hx⟩
@[reducible] def ofS (x:S19):Alo:=(x.need,x.fresh,x.writes,x.code,x.over)
theorem alo_alp {ks:List Pg} {o lines:Int} {cnt:Nat} {sg:BitVec 32} (hall:∀ s,s∈qf8 sg (qa7 lines)→qe5 ks (qas s)=true) :
  aloH ks o cnt (qf8 sg (qa7 lines)) (qf8 sg (qa7 lines))=ofS (alpG ks lines (cnt:Int) (qf8 sg (qa7 lines)) (((qf8 sg (qa7 lines)).map qas).findSome? (hE1 ks o))):=by
 have hn:=qe9 lines
 have hlt:∀ s,s∈qf8 sg (qa7 lines)→0≤s∧s<(qa7 lines:Nat):=fun s hs=>qnz hs
 have hasc:=ownV_asc sg (qa7 lines)
 obtain ⟨S,hS⟩:∃ S,qf8 sg (qa7 lines)=S:=⟨_,rfl⟩
 rw [hS] at hall hlt hasc ⊢
 clear hS
 have h8:∀ s,s∈S→(0≤s∧s≤8)∧qe5 ks (qas s)=true:=fun s hs=>⟨by have:=hlt s hs;omega,hall s hs⟩
 unfold aloH
 rw [← hdE_eq h8]
 cases hd:hdE ks o S with
 | some e=>rfl
 | none =>
  have hok:=hdE_none hd
  have hgd:∀ s,s∈S→(qcj (qb6 ks (qas s))).2=0∧qeg ks s=(qb6 ks (qas s),(qcj (qb6 ks (qas s))).1,true,0):=fun s hs=>(qtr (hall s hs) (by rw [(hok s hs).1];rfl)).2
  have htold:∀ s,s∈S→Told ks s:=fun s hs=>by
   obtain ⟨g1,g2⟩:=hgd s hs
   have e:qp2 ks s=(qcj (qb6 ks (qas s))).1:=by unfold qp2;rw [g2]
   refine ⟨?_,?_⟩
   ·unfold qo8 qml
    rw [free16,e]
   ·rw [e];exact (ql2 _).2 (qzo g1).1
  obtain ⟨hsa,hsm⟩:=src_ok (ks:=ks) (cnt:=cnt) hasc
  show excA ks cnt (outS ks cnt (srcV ks cnt S) 0 [])=ofS (alpF ks lines (cnt:Int) (chR ks (cnt:Int) (qzf ks (cnt:Int) S) (stP ks [])))
  rw [src_eq htold,chR_out _ [] fun s hs=>htold s (hsm s hs)]
  show excA ks cnt (outS ks cnt (srcV ks cnt S) 0 [])=ofS (alpF ks lines (cnt:Int) (match outS ks cnt (srcV ks cnt S) 0 [] with|.error e=>.error e|.ok ps'=>.ok (stP ks ps')))
  cases hout:outS ks cnt (srcV ks cnt S) 0 [] with
  | error e=>rfl
  | ok ps =>
   obtain ⟨hk,hr⟩:=outS_rng _ _ _ _ (fun x hx=>by cases hx) hout
   dsimp only
   show finA ks cnt ps=ofS (if decide (((qpw ps).length:Int)<(cnt:Int))=true then qgs 12 else if decide (((qi6 ks ps).length:Int)>0)=true then qre (qi6 ks ps) else lpA ks lines (qpw ps) [] [])
   unfold finA
   rw [qvm]
   by_cases h1:quy ps<cnt
   ·rw [if_pos h1,if_pos (show decide ((quy ps:Int)<(cnt:Int))=true from decide_eq_true (by omega))]
    rfl
   ·rw [if_neg h1,if_neg (show ¬ decide ((quy ps:Int)<(cnt:Int))=true by simpa using h1)]
    by_cases h2:0<(qi6 ks ps).length
    ·rw [if_pos h2,if_pos (show decide (((qi6 ks ps).length:Int)>0)=true from decide_eq_true (by omega))]
     rfl
    ·rw [if_neg h2,if_neg (show ¬ decide (((qi6 ks ps).length:Int)>0)=true by simpa using h2),lpA_eq]
     have hnil:qi6 ks ps=[]:=List.eq_nil_of_length_eq_zero (by omega)
     have hkn:∀ l,l∈qpw ps→qe5 ks l=true:=fun l hl=>by
      unfold qi6 at hnil
      have:=(List.filter_eq_nil_iff.1 hnil) l hl
      simpa using this
     have hmem:∀ x,x∈ps→x.1∈S:=fun x hx=>hsm _ (by have:x.1∈ps.map Prod.fst:=List.mem_map.2 ⟨x,hx,rfl⟩;rw [hk] at this;simpa using this)
     have hP:OkP ks lines ([]++ps):=⟨by rw [List.nil_append,hk];simpa using hsa,fun x hx=>⟨hlt _ (hmem x hx),hall _ (hmem x hx),hr x hx⟩⟩
     have hw:=wr_all ps [] hP
     rw [List.nil_append] at hw
     show ([],qzg ks ps,wriP ks ps,(0:Int),true)=([],[]++(qpw ps).map (qb6 ks),(qpw ps).foldl (wrS ks lines) (wwP ks []),(0:Int),true)
     rw [hw]
     have e1:qzg ks ps=(qpw ps).map (qb6 ks):=by unfold qzg;rw [List.filter_eq_self.2 hkn]
     have e2:wriP ks ps=wwP ks ps:=by
      unfold wriP wwP
      apply List.map_congr_left
      intro x hx
      have hx':=(List.mem_filter.1 hx).1
      obtain ⟨g1,g2⟩:=hgd _ (hmem x hx')
      have e:qp2 ks x.1=(qcj (qb6 ks (qas x.1))).1:=by unfold qp2;rw [g2]
      unfold qrd
      rw [e,g2]
      exact write_orb g1 (hr x hx')
     rw [e1,e2,List.nil_append]
theorem missR_cons {ks:List Pg} {ls:List Int} (h:qdh ks ls≠[]):qdu ks ls≠[]:=fun e=>by
 obtain ⟨x,l,hx⟩:=List.exists_cons_of_ne_nil h
 have h1:x∈qmc [] (qdh ks ls):=qn6.2 (.inr (by rw [hx];exact List.mem_cons_self ..))
 have e':qmc [] (qdh ks ls)=[]:=e
 rw [e'] at h1
 cases h1
theorem missingN_ok (ks:List Pg) (ls:List Int) (hl:ls.length≤1000000):FnP Tryz.prog 33 [qal tPg ks,qal tI64 ls] (IsNS (qdu ks ls)):=by
 by_cases h:qdh ks ls=[]
 ·rw [zbr (show qdu ks ls=[] by unfold qdu;rw [h];rfl)]
  exact missNil_ok ks ls h
 ·rw [qtn (missR_cons h)]
  exact qkn ks ls hl
theorem al0 (o lines cnt:Int):(((!clB o lines)||decide (cnt<1))||decide (cnt>12))=((((!qkt o)||(!qqp lines))||decide (cnt<1))||decide (cnt>12)):=by
 unfold clB qkt qqp
 cases decide (o≥0) <;> cases decide (o<6) <;> cases decide (lines≥104) <;> cases decide (lines≤256) <;> cases decide (cnt<1) <;> rfl
theorem AllocateP_ok (ks:List Pg) (o lines cnt:Int) :
  FnP Tryz.prog 24 [IsAgg [Is (.int .i64 o),Is (.int .i64 lines),Is (.int .i64 cnt)],qal tPg ks] (qbv [qal tI64 (alpR ks o lines cnt).need,qal tPg (alpR ks o lines cnt).fresh,qal tPg (alpR ks o lines cnt).writes,Is (.int .i64 (alpR ks o lines cnt).code),Is (.bool (alpR ks o lines cnt).over)]):=by
 have hcn:=qe9 lines
 obtain ⟨R,hE⟩:∃ R,ofS (alpR ks o lines cnt)=R:=⟨_,rfl⟩
 rw [show (alpR ks o lines cnt).need=R.1 by rw [← hE],show (alpR ks o lines cnt).fresh=R.2.1 by rw [← hE],show (alpR ks o lines cnt).writes=R.2.2.1 by rw [← hE],show (alpR ks o lines cnt).code=R.2.2.2.1 by rw [← hE],show (alpR ks o lines cnt).over=R.2.2.2.2 by rw [← hE]]
 unfold alpR at hE
 rw [al0] at hE
 refine FnP.enter func24 ntmps24 rfl rfl ?_
 intro c hX
 refine t3 ?_
 intro i2
 refine t9 ?_
 refine qd2 hX (b:=i2) qae ?_
 refine qb0 2 (qdo [Is (.int .i64 o),Is (.int .i64 lines),Is (.int .i64 cnt)]) rfl (SubL.fact qbp) ?_
 refine t3 ?_
 refine kS call31 (qko _) ?_
 refine t4 ?_
 (first|refine qcq rfl rfl rfl (fun hg=>(by have hg0:=hg;(try simp at hg);exact qac call32 (qlj _) ⟨evS,trivial⟩)) ?_|refine JL_i rfl rfl rfl (fun hp hg=>(by have hpg:=Bool.and_eq_true_iff.2 ⟨hp,hg⟩;have hg0:=hg;(try simp at hg);exact qac call32 (qlj _) ⟨evS,trivial⟩)) ?_)
 refine t14 ?_
 refine cN ?_ ?_ <;> intro h1
 ·rw [ifT h1] at hE
  subst hE
  refine t11 ?_
  exact qaq (Bs:=[qal tI64 [],qal tPg [],qal tPg [],Is (.int .i64 1),Is (.bool true)]) results24 eT () SubL.rfl' (List.nil_sublist _)
 rw [ifF h1] at hE
 have hcl:(0≤o∧o<6)∧(104≤lines∧lines≤256)∧(1≤cnt∧cnt≤12):=by unfold qkt qqp at h1;simp at h1;omega
 obtain ⟨ho,hli,hcnt0⟩:=hcl
 obtain ⟨cl,rfl⟩:∃ n:Nat,o=(n:Int):=⟨o.toNat,by omega⟩
 obtain ⟨cnt,rfl⟩:∃ n:Nat,cnt=(n:Int):=⟨cnt.toNat,by omega⟩
 have hc:cl<6:=by omega
 have hcnt:1≤cnt∧cnt≤12:=by omega
 clear h1
 refine t7 ?_
 refine qap rfl (by first|((refine qac call34 (qrb _ _ ?_) ⟨evS,⟨evS,trivial⟩⟩);all_goals (first|omega))) ?_
 refine t6 ?_
 intro i9
 refine s1 ?_
 intro i10
 refine t8 ?_
 have hno:=fun hb=>qra (ks:=ks) (o:=(cl:Int)) hb ho
 have hn3:(qgq ks (cl:Int)).2.2.1=qe5 ks (98+(cl:Int)):=by
  unfold qgq
  cases qe5 ks (98+(cl:Int)) with
  | false=>rfl
  | true=>rw [if_pos rfl];split <;> rfl
 obtain ⟨nv,hnv⟩:∃ q,qgq ks (cl:Int)=q:=⟨_,rfl⟩
 rw [hnv] at hno hn3 ⊢
 obtain ⟨q1,q2,q3,q4⟩:=nv
 dsimp only at hno hn3 ⊢
 subst hn3
 clear hnv
 refine t5 ?_
 refine cN ?_ ?_ <;> intro h4
 ·have hb:qe5 ks (98+(cl:Int))=false:=by simpa using h4
  rw [miss_one hb,ifT (show decide ((([98+(cl:Int)]:List Int).length:Int)>0)=true from rfl)] at hE
  subst hE
  refine t5 ?_
  refine qap rfl (qcb (size:=1) (qs:=[(0,_)]) rfl rfl rfl ⟨⟨rfl,_,(er rfl),qbn⟩,trivial⟩ rf rf) ?_
  refine t9 ?_
  exact qaq (Bs:=[qal tI64 [98+(cl:Int)],qal tPg [],qal tPg [],Is (.int .i64 0),Is (.bool false)]) results24 eT () SubL.rfl' (List.nil_sublist _)
 have hb:qe5 ks (98+(cl:Int))=true:=by simpa using h4
 rw [zbg hb,ifF (show decide ((([]:List Int).length:Int)>0)=false from rfl)] at hE
 have hno:=hno hb
 generalize qfs ks (cl:Int)=nr at hE hno
 obtain ⟨rfl,hno2⟩:=hno
 clear h4 hb
 refine t9 ?_
 refine cN ?_ ?_ <;> intro h6
 ·rw [ifT h6] at hE
  subst hE
  refine t12 ?_
  exact qaq (Bs:=[qal tI64 [],qal tPg [],qal tPg [],Is (.int .i64 nr.2.2),Is (.bool true)]) results24 eT () SubL.rfl' (List.nil_sublist _)
 rw [ifF h6] at hE
 have hn0:nr.2.2=0:=by simpa using h6
 obtain ⟨he,_,_,_⟩:=hno2 hn0
 simp only [Prod.mk.injEq] at he
 obtain ⟨rfl,rfl,_,_⟩:=he
 have hown:=qq1 nr.2.1.sg (qa7 lines) hcn
 have hSl:=qju nr.2.1.sg (qa7 lines)
 have hSn:=qpp nr.2.1.sg (qa7 lines)
 have hML:((qf8 nr.2.1.sg (qa7 lines)).map qas).length≤1000000:=by rw [List.length_map];omega
 have halp:=fun hall=>alo_alp (ks:=ks) (o:=(cl:Int)) (lines:=lines) (cnt:=cnt) (sg:=nr.2.1.sg) hall
 obtain ⟨S,hS⟩:∃ S,qf8 nr.2.1.sg (qa7 lines)=S:=⟨_,rfl⟩
 rw [hS] at hown hSl hSn hML hE halp
 clear h6 hno2 hS
 refine t3 ?_
 refine qa0 rfl (by kernel_rfl) ?_
 refine qag 7 (by kernel_rfl) ?_
 refine t4 ?_
 refine qbc (qac call35 (qox _) ⟨evS,trivial⟩) ?_
 refine qbc (qac call37 (hown) ⟨evS,⟨evS,trivial⟩⟩) ?_
 refine s1 ?_
 refine ⟨rfl,?_⟩
 refine qat ?_
 refine t6 ?_
 refine qap rfl (by first|((refine qac call36 (qkd _ ?_) ⟨evS,trivial⟩);all_goals (first|omega))) ?_
 refine qap rfl (by first|((refine qac call33 (missingN_ok _ _ ?_) ⟨evS,⟨evS,trivial⟩⟩);all_goals (first|assumption))) ?_
 refine t6 ?_
 refine qge 88 (qal tI64 (qdu ks (S.map qas))) rfl (subNS _) ?_
 refine t4 ?_
 refine cN ?_ ?_ <;> intro h10
 ·rw [ifT h10] at hE
  subst hE
  refine qb0 4 (qal tI64 (qdu ks (S.map qas))) rfl (subNS _) ?_
  refine t12 ?_
  exact qaq (Bs:=[qal tI64 (qdu ks (S.map qas)),qal tPg [],qal tPg [],Is (.int .i64 0),Is (.bool false)]) results24 eT () SubL.rfl' (List.nil_sublist _)
 rw [ifF h10] at hE
 have hm0:qdu ks (S.map qas)=[]:=List.eq_nil_of_length_eq_zero (by have:=of_decide_eq_false h10;omega)
 have hall:∀ s,s∈S→qe5 ks (qas s)=true:=fun s hs=>qnf (of_decide_eq_false h10) (List.mem_map.2 ⟨s,hs,rfl⟩)
 rw [← halp hall] at hE
 have hR:=hE
 clear hE halp h10
 obtain ⟨Q,hQ⟩:∃ Q,srcV ks cnt S=Q:=⟨_,rfl⟩
 have hQs:=src_sub (ks:=ks) (cnt:=cnt) hSn
 rw [hQ] at hQs
 refine qb0 4 (Is (.slice none 0 0)) rfl (SubL.eq (zbr hm0)) ?_
 refine t4 ?_
 (refine qzh rfl (op_makeMap qdw) ?_;intro i92)
 (refine qzh rfl (op_makeMap qut) ?_;intro i93)
 refine t13 ?_
 refine qbr (fun k:Nat=>k≤S.length∧aloH ks cl cnt S (S.drop k)=R) (fun k=>[(1,qal tPg ks),(2,qdo [Is (.int .i64 (cl:Nat)),Is (.int .i64 lines),Is (.int .i64 (cnt:Nat))]),(4,Is (.slice none 0 0)),(5,Is (.slice none 0 0)),(6,Is (.slice none 0 0)),(12,qal tI64 S),(13,Is (.map (some i92))),(14,Is (.map (some i93))),(94,qal tI64 S),(95,Is (.int .i64 (S.length:Nat))),(96,Is (.int .i64 (k:Nat)))]) (fun k=>[mp i92 qdw ((S.take k).map fun s=>(s,(qeg ks s).1)),mp i93 qut ((S.take k).map fun s=>(s,qp2 ks s))]) (fun k=>S.length-k) 0 ⟨Nat.zero_le _,hR⟩ qbl qab ?_
 rintro k ⟨hk,hs⟩
 refine t6 ?_
 refine cN ?_ ?_ <;> intro h14
 ·have hlt:k<S.length:=by have:=of_decide_eq_true h14;omega
  clear h14
  obtain ⟨s,hz⟩:∃ z,S[k]?=some z:=⟨S[k],List.getElem?_eq_getElem hlt⟩
  have hp1:=mput_map (f:=fun s=>(qeg ks s).1) hz hSn
  have hp2:=mput_map (f:=fun s=>qp2 ks s) hz hSn
  rw [qjc hz] at hs
  refine t6 ?_
  refine qap rfl (by first|exact qau (j:=_) (er rfl) (er rfl) rfl rfl (by first|rfl|omega) hz|exact qau (j:=_) (er rfl) (er rfl) rfl rfl (by first|rfl|omega) (by assumption)) ?_
  refine t8 ?_
  refine kS call39 (qll _ _) ?_
  refine t6 ?_
  intro i17
  refine s1 ?_
  intro i18
  refine t15 ?_
  refine cN ?_ ?_ <;> intro h17
  ·have g:(qeg ks s).2.2.2≠0:=by simpa using h17
   have e:R=errA (qeg ks s).2.2.2:=by rw [← hs];unfold aloH hdE;rw [if_pos g]
   subst e
   refine t18 ?_
   exact qaq (Bs:=[qal tI64 [],qal tPg [],qal tPg [],Is (.int .i64 (qeg ks s).2.2.2),Is (.bool true)]) results24 eT () SubL.rfl' (List.nil_sublist _)
  have g:¬ (qeg ks s).2.2.2≠0:=by simpa using h17
  clear h17
  refine t10 ?_
  refine cN ?_ ?_ <;> intro h19
  ·have g2:(qp2 ks s).owner≠(cl:Int):=by unfold qp2;simpa using h19
   have e:R=errA 11:=by rw [← hs];unfold aloH hdE;rw [if_neg g,if_pos g2]
   subst e
   refine t17 ?_
   exact qaq (Bs:=[qal tI64 [],qal tPg [],qal tPg [],Is (.int .i64 11),Is (.bool true)]) results24 eT () SubL.rfl' (List.nil_sublist _)
  have g2:¬ (qp2 ks s).owner≠(cl:Int):=by unfold qp2;simpa using h19
  clear h19
  have hs':aloH ks cl cnt S (S.drop (k+1))=R:=by
   rw [← hs]
   conv=>rhs;unfold aloH hdE
   rw [if_neg g,if_neg g2]
   rfl
  refine t3 ?_
  refine qa0 rfl (by kernel_rfl) ?_
  refine qdf (it:=mp i93 qut _) (by repeat (first|exact Drop1.here _ _|apply Drop1.next)) ?_
  refine qdf (it:=mp i92 qdw _) (by repeat (first|exact Drop1.here _ _|apply Drop1.next)) ?_
  refine qdj (its:=[_,_]) 8 (by kernel_rfl) ?_
  refine t4 ?_
  refine qbc (by first|exact qcm (n:=9) (er rfl) rfl rfl rfl rf qbo|exact qbs (n:=9) (er rfl) qbp rf rf rf rf qbo) ?_
  refine qbc (by first|exact qcm (n:=2) (er rfl) rfl rfl rfl rf qbo|exact qbs (n:=2) (er rfl) qbp rf rf rf rf qbo) ?_
  refine qc6 (s:=254) rfl rfl rfl (by kernel_rfl) (fun c'=>by exact op_mapPut (V:=qdw) (v:=(qeg ks s).1) (er rfl) (er rfl) evS qae rfl rfl) ?_
  refine qc6 (s:=255) rfl rfl rfl (by kernel_rfl) (fun c'=>by exact op_mapPut (V:=qut) (v:=qp2 ks s) (er rfl) (er rfl) evS qae rfl rfl) ?_
  refine ⟨rfl,?_⟩
  intro _ _
  refine qat ?_
  refine t6 ?_
  rw [hp1,hp2]
  exact qaa (k+1) ⟨by omega,hs'⟩ (by omega) qbl qab
 have hke:k=S.length:=by have:=of_decide_eq_false h14;omega
 subst hke
 clear h14
 rw [List.drop_length] at hs
 have hs2:excA ks cnt (outS ks cnt Q 0 [])=R:=by rw [← hQ];exact hs
 clear hs hR
 rw [List.take_length]
 refine t19 ?_
 refine qin (fun _:Unit=>True) (fun _=>[(1,qal tPg ks),(2,qdo [Is (.int .i64 (cl:Nat)),Is (.int .i64 lines),Is (.int .i64 (cnt:Nat))]),(4,Is (.slice none 0 0)),(5,Is (.slice none 0 0)),(6,Is (.slice none 0 0)),(13,Is (.map (some i92))),(14,Is (.map (some i93))),(21,qal tI64 Q)]) (fun _=>[mp i92 qdw (S.map fun s=>(s,(qeg ks s).1)),mp i93 qut (S.map fun s=>(s,qp2 ks s))]) ?_ ?_
 rotate_left
 focus
  refine s1 ?_
  refine qbr (fun k:Nat=>k≤S.length∧srcR ks cnt S (S.drop k)=Q) (fun k=>[(1,qal tPg ks),(2,qdo [Is (.int .i64 (cl:Nat)),Is (.int .i64 lines),Is (.int .i64 (cnt:Nat))]),(4,Is (.slice none 0 0)),(5,Is (.slice none 0 0)),(6,Is (.slice none 0 0)),(13,Is (.map (some i92))),(14,Is (.map (some i93))),(21,qal tI64 S),(126,qal tI64 S),(127,Is (.int .i64 (S.length:Nat))),(128,Is (.int .i64 (k:Nat)))]) (fun _=>[mp i92 qdw (S.map fun s=>(s,(qeg ks s).1)),mp i93 qut (S.map fun s=>(s,qp2 ks s))]) (fun k=>S.length-k) 0 ⟨Nat.zero_le _,hQ⟩ qbl qab ?_
  rintro k ⟨hk,hsr⟩
  refine t6 ?_
  refine cN ?_ ?_ <;> intro h25
  ·have hlt:k<S.length:=by have:=of_decide_eq_true h25;omega
   clear h25
   obtain ⟨s,hz⟩:∃ z,S[k]?=some z:=⟨S[k],List.getElem?_eq_getElem hlt⟩
   have hmg:=mget_map (f:=fun s=>qp2 ks s) (List.mem_of_getElem? hz)
   rw [qjc hz] at hsr
   refine t6 ?_
   refine qap rfl (by first|exact qau (j:=_) (er rfl) (er rfl) rfl rfl (by first|rfl|omega) hz|exact qau (j:=_) (er rfl) (er rfl) rfl rfl (by first|rfl|omega) (by assumption)) ?_
   refine t5 ?_
   refine qa0 rfl (by kernel_rfl) ?_
   refine qag 7 (by kernel_rfl) ?_
   refine t2 ?_
   refine qbc (op_lookupS hmg (er rfl) qbp (er rfl) rfl rfl rfl) ?_
   refine qbc (qac call59 (vacant_ok _) ⟨evS,trivial⟩) ?_
   refine t3 ?_
   refine ⟨rfl,?_⟩
   refine qat ?_
   refine s1 ?_
   refine cN ?_ ?_ <;> intro h27
   ·have e:Q=[s]:=by
     rw [← hsr];unfold srcR
     simp only [List.find?_cons,h27]
    refine t3 ?_
    refine qap rfl (qcb (size:=1) (qs:=[(0,_)]) rfl rfl rfl ⟨⟨rfl,_,(er rfl),qbn⟩,trivial⟩ rf rf) ?_
    refine t8 ?_
    subst e
    exact qak () trivial qbl qab
   have e:srcR ks cnt S (S.drop (k+1))=Q:=by
    rw [← hsr];unfold srcR
    simp only [List.find?_cons,h27]
   clear h27
   refine t7 ?_
   exact qaa (k+1) ⟨by omega,e⟩ (by omega) qbl qab
  have hke:k=S.length:=by have:=of_decide_eq_false h25;omega
  subst hke
  rw [List.drop_length] at hsr
  have e:Q=S:=hsr.symm
  refine t4 ?_
  subst e
  exact qak () trivial qbl qab
 rintro _ _
 have hQl:=src_len (ks:=ks) (cnt:=cnt) (S:=S) (by omega)
 rw [hQ] at hQl
 refine t2 ?_
 (refine qzh rfl (op_makeMap qut) ?_;intro i142)
 refine t13 ?_
 refine qcn 3 tI64 ?_
 refine qcn 53 tPg ?_
 refine qbr (fun z:(Nat×Nat×Pk)×(Option Addr×Nat)×(Option Addr×Nat)=>z.1.1≤Q.length∧excA ks cnt (outS ks cnt (Q.drop z.1.1) z.1.2.1 z.1.2.2)=R∧z.1.2.2.map Prod.fst=Q.take z.1.1∧z.1.2.1=quy z.1.2.2∧z.1.2.1≤cnt) (fun z=>[(1,qal tPg ks),(2,qdo [Is (.int .i64 (cl:Nat)),Is (.int .i64 lines),Is (.int .i64 (cnt:Nat))]),(4,Is (slV (qi6 ks z.1.2.2).length z.2.1)),(5,Is (slV (qzg ks z.1.2.2).length z.2.2)),(6,Is (.slice none 0 0)),(13,Is (.map (some i92))),(14,Is (.map (some i93))),(21,qal tI64 Q),(24,Is (.int .i64 (z.1.2.1:Nat))),(25,Is (.map (some i142))),(143,qal tI64 Q),(144,Is (.int .i64 (Q.length:Nat))),(145,Is (.int .i64 (z.1.1:Nat)))]) (fun z=>[mp i92 qdw (S.map fun s=>(s,(qeg ks s).1)),mp i93 qut (S.map fun s=>(s,qp2 ks s)),mp i142 qut (qnl ks z.1.2.2),buf (slV (qi6 ks z.1.2.2).length z.2.1) 3 tI64 (qi6 ks z.1.2.2),buf (slV (qzg ks z.1.2.2).length z.2.2) 53 tPg (qzg ks z.1.2.2)]) (fun z=>Q.length-z.1.1) ((0,0,[]),(none,0),(none,0)) ⟨Nat.zero_le _,hs2,rfl,rfl,Nat.zero_le _⟩ qbl qab ?_
 rintro ⟨⟨k,ch,ps⟩,b1,b2⟩ ⟨hk,hs,hmp,hch,hcl⟩
 dsimp only at hk hs hmp hch hcl ⊢
 refine t6 ?_
 refine cN ?_ ?_ <;> intro h32
 ·have hlt:k<Q.length:=by have:=of_decide_eq_true h32;omega
  clear h32
  obtain ⟨s,hz⟩:∃ z,Q[k]?=some z:=⟨Q[k],List.getElem?_eq_getElem hlt⟩
  have hmg:=mget_map (f:=fun s=>qp2 ks s) (hQs.2 s (List.mem_of_getElem? hz))
  have hsn:s ∉ ps.map Prod.fst:=by rw [hmp];exact qvh hz hQs.1
  have hlv:=line_rng s
  rw [qjc hz,outS_step] at hs
  rw [← need_nil ks ps s,← fre_nil ks ps s,← chg_nil ks ps s]
  refine t6 ?_
  refine qap rfl (by first|exact qau (j:=_) (er rfl) (er rfl) rfl rfl (by first|rfl|omega) hz|exact qau (j:=_) (er rfl) (er rfl) rfl rfl (by first|rfl|omega) (by assumption)) ?_
  refine t8 ?_
  refine qap rfl (op_lookupS hmg (er rfl) qbp (er rfl) rfl rfl rfl) ?_
  refine s1 ?_
  intro i28
  refine t9 ?_
  refine qbr (fun z:(Nat×Nat×List Nat)×(Option Addr×Nat)×(Option Addr×Nat)=>(1≤z.1.1∧z.1.1≤16)∧innX ks cnt s (Q.drop (k+1)) ch ps (inn ks s cnt (16-z.1.1) z.1.1 z.1.2.1 (orb (qp2 ks s).used z.1.2.2) z.1.2.2)=R∧z.1.2.1=ch+z.1.2.2.length∧z.1.2.1≤cnt) (fun z=>[(1,qal tPg ks),(2,qdo [Is (.int .i64 (cl:Nat)),Is (.int .i64 lines),Is (.int .i64 (cnt:Nat))]),(4,Is (slV (qi6 ks (ps++[(s,z.1.2.2)])).length z.2.1)),(5,Is (slV (qzg ks (ps++[(s,z.1.2.2)])).length z.2.2)),(6,Is (.slice none 0 0)),(13,Is (.map (some i92))),(14,Is (.map (some i93))),(21,qal tI64 Q),(24,Is (.int .i64 (z.1.2.1:Nat))),(25,Is (.map (some i142))),(27,Is (.int .i64 s)),(28,Is (.pointer (some ⟨i28,0,none⟩))),(29,Is (.int .i64 (z.1.1:Nat))),(143,qal tI64 Q),(144,Is (.int .i64 (Q.length:Nat))),(145,Is (.int .i64 (k:Nat)))]) (fun z=>[mp i92 qdw (S.map fun s=>(s,(qeg ks s).1)),mp i93 qut (S.map fun s=>(s,qp2 ks s)),mp i142 qut (qnl ks (ps++[(s,z.1.2.2)])),buf (slV (qi6 ks (ps++[(s,z.1.2.2)])).length z.2.1) 3 tI64 (qi6 ks (ps++[(s,z.1.2.2)])),buf (slV (qzg ks (ps++[(s,z.1.2.2)])).length z.2.2) 53 tPg (qzg ks (ps++[(s,z.1.2.2)])),blk i28 74 [Is (.int .i64 (qp2 ks s).owner),Is (.int .u32 (UV (orb (qp2 ks s).used z.1.2.2)))]]) (fun z=>16-z.1.1) ((1,ch,[]),b1,b2) ⟨⟨by dsimp only;omega,by dsimp only;omega⟩,hs,rfl,hcl⟩ qbl qab ?_
  rintro ⟨⟨i,cj,q⟩,a1,a2⟩ ⟨⟨hi1,hi2⟩,hq,hcj,hcjl⟩
  dsimp only at hi1 hi2 hq hcj hcjl ⊢
  have htot:=qv7 ps s q
  have hnl:=need_le ks (ps++[(s,q)])
  have hfl:=fre_le ks (ps++[(s,q)])
  refine t13 ?_
  refine cN ?_ ?_ <;> intro h36
  ·have hi:i<16∧cj<cnt:=by simp at h36;omega
   clear h36
   rw [inn_step hi.1 hi.2] at hq
   refine t11 ?_
   refine qap rfl (by first|exact qex (k:=i) ql1 (er rfl) (by first|omega|exact qbj _) qca|exact qs6 (er rfl) (er rfl) (by first|omega|exact qbj _) rfl) ?_
   refine t4 ?_
   refine cN ?_ ?_ <;> intro h38
   ·have g:qk2 (orb (qp2 ks s).used q) i=true:=h38
    rw [if_pos g] at hq
    clear h38
    refine t9 ?_
    exact qaa ((i+1,cj,q),a1,a2) ⟨⟨by dsimp only;omega,by dsimp only;omega⟩,hq,hcj,hcjl⟩ (by dsimp only;omega) qbl qab
   have g:¬ qk2 (orb (qp2 ks s).used q) i=true:=fun e=>Bool.noConfusion (show false=true from h38.symm.trans e)
   rw [if_neg g] at hq
   clear h38
   refine t5 ?_
   refine kS call21 (qio _) ?_
   refine t9 ?_
   refine kS call60 (LatestP_ok _ _) ?_
   refine t4 ?_
   intro i31
   refine t7 ?_
   refine qap rfl (qan (k:=0) (sz:=1) (er rfl) (er rfl) rfl rfl qca (by first|decide|omega)) ?_
   refine s1 ?_
   refine kS call61 (que _) ?_
   refine s1 ?_
   intro i33
   refine t12 ?_
   refine cN ?_ ?_ <;> intro h43
   ·have hlb:qe5 ks (qas s+(i:Int))=false:=by simpa using h43
    have hpk:pkV ks (qas s+(i:Int))=0:=by unfold pkV;rw [if_neg (by rw [hlb];simp)]
    rw [if_neg (by rw [hpk];decide),if_pos hpk] at hq
    clear h43
    have hw1:=qyp (ps:=ps) (q:=q) hlb
    have hw2:=fre_snoc0 (ps:=ps) (q:=q) hlb
    have hw3:=chg_put (ks:=ks) (q:=q) (i:=i) hsn
    refine t3 ?_
    refine qap rfl (qcb (size:=1) (qs:=[(0,_)]) rfl rfl rfl ⟨⟨rfl,_,(er rfl),qbn⟩,trivial⟩ rf rf) ?_
    (refine qe6 rfl (qb9 (er rfl) (fun _=>qae) (by first|exact er rfl|exact Ev.sub rfl (by first|exact SubL.row (xs:=[qas s+(i:Int)]) rf rf qev|exact subT)) (by exact qep rfl rfl rfl) qbt) ?_;intro i193)
    refine t17 ?_
    refine qap rfl (by first|exact qg3 (k:=i) ql1 (er rfl) (by first|omega|exact qbj _) qca|exact qpq (er rfl) (er rfl) (by first|omega|exact qbj _) rfl) ?_
    refine t5 ?_
    rw [← orb_snoc]
    refine t3 ?_
    refine qap rfl (by first|exact qcm (n:=2) (er rfl) rfl rfl rfl rf qbo|exact qbs (n:=2) (er rfl) qbp rf rf rf rf qbo) ?_
    refine qk0 (op_mapPut (V:=qut) (v:=qrd ks (s,q++[i])) (er rfl) (er rfl) evS qae rfl rfl) ?_
    refine t8 ?_
    rw [hw3,← hw1,← hw2]
    rw [← orb_snoc] at hq
    exact qaa ((i+1,cj+1,q++[i]),i193,a2) ⟨⟨by dsimp only;omega,by dsimp only;omega⟩,hq,by dsimp only;rw [List.length_append,List.length_singleton];omega,by dsimp only;omega⟩ (by dsimp only;omega) qbl qab
   have hlb:qe5 ks (qas s+(i:Int))=true:=by simpa using h43
   clear h43
   refine t2 ?_
   refine qap rfl (by first|exact qcm (n:=9) (er rfl) rfl rfl rfl rf qbo|exact qbs (n:=9) (er rfl) qbp rf rf rf rf qbo) ?_
   refine kS call62 (LockedB_ok _) ?_
   refine t3 ?_
   refine cN ?_ ?_ <;> intro h45
   ·have hpk:pkV ks (qas s+(i:Int))=3:=by unfold pkV;rw [if_pos hlb,if_pos h45]
    rw [if_neg (by rw [hpk];decide),if_neg (by rw [hpk];decide),hpk] at hq
    have e:R=errA 3:=hq.symm
    subst e
    refine t21 ?_
    exact qaq (Bs:=[qal tI64 [],qal tPg [],qal tPg [],Is (.int .i64 3),Is (.bool true)]) results24 eT () SubL.rfl' (List.nil_sublist _)
   have g2:¬ qeo (qb6 ks (qas s+(i:Int)))=true:=by rw [h45];simp
   clear h45
   refine t8 ?_
   refine cN ?_ ?_ <;> intro h47
   ·have g3:qh1 (qb6 ks (qas s+(i:Int))).d0≠0:=by simpa [ql3] using h47
    have hpk:pkV ks (qas s+(i:Int))=11:=by unfold pkV;rw [if_pos hlb,if_neg g2,if_pos g3]
    rw [if_neg (by rw [hpk];decide),if_neg (by rw [hpk];decide),hpk] at hq
    have e:R=errA 11:=hq.symm
    subst e
    refine t21 ?_
    exact qaq (Bs:=[qal tI64 [],qal tPg [],qal tPg [],Is (.int .i64 11),Is (.bool true)]) results24 eT () SubL.rfl' (List.nil_sublist _)
   have g3:¬ qh1 (qb6 ks (qas s+(i:Int))).d0≠0:=by simpa [ql3] using h47
   clear h47
   refine t8 ?_
   refine cN ?_ ?_ <;> intro h49
   ·have g4:qm3 (qb6 ks (qas s+(i:Int))).d0=16777215:=by simpa [ql3] using h49
    have hpk:pkV ks (qas s+(i:Int)) = -1:=by unfold pkV;rw [if_pos hlb,if_neg g2,if_neg g3,if_pos g4]
    rw [if_pos hpk] at hq
    clear h49
    refine t10 ?_
    exact qaa ((i+1,cj,q),a1,a2) ⟨⟨by dsimp only;omega,by dsimp only;omega⟩,hq,hcj,hcjl⟩ (by dsimp only;omega) qbl qab
   have g4:¬ qm3 (qb6 ks (qas s+(i:Int))).d0=16777215:=by simpa [ql3] using h49
   have hpk:pkV ks (qas s+(i:Int))=0:=by unfold pkV;rw [if_pos hlb,if_neg g2,if_neg g3,if_neg g4]
   rw [if_neg (by rw [hpk];decide),if_pos hpk] at hq
   clear h49
   have hw1:=qyo (ps:=ps) (q:=q) hlb
   have hw2:=fre_snoc1 (ps:=ps) (q:=q) hlb
   have hw3:=chg_put (ks:=ks) (q:=q) (i:=i) hsn
   refine t2 ?_
   refine qap rfl (by first|exact qcm (n:=9) (er rfl) rfl rfl rfl rf qbo|exact qbs (n:=9) (er rfl) qbp rf rf rf rf qbo) ?_
   refine qap rfl (qcb (size:=9) (qs:=[(0,_)]) rfl rfl rfl ⟨⟨rfl,_,(er rfl),qbn⟩,trivial⟩ rf rf) ?_
   (refine qe6 rfl (qb9 (er rfl) (fun _=>qae) (by first|exact er rfl|exact Ev.sub rfl (by first|exact SubL.row (xs:=[qb6 ks (qas s+(i:Int))]) rf rf qev|exact subT)) (by exact qep rfl rfl rfl) qbt) ?_;intro i186)
   refine t17 ?_
   refine qap rfl (by first|exact qg3 (k:=i) ql1 (er rfl) (by first|omega|exact qbj _) qca|exact qpq (er rfl) (er rfl) (by first|omega|exact qbj _) rfl) ?_
   refine t5 ?_
   rw [← orb_snoc]
   refine t3 ?_
   refine qap rfl (by first|exact qcm (n:=2) (er rfl) rfl rfl rfl rf qbo|exact qbs (n:=2) (er rfl) qbp rf rf rf rf qbo) ?_
   refine qk0 (op_mapPut (V:=qut) (v:=qrd ks (s,q++[i])) (er rfl) (er rfl) evS qae rfl rfl) ?_
   refine t8 ?_
   rw [hw3,← hw1,← hw2]
   rw [← orb_snoc] at hq
   exact qaa ((i+1,cj+1,q++[i]),a1,i186) ⟨⟨by dsimp only;omega,by dsimp only;omega⟩,hq,by dsimp only;rw [List.length_append,List.length_singleton];omega,by dsimp only;omega⟩ (by dsimp only;omega) qbl qab
  have hi:¬ (i<16∧cj<cnt):=by simp at h36;omega
  clear h36
  rw [inn_stop hi] at hq
  have hq2:excA ks cnt (outS ks cnt (Q.drop (k+1)) cj (ps++[(s,q)]))=R:=by rw [hcj];exact hq
  refine t10 ?_
  exact qaa ((k+1,cj,ps++[(s,q)]),a1,a2) ⟨by dsimp only;omega,hq2,by dsimp only;rw [List.map_append,hmp,List.take_add_one,hz];rfl,by dsimp only;omega,hcjl⟩ (by dsimp only;omega) qbl qab
 have hke:k=Q.length:=by have:=of_decide_eq_false h32;omega
 subst hke
 clear h32
 rw [List.drop_length] at hs
 rw [List.take_length] at hmp
 have hs3:finA ks cnt ps=R:=hs
 clear hs
 refine t14 ?_
 refine cN ?_ ?_ <;> intro h54
 ·have g:quy ps<cnt:=by have:=of_decide_eq_true h54;omega
  have e:R=errA 12:=by rw [← hs3];unfold finA;rw [if_pos g]
  subst e
  refine t11 ?_
  exact qaq (Bs:=[qal tI64 [],qal tPg [],qal tPg [],Is (.int .i64 12),Is (.bool true)]) results24 eT () SubL.rfl' (List.nil_sublist _)
 have g:¬ quy ps<cnt:=by have:=of_decide_eq_false h54;omega
 clear h54
 refine t10 ?_
 refine cN ?_ ?_ <;> intro h56
 ·have g2:0<(qi6 ks ps).length:=by have:=of_decide_eq_true h56;omega
  have e:R=(qi6 ks ps,[],[],0,false):=by rw [← hs3];unfold finA;rw [if_neg g,if_pos g2]
  subst e
  refine t12 ?_
  refine qee hX (v:=slV (qi6 ks ps).length b1) qae ?_
  exact qaq (Bs:=[qal tI64 (qi6 ks ps),qal tPg [],qal tPg [],Is (.int .i64 0),Is (.bool false)]) results24 eT () SubL.rfl' (List.nil_sublist _)
 have g2:¬ 0<(qi6 ks ps).length:=by have:=of_decide_eq_false h56;omega
 clear h56
 have e:R=([],qzg ks ps,wriP ks ps,0,true):=by rw [← hs3];unfold finA;rw [if_neg g,if_neg g2]
 subst e
 clear hs3
 have hpl:ps.length=Q.length:=by rw [← hmp,List.length_map]
 have hnp:(ps.map Prod.fst).Nodup:=by rw [hmp];exact hQs.1
 have hfl:=fre_le ks ps
 refine t11 ?_
 refine qcn 53 tPg ?_
 refine qbr (fun z:Nat×(Option Addr×Nat)=>z.1≤Q.length) (fun z=>[(5,Is (slV (qzg ks ps).length b2)),(6,Is (slV (wriP ks (ps.take z.1)).length z.2)),(13,Is (.map (some i92))),(25,Is (.map (some i142))),(226,qal tI64 Q),(227,Is (.int .i64 (Q.length:Nat))),(228,Is (.int .i64 (z.1:Nat)))]) (fun z=>[mp i92 qdw (S.map fun s=>(s,(qeg ks s).1)),mp i142 qut (qnl ks ps),buf (slV (qzg ks ps).length b2) 53 tPg (qzg ks ps),buf (slV (wriP ks (ps.take z.1)).length z.2) 53 tPg (wriP ks (ps.take z.1))]) (fun z=>Q.length-z.1) (0,(none,0)) (Nat.zero_le _) qbl qab ?_
 rintro ⟨k,a3⟩ hk
 dsimp only at hk ⊢
 refine t6 ?_
 refine cN ?_ ?_ <;> intro h59
 ·have hlt:k<Q.length:=by have:=of_decide_eq_true h59;omega
  clear h59
  obtain ⟨s,hz⟩:∃ z,Q[k]?=some z:=⟨Q[k],List.getElem?_eq_getElem hlt⟩
  have hmg:=mget_map (f:=fun s=>(qeg ks s).1) (hQs.2 s (List.mem_of_getElem? hz))
  obtain ⟨q,hzq⟩:∃ q,ps[k]?=some (s,q):=by
   have h1:ps[k]?=some ps[k]:=List.getElem?_eq_getElem (by omega)
   have h2:(ps.map Prod.fst)[k]?=some s:=by rw [hmp];exact hz
   rw [List.getElem?_map,h1] at h2
   have h3:ps[k].1=s:=Option.some.inj h2
   exact ⟨ps[k].2,by rw [h1,← h3]⟩
  have hcg:=chg_get (ks:=ks) hnp hzq
  have hwt:=wri_take (ks:=ks) hzq
  have hwl:(wriP ks (ps.take k)).length≤9:=by
   have h1:=wri_le ks (ps.take k)
   have h2:=List.length_take_le k ps
   omega
  refine t6 ?_
  refine qap rfl (by first|exact qau (j:=_) (er rfl) (er rfl) rfl rfl (by first|rfl|omega) hz|exact qau (j:=_) (er rfl) (er rfl) rfl rfl (by first|rfl|omega) (by assumption)) ?_
  refine t8 ?_
  refine qap rfl (op_lookup2D Hd.nil hd_zero (er rfl) qbp (er rfl) rfl rfl rfl) ?_
  refine t4 ?_
  intro i36
  refine t9 ?_
  refine cN ?_ ?_ <;> intro h62
  ·have hqn:¬ q=[]:=fun e=>by rw [hcg,if_pos e] at h62;cases h62
   rw [if_neg hqn] at hcg hwt
   rw [hcg]
   clear h62
   refine t4 ?_
   refine qap rfl (op_lookupS hmg (er rfl) qbp (er rfl) rfl rfl rfl) ?_
   refine qap rfl (by first|exact qcm (n:=2) (er rfl) rfl rfl rfl rf qbo|exact qbs (n:=2) (er rfl) qbp rf rf rf rf qbo) ?_
   refine kS call41 (qhm _ _) ?_
   refine t4 ?_
   intro i38
   refine t6 ?_
   refine qap rfl (by first|exact qcm (n:=9) (er rfl) rfl rfl rfl rf qbo|exact qbs (n:=9) (er rfl) qbp rf rf rf rf qbo) ?_
   refine qap rfl (qcb (size:=9) (qs:=[(0,_)]) rfl rfl rfl ⟨⟨rfl,_,(er rfl),qbn⟩,trivial⟩ rf rf) ?_
   (refine qe6 rfl (qb9 (er rfl) (fun _=>qae) (by first|exact er rfl|exact Ev.sub rfl (by first|exact SubL.row (xs:=[(qfk (qeg ks s).1 (qrd ks (s,q))).1]) rf rf qev|exact subT)) (by exact qep rfl rfl rfl) qbt) ?_;intro i250)
   refine t8 ?_
   rw [← hwt]
   exact qaa (k+1,i250) (by dsimp only;omega) (by dsimp only;omega) qbl qab
  have hqn:q=[]:=Classical.byContradiction fun e=>by rw [hcg,if_neg e] at h62;cases h62
  rw [if_pos hqn] at hwt
  clear h62
  refine t7 ?_
  rw [← hwt]
  exact qaa (k+1,a3) (by dsimp only;omega) (by dsimp only;omega) qbl qab
 have hke:k=ps.length:=by have:=of_decide_eq_false h59;omega
 subst hke
 clear h59
 rw [List.take_length]
 refine t17 ?_
 refine qee hX (v:=slV (qzg ks ps).length b2) qae ?_
 refine qee hX (v:=slV (wriP ks ps).length a3) qae ?_
 exact qaq (Bs:=[qal tI64 [],qal tPg (qzg ks ps),qal tPg (wriP ks ps),Is (.int .i64 0),Is (.bool true)]) results24 eT () SubL.rfl' (List.nil_sublist _)
theorem chR_need {ks:List Pg} {cnt:Int}:∀ (ls:List Int) (st st':List Int×List Int),chR ks cnt ls st = .ok st'→(st.2.length:Int)≤cnt→st.1.length≤st.2.length →
  (st'.2.length:Int)≤cnt∧st'.1.length≤st'.2.length∧∃ r,r.Sublist ls∧st'.1=st.1++r∧∀ x,x∈r→qe5 ks x=false
 | [],st,st',h,h1,h2=>by
  have e:st=st':=Except.ok.inj h
  subst e
  exact ⟨h1,h2,[],List.nil_sublist _,by simp,fun x hx=>by cases hx⟩
 | l :: ls,st,st',h,h1,h2=>by
  unfold chR at h
  split at h
  ·rename_i hlt
   have hlt:=of_decide_eq_true hlt
   split at h
   ·cases h
   ·unfold qg0 at h
    split at h
    ·rename_i hb
     obtain ⟨g1,g2,r,g3,g4,g5⟩:=chR_need ls _ st' h (by simp;omega) (by simp;omega)
     exact ⟨g1,g2,l :: r,g3.cons_cons l,by rw [g4];simp,fun x hx=>by
      rcases List.mem_cons.1 hx with e|e
      ·subst e;simpa using hb
      ·exact g5 x e⟩
    ·split at h
     ·obtain ⟨g1,g2,r,g3,g4,g5⟩:=chR_need ls _ st' h (by simp;omega) (by simp;omega)
      exact ⟨g1,g2,r,g3.cons l,g4,g5⟩
     ·obtain ⟨g1,g2,r,g3,g4,g5⟩:=chR_need ls _ st' h h1 h2
      exact ⟨g1,g2,r,g3.cons l,g4,g5⟩
  ·have e:st=st':=Except.ok.inj h
   subst e
   exact ⟨h1,h2,[],List.nil_sublist _,by simp,fun x hx=>by cases hx⟩
theorem fbL_asc (u:BitVec 32):(fbL u).Pairwise (· < ·):=by
 unfold fbL
 exact (List.pairwise_lt_range' (step:=1)).filter _
theorem freS_asc (ks:List Pg) (s:Int):(qo8 ks s).Pairwise (· < ·)∧∀ x,x∈qo8 ks s→qas s+1≤x∧x≤qas s+15:=by
 unfold qo8
 rw [free16]
 refine ⟨List.pairwise_map.2 ((fbL_asc _).imp fun {a b} h=>by omega),fun x hx=>?_⟩
 obtain ⟨i,hi,rfl⟩:=List.mem_map.1 hx
 have:=(mem_fbL.1 hi).1
 omega
theorem flat_asc (ks:List Pg):∀ {S:List Int},S.Pairwise (· < ·)→(∀ s,s∈S→0≤s∧s≤8)→(S.flatMap (qo8 ks)).Pairwise (· < ·)∧∀ x,x∈S.flatMap (qo8 ks)→∃ s,s∈S∧qas s+1≤x∧x≤qas s+15
 | [],_,_=>⟨List.Pairwise.nil,fun x hx=>by cases hx⟩
 | s :: S,h,h8=>by
  obtain ⟨h1,h2⟩:=List.pairwise_cons.1 h
  obtain ⟨g1,g2⟩:=flat_asc ks h2 fun t ht=>h8 t (List.mem_cons_of_mem _ ht)
  obtain ⟨f1,f2⟩:=freS_asc ks s
  rw [List.flatMap_cons]
  refine ⟨List.pairwise_append.2 ⟨f1,g1,fun a ha b hb=>?_⟩,fun x hx=>?_⟩
  ·obtain ⟨t,ht,hb1,hb2⟩:=g2 b hb
   have ha1:=f2 a ha
   have hlt:=h1 t ht
   have hs:=h8 s (List.mem_cons_self ..)
   have ht8:=h8 t (List.mem_cons_of_mem _ ht)
   rw [qn8 hs] at ha1
   rw [qn8 ht8] at hb1 hb2
   omega
  ·rcases List.mem_append.1 hx with e|e
   ·exact ⟨s,List.mem_cons_self ..,f2 x e⟩
   ·obtain ⟨t,ht,hb⟩:=g2 x e
    exact ⟨t,List.mem_cons_of_mem _ ht,hb⟩
theorem src_asc (ks:List Pg) (cnt:Int) {S:List Int} (h:S.Pairwise (· < ·)) (h8:∀ s,s∈S→0≤s∧s≤8):(qzf ks cnt S).Pairwise (· < ·)∧∀ x,x∈qzf ks cnt S→96≤x∧x≤255:=by
 unfold qzf
 split
 ·rename_i s hs
  have hm:=h8 s (List.mem_of_find?_eq_some hs)
  obtain ⟨f1,f2⟩:=freS_asc ks s
  exact ⟨f1,fun x hx=>by have:=f2 x hx;rw [qn8 hm] at this;omega⟩
 ·obtain ⟨g1,g2⟩:=flat_asc ks h h8
  exact ⟨g1,fun x hx=>by
   obtain ⟨s,hs,hb⟩:=g2 x hx
   rw [qn8 (h8 s hs)] at hb
   have:=h8 s hs
   omega⟩
theorem lpA_over {ks:List Pg} {lines:Int}:∀ (ls:List Int) (fr w:List Pg),(lpA ks lines ls fr w).over=true
 | [],_,_=>rfl
 | l :: r,fr,w=>lpA_over r _ _
theorem alp_need {ks:List Pg} {o lines cnt:Int} (h:(alpR ks o lines cnt).over=false):ndOk ks (alpR ks o lines cnt).need:=by
 have hcn:=qe9 lines
 unfold alpR at h ⊢
 by_cases h1:((!clB o lines||decide (cnt<1))||decide (cnt>12))=true
 ·rw [if_pos h1] at h;cases h
 rw [if_neg h1] at h ⊢
 have hcl:(0≤o∧o<6)∧1≤cnt∧cnt≤12:=by unfold clB at h1;simp at h1;omega
 by_cases h2:decide (((qdu ks [98+o]).length:Int)>0)=true
 ·rw [if_pos h2]
  exact qn4 (by simp) (fun x hx=>by rw [List.mem_singleton.1 hx];omega) h2
 rw [if_neg h2] at h ⊢
 by_cases h3:((qfs ks o).2.2 != 0)=true
 ·rw [if_pos h3] at h;cases h
 rw [if_neg h3] at h ⊢
 have hSl:=qju (qfs ks o).2.1.sg (qa7 lines)
 have hSa:=ownV_asc (qfs ks o).2.1.sg (qa7 lines)
 have hS8:∀ s,s∈qf8 (qfs ks o).2.1.sg (qa7 lines)→0≤s∧s≤8:=fun s hs=>by have:=qnz hs;omega
 obtain ⟨S,hS⟩:∃ S,qf8 (qfs ks o).2.1.sg (qa7 lines)=S:=⟨_,rfl⟩
 rw [hS] at h hSl hSa hS8 ⊢
 by_cases h4:decide (((qdu ks (S.map qas)).length:Int)>0)=true
 ·rw [if_pos h4]
  refine qn4 (by rw [List.length_map];omega) (fun x hx=>?_) h4
  obtain ⟨s,hs,rfl⟩:=List.mem_map.1 hx
  exact zbo (hS8 s hs)
 rw [if_neg h4] at h ⊢
 unfold alpG at h ⊢
 split at h
 ·cases h
 ·rename_i hn
  try rw [hn]
  try dsimp only
  unfold alpF at h ⊢
  split at h
  ·cases h
  ·rename_i st hst
   try rw [hst]
   try dsimp only
   split at h
   ·cases h
   ·rename_i h5
    rw [if_neg h5]
    split at h
    ·rename_i h6
     rw [if_pos h6]
     obtain ⟨g1,g2,r,g3,g4,g5⟩:=chR_need _ _ _ hst (by simp;omega) (by simp)
     obtain ⟨f1,f2⟩:=src_asc ks cnt hSa hS8
     have h6':=of_decide_eq_true h6
     have e:st.1=r:=by rw [g4];rfl
     show ndOk ks st.1
     rw [e] at g2 h6' ⊢
     exact ⟨by omega,by omega,f1.sublist g3,fun x hx=>⟨g5 x hx,f2 x (g3.subset hx)⟩⟩
    ·rw [lpA_over] at h;cases h
theorem SegmentAllocates_ok (z:Cs20) (m:Rqs) (near:Bool):FnP Tryz.prog 5 [IsCs20 z,IsRqs m,Is (.bool near)] (Is (.bool true)):=by
 have hn:=nC_rng z.size
 obtain ⟨mc,ml,mn⟩:=m
 refine FnP.enter func5 ntmps5 rfl rfl ?_
 intro c hX
 refine t3 ?_
 intro i3
 refine s1 ?_
 intro i4
 refine t6 ?_
 refine qap rfl (by first|exact qcm (n:=4) (er rfl) rfl rfl rfl rf qbo|exact qbs (n:=4) (er rfl) qbp rf rf rf rf qbo) ?_
 refine kR call7 (light_ok z) ?_
 refine t3 ?_
 refine cN ?_ ?_ <;> intro h1
 ·refine t7 ?_
  refine qa4 results5 rfl () (SubL.eq ?_) (List.nil_sublist _)
  rfl
 have hl:zbp z=true:=by simpa using h1
 clear h1
 refine t4 ?_
 refine qap rfl (by first|exact qcm (n:=4) (er rfl) rfl rfl rfl rf qbo|exact qbs (n:=4) (er rfl) qbp rf rf rf rf qbo) ?_
 refine kR call8 (pagesC_ok z hl) ?_
 (refine qa5 24 rfl ?_;intro x24 hx24)
 refine t9 ?_
 obtain ⟨hH,hLn⟩:=hx24
 obtain ⟨H,hHe⟩:∃ q,x24=q:=⟨_,rfl⟩
 rw [hHe] at hH hLn ⊢
 have hHl:H.length≤10000:=by omega
 clear hHe
 refine t4 ?_
 refine qb3 [(3,_),(4,_),(6,_),(7,_)] [blk i3 _ _] (fun yc:Int×Int×Int=>True) (fun yc=>[]) (fun yc=>[blk i4 80 [Is (.int .i64 yc.1),Is (.int .i64 yc.2.1),Is (.int .i64 yc.2.2)]]) qe8 qab ?_ ?_
 rotate_left
 focus
  refine cN ?_ ?_ <;> intro h4
  ·refine qa0 rfl (by kernel_rfl) ?_
   refine qct [1,1,1,0,0,1,1,1,0,1,2] (by kernel_rfl) (by kernel_rfl) ?_
   refine qc4 (by first|exact qbf (k:=0) (er rfl) rfl rfl rfl rfl|exact qa1 (k:=0) (er rfl) rfl rfl rfl rfl qbo) ?_
   refine qc4 (by first|exact qbw (er rfl) rfl rfl rfl|exact qd9 (er rfl) qbp rf rf rf) ?_
   refine qc4 (by first|((refine qac call9 (qd4 _ _ ?_ ?_) ⟨evR,⟨evR,trivial⟩⟩);all_goals (first|omega))) ?_
   refine qb7 (qip (er rfl) (er rfl) qfv) ?_
   refine qb7 (qay rfl) ?_
   refine qc4 (by first|exact qbf (k:=2) (er rfl) rfl rfl rfl rfl|exact qa1 (k:=2) (er rfl) rfl rfl rfl rfl qbo) ?_
   refine qc4 (by first|exact qbw (er rfl) rfl rfl rfl|exact qd9 (er rfl) qbp rf rf rf) ?_
   refine qc4 (by first|((refine qac call9 (qd4 _ _ ?_ ?_) ⟨evR,⟨evR,trivial⟩⟩);all_goals (first|omega))) ?_
   refine qb7 (qip (er rfl) (er rfl) qfv) ?_
   refine qc4 (qlg (qs:=[(0,_),(1,_),(2,_)]) rfl rfl rfl rfl ⟨⟨rfl,_,(er rfl),qbn⟩,⟨⟨rfl,_,(er rfl),qbn⟩,⟨⟨rfl,_,(er rfl),qbn⟩,trivial⟩⟩⟩ rf qbo) ?_
   refine qiy (qav (er rfl) (er rfl) qbn qae qbo rf rf rf) ?_
   refine qeu ?_
   refine qat ?_
   exact qak (_,_,_) (trivial) qe8 qab
  refine s1 ?_
  exact qak (_,_,_) (trivial) qe8 qab
 rintro ⟨o,ln,ct⟩ _
 dsimp only
 refine t5 ?_
 refine kR call10 (KnownH_ok H _ hHl) ?_
 (refine qa5 41 rfl ?_;intro x41 hx41)
 refine t5 ?_
 obtain ⟨k0,hk0⟩:∃ q,x41=q:=⟨_,rfl⟩
 rw [hk0] at hx41 ⊢
 clear hk0
 refine t5 ?_
 refine qaz [(4,_),(6,_),(7,_)] [blk i4 _ _] (fun y:Nat×(List Pg)=>y.1≤300∧(y.2.length≤200+30*y.1∧y.1≤cntK y.2)) (fun y=>[(9,qal tPg y.2),(10,Is (.int .i64 (y.1:Nat)))]) (fun y=>[]) (fun y=>300-y.1) (0,k0) ⟨by first|exact Nat.zero_le _|omega|(dsimp only;omega),⟨(show k0.length≤200+30*0 by omega),Nat.zero_le _⟩⟩ qe8 qab ?_
 rintro ⟨k,ks⟩ ⟨hk,hI⟩
 dsimp only at hk hI ⊢
 refine t7 ?_
 refine cN ?_ ?_ <;> intro h8
 ·have hlt:k<300:=by have:=of_decide_eq_true h8;omega
  clear h8
  obtain ⟨hi1,hi2⟩:=hI
  have hck:=cntK_le ks
  have hkl:ks.length≤10000:=by omega
  refine t6 ?_
  refine qap rfl (by first|exact qcm (n:=3) (er rfl) rfl rfl rfl rf qbo|exact qbs (n:=3) (er rfl) qbp rf rf rf rf qbo) ?_
  refine s1 ?_
  refine kR call24 (AllocateP_ok ks _ _ _) ?_
  refine t22 ?_
  refine kR call25 (qm7 ks _ _ _ hkl) ?_
  refine s1 ?_
  intro i16
  refine t5 ?_
  obtain ⟨W,hW⟩:∃ W,alpR ks o ln ct=W:=⟨_,rfl⟩
  have hnd:=alp_need (ks:=ks) (o:=o) (lines:=ln) (cnt:=ct)
  rw [hW] at hnd ⊢
  obtain ⟨nd,fs,ws,s,cd,ov⟩:=W
  dsimp only at hnd ⊢
  clear hW
  refine t15 ?_
  (first|refine qcq rfl rfl rfl (fun hg=>(by have hg0:=hg;(try simp at hg);exact qac call13 (SameInts_ok _ _) ⟨evR,⟨evR,trivial⟩⟩)) ?_|refine JL_i rfl rfl rfl (fun hp hg=>(by have hpg:=Bool.and_eq_true_iff.2 ⟨hp,hg⟩;have hg0:=hg;(try simp at hg);exact qac call13 (SameInts_ok _ _) ⟨evR,⟨evR,trivial⟩⟩)) ?_)
  refine t6 ?_
  (first|refine qcq rfl rfl rfl (fun hg=>(by have hg0:=hg;(try simp at hg);exact qac call14 (SamePages_ok _ _) ⟨evR,⟨evR,trivial⟩⟩)) ?_|refine JL_i rfl rfl rfl (fun hp hg=>(by have hpg:=Bool.and_eq_true_iff.2 ⟨hp,hg⟩;have hg0:=hg;(try simp at hg);exact qac call14 (SamePages_ok _ _) ⟨evR,⟨evR,trivial⟩⟩)) ?_)
  refine t6 ?_
  (first|refine qcq rfl rfl rfl (fun hg=>(by have hg0:=hg;(try simp at hg);exact qac call14 (SamePages_ok _ _) ⟨evR,⟨evR,trivial⟩⟩)) ?_|refine JL_i rfl rfl rfl (fun hp hg=>(by have hpg:=Bool.and_eq_true_iff.2 ⟨hp,hg⟩;have hg0:=hg;(try simp at hg);exact qac call14 (SamePages_ok _ _) ⟨evR,⟨evR,trivial⟩⟩)) ?_)
  refine t4 ?_
  refine cN ?_ ?_ <;> intro h12
  ·exact absurd h12 (by simp)
  clear h12
  refine t8 ?_
  refine cN ?_ ?_ <;> intro h14
  ·refine t2 ?_
   refine qap rfl (qac call15 (awake_ok) trivial) ?_
   refine t10 ?_
   refine qa4 results5 rfl () (SubL.eq ?_) (List.nil_sublist _)
   rfl
  obtain ⟨hd1,hd2,hd3,hd4⟩:=hnd h14
  have hgr:=fetch_grow hLn (hnd h14)
  have hf1:nd.length≤10000:=by omega
  have hf2:∀ x,x∈nd→qe5 ks x=false∧96≤x∧x≤300:=fun x hx=>⟨(hd4 x hx).1,(hd4 x hx).2.1,by have:=(hd4 x hx).2.2;omega⟩
  have hf3:=hd3
  refine t7 ?_
  refine kR call16 (FetchH_ok ks H nd hkl hf1 hf2 hf3) ?_
  refine t14 ?_
  refine cN ?_ ?_ <;> intro h17
  ·exact absurd h17 (by rw [decide_eq_true (show (nd.length:Int)>0 by omega)];decide)
  clear h17
  refine t13 ?_
  exact qaa (k+1,ks++nd.map (pgF H)) ⟨by first|omega|(dsimp only;omega)|(simp;omega),⟨(show (ks++nd.map (pgF H)).length≤200+30*(k+1) by rw [List.length_append,List.length_map];omega),(show k+1≤cntK (ks++nd.map (pgF H)) by omega)⟩⟩ (by first|omega|(dsimp only;omega)|(simp;omega)) qe8 qab
 exact absurd (cntK_le ks) (by have h9:=of_decide_eq_false h8;have h10:=hI.2;omega)
end Go.Proofs.YtmgoplaamlignaaGreat
