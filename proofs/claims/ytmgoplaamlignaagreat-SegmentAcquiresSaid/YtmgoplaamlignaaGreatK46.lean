/- Texts laid together: walks of functions, what they compute, and plain laws of it. Own work. -/
import Derived.Test.YtmgoplaamlignaaGreatK45
import Derived.Test.YtmgoplaamlignaaGreatK40
import Derived.Test.YtmgoplaamlignaaGreatK22
import Derived.Test.YtmgoplaamlignaaGreatK19
import Derived.Test.YtmgoplaamlignaaGreatK26
import Derived.Test.YtmgoplaamlignaaGreatK23
import Derived.Test.YtmgoplaamlignaaGreatK1
namespace Go.Proofs.YtmgoplaamlignaaGreat
open Go.RowKit Tryz
set_option linter.unusedVariables false
set_option linter.unusedSimpArgs false
set_option maxRecDepth 100000
set_option maxHeartbeats 4000000
theorem DoH_ok (b n:Nat) (s:Option Addr×Nat) (lines:Int) (x:Hs) (a:Acn) (hn:8≤n∧n≤200) (hH:x.pages.length=n) (hln:LnI x.pages) (hsq:0≤x.seq∧x.seq≤90000) (htb:x.table.length≤7000) :
  FnX Tryz.prog 54 [Is (.pointer (some ⟨b,0,none⟩)),IsAct a] [blk b 62 [Is (slV n s),Is (.int .i64 lines),Is (.int .i64 x.seq),qal tRw x.table,Is (.int .i64 x.cur.phase),Is (.int .i64 x.cur.level),Is (.int .u32 (UV x.cur.key))],buf (slV n s) 53 tPg x.pages]
  (fun i:Hs=>(i.pages.length=n∧LnI i.pages)∧(0≤i.seq∧i.seq≤x.seq+2)∧i.table.length≤x.table.length+2) (fun i=>qbv []) (fun i=>[blk b 62 [Is (slV n s),Is (.int .i64 lines),Is (.int .i64 i.seq),qal tRw i.table,Is (.int .i64 i.cur.phase),Is (.int .i64 i.cur.level),Is (.int .u32 (UV i.cur.key))],buf (slV n s) 53 tPg i.pages]):=by
 refine Fn.enterB func54 ntmps54 rfl rfl ?_
 intro c hX hbelow
 refine t3 ?_
 intro i3
 refine t6 ?_
 refine qap rfl (by ((refine qac call9 (qd4 _ _ ?_ ?_) ⟨qar,⟨qar,trivial⟩⟩);all_goals (first|omega|(simp;done)|(simp;omega)|(refine Nat.le_trans (qai _ _) ?_;omega)|(refine Nat.le_trans (qai _ _) (Nat.le_trans (Nat.add_le_add_right (qai _ _) _) ?_);omega)))) ?_
 refine t7 ?_
 refine qap rfl (by ((refine qac call9 (qd4 _ _ ?_ ?_) ⟨qar,⟨qar,trivial⟩⟩);all_goals (first|omega|(simp;done)|(simp;omega)|(refine Nat.le_trans (qai _ _) ?_;omega)|(refine Nat.le_trans (qai _ _) (Nat.le_trans (Nat.add_le_add_right (qai _ _) _) ?_);omega)))) ?_
 refine t4 ?_
 obtain ⟨cl,hcl⟩:∃ q,a.client % 3=q:=⟨_,rfl⟩
 have hcl6:0≤cl∧cl<6:=by omega
 refine qb0 4 (Is (.int .i64 cl)) rfl (SubL.eq (by rw [hcl])) ?_
 refine t12 ?_
 refine qb3 [(0,_),(3,_),(4,_),(15,_)] [blk i3 _ _,blk b _ _,buf (slV n s) _ _ _] (fun yc:Bool=>True) (fun yc=>[(16,Is (.bool yc))]) (fun yc=>[]) qah qab ?_ ?_
 rotate_left
 focus
  refine cN ?_ ?_ <;> intro h4
  ·refine s1 ?_
   exact qak _ (trivial) qah qab
  refine t6 ?_
  refine cN ?_ ?_ <;> intro h5
  ·refine s1 ?_
   exact qak _ (trivial) qah qab
  refine t6 ?_
  refine cN ?_ ?_ <;> intro h6
  ·refine s1 ?_
   exact qak _ (trivial) qah qab
  refine t6 ?_
  refine cN ?_ ?_ <;> intro h7
  ·refine s1 ?_
   exact qak _ (trivial) qah qab
  refine t6 ?_
  refine cN ?_ ?_ <;> intro h8
  ·refine s1 ?_
   exact qak _ (trivial) qah qab
  refine t6 ?_
  refine cN ?_ ?_ <;> intro h9
  ·refine s1 ?_
   exact qak _ (trivial) qah qab
  refine t6 ?_
  refine cN ?_ ?_ <;> intro h10
  ·refine s1 ?_
   exact qak _ (trivial) qah qab
  refine t6 ?_
  refine cN ?_ ?_ <;> intro h11
  ·refine s1 ?_
   exact qak _ (trivial) qah qab
  refine t6 ?_
  refine cN ?_ ?_ <;> intro h12
  ·refine s1 ?_
   exact qak _ (trivial) qah qab
  refine t6 ?_
  refine cN ?_ ?_ <;> intro h13
  ·refine s1 ?_
   exact qak _ (trivial) qah qab
  refine t4 ?_
  exact qak _ (trivial) qah qab
 rintro bb _
 refine cN ?_ ?_ <;> intro h4b
 ·refine t3 ?_
  refine kRF call83 (qsb a) ?_
  (refine qa5 29 rfl ?_;intro x29 hx29)
  refine qap rfl (OpP.to (qad (size:=12) (qs:=[(0,_)]) rfl rfl rfl ⟨⟨rfl,_,(er rfl),qaf⟩,trivial⟩ rf rf) (SubL.row1 (T:=tSt29) (x:=(⟨_,_,_,_,_,_,_,_,(⟨_,_,_⟩:Co),_⟩:St29)) rf rf rf qaj)) ?_
  refine t4 ?_
  have hst:∀ s,s∈[x29]→1≤s.kind∧s.kind≤4:=fun s hs=>by
   rw [List.mem_singleton] at hs
   subst hs
   exact hx29
  refine t4 ?_
  (refine qe3 rfl (by ((refine qds qbh qbh call84 (zc6 b n s lines x _ _ hn hH hln ⟨hsq.1,by omega⟩ ?_ ?_ ?_) ⟨qar,⟨qar,⟨qar,trivial⟩⟩⟩);all_goals (first|omega|exact Nat.le_refl 1))) ?_;intro x34 hx34)
  refine t3 ?_
  obtain ⟨⟨hr1,hr2⟩,⟨hr3,hr4⟩,hr5⟩:=hx34
  refine cN ?_ ?_ <;> intro h16
  ·refine t4 ?_
   (refine qe3 rfl (qds qbh qbh call85 (qx1 b n s lines ⟨x34.1,x34.2.1,x34.2.2.1,x.cur⟩ cl hcl6 hn hr1 hr2) ⟨qar,⟨qar,trivial⟩⟩) ?_;intro x38 hx38)
   refine t6 ?_
   (refine qe3 rfl (by ((refine qds qbh qbh call84 (zc6 b n s lines ⟨x38,x34.2.1,x34.2.2.1,x.cur⟩ _ _ hn hx38.1 hx38.2 ⟨hr3,Int.le_trans hr4 ?_⟩ ?_ ?_ ?_) ⟨qar,⟨qar,⟨qar,trivial⟩⟩⟩);all_goals (first|omega|exact Nat.le_trans hr5 (by omega)|exact Nat.le_refl 1))) ?_;intro x42 hx42)
   refine t3 ?_
   obtain ⟨⟨hw1,hw2⟩,⟨hw3,hw4⟩,hw5⟩:=hx42
   refine qax (Bs:=[]) (⟨_,_,_,(⟨_,_,_⟩:Cu)⟩:Hs) ?_ rfl results54 trivial qab (hD0:=hX.2)
   exact by exact ⟨⟨hw1,hw2⟩,⟨hw3,Int.le_trans hw4 (show x34.2.1+1≤x.seq+2 by omega)⟩,Nat.le_trans hw5 (show x34.2.2.1.length+1≤x.table.length+2 by omega)⟩
  refine t3 ?_
  refine qax (Bs:=[]) (⟨_,_,_,(⟨_,_,_⟩:Cu)⟩:Hs) ?_ rfl results54 trivial qab (hD0:=hX.2)
  exact by exact ⟨⟨hr1,hr2⟩,⟨hr3,Int.le_trans hr4 (show x.seq+1≤x.seq+2 by omega)⟩,Nat.le_trans hr5 (show x.table.length+1≤x.table.length+2 by omega)⟩
 refine t6 ?_
 refine cN ?_ ?_ <;> intro h19
 ·refine t6 ?_
  refine qaz [(0,_),(3,_),(4,_)] [blk i3 _ _] (fun y:Int×(List Pg)×Cu=>(0≤y.1∧y.1≤31)∧y.2.1.length=n∧LnI y.2.1) (fun y=>[(7,Is (.int .i64 y.1))]) (fun y=>[blk b 62 [Is (slV n s),Is (.int .i64 lines),Is (.int .i64 x.seq),qal tRw x.table,Is (.int .i64 (y.2.2).phase),Is (.int .i64 (y.2.2).level),Is (.int .u32 (UV (y.2.2).key))],buf (slV n s) 53 tPg (y.2.1)]) (fun y=>(31-y.1).toNat) (0,x.pages,x.cur) ?_ qah qab ?_
  ·exact (⟨⟨Int.le_refl 0,(by decide:(0:Int)≤31)⟩,hH,hln⟩)
  rintro ⟨k,H,cu⟩ hI
  dsimp only at hI ⊢
  refine t6 ?_
  refine qap rfl (by ((refine qac call9 (qd4 _ _ ?_ ?_) ⟨qar,⟨qar,trivial⟩⟩);all_goals (first|omega|(simp;done)|(simp;omega)|(refine Nat.le_trans (qai _ _) ?_;omega)|(refine Nat.le_trans (qai _ _) (Nat.le_trans (Nat.add_le_add_right (qai _ _) _) ?_);omega)))) ?_
  refine t4 ?_
  refine cN ?_ ?_ <;> intro h21
  ·have hk30:k<1+a.n % 30:=of_decide_eq_true h21
   obtain ⟨⟨hk0,hk31⟩,hH2,hln2⟩:=hI
   refine t7 ?_
   (refine qe3 rfl (qds qbh qbh call86 (zc4 b n s lines ⟨H,x.seq,x.table,cu⟩ cl hcl6 hn hH2 hln2) ⟨qar,⟨qar,trivial⟩⟩) ?_;intro x55 hx55)
   refine t8 ?_
   refine qaa (_,_,(⟨_,_,_⟩:Cu)) ?_ ?_ qah qab
   ·exact ⟨⟨by omega,by omega⟩,hx55⟩
   ·(show (31-(k+1)).toNat<(31-k).toNat;omega)
  refine t6 ?_
  refine qax (Bs:=[]) (⟨H,x.seq,x.table,cu⟩:Hs) ?_ rfl results54 trivial qab (hD0:=hX.2)
  exact ⟨hI.2,⟨hsq.1,(show x.seq≤x.seq+2 by omega)⟩,Nat.le_add_right _ _⟩
 refine t6 ?_
 refine cN ?_ ?_ <;> intro h24
 ·refine t4 ?_
  refine qap rfl (by ((refine qac call9 (qd4 _ _ ?_ ?_) ⟨qar,⟨qar,trivial⟩⟩);all_goals (first|omega|(simp;done)|(simp;omega)|(refine Nat.le_trans (qai _ _) ?_;omega)|(refine Nat.le_trans (qai _ _) (Nat.le_trans (Nat.add_le_add_right (qai _ _) _) ?_);omega)))) ?_
  refine t3 ?_
  (refine qe3 rfl (by ((refine qds qbh qbh call87 (qjo b n s lines x (⟨_,_,_,_,_,[]⟩:Ep26) rfl ?_ hn hH hln) ⟨qar,⟨qar,trivial⟩⟩);all_goals (intro h5;exact absurd (show 1+a.n % 2=5 from h5) (by omega)))) ?_;intro x65 hx65)
  refine t3 ?_
  refine qax (Bs:=[]) (⟨x65.1,x.seq,x.table,x.cur⟩:Hs) ?_ rfl results54 trivial qab (hD0:=hX.2)
  exact ⟨⟨hx65.1,hx65.2.1⟩,⟨hsq.1,(show x.seq≤x.seq+2 by omega)⟩,Nat.le_add_right _ _⟩
 refine t6 ?_
 refine cN ?_ ?_ <;> intro h26
 ·refine t3 ?_
  (refine qe3 rfl (by ((refine qds qbh qbh call87 (qjo b n s lines x (⟨3,_,_,_,_,[]⟩:Ep26) rfl (fun h=>absurd (show (3:Int)=5 from h) ?_) hn hH hln) ⟨qar,⟨qar,trivial⟩⟩);all_goals (decide))) ?_;intro x70 hx70)
  refine t3 ?_
  refine qax (Bs:=[]) (⟨x70.1,x.seq,x.table,x.cur⟩:Hs) ?_ rfl results54 trivial qab (hD0:=hX.2)
  exact ⟨⟨hx70.1,hx70.2.1⟩,⟨hsq.1,(show x.seq≤x.seq+2 by omega)⟩,Nat.le_add_right _ _⟩
 refine t6 ?_
 refine cN ?_ ?_ <;> intro h28
 ·refine t3 ?_
  (refine qe3 rfl (qds qbh qbh call88 (qoy b n s lines x cl hcl6 hn hH hln) ⟨qar,⟨qar,trivial⟩⟩) ?_;intro x75 hx75)
  refine t3 ?_
  refine qax (Bs:=[]) (⟨x75,x.seq,x.table,x.cur⟩:Hs) ?_ rfl results54 trivial qab (hD0:=hX.2)
  exact ⟨hx75,⟨hsq.1,(show x.seq≤x.seq+2 by omega)⟩,Nat.le_add_right _ _⟩
 refine t6 ?_
 refine cN ?_ ?_ <;> intro h30
 ·refine s1 ?_
  refine qa0 rfl (by kernel_rfl) ?_
  refine qgl (its:=[]) ?_
  refine f1 0 ?_
  refine f1 1 ?_
  refine f1 2 ?_
  refine f1 3 ?_
  refine f1 4 ?_
  refine f1 5 ?_
  refine f1 6 ?_
  refine qkf 7 rfl (by kernel_rfl) (by ((refine qac call9 (qd4 _ _ ?_ ?_) ⟨qar,⟨qar,trivial⟩⟩);all_goals (first|omega|(simp;done)|(simp;omega)|(refine Nat.le_trans (qai _ _) ?_;omega)|(refine Nat.le_trans (qai _ _) (Nat.le_trans (Nat.add_le_add_right (qai _ _) _) ?_);omega)))) ?_
  refine qkf 8 rfl (by kernel_rfl) (qip (er rfl) (er rfl) qfv) ?_
  refine f1 9 ?_
  refine f1 10 ?_
  refine f1 11 ?_
  refine f1 12 ?_
  refine qm4 14 rfl (by kernel_rfl) (fun _=>(qbi rfl qbo rfl)) ?_
  (refine qy9 13 [0,1,2,3,4,5,6,7,8,9,10,11,12,13] rfl (by kernel_rfl) (by ((refine qc9 (by (try simp only [List.append_eq,List.nil_append,List.cons_append]);exact qga) call12 (zdm x.pages _ _ _ _ ?_) ⟨qar,⟨qar,⟨qar,⟨qar,⟨qar,trivial⟩⟩⟩⟩⟩ (qtt));all_goals (first|omega|(simp;done)|(simp;omega)|(refine Nat.le_trans (qai _ _) ?_;omega)|(refine Nat.le_trans (qai _ _) (Nat.le_trans (Nat.add_le_add_right (qai _ _) _) ?_);omega)))) ?_;intro x91 hx91)
  (refine qgk 8 14 (by kernel_rfl) rfl rfl ?_;intro i8)
  refine qfi 15 [0,1,2,3,4,5,6,7,8,9,10,11,12,13,14,15] rfl (by kernel_rfl) (fun c'=>by exact qa9 (er rfl) (er rfl) qaf qae rf rf rf) ?_
  refine qeq (by kernel_rfl) rfl ?_
  show JQ _ _ _ _ _ _
  refine t8 ?_
  refine cN ?_ ?_ <;> intro h32
  ·refine t4 ?_
   (refine qe6 rfl (qhx qbh qbh call23 (qh9 b n s _ _ _ _ _ _ x.pages x91.writes hH hn.2 hx91.2) ⟨qar,⟨qar,trivial⟩⟩) ?_;intro i98)
   refine t3 ?_
   refine qax (Bs:=[]) (⟨x91.writes.foldl qnk x.pages,x.seq,x.table,x.cur⟩:Hs) ?_ rfl results54 trivial qab (hD0:=hX.2)
   exact ⟨⟨(show (x91.writes.foldl qnk x.pages).length=n by rw [qks];exact hH),qoh _ hln⟩,⟨hsq.1,(show x.seq≤x.seq+2 by omega)⟩,Nat.le_add_right _ _⟩
  refine t3 ?_
  refine qax (Bs:=[]) (⟨_,_,_,(⟨_,_,_⟩:Cu)⟩:Hs) ?_ rfl results54 trivial qab (hD0:=hX.2)
  exact by exact ⟨⟨hH,hln⟩,⟨hsq.1,(show x.seq≤x.seq+2 by omega)⟩,Nat.le_add_right _ _⟩
 refine t3 ?_
 refine qax (Bs:=[]) (⟨_,_,_,(⟨_,_,_⟩:Cu)⟩:Hs) ?_ rfl results54 trivial qab (hD0:=hX.2)
 exact by exact ⟨⟨hH,hln⟩,⟨hsq.1,(show x.seq≤x.seq+2 by omega)⟩,Nat.le_add_right _ _⟩
theorem zbb:∀ n:Nat,LnI (qrc n)
 | 0=>fun i p h=>by simp [qrc] at h
 | n+1=>fun i p h=>by
  unfold qrc at h
  rcases Nat.lt_or_ge i n with hi|hi
  ·rw [List.getElem?_append_left (by rw [qjx];exact hi)] at h
   exact zbb n i p h
  ·rw [List.getElem?_append_right (by rw [qjx];exact hi),qjx] at h
   have h1:=(List.getElem?_eq_some_iff.1 h).1
   simp at h1
   have:i=n:=by omega
   subst this
   simp at h
   subst h
   rfl
theorem zdl (n:Nat) (l:List Acn) (hn:8≤n∧n≤200) (hl:l.length≤1000):FnX Tryz.prog 17 [Is (.int .i64 (96+(n:Int))),qal tAct l] []
  (fun i:Nat×(Option Addr×Nat)×Hs=>i.2.2.pages.length=n∧LnI i.2.2.pages) (fun i=>Is (.pointer (some ⟨i.1,0,none⟩))) (fun i=>[blk (i.1) 62 [Is (slV n (i.2.1)),Is (.int .i64 (96+(n:Int))),Is (.int .i64 i.2.2.seq),qal tRw i.2.2.table,Is (.int .i64 i.2.2.cur.phase),Is (.int .i64 i.2.2.cur.level),Is (.int .u32 (UV i.2.2.cur.key))],buf (slV n (i.2.1)) 53 tPg i.2.2.pages]):=by
 refine Fn.enterB func17 ntmps17 rfl rfl ?_
 intro c hX hbelow
 refine t8 ?_
 (refine qe6 rfl (qq3 call53 (New_ok n hn.2) ⟨qar,trivial⟩) ?_;intro i8)
 refine t5 ?_
 obtain ⟨b,s⟩:=i8
 dsimp only
 refine qbq (b:=b) (As':=[Is (slV n s),Is (.int .i64 (96+(n:Int))),Is (.int .i64 0),qal tRw [],Is (.int .i64 1),Is (.int .i64 0),Is (.int .u32 (UV 1#32))]) qae qba ?_
 refine t5 ?_
 refine qaz [(1,_),(4,_),(5,_)] [] (fun y:Nat×Hs=>y.1≤(l).length∧((y.2.pages.length=n∧LnI y.2.pages)∧(0≤y.2.seq∧y.2.seq≤2*(y.1:Int))∧y.2.table.length≤2*y.1)) (fun y=>[(6,Is (.int .i64 (y.1:Nat)))]) (fun y=>[blk b 62 [Is (slV n s),Is (.int .i64 (96+(n:Int))),Is (.int .i64 y.2.seq),qal tRw y.2.table,Is (.int .i64 y.2.cur.phase),Is (.int .i64 y.2.cur.level),Is (.int .u32 (UV y.2.cur.key))],buf (slV n s) 53 tPg y.2.pages]) (fun y=>(l).length-y.1) (0,⟨qrc n,0,[],⟨1,0,1#32⟩⟩) ?_ qah qab ?_
 ·exact ⟨by exact Nat.zero_le _,⟨⟨qjx n,zbb n⟩,⟨Int.le_refl 0,Int.le_refl 0⟩,Nat.le_refl 0⟩⟩
 rintro ⟨k,x⟩ ⟨hk,hI⟩
 dsimp only at hk hI ⊢
 refine t9 ?_
 refine cN ?_ ?_ <;> intro h3
 ·have hlt:k<(l).length:=by have:=of_decide_eq_true h3;omega
  clear h3
  obtain ⟨z,hz⟩:∃ q,(l)[k]?=some q:=⟨_,List.getElem?_eq_getElem hlt⟩
  obtain ⟨⟨hp1,hp2⟩,⟨hp3,hp4⟩,hp5⟩:=hI
  refine t10 ?_
  (refine qe3 rfl (by ((refine qds qbh qbh call54 (DoH_ok b n s (96+(n:Int)) x z hn hp1 hp2 ⟨hp3,by omega⟩ ?_) ⟨qar,⟨qar,trivial⟩⟩);all_goals (first|omega|(simp;done)|(simp;omega)|(refine Nat.le_trans (qai _ _) ?_;omega)|(refine Nat.le_trans (qai _ _) (Nat.le_trans (Nat.add_le_add_right (qai _ _) _) ?_);omega)))) ?_;intro x20 hx20)
  refine t8 ?_
  refine qaa (k+1,(⟨_,_,_,(⟨_,_,_⟩:Cu)⟩:Hs)) ?_ ?_ qah qab
  ·exact ⟨by omega,⟨hx20.1,⟨hx20.2.1.1,Int.le_trans hx20.2.1.2 (show x.seq+2≤2*((k+1:Nat):Int) by omega)⟩,Nat.le_trans hx20.2.2 (show x.table.length+2≤2*(k+1) by omega)⟩⟩
  ·exact (by omega)
 have hke:k=(l).length:=by have:=of_decide_eq_false h3;omega
 clear h3
 subst hke
 refine t12 ?_
 refine qax (Bs:=[_]) (b,s,x) ?_ rfl results17 eXF qab (hD0:=hX.2)
 exact hI.1
def nC (z:Int):Nat:=8+16*(1+(z % 5).toNat)
theorem nC_rng (z:Int):8≤nC z∧nC z≤200:=by unfold nC;omega
theorem SizeC_ok (z:Int):FnP Tryz.prog 18 [Is (.int .i64 z)] (Is (.int .i64 (96+(nC z:Int)))):=by
 have h1:=Int.emod_nonneg z (show (5:Int)≠0 by omega)
 have h2:=Int.emod_lt_of_pos z (show (0:Int)<5 by omega)
 have e:(96+(nC z:Int))=104+16*(1+z % 5):=by unfold nC;omega
 rw [e]
 refine FnP.enter func18 ntmps18 rfl rfl ?_
 intro c hX
 refine t8 ?_
 refine qap rfl (by ((refine qac call9 (qd4 _ _ ?_ ?_) ⟨qar,⟨qar,trivial⟩⟩);all_goals (first|omega|(simp;done)|(simp;omega)|(refine Nat.le_trans (qai _ _) ?_;omega)|(refine Nat.le_trans (qai _ _) (Nat.le_trans (Nat.add_le_add_right (qai _ _) _) ?_);omega)))) ?_
 refine t7 ?_
 refine qa4 results18 rfl () (SubL.eq ?_) (List.nil_sublist _)
 rfl
def zbp (z:Cs20):Bool:=decide ((z.acts.length:Int)≤40)&&decide ((z.pokes.length:Int)≤12)
theorem light_ok (z:Cs20):FnP Tryz.prog 7 [IsCs20 z] (Is (.bool (zbp z))):=by
 refine FnP.enter func7 ntmps7 rfl rfl ?_
 intro c hX
 refine t3 ?_
 intro i1
 refine t19 ?_
 refine qa4 results7 rfl () (SubL.eq ?_) (List.nil_sublist _)
 rfl
theorem pagesC_ok (z:Cs20) (hl:zbp z=true):FnP Tryz.prog 8 [IsCs20 z] (qek (fun r:List Pg=>r.length=nC z.size∧LnI r) fun r=>qbv [qal tPg r,Is (.int .i64 (96+(nC z.size:Int)))]):=by
 have hn:=nC_rng z.size
 have hll:z.acts.length≤1000∧z.pokes.length≤1000:=by unfold zbp at hl;simp at hl;omega
 refine FnP.enter func8 ntmps8 rfl rfl ?_
 intro c hX
 refine t3 ?_
 intro i1
 refine t5 ?_
 refine qa0 rfl (by kernel_rfl) ?_
 refine qgl (its:=[]) ?_
 refine f1 0 ?_
 refine f1 1 ?_
 refine qkf 2 rfl (by kernel_rfl) (qac call18 (SizeC_ok _) ⟨qar,trivial⟩) ?_
 refine f1 3 ?_
 refine f1 4 ?_
 (refine JF_tx 5 [0,1,2,3,4,5] rfl (by kernel_rfl) (fun c'=>by exact qym call17 (zdl (nC z.size) _ hn hll.1) ⟨qar,⟨qar,trivial⟩⟩) ?_;intro x10 hx10)
 refine f1 6 ?_
 refine qeq (by kernel_rfl) rfl ?_
 show JQ _ _ _ _ _ _
 refine t2 ?_
 obtain ⟨hx1,hx2⟩:=hx10
 refine qa8 hX (v:=slV (nC z.size) x10.2.1) qae ?_
 refine qbq (b:=x10.1) (As':=[qal tPg x10.2.2.pages,Is (.int .i64 (96+(nC z.size:Int))),Top,Top,Top,Top,Top]) qae qba ?_
 refine qd2 (b:=x10.1) hX qae ?_
 refine qb0 4 (qdo [qal tPg x10.2.2.pages,Is (.int .i64 (96+(nC z.size:Int))),Top,Top,Top,Top,Top]) rfl (SubL.fact qbp) ?_
 refine qa0 rfl (by kernel_rfl) ?_
 refine qgl (its:=[]) ?_
 refine f1 0 ?_
 refine f1 1 ?_
 refine f1 2 ?_
 refine f1 3 ?_
 refine f1 4 ?_
 refine f1 5 ?_
 refine qhq 7 rfl (by kernel_rfl) (fun _=>(qay rfl)) ?_
 refine qhq 8 rfl (by kernel_rfl) (fun _=>(by exact qn1 (er rfl))) ?_
 refine qhq 9 rfl (by kernel_rfl) (fun _=>(by exact qa1 (k:=1) (er rfl) rfl rfl rfl rfl qbo)) ?_
 refine qhq 10 rfl (by kernel_rfl) (fun _=>(by exact qbw (er rfl) rfl rfl rfl)) ?_
 (refine qy9 6 [0,1,2,3,4,5,6] rfl (by kernel_rfl) (qac call30 (zc5 (nC z.size) _ _ hn hx1 hx2 hll.2) ⟨qar,⟨qar,trivial⟩⟩) ?_;intro x17 hx17)
 refine f1 11 ?_
 refine f1 12 ?_
 refine qeq (by kernel_rfl) rfl ?_
 show JQ _ _ _ _ _ _
 refine t2 ?_
 exact qmn _ results8 (hp:=by exact hx17) (hD0:=hX.2)
theorem qrx (u:BitVec 32) (i:Nat):qk2 u i=decide (UV u / 2 ^ i % 2=1):=by
 unfold qk2
 rw [qir 32 1 (u>>>i) _ rfl,qlu]
 rfl
theorem qkv (u:BitVec 32) (i:Nat):qk2 u i=u.getLsbD i:=by
 rw [qrx,BitVec.getLsbD,Nat.testBit_eq_decide_div_mod_eq]
 unfold UV
 have e:((u.toNat:Int) / 2 ^ i % 2=1)↔(u.toNat / 2 ^ i % 2=1):=by
  rw [show ((u.toNat:Int) / 2 ^ i % 2)=((u.toNat / 2 ^ i % 2:Nat):Int) by push_cast;rfl]
  omega
 simp only [e]
theorem qvg (j i:Nat) (hj:j<32):(BitVec.ofInt 32 1<<<j).getLsbD i=decide (i=j):=by
 rw [show BitVec.ofInt 32 1=1#32 from rfl,BitVec.getLsbD_shiftLeft]
 by_cases h:i=j
 ·subst h;simp [hj]
 ·simp only [h,decide_false]
  by_cases h1:i<j
  ·simp [h1]
  ·have:i-j≠0:=by omega
   rw [BitVec.getLsbD_one]
   simp [this]
theorem bit_or (u:BitVec 32) (j i:Nat) (hj:j<32):qk2 (u|||BitVec.ofInt 32 1<<<j) i=(qk2 u i||decide (i=j)):=by
 rw [qkv,qkv,BitVec.getLsbD_or,qvg j i hj]
theorem bit_clear (u:BitVec 32) (j i:Nat) (hj:j<32) (hi:i<32):qk2 (u &&& ~~~(BitVec.ofInt 32 1<<<j)) i=(qk2 u i && !decide (i=j)):=by
 rw [qkv,qkv,BitVec.getLsbD_and,BitVec.getLsbD_not,qvg j i hj]
 simp [hi]
theorem qvy (i:Nat):∀ (q:List Nat) (u:BitVec 32),(∀ j,j∈q→j<32)→qk2 (orb u q) i=(qk2 u i||decide (i∈q))
 | [],u,_=>by simp [orb]
 | j :: q,u,h=>by
  have e:orb u (j :: q)=orb (u|||BitVec.ofInt 32 1<<<j) q:=rfl
  rw [e,qvy i q _ fun x hx=>h x (List.mem_cons_of_mem _ hx),bit_or u j i (h j (List.mem_cons_self ..))]
  by_cases h1:i=j <;> simp [h1]
def qpg (u:BitVec 32):Prop:=∀ i,qk2 u i=true→1≤i∧i≤15
theorem ql2 (u:BitVec 32):qpg u↔UV (u &&& ~~~BitVec.ofInt 32 65534)=0:=by
 rw [uv0_iff]
 constructor
 ·intro h
  apply BitVec.eq_of_getLsbD_eq
  intro i hi
  rw [BitVec.getLsbD_and,BitVec.getLsbD_not]
  simp only [hi,decide_true,Bool.true_and]
  cases hb:u.getLsbD i with
  | false=>simp
  | true =>
   have h1:=h i (by rw [qkv];exact hb)
   have h2:(BitVec.ofInt 32 65534).getLsbD i=true:=by
    have:∀ k:Fin 16,1≤k.val→(BitVec.ofInt 32 65534).getLsbD k.val=true:=by decide +kernel
    exact this ⟨i,by omega⟩ h1.1
   rw [h2];simp
 ·intro h i hb
  rw [qkv] at hb
  have hi:i<32:=BitVec.lt_of_getLsbD hb
  have h1:=congrArg (fun x:BitVec 32=>x.getLsbD i) h
  simp only [BitVec.getLsbD_and,BitVec.getLsbD_not,hi,decide_true,Bool.true_and,hb] at h1
  have h2:(BitVec.ofInt 32 65534).getLsbD i=true:=by simpa using h1
  have h3:∀ k:Fin 32,(BitVec.ofInt 32 65534).getLsbD k.val=true→1≤k.val∧k.val≤15:=by decide +kernel
  exact h3 ⟨i,hi⟩ h2
def fbL (u:BitVec 32):List Nat:=(List.range' 1 15).filter fun i=>!qk2 u i
theorem mem_fbL {u:BitVec 32} {i:Nat}:i∈fbL u↔(1≤i∧i≤15)∧qk2 u i=false:=by
 unfold fbL
 rw [List.mem_filter,List.mem_range']
 constructor
 ·rintro ⟨⟨j,h1,h2⟩,h3⟩
  exact ⟨by omega,by simpa using h3⟩
 ·rintro ⟨h1,h2⟩
  exact ⟨⟨i-1,by omega,by omega⟩,by simp [h2]⟩
theorem zak:∀ n:Fin 256,Lib.pop8 (n.val:Int)=((n.val % 2+n.val / 2 % 2+n.val / 4 % 2+n.val / 8 % 2+n.val / 16 % 2+n.val / 32 % 2+n.val / 64 % 2+n.val / 128 % 2:Nat):Int):=by decide +kernel
theorem qqy {j:Int} (h0:0≤j) (h1:j≤255):Lib.pop8 j=j % 2+j / 2 % 2+j / 4 % 2+j / 8 % 2+j / 16 % 2+j / 32 % 2+j / 64 % 2+j / 128 % 2:=by
 obtain ⟨n,rfl⟩:∃ n:Nat,j=n:=⟨j.toNat,by omega⟩
 have h:Lib.pop8 ((n:Nat):Int)=_:=zak ⟨n,by omega⟩
 rw [h]
 push_cast
 rfl
theorem qpx {α:Type} (p:α→Bool):∀ l:List α,((l.filter p).length:Int)=(l.map fun x=>if p x=true then (1:Int) else 0).sum
 | []=>rfl
 | x :: l=>by
  rw [List.filter_cons,List.map_cons,List.sum_cons,← qpx p l]
  by_cases h:p x=true
  ·rw [if_pos h,if_pos h,List.length_cons];omega
  ·rw [if_neg h,if_neg h];omega
theorem nb (x:Int) (i:Nat):(if (!decide (x / 2 ^ i % 2=1))=true then (1:Int) else 0)=1-x / 2 ^ i % 2:=by
 have h:0≤x / 2 ^ i % 2∧x / 2 ^ i % 2<2:=⟨Int.emod_nonneg _ (by decide),Int.emod_lt_of_pos _ (by decide)⟩
 by_cases h1:x / 2 ^ i % 2=1
 ·simp [h1]
 ·simp [h1];omega
theorem bl1 (x:Int):x / 2 ^ 1 % 2=x % 256 / 2 % 2:=by omega
theorem bl2 (x:Int):x / 2 ^ 2 % 2=x % 256 / 4 % 2:=by omega
theorem bl3 (x:Int):x / 2 ^ 3 % 2=x % 256 / 8 % 2:=by omega
theorem bl4 (x:Int):x / 2 ^ 4 % 2=x % 256 / 16 % 2:=by omega
theorem bl5 (x:Int):x / 2 ^ 5 % 2=x % 256 / 32 % 2:=by omega
theorem bl6 (x:Int):x / 2 ^ 6 % 2=x % 256 / 64 % 2:=by omega
theorem bl7 (x:Int):x / 2 ^ 7 % 2=x % 256 / 128 % 2:=by omega
theorem bl8 (x:Int):x / 2 ^ 8 % 2=x / 256 % 2:=by omega
theorem bl9 (x:Int):x / 2 ^ 9 % 2=x / 256 / 2 % 2:=by omega
theorem bl10 (x:Int):x / 2 ^ 10 % 2=x / 256 / 4 % 2:=by omega
theorem bl11 (x:Int):x / 2 ^ 11 % 2=x / 256 / 8 % 2:=by omega
theorem bl12 (x:Int):x / 2 ^ 12 % 2=x / 256 / 16 % 2:=by omega
theorem bl13 (x:Int):x / 2 ^ 13 % 2=x / 256 / 32 % 2:=by omega
theorem bl14 (x:Int):x / 2 ^ 14 % 2=x / 256 / 64 % 2:=by omega
theorem bl15 (x:Int):x / 2 ^ 15 % 2=x / 256 / 128 % 2:=by omega
theorem fbL_len {u:BitVec 32} (h:qpg u):((fbL u).length:Int)=15-popV u:=by
 have hb:∀ i,i<32→¬ (1≤i∧i≤15)→UV u / 2 ^ i % 2=0:=fun i h32 hi=>by
  have h1:qk2 u i=false:=Bool.eq_false_iff.2 fun e=>hi (h i e)
  rw [qrx] at h1
  have h2:=of_decide_eq_false h1
  have h3:0≤UV u / 2 ^ i % 2∧UV u / 2 ^ i % 2<2:=⟨Int.emod_nonneg _ (by decide),Int.emod_lt_of_pos _ (by decide)⟩
  omega
 have h0:=qbj u
 have hlt:UV u<65536:=by
  have e:=(ql2 u).1 h
  have h16:UV u / 65536=0:=by
   have e2:=(uv0_iff).1 e
   have e3:u>>>16=0#32:=by
    apply BitVec.eq_of_getLsbD_eq
    intro i hi
    rw [BitVec.getLsbD_ushiftRight]
    cases hb2:u.getLsbD (16+i) with
    | false=>simp
    | true=>have:=h (16+i) (by rw [qkv];exact hb2);omega
   have e4:=qlu 32 u 16
   rw [e3] at e4
   have e5:UV (0#32)=0:=rfl
   rw [e5] at e4
   exact e4.symm
  omega
 have b0:=hb 0 (by decide) (by decide)
 unfold fbL
 rw [qpx]
 simp only [qrx,nb]
 unfold popV
 have w1:UV (u>>>24)=0:=by rw [qlu];omega
 have w2:UV (u>>>16&&&BitVec.ofInt 32 255)=0:=by rw [qir 32 8 _ _ rfl,qlu];omega
 have w3:UV (u>>>8&&&BitVec.ofInt 32 255)=UV u / 256:=by rw [qir 32 8 _ _ rfl,qlu];omega
 have w4:UV (u&&&BitVec.ofInt 32 255)=UV u % 256:=by rw [qir 32 8 _ _ rfl];omega
 rw [w1,w2,w3,w4,qqy (j:=UV u / 256) (by omega) (by omega),qqy (j:=UV u % 256) (by omega) (by omega),qqy (j:=0) (by decide) (by decide)]
 have hr:List.range' 1 15=[1,2,3,4,5,6,7,8,9,10,11,12,13,14,15]:=by decide
 rw [hr]
 have b1:UV u % 256 % 2=0:=by clear hb h w1 w2 w3 w4 hr hlt h0;omega
 rw [b1]
 clear b0 b1 w1 w2 w3 w4 hb h
 generalize UV u=x at *
 have e1:=bl1 x
 have e2:=bl2 x
 have e3:=bl3 x
 have e4:=bl4 x
 have e5:=bl5 x
 have e6:=bl6 x
 have e7:=bl7 x
 have e8:=bl8 x
 have e9:=bl9 x
 have e10:=bl10 x
 have e11:=bl11 x
 have e12:=bl12 x
 have e13:=bl13 x
 have e14:=bl14 x
 have e15:=bl15 x
 simp only [List.map_cons,List.map_nil,List.sum_cons,List.sum_nil]
 rw [e1,e2,e3,e4,e5,e6,e7,e8,e9,e10,e11,e12,e13,e14,e15]
 clear e1 e2 e3 e4 e5 e6 e7 e8 e9 e10 e11 e12 e13 e14 e15 h0 hlt
 generalize x % 256 / 2 % 2=a1
 generalize x % 256 / 4 % 2=a2
 generalize x % 256 / 8 % 2=a3
 generalize x % 256 / 16 % 2=a4
 generalize x % 256 / 32 % 2=a5
 generalize x % 256 / 64 % 2=a6
 generalize x % 256 / 128 % 2=a7
 generalize x / 256 / 128 % 2=b15
 generalize x / 256 / 64 % 2=b14
 generalize x / 256 / 32 % 2=b13
 generalize x / 256 / 16 % 2=b12
 generalize x / 256 / 8 % 2=b11
 generalize x / 256 / 4 % 2=b10
 generalize x / 256 / 2 % 2=b9
 generalize x / 256 % 2=b8
 omega
theorem qmd (p:Nat→Bool) (i f:Nat):(List.range' i (f+1)).filter p=if p i=true then i :: (List.range' (i+1) f).filter p else (List.range' (i+1) f).filter p:=by
 rw [List.range'_succ,List.filter_cons]
theorem hE1_bad {ks:List Pg} {o s:Int} (hb:qe5 ks (qas s)=true) (hs:0≤s∧s≤8) (h:((qeg ks s).2.2.2 != 0)=true):hE1 ks o (qas s)=some (qeg ks s).2.2.2:=
 qxh hb hs (f:=fun e=>some e) (z:=if ((qcj (qb6 ks (qas s))).1.owner != o)=true then some 11 else none) h
theorem hE1_good {ks:List Pg} {o s:Int} (hb:qe5 ks (qas s)=true) (h:((qeg ks s).2.2.2 != 0)=false):hE1 ks o (qas s)=if (qp2 ks s).owner=o then none else some 11:=by
 obtain ⟨g1,g2,g3⟩:=qtr hb h
 unfold hE1 qp2
 rw [if_neg (by rw [g1];simp),if_neg (by rw [g2];simp),g3]
 dsimp only
 by_cases g:(qcj (qb6 ks (qas s))).1.owner=o
 ·rw [if_neg (by simpa using g),if_pos g]
 ·rw [if_pos (by simpa using g),if_neg g]
theorem hdE_eq {ks:List Pg} {o:Int}:∀ {T:List Int},(∀ s,s∈T→(0≤s∧s≤8)∧qe5 ks (qas s)=true)→hdE ks o T=(T.map qas).findSome? (hE1 ks o)
 | [],_=>rfl
 | s :: T,h=>by
  have ih:=hdE_eq (ks:=ks) (o:=o) (T:=T) (fun x hx=>h x (List.mem_cons_of_mem _ hx))
  obtain ⟨hs,hb⟩:=h s (List.mem_cons_self ..)
  rw [List.map_cons,List.findSome?_cons,← ih]
  conv=>lhs;unfold hdE
  cases hc:((qeg ks s).2.2.2 != 0) with
  | true=>rw [if_pos (by simpa using hc),hE1_bad hb hs hc]
  | false =>
   rw [if_neg (by simpa using hc),hE1_good hb hc]
   by_cases g:(qp2 ks s).owner=o
   ·rw [if_neg (by simpa using g),if_pos g]
   ·rw [if_pos g,if_neg g]
theorem hdE_none {ks:List Pg} {o:Int}:∀ {T:List Int},hdE ks o T=none→∀ s,s∈T→(qeg ks s).2.2.2=0∧(qp2 ks s).owner=o
 | [],_,s,h=>by cases h
 | x :: T,h,s,hs=>by
  unfold hdE at h
  split at h
  ·cases h
  ·rename_i h1
   split at h
   ·cases h
   ·rename_i h2
    rcases List.mem_cons.1 hs with e|e
    ·subst e;exact ⟨by simpa using h1,by simpa using h2⟩
    ·exact hdE_none h s e
theorem bit0_eq (u:BitVec 32) (k:Nat):bit0 u k = !qk2 u k:=by
 unfold bit0
 rw [qrx,qir 32 1 (u>>>k) _ rfl,qlu]
 have:UV u / 2 ^ k % 2=0∨UV u / 2 ^ k % 2=1:=by omega
 rcases this with h|h
 ·show (UV u / 2 ^ k % 2==0)=_
  rw [h];rfl
 ·show (UV u / 2 ^ k % 2==0)=_
  rw [h];rfl
theorem qxm (u:BitVec 32) (l:Int):∀ k,qiu u l k=((List.range k).filter fun i=>decide (1≤i) && !qk2 u i).map fun i:Nat=>l+(i:Int)
 | 0=>rfl
 | k+1=>by
  rw [List.range_succ,List.filter_append,List.map_append,← qxm u l k]
  conv=>lhs;unfold qiu
  rw [bit0_eq]
  by_cases h:(decide (1≤k) && !qk2 u k)=true
  ·rw [if_pos h,List.filter_cons,if_pos h];rfl
  ·rw [if_neg h,List.filter_cons,if_neg h];exact (List.append_nil _).symm
theorem free16 (u:BitVec 32) (l:Int):qiu u l 16=(fbL u).map fun i:Nat=>l+(i:Int):=by
 rw [qxm,show List.range 16=0 :: List.range' 1 15 from rfl,List.filter_cons,if_neg (by simp)]
 unfold fbL
 congr 1
theorem qp4 {α:Type} {p q:α→Bool}:∀ {l:List α},(∀ x,x∈l→p x=q x)→l.find? p=l.find? q
 | [],_=>rfl
 | a :: l,h=>by
  rw [List.find?_cons,List.find?_cons,h a (List.mem_cons_self ..),qp4 (l:=l) fun x hx=>h x (List.mem_cons_of_mem _ hx)]
def Told (ks:List Pg) (s:Int):Prop:=qo8 ks s=(fbL (qp2 ks s).used).map (fun i:Nat=>qas s+(i:Int))∧qpg (qp2 ks s).used
theorem src_eq {ks:List Pg} {cnt:Nat} {S:List Int} (h:∀ s,s∈S→Told ks s):qzf ks (cnt:Int) S=(srcV ks cnt S).flatMap (qo8 ks):=by
 have e:(S.find? fun s=>decide (((qo8 ks s).length:Int)≥(cnt:Int)))=S.find? fun s=>decide (vacV (qp2 ks s)≥(cnt:Int)):=qp4 fun s hs=>by
  obtain ⟨h1,h2⟩:=h s hs
  rw [h1,List.length_map,fbL_len h2]
  rfl
 unfold qzf srcV
 rw [e]
 cases S.find? fun s=>decide (vacV (qp2 ks s)≥(cnt:Int)) with
 | some s=>exact (List.append_nil _).symm
 | none=>rfl
@[reducible] def stP (ks:List Pg) (ps:Pk):List Int×List Int:=(qi6 ks ps,qpw ps)
theorem qxt {ks:List Pg} {cnt:Int} {ls:List Int} {st:List Int×List Int} (h:¬ (st.2.length:Int)<cnt):chR ks cnt ls st = .ok st:=by
 cases ls with
 | nil=>rfl
 | cons l r=>unfold chR;rw [if_neg (by simpa using h)]
theorem gen_le (x:BitVec 64):qm3 x≤16777215:=by rw [qxj];omega
theorem ck_unk {ks:List Pg} {l:Int} {st:List Int×List Int} (hb:qe5 ks l=false):chE ks l=none∧qg0 ks st l=(st.1++[l],st.2++[l])∧pkV ks l=0:=by
 unfold chE qg0 pkV
 rw [hb]
 exact ⟨rfl,rfl,rfl⟩
theorem ck_lock {ks:List Pg} {l:Int} (hb:qe5 ks l=true) (h1:qeo (qb6 ks l)=true):chE ks l=some 3∧pkV ks l=3:=by
 unfold chE pkV
 rw [hb,h1]
 exact ⟨rfl,rfl⟩
theorem ck_kind {ks:List Pg} {l:Int} (hb:qe5 ks l=true) (h1:¬ qeo (qb6 ks l)=true) (h2:¬ qh1 (qb6 ks l).d0=0):chE ks l=some 11∧pkV ks l=11:=by
 unfold chE pkV
 have h1':qeo (qb6 ks l)=false:=by simpa using h1
 rw [hb,h1']
 exact ⟨by rw [if_neg (by decide),if_neg (by decide),if_pos (by simpa using h2)],by rw [if_pos rfl,if_neg (by decide),if_pos h2]⟩
theorem ck_max {ks:List Pg} {l:Int} {st:List Int×List Int} (hb:qe5 ks l=true) (h1:¬ qeo (qb6 ks l)=true) (h2:qh1 (qb6 ks l).d0=0) (h3:qm3 (qb6 ks l).d0=16777215):chE ks l=none∧qg0 ks st l=st∧pkV ks l = -1:=by
 have h1':qeo (qb6 ks l)=false:=by simpa using h1
 unfold chE qg0 pkV
 rw [hb,h1',h2,h3]
 exact ⟨rfl,rfl,rfl⟩
theorem ck_ok {ks:List Pg} {l:Int} {st:List Int×List Int} (hb:qe5 ks l=true) (h1:¬ qeo (qb6 ks l)=true) (h2:qh1 (qb6 ks l).d0=0) (h3:¬ qm3 (qb6 ks l).d0=16777215):chE ks l=none∧qg0 ks st l=(st.1,st.2++[l])∧pkV ks l=0:=by
 have h1':qeo (qb6 ks l)=false:=by simpa using h1
 have h4:=gen_le (qb6 ks l).d0
 unfold chE qg0 pkV
 rw [hb,h1',h2]
 exact ⟨rfl,by rw [if_neg (by decide),if_pos (decide_eq_true (by omega))],by rw [if_pos rfl,if_neg (by decide),if_neg (by decide),if_neg h3]⟩
theorem bit_new {u:BitVec 32} {q:List Nat} {i:Nat} (h:∀ j,j∈q→j<i) (hi:i≤32):qk2 (orb u q) i=qk2 u i:=by
 rw [qvy i q u fun j hj=>by have:=h j hj;omega,decide_eq_false (fun hm=>by have:=h i hm;omega),Bool.or_false]
theorem qru {ks:List Pg} {s:Int} {cnt:Nat} {u:BitVec 32} {R:List Int} {ps:Pk}:∀ (f i:Nat) (q:List Nat),i+f=16→(∀ j,j∈q→j<i) →
  chR ks (cnt:Int) (((List.range' i f).filter fun k=>!qk2 u k).map (fun k:Nat=>qas s+(k:Int))++R) (stP ks (ps++[(s,q)])) =
   (match inn ks s cnt f i (quy ps+q.length) (orb u q) q with
    | .error e=>.error e
    | .ok q'=>chR ks (cnt:Int) R (stP ks (ps++[(s,q')])))
 | 0,i,q,_,_=>rfl
 | f+1,i,q,hf,hq=>by
  have hlen:(stP ks (ps++[(s,q)])).2.length=quy ps+q.length:=by show (qpw (ps++[(s,q)])).length=_;rw [qvm,qv7]
  by_cases hc:quy ps+q.length<cnt
  ·have hlt:decide (((stP ks (ps++[(s,q)])).2.length:Int)<(cnt:Int))=true:=decide_eq_true (by rw [hlen];omega)
   rw [qmd]
   conv=>rhs;unfold inn
   rw [if_pos hc,bit_new hq (by omega)]
   cases hbit:qk2 u i with
   | true =>
    rw [if_neg (by simp),if_pos rfl]
    exact qru f (i+1) q (by omega) fun j hj=>by have:=hq j hj;omega
   | false =>
    rw [if_pos (by simp),if_neg (by simp),List.map_cons,List.cons_append]
    conv=>lhs;unfold chR
    rw [if_pos hlt]
    have ihs:=qru (ks:=ks) (s:=s) (cnt:=cnt) (u:=u) (R:=R) (ps:=ps) f (i+1) q (by omega) (fun j hj=>by have:=hq j hj;omega)
    have iht:=qru (ks:=ks) (s:=s) (cnt:=cnt) (u:=u) (R:=R) (ps:=ps) f (i+1) (q++[i]) (by omega) (fun j hj=>by
     rcases List.mem_append.1 hj with h|h
     ·have:=hq j h;omega
     ·have:=List.mem_singleton.1 h;omega)
    rw [orb_snoc,List.length_append,List.length_singleton,← Nat.add_assoc] at iht
    obtain ⟨l,hl⟩:∃ l,qas s+(i:Int)=l:=⟨_,rfl⟩
    rw [hl]
    cases hb:qe5 ks l with
    | false =>
     obtain ⟨c1,c2,c3⟩:=ck_unk (st:=stP ks (ps++[(s,q)])) hb
     rw [c1,c3,if_neg (by decide),if_pos rfl,← iht]
     dsimp only
     rw [c2,show stP ks (ps++[(s,q++[i])])=((stP ks (ps++[(s,q)])).1++[l],(stP ks (ps++[(s,q)])).2++[l]) by
      show (qi6 ks _,qpw _)=_
      rw [qyp (by rw [hl];exact hb),qhz,hl]]
    | true =>
     by_cases h1:qeo (qb6 ks l)=true
     ·obtain ⟨c1,c3⟩:=ck_lock hb h1
      rw [c1,c3,if_neg (by decide),if_neg (by decide)]
     ·by_cases h2:qh1 (qb6 ks l).d0=0
      ·by_cases h3:qm3 (qb6 ks l).d0=16777215
       ·obtain ⟨c1,c2,c3⟩:=ck_max (st:=stP ks (ps++[(s,q)])) hb h1 h2 h3
        rw [c1,c3,if_pos rfl]
        dsimp only
        rw [c2]
        exact ihs
       ·obtain ⟨c1,c2,c3⟩:=ck_ok (st:=stP ks (ps++[(s,q)])) hb h1 h2 h3
        rw [c1,c3,if_neg (by decide),if_pos rfl,← iht]
        dsimp only
        rw [c2,show stP ks (ps++[(s,q++[i])])=((stP ks (ps++[(s,q)])).1,(stP ks (ps++[(s,q)])).2++[l]) by
         show (qi6 ks _,qpw _)=_
         rw [qyo (by rw [hl];exact hb),qhz,hl]]
      ·obtain ⟨c1,c3⟩:=ck_kind hb h1 h2
       rw [c1,c3,if_neg (by decide),if_neg (by decide)]
  ·have hnl:¬ ((stP ks (ps++[(s,q)])).2.length:Int)<(cnt:Int):=by rw [hlen];omega
   rw [qxt hnl]
   conv=>rhs;unfold inn
   rw [if_neg hc]
   dsimp only
   rw [qxt hnl]
theorem chR_out {ks:List Pg} {cnt:Nat}:∀ (ss:List Int) (ps:Pk),(∀ s,s∈ss→Told ks s) →
  chR ks (cnt:Int) (ss.flatMap (qo8 ks)) (stP ks ps)=(match outS ks cnt ss (quy ps) ps with|.error e=>.error e|.ok ps'=>.ok (stP ks ps'))
 | [],ps,_=>rfl
 | s :: ss,ps,h=>by
  rw [List.flatMap_cons,(h s (List.mem_cons_self ..)).1,show stP ks ps=stP ks (ps++[(s,[])]) by show (qi6 ks ps,qpw ps)=(qi6 ks _,qpw _);rw [need_nil,qrh]]
  unfold fbL
  rw [qru 15 1 [] rfl (fun j hj=>by cases hj)]
  conv=>rhs;unfold outS
  rw [show inn ks s cnt 15 1 (quy ps+([]:List Nat).length) (orb (qp2 ks s).used []) []=inn ks s cnt 15 1 (quy ps) (qp2 ks s).used [] from rfl]
  cases inn ks s cnt 15 1 (quy ps) (qp2 ks s).used [] with
  | error e=>rfl
  | ok q =>
   dsimp only
   rw [chR_out ss (ps++[(s,q)]) fun x hx=>h x (List.mem_cons_of_mem _ hx),qv7]
end Go.Proofs.YtmgoplaamlignaaGreat
