/- Walks of functions and plain laws, laid together. Own work. -/
import Derived.Test.YteafmggidjjdgaaGreatDoorK15
namespace Go.Proofs.YteafmggidjjdgaaGreatDoor
open Go.RowKit Tryz
set_option linter.unusedVariables false
set_option linter.unusedSimpArgs false
set_option maxRecDepth 100000
set_option maxHeartbeats 4000000
theorem acc_ne {q:Int} (h:0<=q):0<=q.tmod 2∧q.tmod 2<=1:=by
 rw [Int.tmod_eq_emod_of_nonneg h];omega
theorem zgm (b n:Nat) (s:Option Addr×Nat) (lines:Int) (x:Hs) (cl:Int) (pr:List St29) (hn:8<=n∧n<=200) (hH:x.pages.length=n) (hln:LnI x.pages) (hsq:0<=x.seq∧x.seq<=100000) (htb:x.table.length<=8000) (hpl:pr.length<=1) (hkd:∀ s,s∈pr->1<=s.kind∧s.kind<=4) :
  FnX prog 43 [Is (.pointer (some ⟨b,0,none⟩)),Ii cl,qad tSt29 pr] [blk b 41 [Is (slV n s),Ii lines,Ii x.seq,qad tRw x.table,Ii x.cur.phase,Ii x.cur.level,Is (.int .u32 (UV x.cur.key))],buf (slV n s) 50 tPg x.pages]
  (fun i:List Pg×Int×List Rw×Int=>(i.1.length=n∧LnI i.1)∧(0<=i.2.1∧i.2.1<=x.seq+1)∧i.2.2.1.length<=x.table.length+1) (fun i=>Ii i.2.2.2) (fun i=>[blk b 41 [Is (slV n s),Ii lines,Ii (i.2.1),qad tRw (i.2.2.1),Ii x.cur.phase,Ii x.cur.level,Is (.int .u32 (UV x.cur.key))],buf (slV n s) 50 tPg (i.1)]):=by
 refine Fn.enterB func43 ntmps43 rfl rfl ?_;intro c hX hbelow;refine t6 ?_;refine Z5 ?_;refine qaj 14 kr ?_;refine t12 ?_;refine Z4 ?_;refine ⟨rfl,?_⟩;intro i7;refine qda ?_;refine t8 ?_;refine qdo 3 qaw ?_;refine qax [(0,_),(2,_),(6,_),(7,_)] [blk b _ _,buf (slV n s) _ _ _] (fun y:Nat×(List Int)×Int×Int×Int×(Option Addr×Nat)=>y.1<=(pr).length∧((∀ a,a∈y.2.1->a≠3)∧y.2.1.length<=y.1)) (fun y=>[(8,Ii (y.1:Nat))]) (fun y=>[blk i7 188 [Ii y.2.2.1,Ii y.2.2.2.1,Ii y.2.2.2.2.1,qad tSt29 pr,Is (slV (y.2.1).length y.2.2.2.2.2),Ib false,Is (.int .u64 0),Is (.int .u64 0),Is (.int .u64 0),Is (.int .u64 0),Is (.int .u64 0),Is (.int .u64 0)],buf (slV (y.2.1).length y.2.2.2.2.2) 3 qaw (y.2.1)]) (fun y=>(pr).length-y.1) (0,[],_,_,_,(none,0)) ?_ qag qab ?_
 ·exact ⟨by exact nZ _,⟨fun a h=>absurd h List.not_mem_nil,Nat.le_refl 0⟩⟩
 rintro ⟨k,ac,j1,j2,j3,v_0⟩ ⟨hk,hI⟩;dsimp only at hk hI ⊢;refine t9 ?_;refine cN ?_ ?_<;>intro h3
 ·have hlt:k<(pr).length:=by have:=of_decide_eq_true h3;omega
  clear h3;obtain ⟨z,hz⟩:∃ q,(pr)[k]?=some q:=⟨_,gE hlt⟩
  obtain ⟨hI1,hIl⟩:=hI;have hkz:=hkd z (List.mem_of_getElem? hz);refine t5 ?_;obtain ⟨av,hav⟩:∃ a:Int,1+x.seq.tmod 2=a:=⟨_,rfl⟩
  have hq2:=acc_ne hsq.1;have hav3:av≠3:=om;have hrr:∀ a,a∈ac++[av]->a≠3:=fun a ha=>by
   rcases List.mem_append.1 ha with ha|ha
   ·exact hI1 a ha
   ·rw [List.mem_singleton] at ha;subst ha;exact hav3
  refine t6 ?_;refine qao rfl (qms (er rfl) (er rfl) (r:=av) (by have hq2:=acc_ne hsq.1;rw [qqq om];exact hav)) ?_;refine t22 ?_;refine cN ?_ ?_<;>intro h6
  ·exact absurd h6 (by simp;omega)
  refine t6 ?_;refine Z1 ?_;(refine qc6 rfl (qca (er rfl) (fun _=>qaf) (by exact er rfl) (by exact qfz rfl rfl rfl) qcn) ?_;intro i53);refine t10 ?_;refine qaa (k+1,_,_,_,_,_) ?_ ?_ qag qab
  ·exact ⟨om,⟨hrr,by simp;omega⟩⟩
  ·omega
 have hke:k=(pr).length:=by have:=of_decide_eq_false h3;omega
 clear h3;subst hke;refine t6 ?_;refine Z6 ?_;refine f1 4 ?_;refine qnh 6 rfl kr (fun _=>(qcc rfl qbx rfl)) ?_;(refine zb8 5 [0,1,2,3,4,5] rfl kr (by ((refine qc4 (by (try simp only [List.append_eq,List.nil_append,List.cons_append]);exact qe1) call98 (zgn (⟨j1,j2,j3,pr,ac,false,0#64,0#64,0#64,0#64,0#64,0#64⟩:J31) x.pages ?_ rfl ?_ ?_ ?_) ⟨qap,⟨qap,trivial⟩⟩ (qnx));all_goals (first|omega|exact hI.1))) ?_;intro x60 hx60);(refine qe4 10 6 kr rfl rfl ?_;intro i10);refine qdw 7 [0,1,2,3,4,5,6,7] rfl kr (fun c'=>by exact qat (er rfl) (er rfl) qas qaf rf rf rf) ?_;refine Z36 ?_;show JQ _ _ _ _ _ _;refine t10 ?_;refine cN ?_ ?_<;>intro h10
 ·refine t10 ?_;refine qai (Bs:=[_]) (_,_,_,_) ?_ rfl results43 eXF qab (hD0:=hX.2);exact ⟨⟨hH,hln⟩,⟨hsq.1,(show x.seq<=x.seq+1 by omega)⟩,Nat.le_succ _⟩
 refine t19 ?_;(refine qc6 rfl (qb3 qam qam call49 (qi6 b n s _ _ _ _ _ _ x.pages x60.1 hH hn.2 hx60.2) ⟨qap,⟨qap,trivial⟩⟩) ?_;intro i78);refine t10 ?_;refine qao rfl (by ((refine qac call99 (Apply_ok x.table pr ?_ ?_) ⟨qap,⟨qap,trivial⟩⟩);all_goals (first|omega|(simp;done)|(simp;omega)|(refine nT (qae _ _) ?_;omega)|(refine nT (qae _ _) (nT (Nat.add_le_add_right (qae _ _) _) ?_);omega)))) ?_;(refine qbj 86 rfl ?_;intro x86 hx86);refine t16 ?_;refine qai (Bs:=[_]) (_,_,_,_) ?_ rfl results43 eXF qab (hD0:=hX.2);exact ⟨⟨by rw [ql1];exact hH,qp5 _ hln⟩,⟨(show 0<=x.seq+1 by have:=hsq.1;omega),Int.le_refl _⟩,nT hx86 (show x.table.length+pr.length<=x.table.length+1 by omega)⟩
theorem KeyH_ok (k:Int):FnP prog 8 [Ii k] (VEx fun r:BitVec 32=>Is (.int .u32 (UV r))):=by
 refine FnP.enter func8 ntmps8 rfl rfl ?_;intro c hX;refine t9 ?_;refine qao rfl (by ((refine qac call7 (qd0 _ _ ?_ ?_) ⟨qap,⟨qap,trivial⟩⟩);all_goals (first|omega|(simp;done)|(simp;omega)|(refine nT (qae _ _) ?_;omega)|(refine nT (qae _ _) (nT (Nat.add_le_add_right (qae _ _) _) ?_);omega)))) ?_;refine t3 ?_;refine cN ?_ ?_<;>intro h1
 ·refine t3 ?_;refine qao rfl (by ((refine qac call7 (qd0 _ _ ?_ ?_) ⟨qap,⟨qap,trivial⟩⟩);all_goals (first|omega|(simp;done)|(simp;omega)|(refine nT (qae _ _) ?_;omega)|(refine nT (qae _ _) (nT (Nat.add_le_add_right (qae _ _) _) ?_);omega)))) ?_;refine t7 ?_;exact qd4 (Bs:=[_]) _ rfl results8 eXF (List.nil_sublist _) (hD0:=hX.2)
 refine t5 ?_;refine qao rfl (by ((refine qac call7 (qd0 _ _ ?_ ?_) ⟨qap,⟨qap,trivial⟩⟩);all_goals (first|omega|(simp;done)|(simp;omega)|(refine nT (qae _ _) ?_;omega)|(refine nT (qae _ _) (nT (Nat.add_le_add_right (qae _ _) _) ?_);omega)))) ?_;refine t6 ?_;exact qd4 (Bs:=[_]) _ rfl results8 eXF (List.nil_sublist _) (hD0:=hX.2)
theorem qtq (a:Acn):FnP prog 42 [IsAct a] (qfc (fun r:St29=>1<=r.kind∧r.kind<=4) fun r=>qqj r):=by
 refine FnP.enter func42 ntmps42 rfl rfl ?_;intro c hX;refine t3 ?_;intro i1;refine s1 ?_;intro i2;refine t6 ?_;refine kRF call8 (KeyH_ok _) ?_;(refine qh0 6 rfl ?_;intro x6);refine t2 ?_;intro i3;refine t8 ?_;refine qao rfl (by ((refine qac call7 (qd0 _ _ ?_ ?_) ⟨qap,⟨qap,trivial⟩⟩);all_goals (first|omega|(simp;done)|(simp;omega)|(refine nT (qae _ _) ?_;omega)|(refine nT (qae _ _) (nT (Nat.add_le_add_right (qae _ _) _) ?_);omega)))) ?_;refine t10 ?_;refine qbw [(1,_),(2,_),(3,_),(10,_)] [blk i3 _ _,blk i2 _ _,blk i1 _ _] (fun yc:Bool=>True) (fun yc=>[(12,Ib yc)]) (fun yc=>[]) qag qab ?_ ?_
 rotate_left
 focus
  refine cN ?_ ?_<;>intro h4
  ·exact Z16
  refine t6 ?_;refine cN ?_ ?_<;>intro h5
  ·exact Z16
  refine t6 ?_;refine cN ?_ ?_<;>intro h6
  ·exact Z16
  refine t6 ?_;refine cN ?_ ?_<;>intro h7
  ·exact Z16
  refine t6 ?_;refine cN ?_ ?_<;>intro h8
  ·exact Z16
  refine t6 ?_;refine cN ?_ ?_<;>intro h9
  ·exact Z16
  refine t4 ?_;exact qal _ (trivial) qag qab
 rintro bb _;refine cN ?_ ?_<;>intro h4b
 ·refine t13 ?_;refine qao rfl (qd1 (size:=1) (qs:=[(0,_),(1,_),(2,_)]) rfl rfl rfl rfl ⟨⟨rfl,_,(er rfl),qas⟩,⟨⟨rfl,_,(er rfl),qas⟩,⟨⟨rfl,_,(er rfl),qas⟩,trivial⟩⟩⟩ rf qbx) ?_;refine t12 ?_;exact rXF (⟨_,_,_,_,_,_,_,_,(⟨_,_,_⟩:Co),_⟩:St29) results42 (hp:=by exact ⟨Int.le_refl 1,(by decide:(1:Int)<=4)⟩) (hD0:=hX.2)
 refine t6 ?_;refine cN ?_ ?_<;>intro h13
 ·refine qec (b:=i1) hX qaf ?_;refine qbl 1 (IsRef (tAct.cells a)) rfl (SubL.fact qba) ?_;refine Z61 ?_;refine qes 2 rfl kr (by ((refine qac call7 (qd0 _ _ ?_ ?_) ⟨qap,⟨qap,trivial⟩⟩);all_goals (first|omega|(simp;done)|(simp;omega)|(refine nT (qae _ _) ?_;omega)|(refine nT (qae _ _) (nT (Nat.add_le_add_right (qae _ _) _) ?_);omega)))) ?_;refine qd6 3 rfl kr (fun _=>(by exact qa0 (k:=3) (er rfl) rfl rfl rfl rfl qbx)) ?_;refine qd6 4 rfl kr (fun _=>(by exact qcj (er rfl) rfl rfl rfl)) ?_;refine f1 5 ?_;refine qdw 6 [0,1,2,5,6] rfl kr (fun c'=>by exact qat (er rfl) (er rfl) qas qaf rf rf rf) ?_;refine f1 7 ?_;refine qdw 8 [0,1,2,5,6,7,8] rfl kr (fun c'=>by exact qat (er rfl) (er rfl) qas qaf rf rf rf) ?_;refine f1 9 ?_;refine qdw 10 [0,1,2,3,4,5,6,7,8,9,10] rfl kr (fun c'=>by exact qat (er rfl) (er rfl) qas qaf rf rf rf) ?_;refine Z36 ?_;show JQ _ _ _ _ _ _;refine t9 ?_;exact rXF (⟨_,_,_,_,_,_,_,_,(⟨_,_,_⟩:Co),_⟩:St29) results42 (hp:=by exact ⟨(by decide:(1:Int)<=2),(by decide:(2:Int)<=4)⟩) (hD0:=hX.2)
 refine t6 ?_;refine cN ?_ ?_<;>intro h15
 ·refine qec (b:=i1) hX qaf ?_;refine qbl 1 (IsRef (tAct.cells a)) rfl (SubL.fact qba) ?_;refine Z61 ?_;refine qes 2 rfl kr (by ((refine qac call7 (qd0 _ _ ?_ ?_) ⟨qap,⟨qap,trivial⟩⟩);all_goals (first|omega|(simp;done)|(simp;omega)|(refine nT (qae _ _) ?_;omega)|(refine nT (qae _ _) (nT (Nat.add_le_add_right (qae _ _) _) ?_);omega)))) ?_;refine f1 3 ?_;refine f1 4 ?_;refine qes 5 rfl kr (by ((refine qac call7 (qd0 _ _ ?_ ?_) ⟨qap,⟨qap,trivial⟩⟩);all_goals (first|omega|(simp;done)|(simp;omega)|(refine nT (qae _ _) ?_;omega)|(refine nT (qae _ _) (nT (Nat.add_le_add_right (qae _ _) _) ?_);omega)))) ?_;refine f1 6 ?_;refine qdw 7 [0,1,2,3,4,5,6,7] rfl kr (fun c'=>by exact qat (er rfl) (er rfl) qas qaf rf rf rf) ?_;refine f1 8 ?_;refine qdw 9 [0,1,2,3,4,5,6,7,8,9] rfl kr (fun c'=>by exact qat (er rfl) (er rfl) qas qaf rf rf rf) ?_;refine f1 10 ?_;refine qdw 11 [0,1,2,3,4,5,6,7,8,9,10,11] rfl kr (fun c'=>by exact qat (er rfl) (er rfl) qas qaf rf rf rf) ?_;refine Z36 ?_;show JQ _ _ _ _ _ _;refine t9 ?_;exact rXF (⟨_,_,_,_,_,_,_,_,(⟨_,_,_⟩:Co),_⟩:St29) results42 (hp:=by exact ⟨(by decide:(1:Int)<=3),(by decide:(3:Int)<=4)⟩) (hD0:=hX.2)
 refine t13 ?_;exact rXF (⟨_,_,_,_,_,_,_,_,(⟨_,_,_⟩:Co),_⟩:St29) results42 (hp:=by exact ⟨(by decide:(1:Int)<=4),Int.le_refl 4⟩) (hD0:=hX.2)
theorem DoH_ok (b n:Nat) (s:Option Addr×Nat) (lines:Int) (x:Hs) (a:Acn) (hn:8<=n∧n<=200) (hH:x.pages.length=n) (hln:LnI x.pages) (hsq:0<=x.seq∧x.seq<=90000) (htb:x.table.length<=7000) :
  FnX prog 19 [Is (.pointer (some ⟨b,0,none⟩)),IsAct a] [blk b 41 [Is (slV n s),Ii lines,Ii x.seq,qad tRw x.table,Ii x.cur.phase,Ii x.cur.level,Is (.int .u32 (UV x.cur.key))],buf (slV n s) 50 tPg x.pages]
  (fun i:Hs=>(i.pages.length=n∧LnI i.pages)∧(0<=i.seq∧i.seq<=x.seq+2)∧i.table.length<=x.table.length+2) (fun i=>qbs []) (fun i=>[blk b 41 [Is (slV n s),Ii lines,Ii i.seq,qad tRw i.table,Ii i.cur.phase,Ii i.cur.level,Is (.int .u32 (UV i.cur.key))],buf (slV n s) 50 tPg i.pages]):=by
 refine Fn.enterB func19 ntmps19 rfl rfl ?_;intro c hX hbelow;refine t3 ?_;intro i3;refine t6 ?_;refine qao rfl (by ((refine qac call7 (qd0 _ _ ?_ ?_) ⟨qap,⟨qap,trivial⟩⟩);all_goals (first|omega|(simp;done)|(simp;omega)|(refine nT (qae _ _) ?_;omega)|(refine nT (qae _ _) (nT (Nat.add_le_add_right (qae _ _) _) ?_);omega)))) ?_;refine t7 ?_;refine qao rfl (by ((refine qac call7 (qd0 _ _ ?_ ?_) ⟨qap,⟨qap,trivial⟩⟩);all_goals (first|omega|(simp;done)|(simp;omega)|(refine nT (qae _ _) ?_;omega)|(refine nT (qae _ _) (nT (Nat.add_le_add_right (qae _ _) _) ?_);omega)))) ?_;refine t4 ?_;obtain ⟨cl,hcl⟩:=xE (a.client % 3);have hcl6:0<=cl∧cl<6:=om;refine qbl 4 (Ii cl) rfl (SubL.eq (by rw [hcl])) ?_;refine t12 ?_;refine qbw [(0,_),(3,_),(4,_),(15,_)] [blk i3 _ _,blk b _ _,buf (slV n s) _ _ _] (fun yc:Bool=>True) (fun yc=>[(16,Ib yc)]) (fun yc=>[]) qag qab ?_ ?_
 rotate_left
 focus
  refine cN ?_ ?_<;>intro h4
  ·exact Z16
  refine t6 ?_;refine cN ?_ ?_<;>intro h5
  ·exact Z16
  refine t6 ?_;refine cN ?_ ?_<;>intro h6
  ·exact Z16
  refine t6 ?_;refine cN ?_ ?_<;>intro h7
  ·exact Z16
  refine t6 ?_;refine cN ?_ ?_<;>intro h8
  ·exact Z16
  refine t6 ?_;refine cN ?_ ?_<;>intro h9
  ·exact Z16
  refine t6 ?_;refine cN ?_ ?_<;>intro h10
  ·exact Z16
  refine t6 ?_;refine cN ?_ ?_<;>intro h11
  ·exact Z16
  refine t6 ?_;refine cN ?_ ?_<;>intro h12
  ·exact Z16
  refine t6 ?_;refine cN ?_ ?_<;>intro h13
  ·exact Z16
  refine t4 ?_;exact qal _ (trivial) qag qab
 rintro bb _;refine cN ?_ ?_<;>intro h4b
 ·refine t3 ?_;refine kRF call42 (qtq a) ?_;(refine qbj 29 rfl ?_;intro x29 hx29);refine qao rfl (OpP.to (qa1 (size:=12) (qs:=[(0,_)]) rfl rfl rfl ⟨⟨rfl,_,(er rfl),qas⟩,trivial⟩ rf rf) (SubL.row1 (T:=tSt29) (x:=(⟨_,_,_,_,_,_,_,_,(⟨_,_,_⟩:Co),_⟩:St29)) rf rf rf qav)) ?_;refine t4 ?_;have hst:∀ s,s∈[x29]->1<=s.kind∧s.kind<=4:=fun s hs=>by
   rw [List.mem_singleton] at hs;subst hs;exact hx29
  refine t4 ?_;(refine qd5 rfl (by ((refine qds qam qam call43 (zgm b n s lines x _ _ hn hH hln ⟨hsq.1,om⟩ ?_ ?_ ?_) ⟨qap,⟨qap,⟨qap,trivial⟩⟩⟩);all_goals (first|omega|exact Nat.le_refl 1))) ?_;intro x34 hx34);refine t3 ?_;obtain ⟨⟨hr1,hr2⟩,⟨hr3,hr4⟩,hr5⟩:=hx34;refine cN ?_ ?_<;>intro h16
  ·refine t4 ?_;(refine qd5 rfl (qds qam qam call44 (zan b n s lines ⟨x34.1,x34.2.1,x34.2.2.1,x.cur⟩ cl hcl6 hn hr1 hr2) ⟨qap,⟨qap,trivial⟩⟩) ?_;intro x38 hx38);refine t6 ?_;(refine qd5 rfl (by ((refine qds qam qam call43 (zgm b n s lines ⟨x38,x34.2.1,x34.2.2.1,x.cur⟩ _ _ hn hx38.1 hx38.2 ⟨hr3,Int.le_trans hr4 ?_⟩ ?_ ?_ ?_) ⟨qap,⟨qap,⟨qap,trivial⟩⟩⟩);all_goals (first|omega|exact nT hr5 om|exact Nat.le_refl 1))) ?_;intro x42 hx42);refine t3 ?_;obtain ⟨⟨hw1,hw2⟩,⟨hw3,hw4⟩,hw5⟩:=hx42;refine qai (Bs:=[]) (⟨_,_,_,(⟨_,_,_⟩:Cu)⟩:Hs) ?_ rfl results19 trivial qab (hD0:=hX.2);exact by exact ⟨⟨hw1,hw2⟩,⟨hw3,Int.le_trans hw4 (show x34.2.1+1<=x.seq+2 by omega)⟩,nT hw5 (show x34.2.2.1.length+1<=x.table.length+2 by omega)⟩
  refine t3 ?_;refine qai (Bs:=[]) (⟨_,_,_,(⟨_,_,_⟩:Cu)⟩:Hs) ?_ rfl results19 trivial qab (hD0:=hX.2);exact by exact ⟨⟨hr1,hr2⟩,⟨hr3,Int.le_trans hr4 (show x.seq+1<=x.seq+2 by omega)⟩,nT hr5 (show x.table.length+1<=x.table.length+2 by omega)⟩
 refine t6 ?_;refine cN ?_ ?_<;>intro h19
 ·refine t6 ?_;refine qax [(0,_),(3,_),(4,_)] [blk i3 _ _] (fun y:Int×(List Pg)×Cu=>(0<=y.1∧y.1<=31)∧y.2.1.length=n∧LnI y.2.1) (fun y=>[(7,Ii y.1)]) (fun y=>[blk b 41 [Is (slV n s),Ii lines,Ii x.seq,qad tRw x.table,Ii ((y.2.2).phase),Ii ((y.2.2).level),Is (.int .u32 (UV (y.2.2).key))],buf (slV n s) 50 tPg (y.2.1)]) (fun y=>(31-y.1).toNat) (0,x.pages,x.cur) ?_ qag qab ?_
  ·exact (⟨⟨Int.le_refl 0,(by decide:(0:Int)<=31)⟩,hH,hln⟩)
  rintro ⟨k,H,cu⟩ hI;dsimp only at hI ⊢;refine t6 ?_;refine qao rfl (by ((refine qac call7 (qd0 _ _ ?_ ?_) ⟨qap,⟨qap,trivial⟩⟩);all_goals (first|omega|(simp;done)|(simp;omega)|(refine nT (qae _ _) ?_;omega)|(refine nT (qae _ _) (nT (Nat.add_le_add_right (qae _ _) _) ?_);omega)))) ?_;refine t4 ?_;refine cN ?_ ?_<;>intro h21
  ·have hk30:k<1+a.n % 30:=of_decide_eq_true h21;obtain ⟨⟨hk0,hk31⟩,hH2,hln2⟩:=hI;refine t7 ?_;(refine qd5 rfl (qds qam qam call45 (zgl b n s lines ⟨H,x.seq,x.table,cu⟩ cl hcl6 hn hH2 hln2) ⟨qap,⟨qap,trivial⟩⟩) ?_;intro x55 hx55);refine t8 ?_;refine qaa (_,_,(⟨_,_,_⟩:Cu)) ?_ ?_ qag qab
   ·exact ⟨⟨om,om⟩,hx55⟩
   ·(show (31-(k+1)).toNat<(31-k).toNat;omega)
  refine t6 ?_;refine qai (Bs:=[]) (⟨H,x.seq,x.table,cu⟩:Hs) ?_ rfl results19 trivial qab (hD0:=hX.2);exact ⟨hI.2,⟨hsq.1,(show x.seq<=x.seq+2 by omega)⟩,Nat.le_add_right _ _⟩
 refine t6 ?_;refine cN ?_ ?_<;>intro h24
 ·refine t4 ?_;refine qao rfl (by ((refine qac call7 (qd0 _ _ ?_ ?_) ⟨qap,⟨qap,trivial⟩⟩);all_goals (first|omega|(simp;done)|(simp;omega)|(refine nT (qae _ _) ?_;omega)|(refine nT (qae _ _) (nT (Nat.add_le_add_right (qae _ _) _) ?_);omega)))) ?_;refine t3 ?_;(refine qd5 rfl (by ((refine qds qam qam call46 (qkk b n s lines x (⟨_,_,_,_,_,[]⟩:Ep26) rfl ?_ hn hH hln) ⟨qap,⟨qap,trivial⟩⟩);all_goals (intro h5;exact absurd (show 1+a.n % 2=5 from h5) om))) ?_;intro x65 hx65);refine t3 ?_;refine qai (Bs:=[]) (⟨x65.1,x.seq,x.table,x.cur⟩:Hs) ?_ rfl results19 trivial qab (hD0:=hX.2);exact ⟨⟨hx65.1,hx65.2.1⟩,⟨hsq.1,(show x.seq<=x.seq+2 by omega)⟩,Nat.le_add_right _ _⟩
 refine t6 ?_;refine cN ?_ ?_<;>intro h26
 ·refine t3 ?_;(refine qd5 rfl (by ((refine qds qam qam call46 (qkk b n s lines x (⟨3,_,_,_,_,[]⟩:Ep26) rfl (fun h=>absurd (show (3:Int)=5 from h) ?_) hn hH hln) ⟨qap,⟨qap,trivial⟩⟩);all_goals (decide))) ?_;intro x70 hx70);refine t3 ?_;refine qai (Bs:=[]) (⟨x70.1,x.seq,x.table,x.cur⟩:Hs) ?_ rfl results19 trivial qab (hD0:=hX.2);exact ⟨⟨hx70.1,hx70.2.1⟩,⟨hsq.1,(show x.seq<=x.seq+2 by omega)⟩,Nat.le_add_right _ _⟩
 refine t6 ?_;refine cN ?_ ?_<;>intro h28
 ·refine t3 ?_;(refine qd5 rfl (qds qam qam call47 (qqm b n s lines x cl hcl6 hn hH hln) ⟨qap,⟨qap,trivial⟩⟩) ?_;intro x75 hx75);refine t3 ?_;refine qai (Bs:=[]) (⟨x75,x.seq,x.table,x.cur⟩:Hs) ?_ rfl results19 trivial qab (hD0:=hX.2);exact ⟨hx75,⟨hsq.1,(show x.seq<=x.seq+2 by omega)⟩,Nat.le_add_right _ _⟩
 refine t6 ?_;refine cN ?_ ?_<;>intro h30
 ·refine s1 ?_;refine Z6 ?_;refine f1 4 ?_;refine f1 5 ?_;refine f1 6 ?_;refine qes 7 rfl kr (by ((refine qac call7 (qd0 _ _ ?_ ?_) ⟨qap,⟨qap,trivial⟩⟩);all_goals (first|omega|(simp;done)|(simp;omega)|(refine nT (qae _ _) ?_;omega)|(refine nT (qae _ _) (nT (Nat.add_le_add_right (qae _ _) _) ?_);omega)))) ?_;refine qes 8 rfl kr (qlk (er rfl) (er rfl) qjq) ?_;refine f1 9 ?_;refine f1 10 ?_;refine f1 11 ?_;refine f1 12 ?_;refine qnh 14 rfl kr (fun _=>(qcc rfl qbx rfl)) ?_;(refine zb8 13 [0,1,2,3,4,5,6,7,8,9,10,11,12,13] rfl kr (by ((refine qc4 (by (try simp only [List.append_eq,List.nil_append,List.cons_append]);exact qe1) call48 (zg9 x.pages _ _ _ _ ?_) ⟨qap,⟨qap,⟨qap,⟨qap,⟨qap,trivial⟩⟩⟩⟩⟩ (qvg));all_goals (first|omega|(simp;done)|(simp;omega)|(refine nT (qae _ _) ?_;omega)|(refine nT (qae _ _) (nT (Nat.add_le_add_right (qae _ _) _) ?_);omega)))) ?_;intro x91 hx91);(refine qe4 8 14 kr rfl rfl ?_;intro i8);refine qdw 15 [0,1,2,3,4,5,6,7,8,9,10,11,12,13,14,15] rfl kr (fun c'=>by exact qat (er rfl) (er rfl) qas qaf rf rf rf) ?_;refine Z36 ?_;show JQ _ _ _ _ _ _;refine t8 ?_;refine cN ?_ ?_<;>intro h32
  ·refine t4 ?_;(refine qc6 rfl (qb3 qam qam call49 (qi6 b n s _ _ _ _ _ _ x.pages x91.writes hH hn.2 hx91.2) ⟨qap,⟨qap,trivial⟩⟩) ?_;intro i98);refine t3 ?_;refine qai (Bs:=[]) (⟨x91.writes.foldl qo1 x.pages,x.seq,x.table,x.cur⟩:Hs) ?_ rfl results19 trivial qab (hD0:=hX.2);exact ⟨⟨(show (x91.writes.foldl qo1 x.pages).length=n by rw [ql1];exact hH),qp5 _ hln⟩,⟨hsq.1,(show x.seq<=x.seq+2 by omega)⟩,Nat.le_add_right _ _⟩
  refine t3 ?_;refine qai (Bs:=[]) (⟨_,_,_,(⟨_,_,_⟩:Cu)⟩:Hs) ?_ rfl results19 trivial qab (hD0:=hX.2);exact by exact ⟨⟨hH,hln⟩,⟨hsq.1,(show x.seq<=x.seq+2 by omega)⟩,Nat.le_add_right _ _⟩
 refine t3 ?_;refine qai (Bs:=[]) (⟨_,_,_,(⟨_,_,_⟩:Cu)⟩:Hs) ?_ rfl results19 trivial qab (hD0:=hX.2);exact by exact ⟨⟨hH,hln⟩,⟨hsq.1,(show x.seq<=x.seq+2 by omega)⟩,Nat.le_add_right _ _⟩
theorem zem:∀ n:Nat,LnI (za8 n)
 | 0=>fun i p h=>by simp [za8] at h
 | n+1=>fun i p h=>by
  unfold za8 at h;rcases Nat.lt_or_ge i n with hi|hi
  ·rw [List.getElem?_append_left (by rw [qkw];exact hi)] at h;exact zem n i p h
  ·rw [List.getElem?_append_right (by rw [qkw];exact hi),qkw] at h;have h1:=(List.getElem?_eq_some_iff.1 h).1;simp at h1;have:i=n:=om;subst this;simp at h;subst h;rfl
theorem BuildH_ok (n:Nat) (l:List Acn) (hn:8<=n∧n<=200) (hl:l.length<=1000):FnX prog 4 [Ii (96+(n:Int)),qad tAct l] []
  (fun i:Nat×(Option Addr×Nat)×Hs=>i.2.2.pages.length=n∧LnI i.2.2.pages) (fun i=>Is (.pointer (some ⟨i.1,0,none⟩))) (fun i=>[blk (i.1) 41 [Is (slV n (i.2.1)),Ii (96+(n:Int)),Ii i.2.2.seq,qad tRw i.2.2.table,Ii i.2.2.cur.phase,Ii i.2.2.cur.level,Is (.int .u32 (UV i.2.2.cur.key))],buf (slV n (i.2.1)) 50 tPg i.2.2.pages]):=by
 refine Fn.enterB func4 ntmps4 rfl rfl ?_;intro c hX hbelow;refine t8 ?_;(refine qc6 rfl (qsp call18 (New_ok n hn.2) ⟨qap,trivial⟩) ?_;intro i8);refine t5 ?_;obtain ⟨b,s⟩:=i8;dsimp only;refine qbv (b:=b) (As':=[Is (slV n s),Ii (96+(n:Int)),Ii 0,qad tRw [],Ii 1,Ii 0,Is (.int .u32 (UV 1#32))]) qaf qbo ?_;refine t5 ?_;refine qax [(1,_),(4,_),(5,_)] [] (fun y:Nat×Hs=>y.1<=(l).length∧((y.2.pages.length=n∧LnI y.2.pages)∧(0<=y.2.seq∧y.2.seq<=2*(y.1:Int))∧y.2.table.length<=2*y.1)) (fun y=>[(6,Ii (y.1:Nat))]) (fun y=>[blk b 41 [Is (slV n s),Ii (96+(n:Int)),Ii y.2.seq,qad tRw y.2.table,Ii y.2.cur.phase,Ii y.2.cur.level,Is (.int .u32 (UV y.2.cur.key))],buf (slV n s) 50 tPg y.2.pages]) (fun y=>(l).length-y.1) (0,⟨za8 n,0,[],⟨1,0,1#32⟩⟩) ?_ qag qab ?_
 ·exact ⟨by exact nZ _,⟨⟨qkw n,zem n⟩,⟨Int.le_refl 0,Int.le_refl 0⟩,Nat.le_refl 0⟩⟩
 rintro ⟨k,x⟩ ⟨hk,hI⟩;dsimp only at hk hI ⊢;refine t9 ?_;refine cN ?_ ?_<;>intro h3
 ·have hlt:k<(l).length:=by have:=of_decide_eq_true h3;omega
  clear h3;obtain ⟨z,hz⟩:∃ q,(l)[k]?=some q:=⟨_,gE hlt⟩
  obtain ⟨⟨hp1,hp2⟩,⟨hp3,hp4⟩,hp5⟩:=hI;refine t10 ?_;(refine qd5 rfl (by ((refine qds qam qam call19 (DoH_ok b n s (96+(n:Int)) x z hn hp1 hp2 ⟨hp3,om⟩ ?_) ⟨qap,⟨qap,trivial⟩⟩);all_goals (first|omega|(simp;done)|(simp;omega)|(refine nT (qae _ _) ?_;omega)|(refine nT (qae _ _) (nT (Nat.add_le_add_right (qae _ _) _) ?_);omega)))) ?_;intro x20 hx20);refine t8 ?_;refine qaa (k+1,(⟨_,_,_,(⟨_,_,_⟩:Cu)⟩:Hs)) ?_ ?_ qag qab
  ·exact ⟨om,⟨hx20.1,⟨hx20.2.1.1,Int.le_trans hx20.2.1.2 (show x.seq+2<=2*((k+1:Nat):Int) by omega)⟩,nT hx20.2.2 (show x.table.length+2<=2*(k+1) by omega)⟩⟩
  ·omega
 have hke:k=(l).length:=by have:=of_decide_eq_false h3;omega
 clear h3;subst hke;refine t12 ?_;refine qai (Bs:=[_]) (b,s,x) ?_ rfl results4 eXF qab (hD0:=hX.2);exact hI.1
structure Pq where
 kind:Int
 line:Int
 word:Int
 w:BitVec 64
def tPq:Ty Pq:=⟨4,fun a=>[Ii a.kind,Ii a.line,Ii a.word,Iw a.w],fun _=>rfl⟩
theorem qmg (p:Pg) (j:Nat) (x:BitVec 64):(p.setd j x).l=p.l:=by
 unfold Pg.setd;split <;> rfl
theorem qgy {H:List Pg} {k:Nat} {p q:Pg} (h:LnI H) (hp:H[k]?=some p) (hq:q.l=p.l):LnI (H.set k q):=fun i r hr=>by
 rcases Nat.lt_or_ge k H.length with hk|hk
 ·by_cases hi:k=i
  ·subst hi;rw [List.getElem?_set_self hk] at hr;cases hr;rw [hq];exact h _ _ hp
  ·rw [List.getElem?_set_ne hi] at hr;exact h i r hr
 ·rw [List.set_eq_of_length_le hk] at hr;exact h i r hr
theorem zeq (a:Int) {m:Int} (hm:0<m):∃ j:Nat,a % m=j∧(j:Int)<m:=
 ⟨(a % m).toNat,by have:=Int.emod_nonneg a (show m≠0 by omega);omega,by have:=Int.emod_nonneg a (show m≠0 by omega);have:=Int.emod_lt_of_pos a hm;omega⟩
section
variable {P:Program} {ops:Array Oper} {Q:Exit->Go.Act->World->Prop} {c:Ctx} {N:Nat} {rest:List Oper} {E:Env} {L:List Item}
theorem JL_mod {q:IntKind} {a m:Int} (t:Nat) (hl:look E t=some (Is (.int q (a % m)))) (hm:0<m) (h:∀ j:Nat,(j:Int)<m->JL P ops Q c N rest ((t,Is (.int q (j:Int)))::E) L):JL P ops Q c N rest E L:=by
 obtain ⟨j,h1,h2⟩:=zeq a hm;exact qln t (Is (.int q (j:Int))) hl (SubL.eq (by rw [h1])) (h j h2)
theorem JC_mod {q:IntKind} {a m:Int} {x:Code} (t:Nat) (hl:look E t=some (Is (.int q (a % m)))) (hm:0<m) (h:∀ j:Nat,(j:Int)<m->JC P c N x ((t,Is (.int q (j:Int)))::E) L Q):JC P c N x E L Q:=by
 obtain ⟨j,h1,h2⟩:=zeq a hm;exact qbl t (Is (.int q (j:Int))) hl (SubL.eq (by rw [h1])) (h j h2)
end
theorem SpoilH_ok (n:Nat) (H0:List Pg) (l:List Pq) (hn:8<=n∧n<=200) (hH0:H0.length=n) (hln0:LnI H0) (hl:l.length<=1000):FnP prog 6 [qad tPg H0,qad tPq l] (qfc (fun r:List Pg=>r.length=n∧LnI r) fun r=>qad tPg r):=by
 refine FnP.enter func6 ntmps6 rfl rfl ?_;intro c hX;refine t7 ?_;(refine JL_n rfl (qb4 tPg rfl rfl) ?_;intro i10);refine s1 ?_;(refine qc6 rfl (qca (er rfl) (fun _=>qaf) qap (by exact qfz rfl rfl rfl) qcn) ?_;intro i12);refine t5 ?_;rw [show ([]++H0:List Pg).length=n by rw [List.nil_append];exact hH0];refine t5 ?_;refine qax [(1,_),(4,_),(5,_)] [] (fun y:Nat×(List Pg)=>y.1<=(l).length∧(y.2.length=n∧LnI y.2)) (fun y=>[(6,Ii (y.1:Nat))]) (fun y=>[buf (slV n i12) 50 tPg y.2]) (fun y=>(l).length-y.1) (0,([]++H0)) ?_ qag qab ?_
 ·exact ⟨by exact nZ _,⟨hH0,hln0⟩⟩
 rintro ⟨k,H⟩ ⟨hk,hI⟩;dsimp only at hk hI ⊢;refine t9 ?_;refine cN ?_ ?_<;>intro h3
 ·have hlt:k<(l).length:=by have:=of_decide_eq_true h3;omega
  clear h3;obtain ⟨z,hz⟩:∃ q,(l)[k]?=some q:=⟨_,gE hlt⟩
  obtain ⟨hHn,hLn⟩:=hI;refine t13 ?_;refine qao rfl (by ((refine qac call7 (qd0 _ _ ?_ ?_) ⟨qap,⟨qap,trivial⟩⟩);all_goals (first|omega|(simp;done)|(simp;omega)|(refine nT (qae _ _) ?_;omega)|(refine nT (qae _ _) (nT (Nat.add_le_add_right (qae _ _) _) ?_);omega)))) ?_;refine t4 ?_;refine JC_mod (m:=(n:Int)) 7 rfl om (fun kk hkk=>?_);obtain ⟨p,hp⟩:∃ p,H[kk]?=some p:=⟨_,gE om⟩
  have hof:∀ ww:Nat,kk*tPg.size+2+ww*1=kk*tPg.size+(2+ww):=fun ww=>by rw [Nat.mul_one,Nat.add_assoc]
  refine t6 ?_;refine qao rfl (by ((refine qac call7 (qd0 _ _ ?_ ?_) ⟨qap,⟨qap,trivial⟩⟩);all_goals (first|omega|(simp;done)|(simp;omega)|(refine nT (qae _ _) ?_;omega)|(refine nT (qae _ _) (nT (Nat.add_le_add_right (qae _ _) _) ?_);omega)))) ?_;refine t4 ?_;refine JC_mod (m:=7) 8 rfl om (fun ww hw7'=>?_);have hw7:ww<7:=om;replace hof:=hof ww;obtain ⟨dx,hdx⟩:=qvp p hw7;refine t11 ?_;refine qao rfl (by ((refine qac call7 (qd0 _ _ ?_ ?_) ⟨qap,⟨qap,trivial⟩⟩);all_goals (first|omega|(simp;done)|(simp;omega)|(refine nT (qae _ _) ?_;omega)|(refine nT (qae _ _) (nT (Nat.add_le_add_right (qae _ _) _) ?_);omega)))) ?_;(refine JL_mod (m:=(n:Int)) 43 rfl om (fun jj hjj=>?_));obtain ⟨q,hq⟩:∃ q,H[jj]?=some q:=⟨_,gE om⟩;obtain ⟨dy,hdy⟩:=qvp q hw7;refine qao rfl (by exact qay (k:=jj) (er rfl) qba (er rfl) rfl rfl qdh qcn) ?_;refine qao rfl (by exact qb6 (er rfl) qba hq rfl rfl rfl) ?_;refine s1 ?_;intro i9;refine t10 ?_;refine qao rfl (by ((refine qac call7 (qd0 _ _ ?_ ?_) ⟨qap,⟨qap,trivial⟩⟩);all_goals (first|omega|(simp;done)|(simp;omega)|(refine nT (qae _ _) ?_;omega)|(refine nT (qae _ _) (nT (Nat.add_le_add_right (qae _ _) _) ?_);omega)))) ?_;refine t9 ?_;refine cN ?_ ?_<;>intro h9
  ·refine Z5 ?_;refine qdn [0,0,0,0,0,1,1,1,1,1,1,2] kr kr ?_;refine Z8 ?_;refine Z8 ?_;refine qhc (qeq rfl) ?_;refine qfq (by exact qak (j:=_) (er rfl) (er rfl) rfl rfl rf hz) ?_;refine Z49 ?_;refine qfq (by exact qay (k:=kk) (er rfl) qba (er rfl) rfl rfl qdh qcn) ?_;refine Z30 ?_;refine qfq (qc0 (k:=ww) (sz:=1) (er rfl) qba qcn (er rfl) rfl rfl qdh om) ?_;refine qwj (qby (T:=tPg) (m:=1) (Bs:=[Iw z.w]) (z':=p.setd ww z.w) (k:=kk) (o:=2+ww) (Ev.sub rfl (SubL.eq (congrArg Is (congrArg (bpt _) hof)))) qap qas qaf hp rfl (qtj (k:=0) (j:=ww) om) (qhe p _ hw7)) ?_;refine Z72 ?_;refine qaa (k+1,_) ?_ ?_ qag qab
   ·exact ⟨om,by exact ⟨by rw [List.length_set];exact hHn,qgy hLn hp (qmg _ _ _)⟩⟩
   ·omega
  refine t6 ?_;refine cN ?_ ?_<;>intro h11
  ·obtain ⟨sh,hsh⟩:∃ q:Nat,(UV z.w).tmod 64=(q:Int):=⟨z.w.toNat % 64,by show ((z.w.toNat:Nat):Int).tmod 64=_;rw [Int.tmod_eq_emod_of_nonneg om];omega⟩
   refine Z5 ?_;refine qdn [0,0,0,1,1,1,1,0,0,1,1,1,0,0,0,1,1,1,2] kr kr ?_;refine Z8 ?_;refine qhc (qeq rfl) ?_;refine qfq (by exact qay (k:=kk) (er rfl) qba (er rfl) rfl rfl qdh qcn) ?_;refine Z30 ?_;refine qfq (qc0 (k:=ww) (sz:=1) (er rfl) qba qcn (er rfl) rfl rfl qdh om) ?_;refine qfq (qep (T:=tPg) (k:=kk) (j:=2+ww) (Ev.sub rfl (SubL.eq (congrArg Is (congrArg (bpt _) hof)))) qba hp rfl rfl hdx) ?_;refine Z8 ?_;refine qfq (by exact qak (j:=_) (er rfl) (er rfl) rfl rfl rf hz) ?_;refine Z49 ?_;refine qhc (qiv (er rfl) (er rfl) om hsh) ?_;refine qhc (by exact qeg (k:=sh) qhh (er rfl) om qdh) ?_;refine qhc (by exact qex qhh qhh (by simp) (qwn _ _)) ?_;refine qfq (by exact qay (k:=kk) (er rfl) qba (er rfl) rfl rfl qdh qcn) ?_;refine Z30 ?_;refine qfq (qc0 (k:=ww) (sz:=1) (er rfl) qba qcn (er rfl) rfl rfl qdh om) ?_;refine qwj (qby (T:=tPg) (m:=1) (Bs:=[Iw (dx ^^^ _)]) (z':=p.setd ww (dx ^^^ _)) (k:=kk) (o:=2+ww) (Ev.sub rfl (SubL.eq (congrArg Is (congrArg (bpt _) hof)))) qap qas qaf hp rfl (qtj (k:=0) (j:=ww) om) (qhe p _ hw7)) ?_;refine Z72 ?_;refine qaa (k+1,_) ?_ ?_ qag qab
   ·exact ⟨om,by exact ⟨by rw [List.length_set];exact hHn,qgy hLn hp (qmg _ _ _)⟩⟩
   ·omega
  refine t7 ?_;refine cN ?_ ?_<;>intro h13
  ·refine t2 ?_;refine cN ?_ ?_<;>intro h13
   ·refine Z5 ?_;refine qdn [0,0,0,0,1,1,1,0,0,0,0,1,1,1,0,0,1,1,2] kr kr ?_;refine Z8 ?_;refine Z8 ?_;refine qfq (by exact qay (k:=kk) (er rfl) qba (er rfl) rfl rfl qdh qcn) ?_;refine Z66 ?_;refine qfq (by exact qep (er rfl) qba hp rfl rfl rf) ?_;refine qhc (qiw (er rfl) (er rfl) om qjq) ?_;refine qhc (by exact qun (er rfl) (er rfl) qjq) ?_;refine Z8 ?_;refine qfq (by exact qak (j:=_) (er rfl) (er rfl) rfl rfl rf hz) ?_;refine Z49 ?_;refine qhc (qiv (er rfl) (er rfl) om rfl) ?_;refine qhc (qms (er rfl) (er rfl) (qk6 (wrr _)).symm) ?_;refine qfq (by exact qay (k:=kk) (er rfl) qba (er rfl) rfl rfl qdh qcn) ?_;refine Z66 ?_;refine qwj (by exact qby (z':={ p with h:=BitVec.ofInt 64 _ }) (er rfl) (er rfl) qas qaf hp rfl rf rf) ?_;refine Z72 ?_;refine qaa (k+1,_) ?_ ?_ qag qab
    ·exact ⟨om,by exact ⟨by rw [List.length_set];exact hHn,qgy hLn hp rfl⟩⟩
    ·omega
   refine t6 ?_;refine cN ?_ ?_<;>intro h16
   ·refine t3 ?_;refine qao rfl (by exact qbe (k:=2) (er rfl) rfl rfl rfl rfl) ?_;refine s1 ?_;refine qao rfl (by exact qay (k:=kk) (er rfl) qba (er rfl) rfl rfl qdh qcn) ?_;refine Z88 ?_;refine qjw (by exact qby (z':=(⟨p.l,p.h,q.d0,q.d1,q.d2,q.d3,q.d4,q.d5,q.d6⟩:Pg)) (er rfl) (er rfl) qas qaf hp rfl rf rf) ?_;refine t9 ?_;refine qaa (k+1,_) ?_ ?_ qag qab
    ·exact ⟨om,by exact ⟨by rw [List.length_set];exact hHn,qgy hLn hp rfl⟩⟩
    ·omega
   refine t6 ?_;refine cN ?_ ?_<;>intro h18
   ·refine Z5 ?_;refine qdn [0,0,0,0,1,1,1,1,1,1,2] kr kr ?_;refine Z8 ?_;refine Z8 ?_;refine Z107 ?_;refine qfq (qah (k:=ww) (sz:=1) (er rfl) (er rfl) rfl rfl qdh om) ?_;refine qfq (qc8 (o:=2+ww) (Ev.sub rfl (SubL.eq (congrArg Is (congrArg (fun o=>Value.pointer (some ⟨_,o,none⟩)) (show 2+ww*1=2+ww by omega))))) qba rfl rfl hdy) ?_;refine qfq (by exact qay (k:=kk) (er rfl) qba (er rfl) rfl rfl qdh qcn) ?_;refine Z30 ?_;refine qfq (qc0 (k:=ww) (sz:=1) (er rfl) qba qcn (er rfl) rfl rfl qdh om) ?_;refine qwj (qby (T:=tPg) (m:=1) (Bs:=[Iw dy]) (z':=p.setd ww dy) (k:=kk) (o:=2+ww) (Ev.sub rfl (SubL.eq (congrArg Is (congrArg (bpt _) hof)))) qap qas qaf hp rfl (qtj (k:=0) (j:=ww) om) (qhe p _ hw7)) ?_;refine Z72 ?_;refine qaa (k+1,_) ?_ ?_ qag qab
    ·exact ⟨om,by exact ⟨by rw [List.length_set];exact hHn,qgy hLn hp (qmg _ _ _)⟩⟩
    ·omega
   refine t6 ?_;refine cN ?_ ?_<;>intro h20
   ·refine t3 ?_;refine Z87 ?_;refine qao rfl (by exact qay (k:=kk) (er rfl) qba (er rfl) rfl rfl qdh qcn) ?_;refine Z88 ?_;refine qjw (by exact qby (z':=(⟨p.l,p.h,0#64,0#64,0#64,0#64,0#64,0#64,0#64⟩:Pg)) (er rfl) (er rfl) qas qaf hp rfl rf rf) ?_;refine t9 ?_;refine qaa (k+1,_) ?_ ?_ qag qab
    ·exact ⟨om,by exact ⟨by rw [List.length_set];exact hHn,qgy hLn hp rfl⟩⟩
    ·omega
   refine t6 ?_;refine cN ?_ ?_<;>intro h22
   ·refine Z5 ?_;refine qdn [0,0,1,1,1,1,0,1,1,1,2] kr kr ?_;refine Z8 ?_;refine qfq (by exact qay (k:=kk) (er rfl) qba (er rfl) rfl rfl qdh qcn) ?_;refine Z30 ?_;refine qfq (qc0 (k:=0) (sz:=1) (er rfl) qba qcn (er rfl) rfl rfl qdh om) ?_;refine qfq (by exact qep (er rfl) qba hp rfl rfl rf) ?_;refine qhc (by exact qfo qhh qhh (qqb _ _ _)) ?_;refine qfq (by exact qay (k:=kk) (er rfl) qba (er rfl) rfl rfl qdh qcn) ?_;refine Z30 ?_;refine qfq (qc0 (k:=0) (sz:=1) (er rfl) qba qcn (er rfl) rfl rfl qdh om) ?_;refine qwj (by exact qby (z':=(⟨p.l,p.h,p.d0+256#64,p.d1,p.d2,p.d3,p.d4,p.d5,p.d6⟩:Pg)) (er rfl) (er rfl) qas qaf hp rfl rf rf) ?_;refine Z72 ?_;refine qaa (k+1,_) ?_ ?_ qag qab
    ·exact ⟨om,by exact ⟨by rw [List.length_set];exact hHn,qgy hLn hp rfl⟩⟩
    ·omega
   refine t9 ?_;refine qaa (k+1,_) ?_ ?_ qag qab
   ·exact ⟨om,by exact ⟨hHn,hLn⟩⟩
   ·omega
  refine t5 ?_;refine cN ?_ ?_<;>intro h14
  ·refine Z5 ?_;refine qdn [0,0,0,0,1,1,1,0,0,0,0,1,1,1,0,0,1,1,2] kr kr ?_;refine Z8 ?_;refine Z8 ?_;refine qfq (by exact qay (k:=kk) (er rfl) qba (er rfl) rfl rfl qdh qcn) ?_;refine Z66 ?_;refine qfq (by exact qep (er rfl) qba hp rfl rfl rf) ?_;refine qhc (qiw (er rfl) (er rfl) om qjq) ?_;refine qhc (by exact qun (er rfl) (er rfl) qjq) ?_;refine Z8 ?_;refine qfq (by exact qak (j:=_) (er rfl) (er rfl) rfl rfl rf hz) ?_;refine Z49 ?_;refine qhc (qiv (er rfl) (er rfl) om rfl) ?_;refine qhc (qms (er rfl) (er rfl) (qk6 (wrr _)).symm) ?_;refine qfq (by exact qay (k:=kk) (er rfl) qba (er rfl) rfl rfl qdh qcn) ?_;refine Z66 ?_;refine qwj (by exact qby (z':={ p with h:=BitVec.ofInt 64 _ }) (er rfl) (er rfl) qas qaf hp rfl rf rf) ?_;refine Z72 ?_;refine qaa (k+1,_) ?_ ?_ qag qab
   ·exact ⟨om,by exact ⟨by rw [List.length_set];exact hHn,qgy hLn hp rfl⟩⟩
   ·omega
  refine t6 ?_;refine cN ?_ ?_<;>intro h16
  ·refine t3 ?_;refine qao rfl (by exact qbe (k:=2) (er rfl) rfl rfl rfl rfl) ?_;refine s1 ?_;refine qao rfl (by exact qay (k:=kk) (er rfl) qba (er rfl) rfl rfl qdh qcn) ?_;refine Z88 ?_;refine qjw (by exact qby (z':=(⟨p.l,p.h,q.d0,q.d1,q.d2,q.d3,q.d4,q.d5,q.d6⟩:Pg)) (er rfl) (er rfl) qas qaf hp rfl rf rf) ?_;refine t9 ?_;refine qaa (k+1,_) ?_ ?_ qag qab
   ·exact ⟨om,by exact ⟨by rw [List.length_set];exact hHn,qgy hLn hp rfl⟩⟩
   ·omega
  refine t6 ?_;refine cN ?_ ?_<;>intro h18
  ·refine Z5 ?_;refine qdn [0,0,0,0,1,1,1,1,1,1,2] kr kr ?_;refine Z8 ?_;refine Z8 ?_;refine Z107 ?_;refine qfq (qah (k:=ww) (sz:=1) (er rfl) (er rfl) rfl rfl qdh om) ?_;refine qfq (qc8 (o:=2+ww) (Ev.sub rfl (SubL.eq (congrArg Is (congrArg (fun o=>Value.pointer (some ⟨_,o,none⟩)) (show 2+ww*1=2+ww by omega))))) qba rfl rfl hdy) ?_;refine qfq (by exact qay (k:=kk) (er rfl) qba (er rfl) rfl rfl qdh qcn) ?_;refine Z30 ?_;refine qfq (qc0 (k:=ww) (sz:=1) (er rfl) qba qcn (er rfl) rfl rfl qdh om) ?_;refine qwj (qby (T:=tPg) (m:=1) (Bs:=[Iw dy]) (z':=p.setd ww dy) (k:=kk) (o:=2+ww) (Ev.sub rfl (SubL.eq (congrArg Is (congrArg (bpt _) hof)))) qap qas qaf hp rfl (qtj (k:=0) (j:=ww) om) (qhe p _ hw7)) ?_;refine Z72 ?_;refine qaa (k+1,_) ?_ ?_ qag qab
   ·exact ⟨om,by exact ⟨by rw [List.length_set];exact hHn,qgy hLn hp (qmg _ _ _)⟩⟩
   ·omega
  refine t6 ?_;refine cN ?_ ?_<;>intro h20
  ·refine t3 ?_;refine Z87 ?_;refine qao rfl (by exact qay (k:=kk) (er rfl) qba (er rfl) rfl rfl qdh qcn) ?_;refine Z88 ?_;refine qjw (by exact qby (z':=(⟨p.l,p.h,0#64,0#64,0#64,0#64,0#64,0#64,0#64⟩:Pg)) (er rfl) (er rfl) qas qaf hp rfl rf rf) ?_;refine t9 ?_;refine qaa (k+1,_) ?_ ?_ qag qab
   ·exact ⟨om,by exact ⟨by rw [List.length_set];exact hHn,qgy hLn hp rfl⟩⟩
   ·omega
  refine t6 ?_;refine cN ?_ ?_<;>intro h22
  ·refine Z5 ?_;refine qdn [0,0,1,1,1,1,0,1,1,1,2] kr kr ?_;refine Z8 ?_;refine qfq (by exact qay (k:=kk) (er rfl) qba (er rfl) rfl rfl qdh qcn) ?_;refine Z30 ?_;refine qfq (qc0 (k:=0) (sz:=1) (er rfl) qba qcn (er rfl) rfl rfl qdh om) ?_;refine qfq (by exact qep (er rfl) qba hp rfl rfl rf) ?_;refine qhc (by exact qfo qhh qhh (qqb _ _ _)) ?_;refine qfq (by exact qay (k:=kk) (er rfl) qba (er rfl) rfl rfl qdh qcn) ?_;refine Z30 ?_;refine qfq (qc0 (k:=0) (sz:=1) (er rfl) qba qcn (er rfl) rfl rfl qdh om) ?_;refine qwj (by exact qby (z':=(⟨p.l,p.h,p.d0+256#64,p.d1,p.d2,p.d3,p.d4,p.d5,p.d6⟩:Pg)) (er rfl) (er rfl) qas qaf hp rfl rf rf) ?_;refine Z72 ?_;refine qaa (k+1,_) ?_ ?_ qag qab
   ·exact ⟨om,by exact ⟨by rw [List.length_set];exact hHn,qgy hLn hp rfl⟩⟩
   ·omega
  refine t9 ?_;refine qaa (k+1,_) ?_ ?_ qag qab
  ·exact ⟨om,by exact ⟨hHn,hLn⟩⟩
  ·omega
 have hke:k=(l).length:=by have:=of_decide_eq_false h3;omega
 clear h3;subst hke;obtain ⟨hHn,hLn⟩:=hI;subst hHn;refine qa7 hX (v:=slV _ i12) qaf ?_;refine t12 ?_;exact rXF _ results6 (hp:=by exact ⟨rfl,hLn⟩) (hD0:=hX.2)
end Go.Proofs.YteafmggidjjdgaaGreatDoor
