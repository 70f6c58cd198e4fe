/- Texts laid together: walks of functions, what they compute, and plain laws of it. Own work. -/
import Derived.Test.YtmgoplaamlignaaGreatK17
import Derived.Test.YtmgoplaamlignaaGreatK1
namespace Go.Proofs.YtmgoplaamlignaaGreat
open Go.RowKit Tryz
set_option linter.unusedVariables false
set_option linter.unusedSimpArgs false
set_option maxRecDepth 100000
set_option maxHeartbeats 4000000
theorem qn2 {P:Program} {c:Ctx} {A:Nat→Option VP} {L:List Item} {d:Option Tmp} {ty:TypeId} {pos:String} {af:Array Edge} {g:Option (Nat×Bool)} {t:TypeId} {s:ByteArray} {y:Operand} {q:IntKind} {j:Int} {k:Nat} {b:UInt8} (hu:P.underlying t=some .string) (hy:Ev A L y (Is (.int q j))) (hj:j=k) (hb:s[k]?=some b) :
  OpP P c ⟨d,.index t (.const (.string s)) y,ty,pos,af,g⟩ A L (Is (.int .u8 b.toNat)):=
 opp fun φ a w hm he=>by
  have h1:a.eval y = .int q j:=he y (by simp [Op.operands]) _ hy
  refine ⟨_,?_,rfl⟩
  have h2:a.eval (.const (.string s)) = .string s:=rfl
  subst hj
  simp only [execOp,h1,h2]
  refine qcg ?_
  simp only [Instr.index,asIntOf,Sem.run_bind,Sem.run_pure,Result.andThen_ok,run_underlying hu]
  rw [if_pos (by omega)]
  simp only [Int.toNat_natCast,hb]
  rfl
theorem Len64_0:FnP Tryz.prog 121 [Is (.int .u64 0)] (Is (.int .i64 0)):=by
 refine FnP.enter func121 ntmps121 rfl rfl ?_
 intro c hX
 refine t12 ?_
 refine cN ?_ ?_ <;> intro h1
 ·exact absurd (of_decide_eq_true h1) (by omega)
 refine t9 ?_
 refine cN ?_ ?_ <;> intro h4
 ·exact absurd (of_decide_eq_true h4) (by omega)
 refine t9 ?_
 refine cN ?_ ?_ <;> intro h7
 ·exact absurd (of_decide_eq_true h7) (by omega)
 refine t7 ?_
 refine qap rfl (qn2 (k:=0) (b:=0) rfl (er rfl) rfl rfl) ?_
 refine t6 ?_
 refine qa4 results121 rfl () (SubL.eq ?_) (List.nil_sublist _)
 rfl
theorem Len_0:FnP Tryz.prog 100 [Is (.int .u64 0)] (Is (.int .i64 0)):=by
 refine FnP.enter func100 ntmps100 rfl rfl ?_
 intro c hX
 refine t6 ?_
 refine cN ?_ ?_ <;> intro h0
 ·exact absurd h0 (by simp)
 refine t5 ?_
 refine qap rfl (qac call121 (Len64_0) ⟨evS,trivial⟩) ?_
 refine t4 ?_
 refine qa4 results100 rfl () (SubL.eq ?_) (List.nil_sublist _)
 rfl
theorem Len64_1:FnP Tryz.prog 121 [Is (.int .u64 1)] (Is (.int .i64 1)):=by
 refine FnP.enter func121 ntmps121 rfl rfl ?_
 intro c hX
 refine t12 ?_
 refine cN ?_ ?_ <;> intro h1
 ·exact absurd (of_decide_eq_true h1) (by omega)
 refine t9 ?_
 refine cN ?_ ?_ <;> intro h4
 ·exact absurd (of_decide_eq_true h4) (by omega)
 refine t9 ?_
 refine cN ?_ ?_ <;> intro h7
 ·exact absurd (of_decide_eq_true h7) (by omega)
 refine t7 ?_
 refine qap rfl (qn2 (k:=1) (b:=1) rfl (er rfl) rfl rfl) ?_
 refine t6 ?_
 refine qa4 results121 rfl () (SubL.eq ?_) (List.nil_sublist _)
 rfl
theorem Len_1:FnP Tryz.prog 100 [Is (.int .u64 1)] (Is (.int .i64 1)):=by
 refine FnP.enter func100 ntmps100 rfl rfl ?_
 intro c hX
 refine t6 ?_
 refine cN ?_ ?_ <;> intro h0
 ·exact absurd h0 (by simp)
 refine t5 ?_
 refine qap rfl (qac call121 (Len64_1) ⟨evS,trivial⟩) ?_
 refine t4 ?_
 refine qa4 results100 rfl () (SubL.eq ?_) (List.nil_sublist _)
 rfl
theorem insI_ok (n:Nat) (i:Option Addr×Nat) (hn:n≤1):FnP Tryz.prog 111 [Is (slV n i),Is (.int .i64 0),Is (.int .i64 (n:Nat))] (qbv []):=by
 refine FnP.enter func111 ntmps111 rfl rfl ?_
 intro c hX
 refine t8 ?_
 refine qbr (fun _:Unit=>True) (fun _=>[(2,Is (.int .i64 (n:Nat))),(6,Is (.int .i64 1))]) (fun _=>[]) (fun _=>0) () trivial qbl qab ?_
 rintro _ _
 refine t8 ?_
 refine cN ?_ ?_ <;> intro h1
 ·exact absurd (of_decide_eq_true h1) (by omega)
 refine t5 ?_
 exact qed (Bs:=[]) results111 trivial () SubL.rfl' qab
theorem zat (n:Nat) (i:Option Addr×Nat) (hn:n≤1):FnP Tryz.prog 99 [Is (slV n i),Is (.int .i64 0),Is (.int .i64 (n:Nat)),Is (.int .i64 (n:Nat))] (qbv []):=by
 refine FnP.enter func99 ntmps99 rfl rfl ?_
 intro c hX
 refine t11 ?_
 refine qbr (fun _:Unit=>True) (fun _=>[(0,Is (slV n i)),(1,Is (.int .i64 0)),(2,Is (.int .i64 (n:Nat)))]) (fun _=>[]) (fun _=>0) () trivial qbl qab ?_
 rintro _ _
 refine t16 ?_
 refine cN ?_ ?_ <;> intro h3
 ·refine t5 ?_
  refine qap rfl (qac call111 (insI_ok n i hn) ⟨evS,⟨evS,⟨evS,trivial⟩⟩⟩) ?_
  refine t7 ?_
  exact qed (Bs:=[]) results99 trivial () SubL.rfl' qab
 exact absurd (of_decide_eq_false h3) (by omega)
theorem SortI_0 (i:Option Addr×Nat):FnP Tryz.prog 72 [Is (slV 0 i)] (qbv []):=by
 refine FnP.enter func72 ntmps72 rfl rfl ?_
 intro c hX
 refine t11 ?_
 refine qap rfl (qfd (er rfl) rfl rfl rfl) ?_
 refine qap rfl (qac call100 (Len_0) ⟨evS,trivial⟩) ?_
 refine qap rfl (by ((refine qac call99 (zat 0 i ?_) ⟨evS,⟨evS,⟨evS,⟨evS,trivial⟩⟩⟩⟩);all_goals (decide))) ?_
 refine t2 ?_
 exact qed (Bs:=[]) results72 trivial () SubL.rfl' qab
theorem SortI_1 (i:Option Addr×Nat):FnP Tryz.prog 72 [Is (slV 1 i)] (qbv []):=by
 refine FnP.enter func72 ntmps72 rfl rfl ?_
 intro c hX
 refine t11 ?_
 refine qap rfl (qfd (er rfl) rfl rfl rfl) ?_
 refine qap rfl (qac call100 (Len_1) ⟨evS,trivial⟩) ?_
 refine qap rfl (by ((refine qac call99 (zat 1 i ?_) ⟨evS,⟨evS,⟨evS,⟨evS,trivial⟩⟩⟩⟩);all_goals (decide))) ?_
 refine t2 ?_
 exact qed (Bs:=[]) results72 trivial () SubL.rfl' qab
theorem qsd (n:Nat) (i:Option Addr×Nat) (hn:n≤1):FnP Tryz.prog 72 [Is (slV n i)] (qbv []):=by
 match n,hn with
 | 0,_=>exact SortI_0 i
 | 1,_=>exact SortI_1 i
theorem qk1 (n:Nat) (i:Option Addr×Nat) (hn:n≤1):FnP Tryz.prog 73 [Is (slV n i)] (Is (slV n i)):=by
 refine FnP.enter func73 ntmps73 rfl rfl ?_
 intro c hX
 refine t13 ?_
 refine cN ?_ ?_ <;> intro h1
 ·refine t8 ?_
  exact qed (Bs:=[Is (slV n i)]) results73 eT () SubL.rfl' qab
 exact absurd (of_decide_eq_false h1) (by omega)
def qgh (xs:List Pg) (l:Int):Option Pg:=(xs.filter fun p=>decide (p.l=l)).getLast?
theorem lat_hit {xs:List Pg} {k:Nat} {l:Int} {p:Pg} (h:xs[k]?=some p) (hl:p.l=l) (hs:∀ (j:Nat) q,k<j→xs[j]?=some q→q.l≠l):qgh xs l=some p:=by
 obtain ⟨hk,rfl⟩:=List.getElem?_eq_some_iff.1 h
 have e:xs=xs.take k++(xs[k] :: xs.drop (k+1)):=by rw [List.getElem_cons_drop,List.take_append_drop]
 have e2:(xs.drop (k+1)).filter (fun p=>decide (p.l=l))=[]:=List.filter_eq_nil_iff.2 fun q hq=>by
  obtain ⟨j,hj,rfl⟩:=List.getElem_of_mem hq
  have:=hs (k+1+j) (xs.drop (k+1))[j] (by omega) (by rw [← List.getElem?_drop,List.getElem?_eq_getElem hj])
  simpa using this
 unfold qgh
 conv=>lhs;rw [e]
 rw [List.filter_append,List.filter_cons,e2]
 simp [hl]
theorem lat_none {xs:List Pg} {l:Int} (hs:∀ (j:Nat) q,xs[j]?=some q→q.l≠l):qgh xs l=none:=by
 unfold qgh
 rw [List.getLast?_eq_none_iff,List.filter_eq_nil_iff]
 intro q hq
 obtain ⟨j,hj,rfl⟩:=List.getElem_of_mem hq
 simpa using hs j _ (List.getElem?_eq_getElem hj)
theorem qh7 (xs:List Pg) (l:Int):FnP Tryz.prog 60 [qal tPg xs,Is (.int .i64 l)] (qbv [qdw ((qgh xs l).getD Pg.nil),Is (.bool (qgh xs l).isSome)]):=by
 refine FnP.enter func60 ntmps60 rfl rfl ?_
 intro c hX
 refine qgn (t:=0) rfl (fun hlen=>?_)
 refine t3 ?_
 intro i4
 refine t8 ?_
 refine qap rfl (qip (er rfl) (er rfl) rfl) ?_
 refine t4 ?_
 refine qbr (fun k:Nat=>k≤xs.length∧∀ (j:Nat) q,k≤j→xs[j]?=some q→q.l≠l) (fun k=>[(0,qal tPg xs),(1,Is (.int .i64 l)),(4,Is (.pointer (some ⟨i4,0,none⟩))),(6,Is (.int .i64 ((k:Int)-1)))]) (fun _=>[blk i4 53 (tPg.cells Pg.nil)]) (fun k=>k) xs.length ⟨Nat.le_refl _,fun j q hj hq=>absurd (List.getElem?_eq_some_iff.1 hq).1 (by omega)⟩ ⟨⟨_,rfl,SubL.rfl'⟩,⟨_,rfl,SubL.rfl'⟩,⟨_,rfl,SubL.rfl'⟩,⟨_,rfl,SubL.eq (ieq (qo3 (by omega)))⟩,trivial⟩ qab ?_
 rintro k ⟨hk,hs⟩
 refine t7 ?_
 refine cN ?_ ?_ <;> intro h2
 ·have h':0<k:=by have:=of_decide_eq_true h2;omega
  clear h2
  obtain ⟨k,rfl⟩:∃ j,k=j+1:=⟨k-1,by omega⟩
  obtain ⟨z,hz⟩:∃ z,xs[k]?=some z:=⟨xs[k],List.getElem?_eq_getElem (by omega)⟩
  refine t8 ?_
  refine qap rfl (by exact qau (j:=_) (er rfl) (er rfl) rfl rfl (by omega) hz) ?_
  refine t6 ?_
  refine cN ?_ ?_ <;> intro h4
  ·have hzl:z.l=l:=by simpa using h4
   clear h4
   have e:qgh xs l=some z:=lat_hit hz hzl fun j q hj hq=>hs j q (by omega) hq
   refine t4 ?_
   refine qap rfl (by exact qau (j:=_) (er rfl) (er rfl) rfl rfl (by omega) hz) ?_
   refine t11 ?_
   exact qaq (Bs:=[qdw z,Is (.bool true)]) results60 eT () (SubL.eq (by rw [e];rfl)) (List.nil_sublist _)
  have hzl:¬ z.l=l:=by simpa using h4
  clear h4
  refine t5 ?_
  refine qap rfl (qip (er rfl) (er rfl) rfl) ?_
  refine t2 ?_
  exact qaa k ⟨by omega,fun j q hj hq=>by
   by_cases hjk:j=k
   ·subst hjk;rw [hz] at hq;cases hq;exact hzl
   ·exact hs j q (by omega) hq⟩ (by omega) ⟨⟨_,rfl,SubL.rfl'⟩,⟨_,rfl,SubL.rfl'⟩,⟨_,rfl,SubL.rfl'⟩,⟨_,rfl,SubL.eq (ieq (by rw [qo3 (by omega)];omega))⟩,trivial⟩ qab
 have h':k=0:=by have:=of_decide_eq_false h2;omega
 subst h'
 clear h2
 have e:qgh xs l=none:=lat_none fun j q hq=>hs j q (Nat.zero_le _) hq
 refine t13 ?_
 exact qaq (Bs:=[qdw Pg.nil,Is (.bool false)]) results60 eT () (SubL.eq (by rw [e];rfl)) (List.nil_sublist _)
theorem qly (p:Pg):FnP Tryz.prog 62 [qdw p] (Is (.bool (UV (p.h&&&255#64) != 0))):=by
 refine FnP.enter func62 ntmps62 rfl rfl ?_
 intro c hX
 refine t3 ?_
 intro i1
 refine t13 ?_
 refine qa4 results62 rfl () (SubL.eq ?_) (List.nil_sublist _)
 rfl
def qdh (ks:List Pg) (ls:List Int):List Int:=ls.filter fun l=>(qgh ks l).isNone
theorem qn5 {ks:List Pg} {ls:List Int} {k:Nat} {l:Int} (h:ls[k]?=some l):qdh ks (ls.take (k+1))=if (qgh ks l).isNone=true then qdh ks (ls.take k)++[l] else qdh ks (ls.take k):=by
 unfold qdh
 rw [List.take_add_one,h,List.filter_append]
 by_cases g:(qgh ks l).isNone=true
 ·rw [if_pos g];simp [g]
 ·rw [if_neg g];simp [g]
theorem qpt (ks:List Pg) (ls:List Int) (hn:(qdh ks ls).length≤1):FnP Tryz.prog 33 [qal tPg ks,qal tI64 ls] (qal tI64 (qdh ks ls)):=by
 refine FnP.enter func33 ntmps33 rfl rfl ?_
 intro c hX
 refine qgn (t:=1) rfl (fun hlen=>?_)
 refine t12 ?_
 refine qcn 3 tI64 ?_
 refine t7 ?_
 refine qbr (fun z:Nat×(Option Addr×Nat)=>z.1≤ls.length) (fun z=>[(0,qal tPg ks),(1,qal tI64 ls),(5,Is (slV (qdh ks (ls.take z.1)).length z.2)),(10,qal tI64 ls),(11,Is (.int .i64 (ls.length:Nat))),(12,Is (.int .i64 (z.1:Nat)))]) (fun z=>[buf (slV (qdh ks (ls.take z.1)).length z.2) 3 tI64 (qdh ks (ls.take z.1))]) (fun z=>ls.length-z.1) (0,(none,0)) (Nat.zero_le _) qbl qab ?_
 rintro ⟨k,s⟩ hk
 dsimp only at hk ⊢
 refine t6 ?_
 refine cN ?_ ?_ <;> intro h3
 ·have hlt:k<ls.length:=by have:=of_decide_eq_true h3;omega
  clear h3
  obtain ⟨l,hz⟩:∃ z,ls[k]?=some z:=⟨ls[k],List.getElem?_eq_getElem hlt⟩
  have hmt:=qn5 (ks:=ks) hz
  have hml:(qdh ks (ls.take k)).length≤(qdh ks ls).length:=((List.take_sublist _ _).filter _).length_le
  refine t15 ?_
  refine qap rfl (qac call60 (qh7 _ _) ⟨evS,⟨evS,trivial⟩⟩) ?_
  refine t4 ?_
  intro i8
  refine t10 ?_
  refine cN ?_ ?_ <;> intro h6
  ·have g:(qgh ks l).isNone=true:=by revert h6;cases qgh ks l <;> simp
   clear h6
   rw [if_pos g] at hmt
   refine t3 ?_
   refine qap rfl (qcb (size:=1) (qs:=[(0,_)]) rfl rfl rfl ⟨⟨rfl,_,(er rfl),qbn⟩,trivial⟩ rf rf) ?_
   (refine qe6 rfl (qb9 (er rfl) (fun _=>qae) (by exact Ev.sub rfl (by exact SubL.row (xs:=[l]) rf rf qev)) (by exact qep rfl rfl rfl) qbt) ?_;intro i27)
   refine t8 ?_
   rw [← hmt]
   exact qaa (k+1,i27) (by dsimp only;omega) (by dsimp only;omega) qbl qab
  have g:¬ (qgh ks l).isNone=true:=by revert h6;cases qgh ks l <;> simp
  clear h6
  rw [if_neg g] at hmt
  refine t7 ?_
  rw [← hmt]
  exact qaa (k+1,s) (by dsimp only;omega) (by dsimp only;omega) qbl qab
 have hke:k=ls.length:=by have:=of_decide_eq_false h3;omega
 subst hke
 clear h3
 rw [List.take_length]
 refine t8 ?_
 refine qap rfl (qac call72 (qsd _ _ hn) ⟨evS,trivial⟩) ?_
 refine t5 ?_
 refine qap rfl (qac call73 (qk1 _ _ hn) ⟨evS,trivial⟩) ?_
 refine t4 ?_
 refine qee hX qae ?_
 exact qaq (Bs:=[qal tI64 (qdh ks ls)]) results33 eT () SubL.rfl' (List.nil_sublist _)
def qk2 (bm:BitVec 32) (s:Nat):Bool:=UV ((bm>>>s)&&&1#32)==1
def qf8 (bm:BitVec 32):Nat→List Int
 | 0=>[]
 | n+1=>if qk2 bm n=true then qf8 bm n++[(n:Int)] else qf8 bm n
theorem qju (bm:BitVec 32):∀ n:Nat,(qf8 bm n).length≤n
 | 0=>Nat.le_refl _
 | n+1=>by
  have:=qju bm n
  unfold qf8
  split
  ·rw [List.length_append,List.length_singleton];omega
  ·omega
theorem qq1 (bm:BitVec 32) (n:Nat) (hn:n≤9):FnP Tryz.prog 37 [Is (.int .u32 (UV bm)),Is (.int .i64 (n:Nat))] (qal tI64 (qf8 bm n)):=by
 refine FnP.enter func37 ntmps37 rfl rfl ?_
 intro c hX
 refine t12 ?_
 refine qcn 3 tI64 ?_
 refine t5 ?_
 refine qbr (fun z:Nat×(Option Addr×Nat)=>z.1≤n) (fun z=>[(0,Is (.int .u32 (UV bm))),(1,Is (.int .i64 (n:Nat))),(5,Is (slV (qf8 bm z.1).length z.2)),(6,Is (.int .i64 (z.1:Nat)))]) (fun z=>[buf (slV (qf8 bm z.1).length z.2) 3 tI64 (qf8 bm z.1)]) (fun z=>n-z.1) (0,(none,0)) (Nat.zero_le _) qbl qab ?_
 rintro ⟨k,s⟩ hk
 dsimp only at hk ⊢
 refine t8 ?_
 refine cN ?_ ?_ <;> intro h3
 ·have hlt:k<n:=by have:=of_decide_eq_true h3;omega
  clear h3
  have hol:=qju bm k
  refine t14 ?_
  refine cN ?_ ?_ <;> intro h5
  ·have g:qk2 bm k=true:=h5
   have hmt:qf8 bm (k+1)=qf8 bm k++[(k:Int)]:=by conv=>lhs;unfold qf8;rw [if_pos g]
   clear h5
   refine t3 ?_
   refine qap rfl (qcb (size:=1) (qs:=[(0,_)]) rfl rfl rfl ⟨⟨rfl,_,(er rfl),qbn⟩,trivial⟩ rf rf) ?_
   (refine qe6 rfl (qb9 (er rfl) (fun _=>qae) (by exact Ev.sub rfl (by exact SubL.row (xs:=[(k:Int)]) rf rf qev)) (by exact qep rfl rfl rfl) qbt) ?_;intro i21)
   refine t9 ?_
   rw [← hmt]
   exact qaa (k+1,i21) (by dsimp only;omega) (by dsimp only;omega) qbl qab
  have g:¬ qk2 bm k=true:=fun e=>Bool.noConfusion (show false=true from h5.symm.trans e)
  have hmt:qf8 bm (k+1)=qf8 bm k:=by conv=>lhs;unfold qf8;rw [if_neg g]
  clear h5
  refine t8 ?_
  rw [← hmt]
  exact qaa (k+1,s) (by dsimp only;omega) (by dsimp only;omega) qbl qab
 have hke:k=n:=by have:=of_decide_eq_false h3;omega
 subst hke
 clear h3
 refine t12 ?_
 refine qee hX qae ?_
 exact qaq (Bs:=[qal tI64 (qf8 bm k)]) results37 eT () SubL.rfl' (List.nil_sublist _)
theorem zbk {ls:List Int} {k:Nat} {l:Int} (h:ls[k]?=some l):(ls.take (k+1)).map qas=(ls.take k).map qas++[qas l]:=by
 rw [List.take_add_one,h];simp
theorem qkd (ls:List Int) (hn:ls.length≤1048576):FnP Tryz.prog 36 [qal tI64 ls] (qal tI64 (ls.map qas)):=by
 refine FnP.enter func36 ntmps36 rfl rfl ?_
 intro c hX
 refine qgn (t:=0) rfl (fun hlen=>?_)
 refine t12 ?_
 refine qcn 3 tI64 ?_
 refine t7 ?_
 refine qbr (fun z:Nat×(Option Addr×Nat)=>z.1≤ls.length) (fun z=>[(3,Is (slV ((ls.take z.1).map qas).length z.2)),(6,qal tI64 ls),(7,Is (.int .i64 (ls.length:Nat))),(8,Is (.int .i64 (z.1:Nat)))]) (fun z=>[buf (slV ((ls.take z.1).map qas).length z.2) 3 tI64 ((ls.take z.1).map qas)]) (fun z=>ls.length-z.1) (0,(none,0)) (Nat.zero_le _) qbl qab ?_
 rintro ⟨k,s⟩ hk
 dsimp only at hk ⊢
 refine t6 ?_
 refine cN ?_ ?_ <;> intro h3
 ·have hlt:k<ls.length:=by have:=of_decide_eq_true h3;omega
  clear h3
  obtain ⟨l,hz⟩:∃ z,ls[k]?=some z:=⟨ls[k],List.getElem?_eq_getElem hlt⟩
  have hmt:=zbk hz
  have hml:((ls.take k).map qas).length≤k:=by simp;omega
  refine t14 ?_
  refine qap rfl (qac call21 (qio _) ⟨evS,trivial⟩) ?_
  refine qap rfl (qcb (size:=1) (qs:=[(0,_)]) rfl rfl rfl ⟨⟨rfl,_,(er rfl),qbn⟩,trivial⟩ rf rf) ?_
  (refine qe6 rfl (qb9 (er rfl) (fun _=>qae) (by exact Ev.sub rfl (by exact SubL.row (xs:=[qas l]) rf rf qev)) (by exact qep rfl rfl rfl) qbt) ?_;intro i16)
  refine t8 ?_
  rw [← hmt]
  exact qaa (k+1,i16) (by dsimp only;omega) (by dsimp only;omega) qbl qab
 have hke:k=ls.length:=by have:=of_decide_eq_false h3;omega
 subst hke
 clear h3
 rw [List.take_length]
 refine t12 ?_
 refine qee hX qae ?_
 exact qaq (Bs:=[qal tI64 (ls.map qas)]) results36 eT () SubL.rfl' (List.nil_sublist _)
def qeo (p:Pg):Bool:=UV (p.h&&&255#64) != 0
def qb6 (ks:List Pg) (l:Int):Pg:=(qgh ks l).getD Pg.nil
def qe5 (ks:List Pg) (l:Int):Bool:=(qgh ks l).isSome
def qgq (ks:List Pg) (c:Int):Pg×Nd×Bool×Int:=
 if qe5 ks (98+c)=true then (if qeo (qb6 ks (98+c))=true then (Pg.nil,Nd.nil,true,3) else (qb6 ks (98+c),(qcu (qb6 ks (98+c))).1,true,(qcu (qb6 ks (98+c))).2)) else (Pg.nil,Nd.nil,false,0)
def qeg (ks:List Pg) (s:Int):Pg×Hd×Bool×Int:=
 if qe5 ks (qas s)=true then (if qeo (qb6 ks (qas s))=true then (Pg.nil,Hd.nil,true,3) else (qb6 ks (qas s),(qcj (qb6 ks (qas s))).1,true,(qcj (qb6 ks (qas s))).2)) else (Pg.nil,Hd.nil,false,0)
@[reducible] def IsNode (r:Pg×Nd×Bool×Int):VP:=qbv [qdw r.1,qsh r.2.1,Is (.bool r.2.2.1),Is (.int .i64 r.2.2.2)]
@[reducible] def IsHead (r:Pg×Hd×Bool×Int):VP:=qbv [qdw r.1,qut r.2.1,Is (.bool r.2.2.1),Is (.int .i64 r.2.2.2)]
theorem qrb (ks:List Pg) (m:Int) (hc:0≤m∧m≤1000):FnP Tryz.prog 34 [qal tPg ks,Is (.int .i64 m)] (IsNode (qgq ks m)):=by
 refine FnP.enter func34 ntmps34 rfl rfl ?_
 intro c hX
 refine t3 ?_
 intro i4
 refine s1 ?_
 intro i5
 refine t9 ?_
 refine qap rfl (qac call60 (qh7 _ _) ⟨evS,⟨evS,trivial⟩⟩) ?_
 refine t14 ?_
 refine cN ?_ ?_ <;> intro h2
 ·have g:qe5 ks (98+m)=false:=by unfold qe5;simpa using h2
  have q:qgq ks m=(Pg.nil,Nd.nil,false,0):=by unfold qgq;rw [if_neg (by rw [g];simp)]
  rw [q]
  refine t12 ?_
  exact qaq (Bs:=[qdw Pg.nil,qsh Nd.nil,Is (.bool false),Is (.int .i64 0)]) results34 eT () SubL.rfl' (List.nil_sublist _)
 have g:qe5 ks (98+m)=true:=by unfold qe5;simpa using h2
 refine t6 ?_
 refine qap rfl (qac call62 (qly _) ⟨evS,trivial⟩) ?_
 refine t2 ?_
 refine cN ?_ ?_ <;> intro h4
 ·have g2:qeo (qb6 ks (98+m))=true:=h4
  have q:qgq ks m=(Pg.nil,Nd.nil,true,3):=by unfold qgq;rw [if_pos g,if_pos g2]
  rw [q]
  refine t12 ?_
  exact qaq (Bs:=[qdw Pg.nil,qsh Nd.nil,Is (.bool true),Is (.int .i64 3)]) results34 eT () SubL.rfl' (List.nil_sublist _)
 have g2:¬ qeo (qb6 ks (98+m))=true:=fun e=>Bool.noConfusion ((show false=true from h4.symm.trans e))
 have q:qgq ks m=(qb6 ks (98+m),(qcu (qb6 ks (98+m))).1,true,(qcu (qb6 ks (98+m))).2):=by unfold qgq;rw [if_pos g,if_neg g2]
 rw [q]
 clear h4
 refine t5 ?_
 refine qap rfl (qac call20 (qv1 _) ⟨evS,trivial⟩) ?_
 refine t8 ?_
 refine qa0 rfl (by kernel_rfl) ?_
 refine qct [1,1,0,1,1,0,0] (by kernel_rfl) (by kernel_rfl) ?_
 refine qc4 (by exact qbs (n:=9) (er rfl) qbp rf rf rf rf qbo) ?_
 refine qc4 (by exact qbs (n:=16) (er rfl) qbp rf rf rf rf qbo) ?_
 refine qb7 (qay rfl) ?_
 refine PW_3 (qav (er rfl) (er rfl) qbn qae qbo rf rf rf) ?_
 refine PW_3 (qav (er rfl) (er rfl) qbn qae qbo rf rf rf) ?_
 refine qb7 (qeb rfl) ?_
 refine qb7 (qeb rfl) ?_
 refine qeu ?_
 refine qat ?_
 refine t2 ?_
 exact qaq (Bs:=[qdw (qb6 ks (98+m)),qsh (qcu (qb6 ks (98+m))).1,Is (.bool true),Is (.int .i64 (qcu (qb6 ks (98+m))).2)]) results34 eT () SubL.rfl' (List.nil_sublist _)
theorem qll (ks:List Pg) (m:Int):FnP Tryz.prog 39 [qal tPg ks,Is (.int .i64 m)] (IsHead (qeg ks m)):=by
 refine FnP.enter func39 ntmps39 rfl rfl ?_
 intro c hX
 refine t3 ?_
 intro i4
 refine s1 ?_
 intro i5
 refine t8 ?_
 refine qap rfl (qac call21 (qio _) ⟨evS,trivial⟩) ?_
 refine qap rfl (qac call60 (qh7 _ _) ⟨evS,⟨evS,trivial⟩⟩) ?_
 refine t14 ?_
 refine cN ?_ ?_ <;> intro h2
 ·have g:qe5 ks (qas m)=false:=by unfold qe5;simpa using h2
  have q:qeg ks m=(Pg.nil,Hd.nil,false,0):=by unfold qeg;rw [if_neg (by rw [g];simp)]
  rw [q]
  refine t12 ?_
  exact qaq (Bs:=[qdw Pg.nil,qut Hd.nil,Is (.bool false),Is (.int .i64 0)]) results39 eT () SubL.rfl' (List.nil_sublist _)
 have g:qe5 ks (qas m)=true:=by unfold qe5;simpa using h2
 refine t6 ?_
 refine qap rfl (qac call62 (qly _) ⟨evS,trivial⟩) ?_
 refine t2 ?_
 refine cN ?_ ?_ <;> intro h4
 ·have g2:qeo (qb6 ks (qas m))=true:=h4
  have q:qeg ks m=(Pg.nil,Hd.nil,true,3):=by unfold qeg;rw [if_pos g,if_pos g2]
  rw [q]
  refine t12 ?_
  exact qaq (Bs:=[qdw Pg.nil,qut Hd.nil,Is (.bool true),Is (.int .i64 3)]) results39 eT () SubL.rfl' (List.nil_sublist _)
 have g2:¬ qeo (qb6 ks (qas m))=true:=fun e=>Bool.noConfusion ((show false=true from h4.symm.trans e))
 have q:qeg ks m=(qb6 ks (qas m),(qcj (qb6 ks (qas m))).1,true,(qcj (qb6 ks (qas m))).2):=by unfold qeg;rw [if_pos g,if_neg g2]
 rw [q]
 clear h4
 refine t5 ?_
 refine qap rfl (qac call22 (qsf _) ⟨evS,trivial⟩) ?_
 refine t8 ?_
 refine qa0 rfl (by kernel_rfl) ?_
 refine qct [1,1,0,1,1,0,0] (by kernel_rfl) (by kernel_rfl) ?_
 refine qc4 (by exact qbs (n:=9) (er rfl) qbp rf rf rf rf qbo) ?_
 refine qc4 (by exact qbs (n:=2) (er rfl) qbp rf rf rf rf qbo) ?_
 refine qb7 (qay rfl) ?_
 refine PW_3 (qav (er rfl) (er rfl) qbn qae qbo rf rf rf) ?_
 refine PW_3 (qav (er rfl) (er rfl) qbn qae qbo rf rf rf) ?_
 refine qb7 (qeb rfl) ?_
 refine qb7 (qeb rfl) ?_
 refine qeu ?_
 refine qat ?_
 refine t2 ?_
 exact qaq (Bs:=[qdw (qb6 ks (qas m)),qut (qcj (qb6 ks (qas m))).1,Is (.bool true),Is (.int .i64 (qcj (qb6 ks (qas m))).2)]) results39 eT () SubL.rfl' (List.nil_sublist _)
theorem tmN (a b n:Nat):((a:Int)+(b:Int)).tmod (n:Int)=((a+b) % n:Nat):=by
 rw [← Int.natCast_add,Int.tmod_eq_emod_of_nonneg (by omega),Int.natCast_emod]
def zb1 (f:Nat→Bool):Nat→Nat→Option Nat
 | _,0=>none
 | k,n+1=>if f k=true then some k else zb1 f (k+1) n
def qj9 (ks:List Pg) (s:Nat):Bool:=(qeg ks (s:Nat)).2.2.2==0&&(qeg ks (s:Nat)).2.1.owner == -1
def unO (ks:List Pg) (st n:Nat):Option Nat:=zb1 (fun i=>qj9 ks ((st+i) % n)) 0 n
theorem unO_step {ks:List Pg} {st n k:Nat} (hk:k<n):zb1 (fun i=>qj9 ks ((st+i) % n)) k (n-k)=if qj9 ks ((st+k) % n)=true then some k else zb1 (fun i=>qj9 ks ((st+i) % n)) (k+1) (n-(k+1)):=by
 obtain ⟨m,e⟩:∃ m,n-k=m+1:=⟨n-k-1,by omega⟩
 rw [e,show n-(k+1)=m by omega]
 rfl
def sV (ks:List Pg) (st n:Nat):Nat:=((unO ks st n).map fun i=>(st+i) % n).getD 0
def sB (ks:List Pg) (st n:Nat):Bool:=(unO ks st n).isSome
theorem qxk {f:Nat→Bool}:∀ {n k i:Nat},zb1 f k n=some i→f i=true∧k≤i∧i<k+n
 | 0,k,i,h=>by simp [zb1] at h
 | n+1,k,i,h=>by
  unfold zb1 at h
  split at h
  ·rename_i g
   cases h
   exact ⟨g,Nat.le_refl _,by omega⟩
  ·obtain ⟨h1,h2,h3⟩:=qxk h
   exact ⟨h1,by omega,by omega⟩
theorem sB_yes {ks:List Pg} {st n:Nat} (h:sB ks st n=true):qj9 ks (sV ks st n)=true∧sV ks st n<n:=by
 unfold sB at h
 obtain ⟨i,hi⟩:=Option.isSome_iff_exists.1 h
 obtain ⟨h1,_,h2⟩:=qxk hi
 have e:sV ks st n=(st+i) % n:=by unfold sV;rw [hi];rfl
 rw [e]
 exact ⟨h1,Nat.mod_lt _ (by omega)⟩
theorem qph (ks:List Pg) (st n:Nat) (hst:st≤1000) (hn:n≤9):FnP Tryz.prog 38 [qal tPg ks,Is (.int .i64 (st:Nat)),Is (.int .i64 (n:Nat))] (qbv [Is (.int .i64 (sV ks st n:Nat)),Is (.bool (sB ks st n))]):=by
 refine FnP.enter func38 ntmps38 rfl rfl ?_
 intro c hX
 refine t13 ?_
 refine qbr (fun k:Nat=>k≤n∧unO ks st n=zb1 (fun i=>qj9 ks ((st+i) % n)) k (n-k)) (fun k=>[(0,qal tPg ks),(1,Is (.int .i64 (st:Nat))),(2,Is (.int .i64 (n:Nat))),(8,Is (.int .i64 (k:Nat)))]) (fun _=>[]) (fun k=>n-k) 0 ⟨Nat.zero_le _,rfl⟩ qbl qab ?_
 rintro k ⟨hk,hs⟩
 refine t8 ?_
 refine cN ?_ ?_ <;> intro h2
 ·have hlt:k<n:=by have:=of_decide_eq_true h2;omega
  clear h2
  have hm:(st+k) % n<n:=Nat.mod_lt _ (by omega)
  rw [unO_step hlt] at hs
  refine t10 ?_
  refine qap rfl (qkb (er rfl) (er rfl) (by omega) (tmN _ _ _)) ?_
  refine t7 ?_
  refine qap rfl (qac call39 (qll _ _) ⟨evS,⟨evS,trivial⟩⟩) ?_
  refine t6 ?_
  intro i10
  refine s1 ?_
  intro i11
  refine t17 ?_
  refine cN ?_ ?_ <;> intro h6
  ·have g:qj9 ks ((st+k) % n)=true:=h6
   rw [if_pos g] at hs
   have e1:sV ks st n=(st+k) % n:=by unfold sV;rw [hs];rfl
   have e2:sB ks st n=true:=by unfold sB;rw [hs];rfl
   rw [e1,e2]
   refine t13 ?_
   exact qaq (Bs:=[Is (.int .i64 ((st+k) % n:Nat)),Is (.bool true)]) results38 eT () SubL.rfl' (List.nil_sublist _)
  have g:¬ qj9 ks ((st+k) % n)=true:=fun e=>Bool.noConfusion (show false=true from h6.symm.trans e)
  rw [if_neg g] at hs
  refine t8 ?_
  exact qaa (k+1) ⟨by omega,hs⟩ (by omega) qbl qab
 have hge:k=n:=by have:=of_decide_eq_false h2;omega
 subst hge
 have e:unO ks st k=none:=by rw [hs,Nat.sub_self];rfl
 have e1:sV ks st k=0:=by unfold sV;rw [e];rfl
 have e2:sB ks st k=false:=by unfold sB;rw [e];rfl
 rw [e1,e2]
 refine t12 ?_
 exact qaq (Bs:=[Is (.int .i64 (0:Nat)),Is (.bool false)]) results38 eT () SubL.rfl' (List.nil_sublist _)
theorem qzt {a b:Pg} {ys:List Pg} (h:a.l<b.l) (hs:Srt Pg.l 0 2 ys) (hp:PI 0 2 [a,b] ys):ys=[a,b]:=by
 have hl:ys.length=2:=hp.len
 have hd:(ys.map Pg.l).Nodup:=((hp.perm.map Pg.l).nodup_iff).2 (by simp;omega)
 exact qmg (key:=Pg.l) hp.perm (qz8 (by rw [hl];exact hs) hd) (by simp [h])
def qa7 (l:Int):Nat:=(qfu l).toNat
theorem qe9 (l:Int):qa7 l≤9:=by unfold qa7;have:=qh5 l;omega
theorem qox (l:Int):FnP Tryz.prog 35 [Is (.int .i64 l)] (Is (.int .i64 (qa7 l:Nat))):=by
 have e:((qa7 l:Nat):Int)=qfu l:=by unfold qa7;have:=qh5 l;omega
 rw [e]
 exact qx4 l
def hdrL (lines:Int):List Int:=(qf8 511#32 (qa7 lines)).map qas
@[reducible] def ndS (n:Nd) (s:Nat) (inc:Int):Nd:=⟨n.pin,n.ep,n.sg|||BitVec.ofInt 32 1<<<((s:Nat):Int).toNat,inc,n.r0,n.r1,n.r2,n.r3⟩
@[reducible] def hdS (h:Hd) (o:Int):Hd:=⟨o,h.used⟩
def qyr (ks:List Pg) (c:Nat) (inc:Int) (s:Nat):Pg:=(qdk (qgq ks c).1 (ndS (qgq ks c).2.1 s inc)).1
def qyv (ks:List Pg) (c s:Nat):Pg:=(qfk (qeg ks s).1 (hdS (qeg ks s).2.1 (c:Nat))).1
@[reducible] def IsAcq (r:List Int×List Pg×Nat×Int×Bool):VP:=qbv [qal tI64 r.1,qal tPg r.2.1,Is (.int .i64 (r.2.2.1:Nat)),Is (.int .i64 r.2.2.2.1),Is (.bool r.2.2.2.2)]
def zcx (ks:List Pg) (c:Nat) (inc lines:Int):List Int×List Pg×Nat×Int×Bool:=
 if 0<(qdh ks [98+(c:Int)]).length then (qdh ks [98+(c:Int)],[],0,0,false)
 else if (qgq ks c).2.2.2≠0 then ([],[],0,(qgq ks c).2.2.2,true)
 else if 0<(qdh ks (hdrL lines)).length then (qdh ks (hdrL lines),[],0,0,false)
 else if sB ks c (qa7 lines)=true then ([],[qyr ks c inc (sV ks c (qa7 lines)),qyv ks c (sV ks c (qa7 lines))],sV ks c (qa7 lines),0,true)
 else ([],[],0,12,true)
theorem qtu {ks:List Pg} {s:Nat} (h:qj9 ks s=true):(qeg ks s).2.2.1=true∧(qeg ks s).2.2.2=0∧(qeg ks s).2.1.owner = -1:=by
 unfold qj9 at h
 rw [Bool.and_eq_true,beq_iff_eq,beq_iff_eq] at h
 refine ⟨?_,h.1,h.2⟩
 have h2:=h.2
 revert h2
 unfold qeg
 split
 ·split <;> intro _ <;> rfl
 ·intro e;exact absurd e (by decide)
theorem miss1 (ks:List Pg) (l:Int):(qdh ks [l]).length≤1:=by
 unfold qdh
 exact List.length_filter_le _ _
set_option maxHeartbeats 400000 in
theorem qqk (ks:List Pg) (cl:Nat) (inc lines:Int) (hc:cl<6) (hi:1≤inc∧inc≤59) (hz:qqp lines=true) (h2m:¬ 0<(qdh ks [98+(cl:Int)]).length→(qdh ks (hdrL lines)).length≤1)
  (hlt:sB ks cl (qa7 lines)=true→(qyr ks cl inc (sV ks cl (qa7 lines))).l<(qyv ks cl (sV ks cl (qa7 lines))).l) :
  FnP Tryz.prog 11 [IsAgg [Is (.int .i64 (cl:Nat)),Is (.int .i64 inc),Is (.int .i64 lines),Is (.int .i64 (-1))],qal tPg ks] (IsAcq (zcx ks cl inc lines)):=by
 have hcn:=qe9 lines
 have hm1:=miss1 ks (98+(cl:Int))
 have hol:=qju 511#32 (qa7 lines)
 have hcb:qkt (cl:Nat)=true:=by unfold qkt;simp;omega
 refine FnP.enter func11 ntmps11 rfl rfl ?_
 intro c hX
 refine t3 ?_
 intro i2
 refine t12 ?_
 refine qap rfl (qac call31 (qko _) ⟨evS,trivial⟩) ?_
 refine t14 ?_
 (refine qcq rfl rfl rfl (fun hg=>(by have hg0:=hg;(try simp at hg);exact qac call32 (qlj _) ⟨evS,trivial⟩)) ?_)
 refine t21 ?_
 refine cN ?_ ?_ <;> intro h1
 ·exact absurd h1 (by rw [hcb,hz];simp;omega)
 clear h1
 refine t7 ?_
 refine qap rfl (qcb (size:=1) (qs:=[(0,_)]) rfl rfl rfl ⟨⟨rfl,_,(er rfl),qbn⟩,trivial⟩ rf rf) ?_
 refine t11 ?_
 refine cN ?_ ?_ <;> intro h4
 ·exact absurd h4 (by simp)
 refine t7 ?_
 refine qap rfl (qac call33 (qpt _ [98+(cl:Int)] hm1) ⟨evS,⟨evS,trivial⟩⟩) ?_
 refine t10 ?_
 refine cN ?_ ?_ <;> intro h7
 ·have g:0<(qdh ks [98+(cl:Int)]).length:=by have:=of_decide_eq_true h7;omega
  have e:zcx ks cl inc lines=(qdh ks [98+(cl:Int)],[],0,0,false):=by unfold zcx;rw [if_pos g]
  rw [e]
  refine t12 ?_
  exact qaq (Bs:=[qal tI64 (qdh ks [98+(cl:Int)]),qal tPg [],Is (.int .i64 (0:Nat)),Is (.int .i64 0),Is (.bool false)]) results11 eT () SubL.rfl' (List.nil_sublist _)
 have g:¬ 0<(qdh ks [98+(cl:Int)]).length:=by have:=of_decide_eq_false h7;omega
 clear h7
 refine t7 ?_
 refine qap rfl (by ((refine qac call34 (qrb _ _ ?_) ⟨evS,⟨evS,trivial⟩⟩);all_goals (omega))) ?_
 refine t6 ?_
 intro i10
 refine s1 ?_
 intro i11
 refine t13 ?_
 refine cN ?_ ?_ <;> intro h10
 ·have g2:(qgq ks cl).2.2.2≠0:=by simpa using h10
  have e:zcx ks cl inc lines=([],[],0,(qgq ks cl).2.2.2,true):=by unfold zcx;rw [if_neg g,if_pos g2]
  rw [e]
  refine t12 ?_
  exact qaq (Bs:=[qal tI64 [],qal tPg [],Is (.int .i64 (0:Nat)),Is (.int .i64 (qgq ks cl).2.2.2),Is (.bool true)]) results11 eT () SubL.rfl' (List.nil_sublist _)
 have g2:¬ (qgq ks cl).2.2.2≠0:=by simpa using h10
 clear h10
 refine t5 ?_
 intro i13
 refine t5 ?_
 intro i14
 refine t10 ?_
 refine cN ?_ ?_ <;> intro h14
 ·exact absurd h14 (by simp)
 refine t6 ?_
 refine qap rfl (qac call35 (qox _) ⟨evS,trivial⟩) ?_
 refine t11 ?_
 refine cN ?_ ?_ <;> intro h19
 ·refine t5 ?_
  refine qap rfl (qac call37 (qq1 (511#32) _ hcn) ⟨evS,⟨evS,trivial⟩⟩) ?_
  refine qap rfl (by ((refine qac call36 (qkd _ ?_) ⟨evS,trivial⟩);all_goals (omega))) ?_
  refine qap rfl (qac call33 (qpt _ _ (h2m g)) ⟨evS,⟨evS,trivial⟩⟩) ?_
  refine t10 ?_
  refine cN ?_ ?_ <;> intro h21
  ·have g3:0<(qdh ks (hdrL lines)).length:=by have:=of_decide_eq_true h21;omega
   have e:zcx ks cl inc lines=(qdh ks (hdrL lines),[],0,0,false):=by unfold zcx;rw [if_neg g,if_neg g2,if_pos g3]
   rw [e]
   refine t13 ?_
   exact qaq (Bs:=[qal tI64 (qdh ks (hdrL lines)),qal tPg [],Is (.int .i64 (0:Nat)),Is (.int .i64 0),Is (.bool false)]) results11 eT () SubL.rfl' (List.nil_sublist _)
  have g3:¬ 0<(qdh ks (hdrL lines)).length:=by have:=of_decide_eq_false h21;omega
  clear h21
  refine t13 ?_
  refine qap rfl (by ((refine qac call38 (qph _ _ _ ?_ hcn) ⟨evS,⟨evS,⟨evS,trivial⟩⟩⟩);all_goals (omega))) ?_
  refine t13 ?_
  refine cN ?_ ?_ <;> intro h25
  ·have g4:¬ sB ks cl (qa7 lines)=true:=by simpa using h25
   have e:zcx ks cl inc lines=([],[],0,12,true):=by unfold zcx;rw [if_neg g,if_neg g2,if_neg g3,if_neg g4]
   rw [e]
   refine t11 ?_
   exact qaq (Bs:=[qal tI64 [],qal tPg [],Is (.int .i64 (0:Nat)),Is (.int .i64 12),Is (.bool true)]) results11 eT () SubL.rfl' (List.nil_sublist _)
  have g4:sB ks cl (qa7 lines)=true:=by simpa using h25
  obtain ⟨hfr,hsn⟩:=sB_yes g4
  obtain ⟨q1,q2,q3⟩:=qtu hfr
  have hlt':=hlt g4
  have e:zcx ks cl inc lines=([],[qyr ks cl inc (sV ks cl (qa7 lines)),qyv ks cl (sV ks cl (qa7 lines))],sV ks cl (qa7 lines),0,true):=by unfold zcx;rw [if_neg g,if_neg g2,if_neg g3,if_pos g4]
  rw [e]
  unfold qyr qyv at hlt' ⊢
  obtain ⟨s,hs⟩:∃ s,sV ks cl (qa7 lines)=s:=⟨_,rfl⟩
  rw [hs] at hlt' q1 q2 q3 hsn
  rw [hs]
  clear h25
  refine t6 ?_
  refine qap rfl (qac call39 (qll _ _) ⟨evS,⟨evS,trivial⟩⟩) ?_
  refine t6 ?_
  intro i18
  refine s1 ?_
  intro i19
  refine t15 ?_
  refine cN ?_ ?_ <;> intro h32
  ·exact absurd h32 (by rw [q1];simp)
  refine t7 ?_
  refine cN ?_ ?_ <;> intro h34
  ·exact absurd h34 (by rw [q2];simp)
  refine t10 ?_
  refine cN ?_ ?_ <;> intro h36
  ·exact absurd h36 (by rw [q3];simp)
  refine t35 ?_
  refine qap rfl (qac call40 (qhf _ (ndS (qgq ks cl).2.1 s inc)) ⟨evS,⟨evS,trivial⟩⟩) ?_
  refine t10 ?_
  refine qap rfl (qac call41 (qhm _ (hdS (qeg ks s).2.1 cl)) ⟨evS,⟨evS,trivial⟩⟩) ?_
  refine t7 ?_
  obtain ⟨a,ha⟩:∃ a,(qdk (qgq ks cl).1 (ndS (qgq ks cl).2.1 s inc)).1=a:=⟨_,rfl⟩
  rw [ha] at hlt' ⊢
  obtain ⟨b,hb⟩:∃ b,(qfk (qeg ks s).1 (hdS (qeg ks s).2.1 cl)).1=b:=⟨_,rfl⟩
  rw [hb] at hlt' ⊢
  refine t3 ?_
  (refine qzh rfl (qhj (T:=tPg) ([a,b]) (size:=9) (Rs:=[a,b].flatMap tPg.cells) (qs:=[(0,tPg.cells a),(1,tPg.cells b)]) rfl rfl rfl ⟨⟨rfl,_,(er rfl),qbn⟩,⟨⟨rfl,_,(er rfl),qbn⟩,trivial⟩⟩ rf rf SubLs.rfl') ?_;intro i191)
  refine t11 ?_
  refine cN ?_ ?_ <;> intro h44
  ·exact absurd h44 (by simp)
  refine t5 ?_
  (refine qe6 rfl (by ((refine qdy qbh call42 (qje [a,b] 2 (some ⟨i191,0,none⟩,2) rfl ?_) ⟨evS,trivial⟩);all_goals (simp))) ?_;intro i213)
  refine t9 ?_
  obtain ⟨ys,hy1,hy2⟩:=i213
  dsimp only
  have hy:=qzt hlt' hy1 hy2
  subst hy
  refine qee hX (v:=slV 2 (some ⟨i191,0,none⟩,2)) qae ?_
  exact qaq (Bs:=[qal tI64 [],qal tPg [a,b],Is (.int .i64 (s:Nat)),Is (.int .i64 0),Is (.bool true)]) results11 eT () SubL.rfl' (List.nil_sublist _)
 exact absurd h19 (by simp)
def pgN (k:Nat):Pg:=⟨96+k,256#64,0#64,0#64,0#64,0#64,0#64,0#64,0#64⟩
def qrc:Nat→List Pg
 | 0=>[]
 | n+1=>qrc n++[pgN n]
theorem qjx:∀ n:Nat,(qrc n).length=n
 | 0=>rfl
 | n+1=>by unfold qrc;rw [List.length_append,qjx n];rfl
theorem zba (n:Nat):qrc (n+1)=qrc n++[pgN n]:=rfl
@[reducible] def heapC (pv:Value) (lines:Int):List VP:=[Is pv,Is (.int .i64 lines),Is (.int .i64 0),Is (.slice none 0 0),Is (.int .i64 1),Is (.int .i64 0),Is (.int .u32 1)]
theorem New_ok (n:Nat) (hn:n≤200):Fn Tryz.prog 53 [Is (.int .i64 (96+(n:Int)))] [] (fun i:Nat×(Option Addr×Nat)=>Is (.pointer (some ⟨i.1,0,none⟩))) (fun i=>[blk i.1 62 (heapC (slV n i.2) (96+(n:Int))),buf (slV n i.2) 53 tPg (qrc n)]):=by
 refine Fn.enterN func53 ntmps53 rfl rfl ?_
 intro c hX
 refine t11 ?_
 intro i8
 refine t5 ?_
 refine qcn 53 tPg ?_
 refine t5 ?_
 refine qbr (fun z:Nat×(Option Addr×Nat)=>z.1≤n) (fun z=>[(0,Is (.int .i64 (96+(n:Int)))),(3,Is (.pointer (some ⟨i8,0,none⟩))),(4,Is (.int .i64 (96+(z.1:Int))))]) (fun z=>[blk i8 62 (heapC (slV (qrc z.1).length z.2) (96+(n:Int))),buf (slV (qrc z.1).length z.2) 53 tPg (qrc z.1)]) (fun z=>n-z.1) (0,(none,0)) (Nat.zero_le _) qbl qab ?_
 rintro ⟨k,s⟩ hk
 dsimp only at hk ⊢
 have hkl:=qjx k
 refine t8 ?_
 refine cN ?_ ?_ <;> intro h3
 ·have hlt:k<n:=by have:=of_decide_eq_true h3;omega
  clear h3
  refine t12 ?_
  refine qap rfl (qcb (size:=9) (qs:=[(0,_)]) rfl rfl rfl ⟨⟨rfl,_,(er rfl),qbn⟩,trivial⟩ rf rf) ?_
  (refine qe6 rfl (qb9 (er rfl) (fun _=>qae) (by exact Ev.sub rfl (by exact SubL.row (xs:=[pgN k]) rf rf qev)) (by exact qep rfl rfl rfl) qbt) ?_;intro i22)
  refine t11 ?_
  rw [← zba]
  exact qaa (k+1,i22) (by dsimp only;omega) (by dsimp only;omega) ⟨⟨_,rfl,SubL.rfl'⟩,⟨_,rfl,SubL.rfl'⟩,⟨_,rfl,SubL.eq (ieq (by omega))⟩,trivial⟩ qab
 have hke:k=n:=by have:=of_decide_eq_false h3;omega
 subst hke
 clear h3
 rw [hkl]
 refine t12 ?_
 exact qed (Bs:=[Is (.pointer (some ⟨i8,0,none⟩))]) results53 eT (i8,s) SubL.rfl' qab
theorem acqH0:¬ 0<(qdh [] [98+((1:Nat):Int)]).length→(qdh [] (hdrL 256)).length≤1:=fun h=>absurd (by decide) h
theorem acqH1:(qdh (qrc 160) (hdrL 256)).length≤1:=Nat.le_of_ble_eq_true (by kernel_rfl)
theorem acqL0 (h:sB [] 1 (qa7 256)=true):(qyr [] 1 1 (sV [] 1 (qa7 256))).l<(qyv [] 1 (sV [] 1 (qa7 256))).l:=absurd h (by decide)
theorem acqL1:(qyr (qrc 160) 1 1 (sV (qrc 160) 1 (qa7 256))).l<(qyv (qrc 160) 1 (sV (qrc 160) 1 (qa7 256))).l:=of_decide_eq_true (by kernel_rfl)
theorem awake_ok:FnP Tryz.prog 15 [] (Is (.bool true)):=by
 refine FnP.enter func15 ntmps15 rfl rfl ?_
 intro c hX
 refine t7 ?_
 (refine qe6 rfl (by ((refine qq3 call53 (New_ok 160 ?_) ⟨evS,trivial⟩);all_goals (decide))) ?_;intro i12)
 refine t4 ?_
 refine qa8 hX (v:=slV 160 i12.2) qae ?_
 refine qd2 hX (b:=i12.1) qae ?_
 refine qb0 1 (qdo (heapC (slV 160 i12.2) 256)) rfl (SubL.fact qbp) ?_
 refine t2 ?_
 refine qap rfl (by ((refine qac call11 (qqk [] 1 1 256 ?_ ?_ rfl acqH0 acqL0) ⟨evS,⟨evS,trivial⟩⟩);all_goals (decide))) ?_
 refine t20 ?_
 refine qap rfl (by ((refine qac call11 (qqk (qrc 160) 1 1 256 ?_ ?_ rfl (fun _=>acqH1) (fun _=>acqL1)) ⟨evS,⟨evS,trivial⟩⟩);all_goals (decide))) ?_
 refine t40 ?_
 refine t2 ?_
 refine qa4 results15 rfl () (SubL.eq ?_) (List.nil_sublist _)
 rfl
theorem zam (n k:Int) (h:1≤k):(n.tmod k+k) % k=n % k:=by
 rw [Int.add_emod_right,Int.tmod_eq_emod]
 split
 ·show (n % k-0) % k=_;rw [Int.sub_zero,Int.emod_emod_of_dvd _ (Int.dvd_refl k)]
 ·rw [Int.natAbs_of_nonneg (by omega),Int.sub_emod,Int.emod_self];simp
end Go.Proofs.YtmgoplaamlignaaGreat
