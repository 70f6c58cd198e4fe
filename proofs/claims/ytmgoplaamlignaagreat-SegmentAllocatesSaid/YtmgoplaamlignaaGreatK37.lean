/- Texts laid together: walks of functions, what they compute, and plain laws of it. Own work. -/
import Derived.Test.YtmgoplaamlignaaGreatK23
import Derived.Test.YtmgoplaamlignaaGreatK31
import Derived.Test.YtmgoplaamlignaaGreatK35
import Derived.Test.YtmgoplaamlignaaGreatK36
import Derived.Test.YtmgoplaamlignaaGreatK1
namespace Go.Proofs.YtmgoplaamlignaaGreat
open Go.RowKit Tryz
set_option linter.unusedVariables false
set_option linter.unusedSimpArgs false
set_option maxRecDepth 100000
set_option maxHeartbeats 4000000
theorem qm7 (ks:List Pg) (o lines cnt:Int) (hks:ks.length≤10000):FnP Tryz.prog 25 [Is (.int .i64 o),Is (.int .i64 lines),Is (.int .i64 cnt),qal tPg ks] (qza (alpR ks o lines cnt)):=by
 unfold alpR
 refine FnP.enter func25 ntmps25 rfl rfl ?_
 intro c hX
 refine t3 ?_
 intro i8
 refine t7 ?_
 refine kR call43 (qfz _ _) ?_
 refine t11 ?_
 refine cN ?_ ?_ <;> intro h1
 ·rw [ifT h1]
  refine t2 ?_
  refine kR call44 (qcr _) ?_
  refine t5 ?_
  exact qaq (Bs:=[_]) results25 eR () SubL.rfl' (List.nil_sublist _)
 rw [ifF h1]
 have hcl:(0≤o∧o<6)∧(104≤lines∧lines≤256)∧1≤cnt∧cnt≤12:=by unfold clB at h1;simp at h1;omega
 obtain ⟨ho,hli,hcnt⟩:=hcl
 clear h1
 refine t7 ?_
 refine qap rfl (qad (size:=1) (qs:=[(0,_)]) rfl rfl rfl ⟨⟨rfl,_,(er rfl),qbn⟩,trivial⟩ rf rf) ?_
 refine qap rfl (by ((refine qac call45 (qgy _ [98+o] ?_) ⟨evR,⟨evR,trivial⟩⟩);all_goals (simp))) ?_
 refine t11 ?_
 refine cN ?_ ?_ <;> intro h4
 ·rw [ifT h4]
  refine t9 ?_
  exact qaq (Bs:=[_]) results25 eR () SubL.rfl' (List.nil_sublist _)
 rw [ifF h4]
 refine t6 ?_
 refine qap rfl (by ((refine qac call46 (ql8 _ _ ?_) ⟨evR,⟨evR,trivial⟩⟩);all_goals (assumption))) ?_
 refine t5 ?_
 intro i10
 refine s1 ?_
 intro i11
 refine t12 ?_
 refine cN ?_ ?_ <;> intro h7
 ·rw [ifT h7]
  refine t3 ?_
  refine kR call44 (qcr _) ?_
  refine t5 ?_
  exact qaq (Bs:=[_]) results25 eR () SubL.rfl' (List.nil_sublist _)
 rw [ifF h7]
 refine t15 ?_
 refine qcn 3 tI64 ?_
 refine qcn 3 tI64 ?_
 refine qaz [(0,_),(1,_),(2,_),(3,_),(8,_),(9,_),(11,_)] [blk i11 _ _,blk i8 _ _] (fun y:Nat×(Option Addr×Nat)×(Option Addr×Nat)=>y.1≤qa7 lines) (fun y=>[(13,Is (slV (qf8 (qfs ks o).2.1.sg y.1).length y.2.1)),(14,Is (slV ((qf8 (qfs ks o).2.1.sg y.1).map qas).length y.2.2)),(15,Is (.int .i64 (y.1:Nat)))]) (fun y=>[buf (slV (qf8 (qfs ks o).2.1.sg y.1).length y.2.1) 3 tI64 (qf8 (qfs ks o).2.1.sg y.1),buf (slV ((qf8 (qfs ks o).2.1.sg y.1).map qas).length y.2.2) 3 tI64 ((qf8 (qfs ks o).2.1.sg y.1).map qas)]) (fun y=>qa7 lines-y.1) (0,(none,0),(none,0)) (Nat.zero_le _) qe8 qab ?_
 rintro ⟨k,v_0,v_1⟩ hk
 dsimp only at hk ⊢
 refine t5 ?_
 refine kR call47 (qqj _) ?_
 refine t3 ?_
 refine cN ?_ ?_ <;> intro h11
 ·have hlt:k<qa7 lines:=by have:=of_decide_eq_true h11;omega
  clear h11
  have hol:=qju (qfs ks o).2.1.sg k
  have hcn:=qe9 lines
  refine t15 ?_
  refine cN ?_ ?_ <;> intro h13
  ·have g:qk2 (qfs ks o).2.1.sg k=true:=h13
   have hmt:qf8 (qfs ks o).2.1.sg (k+1)=qf8 (qfs ks o).2.1.sg k++[(k:Int)]:=by conv=>lhs;unfold qf8;rw [if_pos g]
   have hm2:(qf8 (qfs ks o).2.1.sg (k+1)).map qas=(qf8 (qfs ks o).2.1.sg k).map qas++[qas (k:Int)]:=by rw [hmt,List.map_append];rfl
   have hl2:((qf8 (qfs ks o).2.1.sg k).map qas).length≤k:=by rw [List.length_map];exact hol
   clear h13
   refine t4 ?_
   refine qap rfl (qad (size:=1) (qs:=[(0,_)]) rfl rfl rfl ⟨⟨rfl,_,(er rfl),qbn⟩,trivial⟩ rf rf) ?_
   (refine qe6 rfl (qb9 (er rfl) (fun _=>qae) (by exact Ev.sub rfl (by exact SubL.row (xs:=[(k:Int)]) rf rf ql5)) (by exact qep rfl rfl rfl) qbt) ?_;intro i89)
   refine t6 ?_
   refine kR call48 (qb2 _) ?_
   refine qap rfl (qad (size:=1) (qs:=[(0,_)]) rfl rfl rfl ⟨⟨rfl,_,(er rfl),qbn⟩,trivial⟩ rf rf) ?_
   (refine qe6 rfl (qb9 (er rfl) (fun _=>qae) (by exact Ev.sub rfl (by exact SubL.row (xs:=[qas (k:Int)]) rf rf ql5)) (by exact qep rfl rfl rfl) qbt) ?_;intro i94)
   refine t9 ?_
   rw [← hm2,← hmt]
   exact qaa (k+1,i89,i94) (by dsimp only;omega) (by dsimp only;omega) qe8 qab
  have g:¬ qk2 (qfs ks o).2.1.sg k=true:=fun e=>Bool.noConfusion (show false=true from h13.symm.trans e)
  have hmt:qf8 (qfs ks o).2.1.sg (k+1)=qf8 (qfs ks o).2.1.sg k:=by conv=>lhs;unfold qf8;rw [if_neg g]
  have hm2:(qf8 (qfs ks o).2.1.sg (k+1)).map qas=(qf8 (qfs ks o).2.1.sg k).map qas:=by rw [hmt]
  clear h13
  refine t8 ?_
  rw [← hm2,← hmt]
  exact qaa (k+1,v_0,v_1) (by dsimp only;omega) (by dsimp only;omega) qe8 qab
 have hke:k=qa7 lines:=by have:=of_decide_eq_false h11;omega
 clear h11
 subst hke
 have hol:=qju (qfs ks o).2.1.sg (qa7 lines)
 have hcn:=qe9 lines
 have hown:∀ (k:Nat) s,(qf8 (qfs ks o).2.1.sg (qa7 lines))[k]?=some s→0≤s∧s≤8:=fun k s h=>by have:=own_at h;omega
 obtain ⟨own,he⟩:∃ x,qf8 (qfs ks o).2.1.sg (qa7 lines)=x:=⟨_,rfl⟩
 rw [he] at hol hown ⊢
 clear he
 have hal:(own.map qas).length≤1000000:=by rw [List.length_map];omega
 refine qa8 hX (v:=slV own.length v_0) qae ?_
 refine qa8 hX (v:=slV (own.map qas).length v_1) qae ?_
 refine qb0 13 (qal tI64 own) rfl subR ?_
 refine qb0 14 (qal tI64 (own.map qas)) rfl subR ?_
 refine t9 ?_
 refine qap rfl (by ((refine qac call45 (qv2 _ _ ?_) ⟨evR,⟨evR,trivial⟩⟩);all_goals (assumption))) ?_
 refine t7 ?_
 refine qge 98 (qal tI64 (qdu ks (own.map qas))) rfl (subNS _) ?_
 refine t4 ?_
 refine cN ?_ ?_ <;> intro h17
 ·rw [ifT h17]
  refine qb0 9 (qal tI64 (qdu ks (own.map qas))) rfl (subNS _) ?_
  refine t9 ?_
  exact qaq (Bs:=[_]) results25 eR () SubL.rfl' (List.nil_sublist _)
 rw [ifF h17]
 have hmn:qdu ks (own.map qas)=[]:=by
  have:=of_decide_eq_false h17
  exact List.eq_nil_of_length_eq_zero (by omega)
 refine qb0 9 (Is (.slice none 0 0)) rfl (SubL.eq (zbr hmn)) ?_
 refine t14 ?_
 refine qcn 58 tU32 ?_
 refine qaz [(0,_),(1,_),(2,_),(3,_),(8,_),(9,_),(13,_),(14,_)] [blk i8 _ _] (fun y:Nat×(Option Addr×Nat)=>y.1≤(own).length∧(((own.map qas).take y.1).findSome? (hE1 ks o)=none)) (fun y=>[(16,Is (slV ((own.take y.1).map fun s=>qml ks (qas s)).length y.2)),(17,Is (.int .i64 (y.1:Nat)))]) (fun y=>[buf (slV ((own.take y.1).map fun s=>qml ks (qas s)).length y.2) 58 tU32 ((own.take y.1).map fun s=>qml ks (qas s))]) (fun y=>(own).length-y.1) (0,(none,0)) ⟨by exact Nat.zero_le _,rfl⟩ qe8 qab ?_
 rintro ⟨k,v_0⟩ ⟨hk,hI⟩
 dsimp only at hk hI ⊢
 refine t9 ?_
 refine cN ?_ ?_ <;> intro h21
 ·have hlt:k<(own).length:=by have:=of_decide_eq_true h21;omega
  clear h21
  obtain ⟨z,hz⟩:∃ q,(own)[k]?=some q:=⟨_,List.getElem?_eq_getElem hlt⟩
  have hza:(own.map qas)[k]?=some (qas z):=by rw [List.getElem?_map,hz];rfl
  have hm3:((own.take (k+1)).map fun s=>qml ks (qas s))=((own.take k).map fun s=>qml ks (qas s))++[qml ks (qas z)]:=by rw [List.take_add_one,hz];simp
  have hl3:((own.take k).map fun s=>qml ks (qas s)).length≤9:=by rw [List.length_map,List.length_take];omega
  refine t9 ?_
  refine qap rfl (by exact qau (j:=_) (er rfl) (er rfl) rfl rfl rf hza) ?_
  refine s1 ?_
  refine kR call19 (qbu _ _) ?_
  refine t4 ?_
  intro i18
  refine t8 ?_
  refine kR call49 (qb5 _) ?_
  refine t2 ?_
  refine cN ?_ ?_ <;> intro h24
  ·rw [qja hza hI (show hE1 ks o (qas z)=some 3 by unfold hE1;rw [ifT h24])]
   refine t2 ?_
   refine kR call44 (qcr _) ?_
   refine t10 ?_
   exact qaq (Bs:=[_]) results25 eR () SubL.rfl' (List.nil_sublist _)
  skip
  refine t5 ?_
  refine kR call50 (qf6 _) ?_
  refine t4 ?_
  intro i20
  refine t11 ?_
  refine cN ?_ ?_ <;> intro h27
  ·rw [qja hza hI (show hE1 ks o (qas z)=some 14 by unfold hE1;rw [ifF h24,ifT h27])]
   refine t2 ?_
   refine kR call44 (qcr _) ?_
   refine t10 ?_
   exact qaq (Bs:=[_]) results25 eR () SubL.rfl' (List.nil_sublist _)
  skip
  refine t11 ?_
  refine cN ?_ ?_ <;> intro h29
  ·rw [qja hza hI (show hE1 ks o (qas z)=some 11 by unfold hE1;rw [ifF h24,ifF h27,ifT h29])]
   refine t2 ?_
   refine kR call44 (qcr _) ?_
   refine t10 ?_
   exact qaq (Bs:=[_]) results25 eR () SubL.rfl' (List.nil_sublist _)
  have hr:((own.map qas).take (k+1)).findSome? (hE1 ks o)=none:=qtw hza hI (by unfold hE1;rw [ifF h24,ifF h27,ifF h29])
  refine t6 ?_
  refine qap rfl (qad (size:=1) (qs:=[(0,_)]) rfl rfl rfl ⟨⟨rfl,_,(er rfl),qbn⟩,trivial⟩ rf rf) ?_
  (refine qe6 rfl (qb9 (er rfl) (fun _=>qae) (by exact Ev.sub rfl (by exact SubL.row (xs:=[qml ks (qas z)]) rf rf ql5)) (by exact qep rfl rfl rfl) qbt) ?_;intro i138)
  refine t9 ?_
  rw [← hm3]
  exact qaa (k+1,i138) ⟨by dsimp only;omega,hr⟩ (by dsimp only;omega) qe8 qab
 have hke:k=(own).length:=by have:=of_decide_eq_false h21;omega
 clear h21
 subst hke
 (try rw [List.take_length])
 (try rw [List.take_length] at hI)
 have hN:(own.map qas).findSome? (hE1 ks o)=none:=by have:=hI;rwa [List.take_of_length_le (by simp)] at this
 rw [hN,show alpG ks lines cnt own none=alpF ks lines cnt (chR ks cnt (qzf ks cnt own) ([],[])) from rfl]
 refine qa8 hX (v:=slV (own.map fun s=>qml ks (qas s)).length v_0) qae ?_
 refine qb0 16 (qal tU32 (own.map fun s=>qml ks (qas s))) rfl subR ?_
 refine t16 ?_
 refine qb3 [(1,_),(2,_),(3,_),(8,_),(9,_)] [blk i8 _ _] (fun z:Unit=>True) (fun z=>[(22,qal tI64 (qzf ks cnt own))]) (fun z=>[]) qe8 qab ?_ ?_
 rotate_left
 focus
  refine s1 ?_
  refine qcn 3 tI64 ?_
  refine qaz [(1,_),(2,_),(3,_),(8,_),(9,_),(13,_),(14,_),(16,_)] [blk i8 _ _] (fun y:Nat×(Option Addr×Nat)=>y.1≤(own).length∧(((own.take y.1).find? fun s=>decide (((qo8 ks s).length:Int)≥cnt))=none)) (fun y=>[(22,Is (slV ((own.take y.1).flatMap (qo8 ks)).length y.2)),(23,Is (.int .i64 (y.1:Nat)))]) (fun y=>[buf (slV ((own.take y.1).flatMap (qo8 ks)).length y.2) 3 tI64 ((own.take y.1).flatMap (qo8 ks))]) (fun y=>(own).length-y.1) (0,(none,0)) ⟨by exact Nat.zero_le _,rfl⟩ qe8 qab ?_
  rintro ⟨k,v_0⟩ ⟨hk,hI⟩
  dsimp only at hk hI ⊢
  refine t9 ?_
  refine cN ?_ ?_ <;> intro h34
  ·have hlt:k<(own).length:=by have:=of_decide_eq_true h34;omega
   clear h34
   obtain ⟨z,hz⟩:∃ q,(own)[k]?=some q:=⟨_,List.getElem?_eq_getElem hlt⟩
   have hza:(own.map qas)[k]?=some (qas z):=by rw [List.getElem?_map,hz];rfl
   have hzu:(own.map fun s=>qml ks (qas s))[k]?=some (qml ks (qas z)):=by rw [List.getElem?_map,hz];rfl
   have hzs:=hown k z hz
   have hlz:=line_rng z
   refine t16 ?_
   refine qcn 3 tI64 ?_
   refine qaz [(1,_),(2,_),(3,_),(8,_),(9,_),(13,_),(14,_),(16,_),(22,_),(23,_),(139,_),(140,_),(141,_)] [blk i8 _ _,buf _ _ _ _] (fun ya:Nat×(Option Addr×Nat)=>ya.1≤16∧(1≤ya.1)) (fun ya=>[(24,Is (slV (qiu (qml ks (qas z)) (qas z) ya.1).length ya.2)),(25,Is (.int .i64 (ya.1:Nat)))]) (fun ya=>[buf (slV (qiu (qml ks (qas z)) (qas z) ya.1).length ya.2) 3 tI64 (qiu (qml ks (qas z)) (qas z) ya.1)]) (fun ya=>16-ya.1) (1,(none,0)) ⟨by omega,Nat.le_refl 1⟩ qe8 qab ?_
   rintro ⟨ka,va_0⟩ ⟨hka,hIa⟩
   dsimp only at hka hIa ⊢
   refine t7 ?_
   refine cN ?_ ?_ <;> intro h38
   ·have hlta:ka<16:=by have:=of_decide_eq_true h38;omega
    clear h38
    have hfl:=qod (qml ks (qas z)) (qas z) ka
    refine t8 ?_
    refine qap rfl (by exact qau (j:=_) (er rfl) (er rfl) rfl rfl rf hzu) ?_
    refine t8 ?_
    refine cN ?_ ?_ <;> intro h40
    ·have hmt:qiu (qml ks (qas z)) (qas z) (ka+1)=qiu (qml ks (qas z)) (qas z) ka++[qas z+(ka:Int)]:=by conv=>lhs;unfold qiu;rw [ifT (show (decide (1≤ka)&&bit0 (qml ks (qas z)) ka)=true by rw [show bit0 (qml ks (qas z)) ka=true from h40,decide_eq_true hIa];rfl)]
     clear h40
     refine t4 ?_
     refine qap rfl (by exact qau (j:=_) (er rfl) (er rfl) rfl rfl rf hza) ?_
     refine t3 ?_
     refine qap rfl (qad (size:=1) (qs:=[(0,_)]) rfl rfl rfl ⟨⟨rfl,_,(er rfl),qbn⟩,trivial⟩ rf rf) ?_
     (refine qe6 rfl (qb9 (er rfl) (fun _=>qae) (by exact Ev.sub rfl (by exact SubL.row (xs:=[qas z+(ka:Int)]) rf rf ql5)) (by exact qep rfl rfl rfl) qbt) ?_;intro i166)
     refine t9 ?_
     rw [← hmt]
     exact qaa (ka+1,i166) ⟨by dsimp only;omega,by dsimp only;omega⟩ (by dsimp only;omega) qe8 qab
    have hmt:qiu (qml ks (qas z)) (qas z) (ka+1)=qiu (qml ks (qas z)) (qas z) ka:=by conv=>lhs;unfold qiu;rw [ifF (show (decide (1≤ka)&&bit0 (qml ks (qas z)) ka)=false by rw [show bit0 (qml ks (qas z)) ka=false from h40,Bool.and_false])]
    clear h40
    refine t8 ?_
    rw [← hmt]
    exact qaa (ka+1,va_0) ⟨by dsimp only;omega,by dsimp only;omega⟩ (by dsimp only;omega) qe8 qab
   have hkea:ka=16:=by have:=of_decide_eq_false h38;omega
   clear h38
   subst hkea
   refine qa8 hX (v:=slV (qiu (qml ks (qas z)) (qas z) 16).length va_0) qae ?_
   refine qb0 24 (qal tI64 (qo8 ks z)) rfl subR ?_
   refine t14 ?_
   refine cN ?_ ?_ <;> intro h42
   ·have e:qzf ks cnt own=qo8 ks z:=by unfold qzf;rw [find_at hz hI h42]
    refine t12 ?_
    exact qak () trivial (by rw [e];exact qe8) qab
   have hr:((own.take (k+1)).find? fun s=>decide (((qo8 ks s).length:Int)≥cnt))=none:=find_no hz hI h42
   have hm4:(own.take (k+1)).flatMap (qo8 ks)=(own.take k).flatMap (qo8 ks)++qo8 ks z:=by rw [List.take_add_one,hz,List.flatMap_append];simp
   have hfz:=qrn ks z
   have hfm:=zb9 ks (own.take k)
   have htl:(own.take k).length≤9:=by rw [List.length_take];omega
   clear h42
   refine t5 ?_
   (refine qe6 rfl (qb9 (er rfl) (fun _=>qae) evR (by exact qep rfl rfl rfl) qbt) ?_;intro i174)
   refine t9 ?_
   rw [← hm4]
   exact qaa (k+1,i174) ⟨by dsimp only;omega,hr⟩ (by dsimp only;omega) qe8 qab
  have hke:k=(own).length:=by have:=of_decide_eq_false h34;omega
  clear h34
  subst hke
  (try rw [List.take_length])
  (try rw [List.take_length] at hI)
  refine qa8 hX (v:=slV (own.flatMap (qo8 ks)).length v_0) qae ?_
  refine qb0 22 (qal tI64 (own.flatMap (qo8 ks))) rfl subR ?_
  refine qb0 22 (qal tI64 (qzf ks cnt own)) rfl (SubL.eq (by unfold qzf;rw [hI])) ?_
  refine t4 ?_
  exact qak () trivial qe8 qab
 rintro ⟨⟩ _
 have hsl:=srcC_len ks cnt own
 obtain ⟨all,hall⟩:∃ x,qzf ks cnt own=x:=⟨_,rfl⟩
 rw [hall] at hsl ⊢
 clear hall
 refine t12 ?_
 refine qcn 3 tI64 ?_
 refine qcn 3 tI64 ?_
 refine qaz [(1,_),(2,_),(3,_),(8,_),(22,_)] [blk i8 _ _] (fun y:Nat×(Option Addr×Nat)×(Option Addr×Nat)=>y.1≤(all).length∧(chR ks cnt all ([],[])=chR ks cnt (all.drop y.1) (chF ks (all.take y.1)))) (fun y=>[(26,Is (slV ((chF ks (all.take y.1)).2).length y.2.1)),(9,Is (slV ((chF ks (all.take y.1)).1).length y.2.2)),(27,Is (.int .i64 (y.1:Nat)))]) (fun y=>[buf (slV ((chF ks (all.take y.1)).2).length y.2.1) 3 tI64 ((chF ks (all.take y.1)).2),buf (slV ((chF ks (all.take y.1)).1).length y.2.2) 3 tI64 ((chF ks (all.take y.1)).1)]) (fun y=>(all).length-y.1) (0,(none,0),(none,0)) ⟨by exact Nat.zero_le _,rfl⟩ qe8 qab ?_
 rintro ⟨k,v_0,v_1⟩ ⟨hk,hI⟩
 dsimp only at hk hI ⊢
 refine t15 ?_
 refine cN ?_ ?_ <;> intro h47
 ·rw [Bool.and_eq_true] at h47
  obtain ⟨ha,hb⟩:=h47
  have hlt:k<all.length:=by have:=of_decide_eq_true ha;omega
  clear ha
  obtain ⟨z,hz⟩:∃ q,all[k]?=some q:=⟨_,List.getElem?_eq_getElem hlt⟩
  have hc:chF ks (all.take (k+1))=qg0 ks (chF ks (all.take k)) z:=by unfold chF;rw [List.take_add_one,hz,List.foldl_append];rfl
  have hE:chR ks cnt all ([],[])=(match chE ks z with|some e=>.error e|none=>chR ks cnt (all.drop (k+1)) (qg0 ks (chF ks (all.take k)) z)):=by rw [hI,qjc hz,chR];exact ifT hb
  have hl1:=zcl ks (all.take k)
  have hl2:=List.length_take_le k all
  have hkl:k≤200:=by omega
  clear hb
  refine t11 ?_
  refine kR call19 (qbu _ _) ?_
  refine t4 ?_
  intro i28
  refine t11 ?_
  refine cN ?_ ?_ <;> intro h50
  ·have e1:qg0 ks (chF ks (all.take k)) z=((chF ks (all.take k)).1++[z],(chF ks (all.take k)).2++[z]):=by unfold qg0;rw [ifT h50]
   have hq:=hc.trans e1
   have e2:chE ks z=none:=by unfold chE;rw [ifT h50]
   have hr:chR ks cnt all ([],[])=chR ks cnt (all.drop (k+1)) (chF ks (all.take (k+1))):=by rw [hE,hc];simp only [e2]
   refine t7 ?_
   refine qap rfl (qad (size:=1) (qs:=[(0,_)]) rfl rfl rfl ⟨⟨rfl,_,(er rfl),qbn⟩,trivial⟩ rf rf) ?_
   (refine qe6 rfl (qb9 (er rfl) (fun _=>qae) (by exact Ev.sub rfl (by exact SubL.row (xs:=[z]) rf rf ql5)) (by exact qep rfl rfl rfl) qbt) ?_;intro i204)
   refine t10 ?_
   refine qap rfl (qad (size:=1) (qs:=[(0,_)]) rfl rfl rfl ⟨⟨rfl,_,(er rfl),qbn⟩,trivial⟩ rf rf) ?_
   (refine qe6 rfl (qb9 (er rfl) (fun _=>qae) (by exact Ev.sub rfl (by exact SubL.row (xs:=[z]) rf rf ql5)) (by exact qep rfl rfl rfl) qbt) ?_;intro i211)
   refine t12 ?_
   exact qaa (k+1,i211,i204) ⟨by dsimp only;omega,hr⟩ (by dsimp only;omega) (by rw [hq];exact qe8) (by rw [hq];exact qab)
  skip
  refine t6 ?_
  refine kR call49 (qb5 _) ?_
  refine t2 ?_
  refine cN ?_ ?_ <;> intro h53
  ·have e2:chE ks z=some 3:=by unfold chE;rw [ifF h50,ifT h53]
   rw [hE,e2];dsimp only
   refine t2 ?_
   refine kR call44 (qcr _) ?_
   refine t10 ?_
   exact qaq (Bs:=[_]) results25 eR () SubL.rfl' (List.nil_sublist _)
  skip
  refine t6 ?_
  refine kR call63 (qel _) ?_
  refine t3 ?_
  refine cN ?_ ?_ <;> intro h55
  ·have e2:chE ks z=some 11:=by unfold chE;rw [ifF h50,ifF h53,ifT h55]
   rw [hE,e2];dsimp only
   refine t2 ?_
   refine kR call44 (qcr _) ?_
   refine t10 ?_
   exact qaq (Bs:=[_]) results25 eR () SubL.rfl' (List.nil_sublist _)
  have e2:chE ks z=none:=by unfold chE;rw [ifF h50,ifF h53,ifF h55]
  have hr:chR ks cnt all ([],[])=chR ks cnt (all.drop (k+1)) (chF ks (all.take (k+1))):=by rw [hE,hc];simp only [e2]
  refine t5 ?_
  refine kR call26 (qg8 _) ?_
  refine t3 ?_
  refine cN ?_ ?_ <;> intro h57
  ·have e1:qg0 ks (chF ks (all.take k)) z=((chF ks (all.take k)).1,(chF ks (all.take k)).2++[z]):=by unfold qg0;rw [ifF h50,ifT h57]
   have hq:=hc.trans e1
   refine t6 ?_
   refine qap rfl (qad (size:=1) (qs:=[(0,_)]) rfl rfl rfl ⟨⟨rfl,_,(er rfl),qbn⟩,trivial⟩ rf rf) ?_
   (refine qe6 rfl (qb9 (er rfl) (fun _=>qae) (by exact Ev.sub rfl (by exact SubL.row (xs:=[z]) rf rf ql5)) (by exact qep rfl rfl rfl) qbt) ?_;intro i228)
   refine t9 ?_
   exact qaa (k+1,i228,v_1) ⟨by dsimp only;omega,hr⟩ (by dsimp only;omega) (by rw [hq];exact qe8) (by rw [hq];exact qab)
  have e1:qg0 ks (chF ks (all.take k)) z=((chF ks (all.take k)).1,(chF ks (all.take k)).2):=by unfold qg0;rw [ifF h50,ifF h57]
  have hq:=hc.trans e1
  refine t8 ?_
  exact qaa (k+1,v_0,v_1) ⟨by dsimp only;omega,hr⟩ (by dsimp only;omega) (by rw [hq];exact qe8) (by rw [hq];exact qab)
 have hfin:chR ks cnt all ([],[]) = .ok (chF ks (all.take k)):=by
  rw [hI]
  by_cases hke:k=all.length
  ·subst hke;rw [List.drop_length];rfl
  ·have e9:decide (((chF ks (all.take k)).2.length:Int)<cnt)=false:=by
    rw [decide_eq_true (show (k:Int)<(all.length:Int) by omega),Bool.true_and] at h47
    exact h47
   rw [qjc (List.getElem?_eq_getElem (by omega:k<all.length))]
   rw [chR];exact ifF e9
 clear h47
 have hl1:=zcl ks (all.take k)
 have hl2:=List.length_take_le k all
 have hkl:k≤200:=by omega
 rw [hfin]
 obtain ⟨st,hst⟩:∃ x,chF ks (all.take k)=x:=⟨_,rfl⟩
 rw [hst] at hl1 ⊢
 clear hst hfin
 refine qa8 hX (v:=slV st.2.length v_0) qae ?_
 refine qa8 hX (v:=slV st.1.length v_1) qae ?_
 refine qb0 26 (qal tI64 st.2) rfl subR ?_
 refine qb0 9 (qal tI64 st.1) rfl subR ?_
 rw [show alpF ks lines cnt (.ok st)=if decide ((st.2.length:Int)<cnt)=true then qgs 12 else if decide ((st.1.length:Int)>0)=true then qre st.1 else lpA ks lines st.2 [] [] from rfl]
 refine t14 ?_
 refine cN ?_ ?_ <;> intro h59
 ·rw [ifT h59]
  refine t2 ?_
  refine kR call44 (qcr _) ?_
  refine t5 ?_
  exact qaq (Bs:=[_]) results25 eR () SubL.rfl' (List.nil_sublist _)
 rw [ifF h59]
 refine t10 ?_
 refine cN ?_ ?_ <;> intro h61
 ·rw [ifT h61]
  refine t9 ?_
  exact qaq (Bs:=[_]) results25 eR () SubL.rfl' (List.nil_sublist _)
 rw [ifF h61]
 refine t6 ?_
 intro i30
 refine t10 ?_
 refine qbq (b:=i30) (As':=[Is (.slice none 0 0),Is (.slice none 0 0),qal tPg [],Is (.int .i64 0),Is (.int .i64 0),Is (.bool true)]) qae ql5 ?_
 obtain ⟨W,hE⟩:∃ W,lpA ks lines st.2 [] []=W:=⟨_,rfl⟩
 rw [hE]
 refine qcn 53 tPg ?_
 refine qaz [(1,_),(3,_),(8,_),(26,_),(30,_)] [blk i8 _ _] (fun y:Nat×(List Pg)×(List Pg)×(Option Addr×Nat)=>y.1≤(st.2).length∧(y.2.1.length≤y.1∧y.2.2.1.length≤y.1)∧lpA ks lines (List.drop y.1 (st.2)) y.2.1 y.2.2.1=W) (fun y=>[(31,Is (.int .i64 (y.1:Nat)))]) (fun y=>[blk i30 40 [Is (.slice none 0 0),Is (slV (y.2.1).length y.2.2.2),qal tPg y.2.2.1,Is (.int .i64 0),Is (.int .i64 0),Is (.bool true)],buf (slV (y.2.1).length y.2.2.2) 53 tPg (y.2.1)]) (fun y=>(st.2).length-y.1) (0,[],[],(none,0)) ⟨by exact Nat.zero_le _,⟨Nat.le_refl 0,Nat.le_refl 0⟩,hE⟩ qe8 qab ?_
 clear hE
 rintro ⟨k,fr,w,v_0⟩ ⟨hk,hI,hE⟩
 dsimp only at hk hI hE ⊢
 refine t9 ?_
 refine cN ?_ ?_ <;> intro h65
 ·have hlt:k<(st.2).length:=by have:=of_decide_eq_true h65;omega
  clear h65
  obtain ⟨z,hz⟩:∃ q,(st.2)[k]?=some q:=⟨_,List.getElem?_eq_getElem hlt⟩
  rw [qjc hz,lpA] at hE
  (try dsimp only at hE)
  have hlc:(qg9 lines z).2.1.toNat<64:=by unfold qg9;split <;> (dsimp only;omega)
  have hlc0:0≤(qg9 lines z).2.1:=by unfold qg9;split <;> (dsimp only;omega)
  refine t11 ?_
  refine kR call19 (qbu _ _) ?_
  refine t4 ?_
  intro i32
  refine t9 ?_
  refine qap rfl (qad (size:=9) (qs:=[(0,_)]) rfl rfl rfl ⟨⟨rfl,_,(er rfl),qbn⟩,trivial⟩ rf rf) ?_
  (refine qe6 rfl (qb9 (er rfl) (fun _=>qae) (by exact Ev.sub rfl (by exact SubL.row (xs:=[qb6 ks z]) rf rf ql5)) (by exact qep rfl rfl rfl) qbt) ?_;intro i259)
  refine t11 ?_
  refine kR call64 (qmk _ _) ?_
  refine t14 ?_
  refine qap rfl (by ((refine qac call52 (qlx ks w ?_) ⟨evR,⟨evR,trivial⟩⟩);all_goals (omega))) ?_
  refine s1 ?_
  refine kR call48 (qb2 _) ?_
  refine kR call19 (qbu _ _) ?_
  refine t4 ?_
  intro i37
  refine t11 ?_
  refine qap rfl (by exact qd5 (k:=(qg9 lines z).2.1.toNat) qgi (er rfl) (by omega) qca) ?_
  refine t10 ?_
  refine qap rfl (qad (size:=9) (qs:=[(0,_)]) rfl rfl rfl ⟨⟨rfl,_,(er rfl),qbn⟩,trivial⟩ rf rf) ?_
  refine qap rfl (by ((refine qac call52 (qlx w [setU (qb6 (qcx ks w) (qas (qg9 lines z).1)) (qg9 lines z).2.1] ?_) ⟨evR,⟨evR,trivial⟩⟩);all_goals (simp;omega))) ?_
  refine t10 ?_
  exact qaa (k+1,_,_,_) ⟨by omega,⟨by simp;omega,by have h:=qai w [setU (qb6 (qcx ks w) (qas (qg9 lines z).1)) (qg9 lines z).2.1];simp only [List.length_cons,List.length_nil] at h;exact Nat.le_trans h (by dsimp only;omega)⟩,hE⟩ (by omega) qe8 qab
 have hke:k=(st.2).length:=by have:=of_decide_eq_false h65;omega
 clear h65
 subst hke
 rw [List.drop_length,lpA] at hE
 (try dsimp only at hE)
 refine qa8 hX (v:=slV fr.length v_0) qae ?_
 refine qbq (b:=i30) (As':=tS19.cells { S19.nil with fresh:=fr,writes:=w,over:=true }) qae ql5 ?_
 refine t12 ?_
 subst hE
 exact qaq (Bs:=[_]) results25 eR () SubL.rfl' (List.nil_sublist _)
theorem zbl (ks:List Pg) (lines:Int):∀ (l:List Int) (fr w:List Pg),(lpA ks lines l fr w).fresh.length=fr.length+l.length∧(∀ n,WL n w→WL (n+l.length) (lpA ks lines l fr w).writes)∧(lpA ks lines l fr w).over=true∧(lpA ks lines l fr w).code=0∧(lpA ks lines l fr w).need=[]
 | [],fr,w=>⟨rfl,fun n h=>h,rfl,rfl,rfl⟩
 | x :: l,fr,w=>by
  have ih:=zbl ks lines l (fr++[qb6 ks x]) (wrS ks lines w x)
  have hw:∀ n,WL n w→WL (n+1) (wrS ks lines w x):=fun n h=>qgf h (wl1 (n:=0) (show Ln (setU _ _) from qdd _ (qrg _))) (Nat.le_refl _)
  unfold lpA
  simp only [List.length_append,List.length_cons,List.length_nil] at ih ⊢
  exact ⟨by omega,fun n h=>(ih.2.1 _ (hw n h)).mono (by omega),ih.2.2⟩
theorem zck (ks:List Pg) (cnt:Int) (h0:0≤cnt):∀ (l:List Int) (st st':List Int×List Int),(st.2.length:Int)≤cnt→chR ks cnt l st = .ok st'→(st'.2.length:Int)≤cnt
 | [],st,st',h,e=>by unfold chR at e;cases e;exact h
 | x :: l,st,st',h,e=>by
  unfold chR at e
  split at e
  ·rename_i hlt
   have hlt':=of_decide_eq_true hlt
   split at e
   ·cases e
   ·refine zck ks cnt h0 l _ st' ?_ e
    unfold qg0
    split
    ·simp;omega
    ·split
     ·simp;omega
     ·exact h
  ·cases e;exact h
def AlpF (cnt:Int) (r:S19):Prop:=WL 12 r.writes∧(r.over=true→r.code=0→(r.fresh.length:Int)=cnt)∧(r.over=false→r.need≠[])∧(r.over=true→r.need=[])
theorem qjf (cnt e:Int) (h:e≠0):AlpF cnt (qgs e):=⟨wl0,fun _ h0=>absurd h0 h,fun h=>Bool.noConfusion (show true=false from h),fun _=>rfl⟩
theorem qon (cnt:Int) {l:List Int} (h:decide ((l.length:Int)>0)=true):AlpF cnt (qre l):=⟨wl0,fun h=>Bool.noConfusion (show false=true from h),fun _ e=>by
 have e':l=[]:=e
 subst e'
 exact absurd h (by decide),fun h=>Bool.noConfusion (show false=true from h)⟩
theorem alpR_ok (ks:List Pg) (o lines cnt:Int):AlpF cnt (alpR ks o lines cnt):=by
 unfold alpR
 split
 ·exact qjf _ _ (by decide)
 ·rename_i h1
  have hc:1≤cnt∧cnt≤12:=by unfold clB at h1;simp at h1;omega
  split
  ·rename_i h2;exact qon _ h2
  ·split
   ·rename_i h3;exact qjf _ _ (by simpa using h3)
   ·split
    ·rename_i h4;exact qon _ h4
    ·unfold alpG
     split
     ·rename_i e he
      refine qjf _ _ ?_
      obtain ⟨l,_,hl⟩:=List.exists_of_findSome?_eq_some he
      unfold hE1 at hl
      split at hl
      ·cases hl;decide
      ·split at hl
       ·cases hl;decide
       ·split at hl
        ·cases hl;decide
        ·cases hl
     ·unfold alpF
      split
      ·rename_i e he
       refine qjf _ _ ?_
       have key:∀ (l:List Int) (st:List Int×List Int),chR ks cnt l st = .error e→e≠0:=by
        intro l
        induction l with
        | nil=>intro st h;unfold chR at h;cases h
        | cons x l ih =>
         intro st h
         unfold chR at h
         split at h
         ·split at h
          ·rename_i e' he'
           cases h
           unfold chE at he'
           split at he'
           ·cases he'
           ·split at he'
            ·cases he';decide
            ·split at he'
             ·cases he';decide
             ·cases he'
          ·exact ih _ h
         ·cases h
       exact key _ _ he
      ·rename_i st hst
       have hl:=zck ks cnt (by omega) _ ([],[]) st (by simp;omega) hst
       split
       ·exact qjf _ _ (by decide)
       ·rename_i h5
        split
        ·rename_i h6;exact qon _ h6
        ·have h:=zbl ks lines st.2 [] []
         simp at h5
         refine ⟨(h.2.1 0 wl0).mono (by omega),fun _ _=>by rw [h.1];simp;omega,fun hq=>(by rw [h.2.2.1] at hq;cases hq),fun _=>h.2.2.2.2⟩
theorem qjp (ks:List Pg) (o lines cnt:Int) (hks:ks.length≤10000):FnP Tryz.prog 25 [Is (.int .i64 o),Is (.int .i64 lines),Is (.int .i64 cnt),qal tPg ks] (qek (AlpF cnt) qza):=fun φ w vs ha hm =>
 (qm7 ks o lines cnt hks φ w vs ha hm).mono fun e w' ⟨i,v,φ',h1,h2,h3⟩=>⟨i,v,φ',h1,⟨_,alpR_ok ks o lines cnt,h2⟩,h3⟩
theorem qbk (B:Nat) (e:Int):FnP Tryz.prog 134 [Is (.int .i64 e)] (qjl B ⟨[],[],⟨e,Cu.nil,false,[]⟩,true⟩):=by
 refine FnP.enter func134 ntmps134 rfl rfl ?_
 intro c hX
 refine t3 ?_
 intro i2
 refine t11 ?_
 exact qaq (Bs:=[_]) results134 eRF () SubL.rfl' (List.nil_sublist _)
theorem qgg (B:Nat) (c0:Cu):FnP Tryz.prog 139 [IsCu c0] (qjl B ⟨[],[],⟨0,c0,false,[]⟩,true⟩):=by
 refine FnP.enter func139 ntmps139 rfl rfl ?_
 intro c hX
 refine t3 ?_
 intro i1
 refine s1 ?_
 intro i2
 refine t11 ?_
 exact qaq (Bs:=[_]) results139 eRF () SubL.rfl' (List.nil_sublist _)
theorem qlo (B0:Nat) (ws:List Pg) (ck:List Int) (nx:Cu) (hc:ck.length≤1000) (hw:ws.length≤1000):FnP Tryz.prog 140 [qbe B0 (qal tPg ws),qal tI64 ck,IsCu nx] (qek (fun r:SS26=>r.writes=ws) fun r=>qjl B0 r):=by
 refine FnP.enter func140 ntmps140 rfl rfl ?_
 intro c hX
 refine t3 ?_
 intro i5
 refine s1 ?_
 intro i6
 refine t14 ?_
 refine qaz [(0,_),(1,_),(5,_),(6,_)] [blk i6 _ _,blk i5 _ _] (fun y:Nat×(List Int)=>y.1≤(ck).length∧(y.2.length≤y.1)) (fun y=>[(7,qal tI64 y.2),(8,Is (.int .i64 (y.1:Nat)))]) (fun y=>[]) (fun y=>(ck).length-y.1) (0,[]) ?_ qah qab ?_
 ·exact ⟨by exact Nat.zero_le _,Nat.le_refl 0⟩
 rintro ⟨k,ls⟩ ⟨hk,hI⟩
 dsimp only at hk hI ⊢
 refine t9 ?_
 refine cN ?_ ?_ <;> intro h3
 ·have hlt:k<(ck).length:=by have:=of_decide_eq_true h3;omega
  clear h3
  obtain ⟨z,hz⟩:∃ q,(ck)[k]?=some q:=⟨_,List.getElem?_eq_getElem hlt⟩
  refine t16 ?_
  refine qaz [(0,_),(1,_),(5,_),(6,_),(7,_),(8,_),(11,_),(12,_),(13,_)] [blk i6 _ _,blk i5 _ _] (fun ya:Nat×Bool=>ya.1≤ws.length) (fun ya=>[(9,Is (.bool ya.2)),(10,Is (.int .i64 (ya.1:Nat)))]) (fun ya=>[]) (fun ya=>ws.length-ya.1) (0,false) (Nat.zero_le _) qah qab ?_
  rintro ⟨ka,wr⟩ hka
  dsimp only at hka ⊢
  refine t5 ?_
  refine qge 18 (qal tPg ws) rfl SubL.fresh ?_
  refine t4 ?_
  refine cN ?_ ?_ <;> intro h7
  ·have hlta:ka<ws.length:=by have:=of_decide_eq_true h7;omega
   clear h7
   obtain ⟨za,hza⟩:∃ q,ws[ka]?=some q:=⟨_,List.getElem?_eq_getElem (by omega)⟩
   refine t4 ?_
   refine qa0 rfl (by kernel_rfl) ?_
   refine qag 14 (by kernel_rfl) ?_
   refine t4 ?_
   (refine qem rfl rfl (fun hg=>(by have hg0:=hg;(try simp at hg);exact qau (j:=ka) (Ev.sub rfl (SubL.iteT (by assumption) SubL.fresh)) evG rfl rfl rf hza)) ?_)
   refine t9 ?_
   refine ⟨rfl,?_⟩
   refine qat ?_
   refine t7 ?_
   refine qaa (ka+1,_) ?_ ?_ qah qab
   ·exact (by omega)
   ·exact (by omega)
  have hkea:ka=ws.length:=by have:=of_decide_eq_false h7;omega
  clear h7
  subst hkea
  refine t11 ?_
  refine cN ?_ ?_ <;> intro h10
  ·refine t6 ?_
   refine qap rfl (by ((refine qac call78 (qim _ _ ?_) ⟨qar,⟨qar,trivial⟩⟩);all_goals (omega))) ?_
   refine t9 ?_
   refine qaa (k+1,_) ?_ ?_ qah qab
   ·exact ⟨by omega,by exact Nat.le_trans (qg6 _ _) (by omega)⟩
   ·exact (by omega)
  refine t8 ?_
  refine qaa (k+1,_) ?_ ?_ qah qab
  ·exact ⟨by omega,by (dsimp only;omega)⟩
  ·exact (by omega)
 have hke:k=(ck).length:=by have:=of_decide_eq_false h3;omega
 clear h3
 subst hke
 refine t16 ?_
 exact rXF (⟨_,_,(⟨_,(⟨_,_,_⟩:Cu),_,_⟩:SO26),_⟩:SS26) results140 (hp:=by exact rfl)
def PT24 (r:S24):Prop:=WL 30 r.writes∧r.out.check.length≤300
theorem qso (op:Op24) (cl lines:Int) (ks:List Pg) (hks:ks.length≤9000):FnF Tryz.prog 165 [qmy op,Is (.int .i64 cl),Is (.int .i64 lines),qal tPg ks] (fun B=>qek PT24 fun r=>qjm B r):=by
 refine FnF.enter func165 ntmps165 rfl rfl ?_
 intro c hX
 refine t3 ?_
 intro i4
 refine s1 ?_
 intro i8
 refine t6 ?_
 refine qap rfl (qaw call166 (qgd (⟨_,_,_,(⟨_,_⟩:Pt),_,_,_⟩:Op24) _) ⟨qbb,⟨qbb,trivial⟩⟩) ?_
 (refine qa5 13 rfl ?_;intro x13 hx13)
 refine s1 ?_
 intro i9
 refine t5 ?_
 obtain ⟨hp1,hp2,hp3⟩:=hx13
 have hp4:=hp1.1
 refine t12 ?_
 refine cN ?_ ?_ <;> intro h2
 ·refine t8 ?_
  exact rXF (⟨_,_,(⟨_,_,_,_,_,_,_,(⟨_,_⟩:Pt),_,_,_,_,_⟩:O24),_⟩:S24) results165 (hp:=by exact ⟨hp1.mono (by decide),hp3⟩)
 refine t10 ?_
 refine qap rfl (by ((refine qac call25 (qjp _ _ _ _ ?_) ⟨qar,⟨qar,⟨qar,⟨qar,trivial⟩⟩⟩⟩);all_goals (omega))) ?_
 (refine qa5 30 rfl ?_;intro x30 hx30)
 refine s1 ?_
 intro i10
 refine t5 ?_
 obtain ⟨ha1,ha2,ha3,ha4⟩:=hx30
 have ha5:=ha1.1
 refine t6 ?_
 refine cN ?_ ?_ <;> intro h5
 ·refine t10 ?_
  exact rXF (⟨_,_,(⟨_,_,_,_,_,_,_,(⟨_,_⟩:Pt),_,_,_,_,_⟩:O24),_⟩:S24) results165 (hp:=by exact ⟨wl0,Nat.zero_le _⟩)
 refine t10 ?_
 refine cN ?_ ?_ <;> intro h7
 ·refine t11 ?_
  exact rXF (⟨_,_,(⟨_,_,_,_,_,_,_,(⟨_,_⟩:Pt),_,_,_,_,_⟩:O24),_⟩:S24) results165 (hp:=by exact ⟨wl0,Nat.zero_le _⟩)
 refine t11 ?_
 refine qa0 rfl (by kernel_rfl) ?_
 refine qag 6 (by kernel_rfl) ?_
 refine t4 ?_
 refine qbc (by ((refine qaw call52 (qcc _ _ ?_) ⟨qar,⟨qar,trivial⟩⟩);all_goals (omega))) ?_
 refine qbc (qaw call166 (qgd (⟨_,_,_,(⟨_,_⟩:Pt),_,_,_⟩:Op24) _) ⟨qbb,⟨qbb,trivial⟩⟩) ?_
 refine ⟨rfl,?_⟩
 (refine qmx 52 rfl ?_;intro x52 hx52)
 refine qef (by kernel_rfl) rfl (qav (er rfl) (er rfl) qaf qae qbo rf rf rf) ?_
 refine qat ?_
 refine t3 ?_
 obtain ⟨hq1,hq2,hq3⟩:=hx52
 have hq4:=hq1.1
 refine t11 ?_
 refine cN ?_ ?_ <;> intro h11
 ·refine t5 ?_
  refine qap rfl (by ((refine qaw call52 (qcc _ _ ?_) ⟨qar,⟨qar,trivial⟩⟩);all_goals (omega))) ?_
  refine t11 ?_
  exact rXF (⟨_,_,(⟨_,_,_,_,_,_,_,(⟨_,_⟩:Pt),_,_,_,_,_⟩:O24),_⟩:S24) results165 (hp:=by exact ⟨by exact qgf ha1 hq1 (by decide),hq3⟩)
 refine t9 ?_
 exact rXF (⟨_,_,(⟨_,_,_,_,_,_,_,(⟨_,_⟩:Pt),_,_,_,_,_⟩:O24),_⟩:S24) results165 (hp:=by exact ⟨by exact hq1.mono (by decide),hq3⟩)
def PSS (r:SS26):Prop:=WL 100 r.writes
theorem qie {r:SS26} {ws:List Pg} (h:r.writes=ws) (hl:WL 100 ws):PSS r:=by unfold PSS;rw [h];exact hl
end Go.Proofs.YtmgoplaamlignaaGreat
