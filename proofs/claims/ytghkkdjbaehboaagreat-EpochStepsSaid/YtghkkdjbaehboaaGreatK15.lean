/- Walks of functions and plain laws, laid together. Own work. -/
import Derived.Test.YtghkkdjbaehboaaGreatK10
import Derived.Test.YtghkkdjbaehboaaGreatK12
namespace Go.Proofs.YtghkkdjbaehboaaGreat
open Go.RowKit Tryz
set_option linter.unusedVariables false
set_option linter.unusedSimpArgs false
set_option maxRecDepth 100000
set_option maxHeartbeats 4000000
theorem ze7 (H:List Pg) (mask:BitVec 64) (hH:H.length≤10000):FnP Tryz.prog 10 [IsSl tPg H,Is (.int .u64 (UV mask))] (qes (fun r:List Pg=>r.length≤H.length) fun r=>IsSl tPg r):=by
 refine FnP.enter func10 ntmps10 rfl rfl ?_
 intro c hX
 refine qgv (t:=0) rfl (fun hlen=>?_)
 refine t17 ?_
 refine qcd 48 tPg ?_
 refine qav [(0,_),(1,_),(4,_)] [] (fun y:Nat×(List Pg)×(Option Addr×Nat)=>y.1≤(H).length∧(y.2.1.length≤y.1)) (fun y=>[(5,Is (slV (y.2.1).length y.2.2)),(6,Is (.int .i64 (y.1:Nat)))]) (fun y=>[buf (slV (y.2.1).length y.2.2) 48 tPg (y.2.1)]) (fun y=>(H).length-y.1) (0,[],(none,0)) ?_ qaj qab ?_
 ·exact ⟨by exact Nat.zero_le _,Nat.le_refl 0⟩
 rintro ⟨k,ws,v_0⟩ ⟨hk,hI⟩
 dsimp only at hk hI ⊢
 refine t9 ?_
 refine cN ?_ ?_ <;> intro h3
 ·have hlt:k<(H).length:=by have:=of_decide_eq_true h3;omega
  clear h3
  obtain ⟨z,hz⟩:∃ q,(H)[k]?=some q:=⟨_,List.getElem?_eq_getElem hlt⟩
  refine t15 ?_
  refine cN ?_ ?_ <;> intro h5
  ·refine t6 ?_
   refine qap rfl (qac (size:=9) (qs:=[(0,_)]) rfl rfl rfl ⟨⟨rfl,_,(er rfl),qag⟩,trivial⟩ rf rf) ?_
   (refine qew rfl (qb6 (er rfl) (fun _=>qae) (by exact Ev.sub rfl (by exact SubL.row (xs:=[z]) rf rf qw8)) (by exact qej rfl rfl rfl) qb8) ?_;intro i26)
   refine t9 ?_
   refine qaa (k+1,_,i26) ?_ ?_ qaj qab
   ·exact ⟨by omega,by (simp;omega)⟩
   ·exact (by omega)
  refine t8 ?_
  refine qaa (k+1,_,v_0) ?_ ?_ qaj qab
  ·exact ⟨by omega,by (simp;omega)⟩
  ·exact (by omega)
 have hke:k=(H).length:=by have:=of_decide_eq_false h3;omega
 clear h3
 subst hke
 refine qa7 hX (v:=slV ws.length v_0) qae ?_
 refine qb0 5 (IsSl tPg ws) rfl (SubL.fact qbw) ?_
 refine t12 ?_
 exact rXF _ results10 (hp:=by exact hI) (hD0:=hX.2)
def pgF (H:List Pg) (x:Int):Pg:=if x-96<(H.length:Int) then (H[(x-96).toNat]?).getD Pg.nil else ⟨x,256#64,0#64,0#64,0#64,0#64,0#64,0#64,0#64⟩
theorem pgF_in {H:List Pg} {x:Int} {p:Pg} (h:x-96<(H.length:Int)) (hp:H[(x-96).toNat]?=some p):pgF H x=p:=by unfold pgF;rw [if_pos h,hp];rfl
theorem zcg {H:List Pg} {x:Int} (h:¬ x-96<(H.length:Int)):pgF H x=⟨x,256#64,0#64,0#64,0#64,0#64,0#64,0#64,0#64⟩:=if_neg h
theorem zda {H:List Pg} {ls:List Int} {k:Nat} {z:Int} (h:ls[k]?=some z):(ls.take (k+1)).map (pgF H)=(ls.take k).map (pgF H)++[pgF H z]:=by
 rw [List.take_add_one,h,List.map_append];rfl
theorem zfn (ks H:List Pg) (nd:List Int) (hkl:ks.length≤10000) (hnl:nd.length≤10000) (hg:∀ x,x∈nd→qhh ks x=false∧96≤x∧x≤300) (ha:nd.Pairwise (· < ·)):FnP Tryz.prog 15 [IsSl tPg ks,IsSl tPg H,IsSl tI64 nd] (qbu [IsSl tPg (ks++nd.map (pgF H)),Is (.bool (decide ((nd.length:Int)>0)))]):=by
 refine FnP.enter func15 ntmps15 rfl rfl ?_
 intro c hX
 refine qgv (t:=1) rfl (fun hlen=>?_)
 refine t8 ?_
 (refine qwx rfl (qb3 tPg rfl rfl) ?_;intro i14)
 refine s1 ?_
 (refine qew rfl (qb6 (er rfl) (fun _=>qae) qaq (by exact qej rfl rfl rfl) qb8) ?_;intro i16)
 refine t5 ?_
 rw [show ([]++ks:List Pg)=ks++(nd.take 0).map (pgF H) by simp]
 refine t5 ?_
 refine qav [(0,_),(1,_),(2,_),(6,_),(7,_)] [] (fun y:Nat×(Option Addr×Nat)=>y.1≤(nd).length) (fun y=>[(8,Is (slV (ks++(nd.take y.1).map (pgF H)).length y.2)),(9,Is (.int .i64 (y.1:Nat)))]) (fun y=>[buf (slV (ks++(nd.take y.1).map (pgF H)).length y.2) 48 tPg (ks++(nd.take y.1).map (pgF H))]) (fun y=>(nd).length-y.1) (0,i16) (Nat.zero_le _) qa9 qab ?_
 rintro ⟨k,v_0⟩ hk
 dsimp only at hk ⊢
 refine t9 ?_
 refine cN ?_ ?_ <;> intro h3
 ·have hlt:k<(nd).length:=by have:=of_decide_eq_true h3;omega
  clear h3
  obtain ⟨z,hz⟩:∃ q,(nd)[k]?=some q:=⟨_,List.getElem?_eq_getElem hlt⟩
  have hmt:(ks++(nd.take k).map (pgF H))++[pgF H z]=ks++(nd.take (k+1)).map (pgF H):=by rw [zda hz,List.append_assoc]
  obtain ⟨hg1,hg2,hg3⟩:=hg z (List.mem_of_getElem? hz)
  obtain ⟨q,hq0⟩:∃ q,nd.getD (k-1) 0=q:=⟨_,rfl⟩
  have hq:0<k→nd[k-1]?=some q:=fun h=>by rw [← hq0,List.getD_eq_getElem?_getD,List.getElem?_eq_getElem (by omega)];rfl
  have hqz:0<k→q<z:=fun h=>by
   have h1:=List.pairwise_iff_getElem.1 ha (k-1) k (by omega) (by omega) (by omega)
   have h2:=(List.getElem?_eq_some_iff.1 (hq h)).2
   have h3:=(List.getElem?_eq_some_iff.1 hz).2
   rw [h2,h3] at h1
   exact h1
  have hml:(ks++(nd.take k).map (pgF H)).length≤20000:=by simp;omega
  refine t22 ?_
  refine kRF call32 (qby _ _) ?_
  refine t4 ?_
  intro i11
  refine t5 ?_
  refine qaz rfl (by kernel_rfl) ?_
  refine qaf 21 (by kernel_rfl) ?_
  refine t8 ?_
  (refine zax rfl rfl (fun hp hg=>(by have hpg:=Bool.and_eq_true_iff.2 ⟨hp,hg⟩;have hg0:=hg;(try simp at hg);exact qam (j:=k-1) evG evG rfl rfl (by omega) (hq (by omega)))) ?_)
  refine t12 ?_
  refine ⟨rfl,?_⟩
  refine qar ?_
  refine s1 ?_
  refine cN ?_ ?_ <;> intro h7
  ·exact absurd h7 (by
    rw [hg1,Bool.false_or,decide_eq_false (show ¬ z-96<0 by omega),Bool.or_false]
    by_cases hk0:0<k
    ·rw [decide_eq_false (show ¬ q≥z by have:=hqz hk0;omega),Bool.and_false];decide
    ·rw [decide_eq_false (show ¬ (k:Int)>0 by omega),Bool.false_and];decide)
  refine t10 ?_
  intro i13
  refine t12 ?_
  refine qb1 [(0,_),(1,_),(2,_),(6,_),(7,_),(8,_),(9,_),(10,_),(11,_),(12,_),(13,_),(17,_),(18,_),(19,_),(23,_),(24,_),(25,_),(26,_),(27,_),(28,_),(29,_),(30,_),(31,_),(32,_),(33,_),(34,_),(35,_),(36,_),(37,_),(38,_),(39,_),(40,_),(41,_),(42,_),(43,_),(44,_),(45,_),(46,_),(47,_),(48,_),(49,_),(50,_),(51,_),(52,_),(53,_),(54,_),(55,_),(56,_),(58,_),(59,_),(60,_),(61,_),(62,_),(63,_),(64,_),(65,_)] [blk i11 _ _,buf _ _ _ _] (fun yc:Pg=>yc=pgF H z) (fun yc=>[]) (fun yc=>[blk i13 48 (tPg.cells yc)]) qa9 qab ?_ ?_
  rotate_left
  focus
   refine cN ?_ ?_ <;> intro h10
   ·obtain ⟨p0,hzp⟩:∃ q,H[(z-96).toNat]?=some q:=⟨_,List.getElem?_eq_getElem (by have:=of_decide_eq_true h10;omega)⟩
    have hpa:=(pgF_in (of_decide_eq_true h10) hzp).symm
    refine t3 ?_
    refine qap rfl (by exact qam (j:=(z-96).toNat) (er rfl) (er rfl) rfl rfl (by omega) hzp) ?_
    refine t3 ?_
    refine qao (b:=i13) (As':=tPg.cells p0) qae qbf ?_
    refine qai p0 ?_ qa9 qab
    ·exact hpa
   have hpb:=(zcg (of_decide_eq_false h10)).symm
   refine s1 ?_
   refine qao (b:=i13) (As':=tPg.cells (⟨z,256#64,0#64,0#64,0#64,0#64,0#64,0#64,0#64⟩:Pg)) qae qbf ?_
   refine qai (⟨z,256#64,0#64,0#64,0#64,0#64,0#64,0#64,0#64⟩:Pg) ?_ qa9 qab
   ·exact hpb
  rintro p rfl
  refine t3 ?_
  refine qap rfl (qac (size:=9) (qs:=[(0,_)]) rfl rfl rfl ⟨⟨rfl,_,(er rfl),qag⟩,trivial⟩ rf rf) ?_
  (refine qew rfl (qb6 (er rfl) (fun _=>qae) (by exact Ev.sub rfl (by exact SubL.row (xs:=[pgF H z]) rf rf qw8)) (by exact qej rfl rfl rfl) qb8) ?_;intro i74)
  refine t9 ?_
  rw [hmt]
  exact qaa (k+1,i74) (by omega) (by omega) qa9 qab
 have hke:k=(nd).length:=by have:=of_decide_eq_false h3;omega
 clear h3
 subst hke
 (try rw [List.take_length])
 refine qa7 hX (v:=slV _ v_0) qae ?_
 refine t16 ?_
 exact qan (Bs:=[IsSl tPg (ks++nd.map (pgF H)),Is (.bool (decide ((nd.length:Int)>0)))]) results15 eRF () SubL.rfl' (List.nil_sublist _)
theorem zdb (ks:List Pg) (lines:Int):∀ (l:List Int) (fr w:List Pg),(lpA ks lines l fr w).fresh.length=fr.length+l.length∧(∀ n,WL n w→WL (n+l.length) (lpA ks lines l fr w).writes)∧(lpA ks lines l fr w).over=true∧(lpA ks lines l fr w).code=0∧(lpA ks lines l fr w).need=[]
 | [],fr,w=>⟨rfl,fun n h=>h,rfl,rfl,rfl⟩
 | x :: l,fr,w=>by
  have ih:=zdb ks lines l (fr++[qbk ks x]) (wrS ks lines w x)
  have hw:∀ n,WL n w→WL (n+1) (wrS ks lines w x):=fun n h=>qgn h (wl1 (n:=0) (show Ln (setU _ _) from qdl _ (qrk _))) (Nat.le_refl _)
  unfold lpA
  simp only [List.length_append,List.length_cons,List.length_nil] at ih ⊢
  exact ⟨by omega,fun n h=>(ih.2.1 _ (hw n h)).mono (by omega),ih.2.2⟩
theorem zeh (ks:List Pg) (cnt:Int) (h0:0≤cnt):∀ (l:List Int) (st st':List Int×List Int),(st.2.length:Int)≤cnt→chR ks cnt l st = .ok st'→(st'.2.length:Int)≤cnt
 | [],st,st',h,e=>by unfold chR at e;cases e;exact h
 | x :: l,st,st',h,e=>by
  unfold chR at e
  split at e
  ·rename_i hlt
   have hlt':=of_decide_eq_true hlt
   split at e
   ·cases e
   ·refine zeh ks cnt h0 l _ st' ?_ e
    unfold qi7
    split
    ·simp;omega
    ·split
     ·simp;omega
     ·exact h
  ·cases e;exact h
def AlpF (cnt:Int) (r:S19):Prop:=WL 12 r.writes∧(r.over=true→r.code=0→(r.fresh.length:Int)=cnt)∧(r.over=false→r.need≠[])∧(r.over=true→r.need=[])
theorem qjq (cnt e:Int) (h:e≠0):AlpF cnt (qfu e):=⟨wl0,fun _ h0=>absurd h0 h,fun h=>Bool.noConfusion (show true=false from h),fun _=>rfl⟩
theorem qor (cnt:Int) {l:List Int} (h:decide ((l.length:Int)>0)=true):AlpF cnt (qrf l):=⟨wl0,fun h=>Bool.noConfusion (show false=true from h),fun _ e=>by
 have e':l=[]:=e
 subst e'
 exact absurd h (by decide),fun h=>Bool.noConfusion (show false=true from h)⟩
theorem alpR_ok (ks:List Pg) (o lines cnt:Int):AlpF cnt (alpR ks o lines cnt):=by
 unfold alpR
 split
 ·exact qjq _ _ (by decide)
 ·rename_i h1
  have hc:1≤cnt∧cnt≤12:=by unfold clB at h1;simp at h1;omega
  split
  ·rename_i h2;exact qor _ h2
  ·split
   ·rename_i h3;exact qjq _ _ (by simpa using h3)
   ·split
    ·rename_i h4;exact qor _ h4
    ·unfold alpG
     split
     ·rename_i e he
      refine qjq _ _ ?_
      obtain ⟨l,_,hl⟩:=List.exists_of_findSome?_eq_some he
      unfold hE1 at hl
      split at hl
      ·cases hl;decide
      ·split at hl
       ·cases hl;decide
       ·split at hl
        ·cases hl;decide
        ·cases hl
     ·unfold alpF
      split
      ·rename_i e he
       refine qjq _ _ ?_
       have key:∀ (l:List Int) (st:List Int×List Int),chR ks cnt l st = .error e→e≠0:=by
        intro l
        induction l with
        | nil=>intro st h;unfold chR at h;cases h
        | cons x l ih =>
         intro st h
         unfold chR at h
         split at h
         ·split at h
          ·rename_i e' he'
           cases h
           unfold chE at he'
           split at he'
           ·cases he'
           ·split at he'
            ·cases he';decide
            ·split at he'
             ·cases he';decide
             ·cases he'
          ·exact ih _ h
         ·cases h
       exact key _ _ he
      ·rename_i st hst
       have hl:=zeh ks cnt (by omega) _ ([],[]) st (by simp;omega) hst
       split
       ·exact qjq _ _ (by decide)
       ·rename_i h5
        split
        ·rename_i h6;exact qor _ h6
        ·have h:=zdb ks lines st.2 [] []
         simp at h5
         refine ⟨(h.2.1 0 wl0).mono (by omega),fun _ _=>by rw [h.1];simp;omega,fun hq=>(by rw [h.2.2.1] at hq;cases hq),fun _=>h.2.2.2.2⟩
theorem qj1 (ks:List Pg) (o lines cnt:Int) (hks:ks.length≤10000):FnP Tryz.prog 172 [Is (.int .i64 o),Is (.int .i64 lines),Is (.int .i64 cnt),IsSl tPg ks] (qes (AlpF cnt) zfh):=fun φ w vs ha hm =>
 (qng ks o lines cnt hks φ w vs ha hm).mono fun e w' ⟨i,v,φ',h1,h2,h3⟩=>⟨i,v,φ',h1,⟨_,alpR_ok ks o lines cnt,h2⟩,h3⟩
theorem qbj (B:Nat) (e:Int):FnP Tryz.prog 125 [Is (.int .i64 e)] (qjx B ⟨[],[],⟨e,Cu.nil,false,[]⟩,true⟩):=by
 refine FnP.enter func125 ntmps125 rfl rfl ?_
 intro c hX
 refine t3 ?_
 intro i2
 refine t11 ?_
 exact qan (Bs:=[_]) results125 eRF () SubL.rfl' (List.nil_sublist _)
theorem qgo (B:Nat) (c0:Cu):FnP Tryz.prog 130 [IsCu c0] (qjx B ⟨[],[],⟨0,c0,false,[]⟩,true⟩):=by
 refine FnP.enter func130 ntmps130 rfl rfl ?_
 intro c hX
 refine t3 ?_
 intro i1
 refine s1 ?_
 intro i2
 refine t11 ?_
 exact qan (Bs:=[_]) results130 eRF () SubL.rfl' (List.nil_sublist _)
theorem qly (B0:Nat) (ws:List Pg) (ck:List Int) (nx:Cu) (hc:ck.length≤1000) (hw:ws.length≤1000):FnP Tryz.prog 131 [qbd B0 (IsSl tPg ws),IsSl tI64 ck,IsCu nx] (qes (fun r:SS26=>r.writes=ws) fun r=>qjx B0 r):=by
 refine FnP.enter func131 ntmps131 rfl rfl ?_
 intro c hX
 refine t3 ?_
 intro i5
 refine s1 ?_
 intro i6
 refine t14 ?_
 refine qav [(0,_),(1,_),(5,_),(6,_)] [blk i6 _ _,blk i5 _ _] (fun y:Nat×(List Int)=>y.1≤(ck).length∧(y.2.length≤y.1)) (fun y=>[(7,IsSl tI64 y.2),(8,Is (.int .i64 (y.1:Nat)))]) (fun y=>[]) (fun y=>(ck).length-y.1) (0,[]) ?_ qaj qab ?_
 ·exact ⟨by exact Nat.zero_le _,Nat.le_refl 0⟩
 rintro ⟨k,ls⟩ ⟨hk,hI⟩
 dsimp only at hk hI ⊢
 refine t9 ?_
 refine cN ?_ ?_ <;> intro h3
 ·have hlt:k<(ck).length:=by have:=of_decide_eq_true h3;omega
  clear h3
  obtain ⟨z,hz⟩:∃ q,(ck)[k]?=some q:=⟨_,List.getElem?_eq_getElem hlt⟩
  refine t16 ?_
  refine qav [(0,_),(1,_),(5,_),(6,_),(7,_),(8,_),(11,_),(12,_),(13,_)] [blk i6 _ _,blk i5 _ _] (fun ya:Nat×Bool=>ya.1≤ws.length) (fun ya=>[(9,Is (.bool ya.2)),(10,Is (.int .i64 (ya.1:Nat)))]) (fun ya=>[]) (fun ya=>ws.length-ya.1) (0,false) (Nat.zero_le _) qaj qab ?_
  rintro ⟨ka,wr⟩ hka
  dsimp only at hka ⊢
  refine t5 ?_
  refine qi1 18 (IsSl tPg ws) rfl SubL.fresh ?_
  refine t4 ?_
  refine cN ?_ ?_ <;> intro h7
  ·have hlta:ka<ws.length:=by have:=of_decide_eq_true h7;omega
   clear h7
   obtain ⟨za,hza⟩:∃ q,ws[ka]?=some q:=⟨_,List.getElem?_eq_getElem (by omega)⟩
   refine t4 ?_
   refine qaz rfl (by kernel_rfl) ?_
   refine qaf 14 (by kernel_rfl) ?_
   refine t4 ?_
   (refine qd2 rfl rfl (fun hg=>(by have hg0:=hg;(try simp at hg);exact qam (j:=ka) (Ev.sub rfl (SubL.iteT (by assumption) SubL.fresh)) evG rfl rfl rf hza)) ?_)
   refine t9 ?_
   refine ⟨rfl,?_⟩
   refine qar ?_
   refine t7 ?_
   refine qaa (ka+1,_) ?_ ?_ qaj qab
   ·exact (by omega)
   ·exact (by omega)
  have hkea:ka=ws.length:=by have:=of_decide_eq_false h7;omega
  clear h7
  subst hkea
  refine t11 ?_
  refine cN ?_ ?_ <;> intro h10
  ·refine t6 ?_
   refine qap rfl (by ((refine qad call66 (qiz _ _ ?_) ⟨qaq,⟨qaq,trivial⟩⟩);all_goals (omega))) ?_
   refine t9 ?_
   refine qaa (k+1,_) ?_ ?_ qaj qab
   ·exact ⟨by omega,by exact Nat.le_trans (qhe _ _) (by omega)⟩
   ·exact (by omega)
  refine t8 ?_
  refine qaa (k+1,_) ?_ ?_ qaj qab
  ·exact ⟨by omega,by (dsimp only;omega)⟩
  ·exact (by omega)
 have hke:k=(ck).length:=by have:=of_decide_eq_false h3;omega
 clear h3
 subst hke
 refine t16 ?_
 exact rXF (⟨_,_,(⟨_,(⟨_,_,_⟩:Cu),_,_⟩:SO26),_⟩:SS26) results131 (hp:=by exact rfl)
def PT24 (r:S24):Prop:=WL 30 r.writes∧r.out.check.length≤300
theorem qsu (op:Op24) (cl lines:Int) (ks:List Pg) (hks:ks.length≤9000):FnF Tryz.prog 165 [qm9 op,Is (.int .i64 cl),Is (.int .i64 lines),IsSl tPg ks] (fun B=>qes PT24 fun r=>qjy B r):=by
 refine FnF.enter func165 ntmps165 rfl rfl ?_
 intro c hX
 refine t3 ?_
 intro i4
 refine s1 ?_
 intro i8
 refine t6 ?_
 refine qap rfl (qaw call166 (qgk (⟨_,_,_,(⟨_,_⟩:Pt),_,_,_⟩:Op24) _) ⟨qbc,⟨qbc,trivial⟩⟩) ?_
 (refine qa5 13 rfl ?_;intro x13 hx13)
 refine s1 ?_
 intro i9
 refine t5 ?_
 obtain ⟨hp1,hp2,hp3⟩:=hx13
 have hp4:=hp1.1
 refine t12 ?_
 refine cN ?_ ?_ <;> intro h2
 ·refine t8 ?_
  exact rXF (⟨_,_,(⟨_,_,_,_,_,_,_,(⟨_,_⟩:Pt),_,_,_,_,_⟩:O24),_⟩:S24) results165 (hp:=by exact ⟨hp1.mono (by decide),hp3⟩)
 refine t10 ?_
 refine qap rfl (by ((refine qad call172 (qj1 _ _ _ _ ?_) ⟨qaq,⟨qaq,⟨qaq,⟨qaq,trivial⟩⟩⟩⟩);all_goals (omega))) ?_
 (refine qa5 30 rfl ?_;intro x30 hx30)
 refine s1 ?_
 intro i10
 refine t5 ?_
 obtain ⟨ha1,ha2,ha3,ha4⟩:=hx30
 have ha5:=ha1.1
 refine t6 ?_
 refine cN ?_ ?_ <;> intro h5
 ·refine t10 ?_
  exact rXF (⟨_,_,(⟨_,_,_,_,_,_,_,(⟨_,_⟩:Pt),_,_,_,_,_⟩:O24),_⟩:S24) results165 (hp:=by exact ⟨wl0,Nat.zero_le _⟩)
 refine t10 ?_
 refine cN ?_ ?_ <;> intro h7
 ·refine t11 ?_
  exact rXF (⟨_,_,(⟨_,_,_,_,_,_,_,(⟨_,_⟩:Pt),_,_,_,_,_⟩:O24),_⟩:S24) results165 (hp:=by exact ⟨wl0,Nat.zero_le _⟩)
 refine t11 ?_
 refine qaz rfl (by kernel_rfl) ?_
 refine qaf 6 (by kernel_rfl) ?_
 refine t4 ?_
 refine qbh (by ((refine qaw call72 (qcf _ _ ?_) ⟨qaq,⟨qaq,trivial⟩⟩);all_goals (omega))) ?_
 refine qbh (qaw call166 (qgk (⟨_,_,_,(⟨_,_⟩:Pt),_,_,_⟩:Op24) _) ⟨qbc,⟨qbc,trivial⟩⟩) ?_
 refine ⟨rfl,?_⟩
 (refine qqj 52 rfl ?_;intro x52 hx52)
 refine qeb (by kernel_rfl) rfl (qas (er rfl) (er rfl) qag qae qbm rf rf rf) ?_
 refine qar ?_
 refine t3 ?_
 obtain ⟨hq1,hq2,hq3⟩:=hx52
 have hq4:=hq1.1
 refine t11 ?_
 refine cN ?_ ?_ <;> intro h11
 ·refine t5 ?_
  refine qap rfl (by ((refine qaw call72 (qcf _ _ ?_) ⟨qaq,⟨qaq,trivial⟩⟩);all_goals (omega))) ?_
  refine t11 ?_
  exact rXF (⟨_,_,(⟨_,_,_,_,_,_,_,(⟨_,_⟩:Pt),_,_,_,_,_⟩:O24),_⟩:S24) results165 (hp:=by exact ⟨by exact qgn ha1 hq1 (by decide),hq3⟩)
 refine t9 ?_
 exact rXF (⟨_,_,(⟨_,_,_,_,_,_,_,(⟨_,_⟩:Pt),_,_,_,_,_⟩:O24),_⟩:S24) results165 (hp:=by exact ⟨by exact hq1.mono (by decide),hq3⟩)
def PSS (r:SS26):Prop:=WL 100 r.writes
theorem qiq {r:SS26} {ws:List Pg} (h:r.writes=ws) (hl:WL 100 ws):PSS r:=by unfold PSS;rw [h];exact hl
theorem qsx (cu:Cu) (cl lines:Int) (ks:List Pg) (hks:ks.length≤5000) (hlv:0≤cu.level):FnF Tryz.prog 126 [IsCu cu,Is (.int .i64 cl),Is (.int .i64 lines),IsSl tPg ks] (fun B=>qes PSS fun r=>qjx B r):=by
 refine FnF.enter func126 ntmps126 rfl rfl ?_
 intro c hX
 refine t3 ?_
 intro i4
 refine s1 ?_
 intro i8
 refine t9 ?_
 refine qap rfl (by ((refine qad call164 (qii _ _ _ ?_) ⟨qaq,⟨qaq,⟨qaq,trivial⟩⟩⟩);all_goals (omega))) ?_
 (refine qa5 20 rfl ?_;intro x20 hx20)
 refine s1 ?_
 intro i9
 refine t5 ?_
 obtain ⟨hd1,hd2,hd3⟩:=hx20
 refine t7 ?_
 refine cN ?_ ?_ <;> intro h2
 ·refine t10 ?_
  exact rXF (⟨_,_,(⟨_,(⟨_,_,_⟩:Cu),_,_⟩:SO26),_⟩:SS26) results126 (hp:=by exact wl0) (hD0:=hX.2)
 refine t13 ?_
 refine cN ?_ ?_ <;> intro h4
 ·refine t3 ?_
  refine kXF call130 (qgo c.w.heap.size (⟨_,_,_⟩:Cu)) ?_
  refine t5 ?_
  exact rXF (⟨_,_,(⟨_,(⟨_,_,_⟩:Cu),_,_⟩:SO26),_⟩:SS26) results126 (hp:=by exact wl0) (hD0:=hX.2)
 refine t10 ?_
 refine cN ?_ ?_ <;> intro h6
 ·refine t4 ?_
  refine kRF call125 (qbj c.w.heap.size _) ?_
  refine t5 ?_
  exact rXF (⟨_,_,(⟨_,(⟨_,_,_⟩:Cu),_,_⟩:SO26),_⟩:SS26) results126 (hp:=by exact wl0) (hD0:=hX.2)
 refine t17 ?_
 (refine qcp rfl rfl rfl (fun hg=>(by have hg0:=hg;(try simp at hg);exact qgx evG evG)) ?_)
 refine t3 ?_
 refine qb1 [(1,_),(2,_),(3,_),(4,_),(8,_),(9,_)] [blk i9 _ _,blk i8 _ _,blk i4 _ _] (fun z:Unit=>True) (fun z=>[]) (fun z=>[]) qaj qab ?_ ?_
 rotate_left
 focus
  refine cN ?_ ?_ <;> intro h8
  ·refine t6 ?_
   refine qap rfl (by ((refine qaw call165 (qsu (⟨_,_,_,(⟨_,_⟩:Pt),_,_,_⟩:Op24) _ _ _ ?_) ⟨qbc,⟨qbc,⟨qbc,⟨qbc,trivial⟩⟩⟩⟩);all_goals (omega))) ?_
   (refine qa5 60 rfl ?_;intro x60 hx60)
   refine s1 ?_
   intro i10
   refine t5 ?_
   obtain ⟨hp1,hp2⟩:=hx60
   have hp1l:=hp1.1
   refine t6 ?_
   refine cN ?_ ?_ <;> intro h10
   ·refine t11 ?_
    exact rXF (⟨_,_,(⟨_,(⟨_,_,_⟩:Cu),_,_⟩:SO26),_⟩:SS26) results126 (hp:=by exact wl0) (hD0:=hX.2)
   refine t11 ?_
   refine cN ?_ ?_ <;> intro h12
   ·refine t5 ?_
    refine kRF call125 (qbj c.w.heap.size _) ?_
    refine t6 ?_
    exact rXF (⟨_,_,(⟨_,(⟨_,_,_⟩:Cu),_,_⟩:SO26),_⟩:SS26) results126 (hp:=by exact wl0) (hD0:=hX.2)
   refine t9 ?_
   refine cN ?_ ?_ <;> intro h14
   ·refine t8 ?_
    refine qap rfl (by ((refine qad call131 (qly c.w.heap.size _ _ (⟨_,_,_⟩:Cu) ?_ ?_) ⟨qbc,⟨qbc,⟨qbc,trivial⟩⟩⟩);all_goals (first|first|omega|(simp;done)|(simp;omega)|first|omega|(simp;done)|(simp;omega)|(refine Nat.le_trans (qah _ _) ?_;omega)|(refine Nat.le_trans (qah _ _) (Nat.le_trans (Nat.add_le_add_right (qah _ _) _) ?_);omega)))) ?_
    (refine qa5 84 rfl ?_;intro x84 hx84)
    refine t5 ?_
    exact rXF (⟨_,_,(⟨_,(⟨_,_,_⟩:Cu),_,_⟩:SO26),_⟩:SS26) results126 (hp:=by exact qiq hx84 (hp1.mono (by decide))) (hD0:=hX.2)
   refine s1 ?_
   exact qai () (trivial) qaj qab
  refine s1 ?_
  exact qai () (trivial) qaj qab
 rintro ⟨⟩ _
 refine t12 ?_
 refine qb1 [(1,_),(3,_),(4,_),(8,_),(9,_)] [blk i9 _ _,blk i8 _ _,blk i4 _ _] (fun z:Unit=>True) (fun z=>[]) (fun z=>[]) qaj qab ?_ ?_
 rotate_left
 focus
  refine cN ?_ ?_ <;> intro h16
  ·refine t10 ?_
   refine qap rfl (by ((refine qaw call165 (qsu (⟨_,_,_,(⟨_,_⟩:Pt),_,_,_⟩:Op24) _ _ _ ?_) ⟨qbc,⟨qbc,⟨qbc,⟨qbc,trivial⟩⟩⟩⟩);all_goals (omega))) ?_
   (refine qa5 100 rfl ?_;intro x100 hx100)
   refine s1 ?_
   intro i11
   refine t5 ?_
   obtain ⟨hp3,hp4⟩:=hx100
   have hp3l:=hp3.1
   refine t6 ?_
   refine cN ?_ ?_ <;> intro h18
   ·refine t11 ?_
    exact rXF (⟨_,_,(⟨_,(⟨_,_,_⟩:Cu),_,_⟩:SO26),_⟩:SS26) results126 (hp:=by exact wl0) (hD0:=hX.2)
   refine t11 ?_
   refine cN ?_ ?_ <;> intro h20
   ·refine t5 ?_
    refine kRF call125 (qbj c.w.heap.size _) ?_
    refine t6 ?_
    exact rXF (⟨_,_,(⟨_,(⟨_,_,_⟩:Cu),_,_⟩:SO26),_⟩:SS26) results126 (hp:=by exact wl0) (hD0:=hX.2)
   refine t9 ?_
   refine cN ?_ ?_ <;> intro h22
   ·refine t8 ?_
    refine qap rfl (by ((refine qad call131 (qly c.w.heap.size _ _ (⟨_,_,_⟩:Cu) ?_ ?_) ⟨qbc,⟨qbc,⟨qbc,trivial⟩⟩⟩);all_goals (first|first|omega|(simp;done)|(simp;omega)|first|omega|(simp;done)|(simp;omega)|(refine Nat.le_trans (qah _ _) ?_;omega)|(refine Nat.le_trans (qah _ _) (Nat.le_trans (Nat.add_le_add_right (qah _ _) _) ?_);omega)))) ?_
    (refine qa5 124 rfl ?_;intro x124 hx124)
    refine t5 ?_
    exact rXF (⟨_,_,(⟨_,(⟨_,_,_⟩:Cu),_,_⟩:SO26),_⟩:SS26) results126 (hp:=by exact qiq hx124 (hp3.mono (by decide))) (hD0:=hX.2)
   refine s1 ?_
   exact qai () (trivial) qaj qab
  refine s1 ?_
  exact qai () (trivial) qaj qab
 rintro ⟨⟩ _
 refine t13 ?_
 refine qb1 [(4,_),(8,_),(9,_)] [blk i9 _ _,blk i8 _ _,blk i4 _ _] (fun z:Unit=>True) (fun z=>[]) (fun z=>[]) qaj qab ?_ ?_
 rotate_left
 focus
  refine cN ?_ ?_ <;> intro h24
  ·refine t6 ?_
   refine qap rfl (qaw call166 (qgk (⟨_,_,_,(⟨_,_⟩:Pt),_,_,_⟩:Op24) _) ⟨qbc,⟨qbc,trivial⟩⟩) ?_
   (refine qa5 137 rfl ?_;intro x137 hx137)
   refine s1 ?_
   intro i12
   refine t5 ?_
   obtain ⟨hu1,hu2,hu3⟩:=hx137
   have hu1l:=hu1.1
   refine t6 ?_
   refine cN ?_ ?_ <;> intro h26
   ·refine t11 ?_
    exact rXF (⟨_,_,(⟨_,(⟨_,_,_⟩:Cu),_,_⟩:SO26),_⟩:SS26) results126 (hp:=by exact wl0) (hD0:=hX.2)
   refine t17 ?_
   refine cN ?_ ?_ <;> intro h28
   ·refine t5 ?_
    refine kRF call125 (qbj c.w.heap.size _) ?_
    refine t6 ?_
    exact rXF (⟨_,_,(⟨_,(⟨_,_,_⟩:Cu),_,_⟩:SO26),_⟩:SS26) results126 (hp:=by exact wl0) (hD0:=hX.2)
   refine t10 ?_
   refine cN ?_ ?_ <;> intro h30
   ·refine t8 ?_
    refine qap rfl (by ((refine qad call131 (qly c.w.heap.size _ _ (⟨_,_,_⟩:Cu) ?_ ?_) ⟨qbc,⟨qbc,⟨qbc,trivial⟩⟩⟩);all_goals (first|first|omega|(simp;done)|(simp;omega)|first|omega|(simp;done)|(simp;omega)|(refine Nat.le_trans (qah _ _) ?_;omega)|(refine Nat.le_trans (qah _ _) (Nat.le_trans (Nat.add_le_add_right (qah _ _) _) ?_);omega)))) ?_
    (refine qa5 167 rfl ?_;intro x167 hx167)
    refine t6 ?_
    exact rXF (⟨_,_,(⟨_,(⟨_,_,_⟩:Cu),_,_⟩:SO26),_⟩:SS26) results126 (hp:=by exact qiq hx167 (hu1.mono (by decide))) (hD0:=hX.2)
   refine t8 ?_
   refine qap rfl (qaw call166 (zaw _ _) ⟨qbc,⟨qbc,trivial⟩⟩) ?_
   (refine qa5 172 rfl ?_;intro x172 hx172)
   refine s1 ?_
   intro i13
   refine t5 ?_
   obtain ⟨hv1,hv2,hv3⟩:=hx172
   have hv1l:=hv1.1
   refine t6 ?_
   refine cN ?_ ?_ <;> intro h33
   ·refine t11 ?_
    exact rXF (⟨_,_,(⟨_,(⟨_,_,_⟩:Cu),_,_⟩:SO26),_⟩:SS26) results126 (hp:=by exact wl0) (hD0:=hX.2)
   refine t11 ?_
   refine cN ?_ ?_ <;> intro h35
   ·refine t5 ?_
    refine kRF call125 (qbj c.w.heap.size _) ?_
    refine t6 ?_
    exact rXF (⟨_,_,(⟨_,(⟨_,_,_⟩:Cu),_,_⟩:SO26),_⟩:SS26) results126 (hp:=by exact wl0) (hD0:=hX.2)
   refine t9 ?_
   refine cN ?_ ?_ <;> intro h37
   ·refine t6 ?_
    refine qap rfl (OpP.to (qac (size:=2) (qs:=[(0,_)]) rfl rfl rfl ⟨⟨rfl,_,(er rfl),qag⟩,trivial⟩ rf rf) (SubL.row1 (T:=tPt) (x:=(⟨_,_⟩:Pt)) rf rf rf qak)) ?_
    refine t2 ?_
    refine qap rfl (by ((refine qaw call12 (qfa (⟨_,_,_,_,_,_⟩:Ep26) _ ?_ ?_) ⟨qbc,⟨qbc,trivial⟩⟩);all_goals (first|omega|(simp;done)|(simp;omega)))) ?_
    (refine qa5 197 rfl ?_;intro x197 hx197)
    refine s1 ?_
    intro i14
    refine t5 ?_
    obtain ⟨⟨he1,he2,he3⟩,he4⟩:=hx197
    have he1l:=he1.1
    refine t6 ?_
    refine cN ?_ ?_ <;> intro h39
    ·refine t11 ?_
     exact rXF (⟨_,_,(⟨_,(⟨_,_,_⟩:Cu),_,_⟩:SO26),_⟩:SS26) results126 (hp:=by exact wl0) (hD0:=hX.2)
    refine t11 ?_
    refine cN ?_ ?_ <;> intro h41
    ·refine t5 ?_
     refine kRF call125 (qbj c.w.heap.size _) ?_
     refine t6 ?_
     exact rXF (⟨_,_,(⟨_,(⟨_,_,_⟩:Cu),_,_⟩:SO26),_⟩:SS26) results126 (hp:=by exact wl0) (hD0:=hX.2)
    refine t3 ?_
    refine qaz rfl (by kernel_rfl) ?_
    refine qaf 14 (by kernel_rfl) ?_
    refine t4 ?_
    refine qbh (by ((refine qaw call72 (qcf _ _ ?_) ⟨qaq,⟨qaq,trivial⟩⟩);all_goals (first|first|omega|(simp;omega)|(simp;done)))) ?_
    refine t6 ?_
    refine qbh (qtl (T:=tI64) [x172.2] (Ev.sub rfl (SubL.iteT h37 SubL.rfl')) subzT rfl rfl (er rfl) (by exact qej rfl rfl rfl) (by simp;omega)) ?_
    refine s1 ?_
    refine qbh (by ((refine qad call131 (qly c.w.heap.size _ _ (⟨_,_,_⟩:Cu) ?_ ?_) ⟨qbc,⟨qbc,⟨qbc,trivial⟩⟩⟩);all_goals (first|first|omega|(simp;done)|(simp;omega)|first|omega|(simp;done)|(simp;omega)|(refine Nat.le_trans (qah _ _) ?_;omega)|(refine Nat.le_trans (qah _ _) (Nat.le_trans (Nat.add_le_add_right (qah _ _) _) ?_);omega)))) ?_
    refine ⟨rfl,?_⟩
    (refine qqj 225 rfl ?_;intro x225 hx225)
    refine qeb (by kernel_rfl) rfl (qas (er rfl) (er rfl) qag qae qbm rf rf rf) ?_
    refine qar ?_
    refine t3 ?_
    exact rXF (⟨_,_,(⟨_,(⟨_,_,_⟩:Cu),_,_⟩:SO26),_⟩:SS26) results126 (hp:=by exact qiq hx225 (qgn hv1 he1 (by decide))) (hD0:=hX.2)
   refine s1 ?_
   exact qai () (trivial) qaj qab
  refine s1 ?_
  exact qai () (trivial) qaj qab
 rintro ⟨⟩ _
 have hDs:=hX.2
 refine t9 ?_
 refine cN ?_ ?_ <;> intro h44
 ·refine t9 ?_
  refine kXF call130 (qgo c.w.heap.size (⟨_,_,_⟩:Cu)) ?_
  refine t5 ?_
  exact rXF (⟨_,_,(⟨_,(⟨_,_,_⟩:Cu),_,_⟩:SO26),_⟩:SS26) results126 (hp:=by exact wl0) (hD0:=hX.2)
 refine t10 ?_
 refine cN ?_ ?_ <;> intro h46
 ·refine t3 ?_
  refine kXF call130 (qgo c.w.heap.size (⟨_,_,_⟩:Cu)) ?_
  refine t5 ?_
  exact rXF (⟨_,_,(⟨_,(⟨_,_,_⟩:Cu),_,_⟩:SO26),_⟩:SS26) results126 (hp:=by exact wl0) (hD0:=hX.2)
 refine t8 ?_
 refine kXF call130 (qgo c.w.heap.size (⟨_,_,_⟩:Cu)) ?_
 refine t4 ?_
 exact rXF (⟨_,_,(⟨_,(⟨_,_,_⟩:Cu),_,_⟩:SO26),_⟩:SS26) results126 (hp:=by exact wl0) (hD0:=hX.2)
theorem qqr (cu:Cu) (cl:Int) (ks:List Pg) (hks:ks.length≤5000):FnF Tryz.prog 127 [IsCu cu,Is (.int .i64 cl),IsSl tPg ks] (fun B=>qes PSS fun r=>qjx B r):=by
 refine FnF.enter func127 ntmps127 rfl rfl ?_
 intro c hX
 refine t3 ?_
 intro i3
 refine s1 ?_
 intro i6
 refine t8 ?_
 refine qap rfl (qaw call166 (qgk (⟨_,_,_,(⟨_,_⟩:Pt),_,_,_⟩:Op24) _) ⟨qbc,⟨qbc,trivial⟩⟩) ?_
 (refine qa5 29 rfl ?_;intro x29 hx29)
 refine s1 ?_
 intro i7
 refine t11 ?_
 refine cN ?_ ?_ <;> intro h2
 ·refine t10 ?_
  exact rXF (⟨_,_,(⟨_,(⟨_,_,_⟩:Cu),_,_⟩:SO26),_⟩:SS26) results127 (hp:=by exact wl0)
 refine t11 ?_
 refine cN ?_ ?_ <;> intro h4
 ·refine t5 ?_
  refine kRF call125 (qbj c.w.heap.size _) ?_
  refine t5 ?_
  exact rXF (⟨_,_,(⟨_,(⟨_,_,_⟩:Cu),_,_⟩:SO26),_⟩:SS26) results127 (hp:=by exact wl0)
 refine t12 ?_
 refine cN ?_ ?_ <;> intro h6
 ·refine t3 ?_
  refine kXF call130 (qgo c.w.heap.size (⟨_,_,_⟩:Cu)) ?_
  refine t5 ?_
  exact rXF (⟨_,_,(⟨_,(⟨_,_,_⟩:Cu),_,_⟩:SO26),_⟩:SS26) results127 (hp:=by exact wl0)
 obtain ⟨z0,hz⟩:∃ q,x29.out.entries[0]?=some q:=⟨_,List.getElem?_eq_getElem (by
  rcases Nat.eq_zero_or_pos x29.out.entries.length with h|h
  ·rw [h] at h6;exact absurd h6 (by decide)
  ·exact h)⟩
 refine t3 ?_
 refine qaz rfl (by kernel_rfl) ?_
 refine qaf 15 (by kernel_rfl) ?_
 refine t3 ?_
 refine qbh (by exact qam (j:=0) (er rfl) (er rfl) rfl rfl rf hz) ?_
 refine t5 ?_
 refine qbh (by exact qam (j:=0) (er rfl) (er rfl) rfl rfl rf hz) ?_
 refine t2 ?_
 refine qkq (qbl rfl qbm rfl) ?_
 refine s1 ?_
 refine qcy rfl rfl rfl (by kernel_rfl) (qca qaq qag rfl rfl rfl qbm) ?_
 refine ⟨rfl,?_⟩
 intro i9
 refine qar ?_
 refine t7 ?_
 intro i10
 refine t10 ?_
 refine qb1 [(1,_),(2,_),(6,_),(8,_),(9,_),(10,_)] [blk i9 _ _,blk i6 _ _] (fun yc:Cu=>True) (fun yc=>[]) (fun yc=>[blk i10 40 (tCu.cells yc)]) qaj qab ?_ ?_
 rotate_left
 focus
  refine cN ?_ ?_ <;> intro h10
  ·refine t4 ?_
   refine qao (b:=i10) (As':=tCu.cells (⟨_,_,_⟩:Cu)) qae qbf ?_
   exact qai (⟨_,_,_⟩:Cu) (trivial) qaj qab
  refine s1 ?_
  refine qao (b:=i10) (As':=tCu.cells (⟨_,_,_⟩:Cu)) qae qbf ?_
  exact qai (⟨_,_,_⟩:Cu) (trivial) qaj qab
 rintro nx _
 refine t4 ?_
 refine kRF call167 (qh3 _ _ _ _) ?_
 refine t5 ?_
 intro i11
 refine t12 ?_
 refine cN ?_ ?_ <;> intro h13
 ·refine t3 ?_
  refine kRF call125 (qbj c.w.heap.size _) ?_
  refine t5 ?_
  exact rXF (⟨_,_,(⟨_,(⟨_,_,_⟩:Cu),_,_⟩:SO26),_⟩:SS26) results127 (hp:=by exact wl0)
 refine t9 ?_
 refine cN ?_ ?_ <;> intro h15
 ·refine t4 ?_
  refine qap rfl (OpP.to (qac (size:=1) (qs:=[(0,_)]) rfl rfl rfl ⟨⟨rfl,_,(er rfl),qag⟩,trivial⟩ rf rf) (SubL.row1 (T:=tI64) (x:=_) rf rf rf qak)) ?_
  refine t6 ?_
  exact rXF (⟨_,_,(⟨_,(⟨_,_,_⟩:Cu),_,_⟩:SO26),_⟩:SS26) results127 (hp:=by exact wl0)
 refine t5 ?_
 refine kRF call168 (qh2 _) ?_
 (refine qgm 88 rfl ?_;intro x88)
 refine t4 ?_
 intro i14
 refine t11 ?_
 refine cN ?_ ?_ <;> intro h18
 ·refine t2 ?_
  refine kRF call125 (qbj c.w.heap.size _) ?_
  refine t5 ?_
  exact rXF (⟨_,_,(⟨_,(⟨_,_,_⟩:Cu),_,_⟩:SO26),_⟩:SS26) results127 (hp:=by exact wl0)
 refine t5 ?_
 refine kRF call32 (qby _ _) ?_
 refine t4 ?_
 intro i16
 refine t11 ?_
 refine cN ?_ ?_ <;> intro h21
 ·refine t2 ?_
  refine qap rfl (OpP.to (qac (size:=1) (qs:=[(0,_)]) rfl rfl rfl ⟨⟨rfl,_,(er rfl),qag⟩,trivial⟩ rf rf) (SubL.row1 (T:=tI64) (x:=_) rf rf rf qak)) ?_
  refine t6 ?_
  exact rXF (⟨_,_,(⟨_,(⟨_,_,_⟩:Cu),_,_⟩:SO26),_⟩:SS26) results127 (hp:=by exact wl0)
 refine t6 ?_
 refine kRF call33 (qcc _) ?_
 refine t2 ?_
 refine cN ?_ ?_ <;> intro h23
 ·refine t2 ?_
  refine kRF call125 (qbj c.w.heap.size _) ?_
  refine t5 ?_
  exact rXF (⟨_,_,(⟨_,(⟨_,_,_⟩:Cu),_,_⟩:SO26),_⟩:SS26) results127 (hp:=by exact wl0)
 refine t5 ?_
 refine kRF call34 (ql5 _) ?_
 (refine qgm 108 rfl ?_;intro x108)
 refine t14 ?_
 refine cN ?_ ?_ <;> intro h26
 ·refine t2 ?_
  refine kRF call125 (qbj c.w.heap.size _) ?_
  refine t5 ?_
  exact rXF (⟨_,_,(⟨_,(⟨_,_,_⟩:Cu),_,_⟩:SO26),_⟩:SS26) results127 (hp:=by exact wl0)
 refine t12 ?_
 (refine qcp rfl rfl rfl (fun hg=>(by have hg0:=hg;(try simp at hg);exact qad call70 (qzh _ _) ⟨qaq,⟨qaq,trivial⟩⟩)) ?_)
 refine t4 ?_
 refine cN ?_ ?_ <;> intro h28
 ·refine t3 ?_
  refine kXF call130 (qgo c.w.heap.size (⟨_,_,_⟩:Cu)) ?_
  refine t5 ?_
  exact rXF (⟨_,_,(⟨_,(⟨_,_,_⟩:Cu),_,_⟩:SO26),_⟩:SS26) results127 (hp:=by exact wl0)
 refine t7 ?_
 refine qap rfl (qaw call166 (qgk (⟨_,_,_,(⟨_,_⟩:Pt),_,_,_⟩:Op24) _) ⟨qbc,⟨qbc,trivial⟩⟩) ?_
 (refine qa5 129 rfl ?_;intro x129 hx129)
 refine s1 ?_
 intro i20
 refine t5 ?_
 obtain ⟨ht1,ht2,ht3⟩:=hx129
 have ht1l:=ht1.1
 refine t6 ?_
 refine cN ?_ ?_ <;> intro h31
 ·refine t10 ?_
  exact rXF (⟨_,_,(⟨_,(⟨_,_,_⟩:Cu),_,_⟩:SO26),_⟩:SS26) results127 (hp:=by exact wl0)
 refine t19 ?_
 (refine JL_i rfl rfl rfl (fun hp hg=>(by have hpg:=Bool.and_eq_true_iff.2 ⟨hp,hg⟩;have hg0:=hg;(try simp at hg);exact qgx evG evG)) ?_)
 refine t4 ?_
 refine cN ?_ ?_ <;> intro h33
 ·refine t2 ?_
  refine kRF call125 (qbj c.w.heap.size _) ?_
  refine t5 ?_
  exact rXF (⟨_,_,(⟨_,(⟨_,_,_⟩:Cu),_,_⟩:SO26),_⟩:SS26) results127 (hp:=by exact wl0)
 refine t11 ?_
 refine cN ?_ ?_ <;> intro h35
 ·refine t5 ?_
  refine kRF call125 (qbj c.w.heap.size _) ?_
  refine t5 ?_
  exact rXF (⟨_,_,(⟨_,(⟨_,_,_⟩:Cu),_,_⟩:SO26),_⟩:SS26) results127 (hp:=by exact wl0)
 refine t7 ?_
 refine qap rfl (by ((refine qaw call72 (qcf _ _ ?_) ⟨qaq,⟨qaq,trivial⟩⟩);all_goals (omega))) ?_
 refine t4 ?_
 have hv:=qah ks x129.writes
 refine qb0 21 (IsSl tPg (qb7 ks x129.writes)) rfl SubL.fresh ?_
 generalize qb7 ks x129.writes=vw at hv ⊢
 refine t4 ?_
 refine qap rfl (qaw call169 (qhj _ _ (⟨_,_⟩:Pt) _ _) ⟨qbc,⟨qbc,⟨qbc,⟨qbc,⟨qbc,trivial⟩⟩⟩⟩⟩) ?_
 (refine qa5 169 rfl ?_;intro x169 hx169)
 refine s1 ?_
 intro i22
 refine t5 ?_
 obtain ⟨hy1,hy2,hy3⟩:=hx169
 have hy1l:=hy1.1
 refine t6 ?_
 refine cN ?_ ?_ <;> intro h39
 ·refine t10 ?_
  exact rXF (⟨_,_,(⟨_,(⟨_,_,_⟩:Cu),_,_⟩:SO26),_⟩:SS26) results127 (hp:=by exact wl0)
 refine t19 ?_
 (refine JL_i rfl rfl rfl (fun hp hg=>(by have hpg:=Bool.and_eq_true_iff.2 ⟨hp,hg⟩;have hg0:=hg;(try simp at hg);exact qgx evG evG)) ?_)
 refine t4 ?_
 refine cN ?_ ?_ <;> intro h41
 ·refine t2 ?_
  refine kRF call125 (qbj c.w.heap.size _) ?_
  refine t5 ?_
  exact rXF (⟨_,_,(⟨_,(⟨_,_,_⟩:Cu),_,_⟩:SO26),_⟩:SS26) results127 (hp:=by exact wl0)
 refine t11 ?_
 refine cN ?_ ?_ <;> intro h43
 ·refine t5 ?_
  refine kRF call125 (qbj c.w.heap.size _) ?_
  refine t5 ?_
  exact rXF (⟨_,_,(⟨_,(⟨_,_,_⟩:Cu),_,_⟩:SO26),_⟩:SS26) results127 (hp:=by exact wl0)
 refine t3 ?_
 refine qaz rfl (by kernel_rfl) ?_
 refine qfi (its:=[]) ?_
 refine f1 0 ?_
 refine f1 1 ?_
 refine qkr 2 rfl (by kernel_rfl) (OpP.to (qac (size:=2) (qs:=[(0,_)]) rfl rfl rfl ⟨⟨rfl,_,(er rfl),qag⟩,trivial⟩ rf rf) (SubL.row1 (T:=tPt) (x:=(⟨_,_⟩:Pt)) rf rf rf qak)) ?_
 refine qkr 3 rfl (by kernel_rfl) (qib (qs:=[(0,_),(1,_),(5,_)]) rfl rfl rfl rfl ⟨⟨rfl,_,(er rfl),qag⟩,⟨⟨rfl,_,(er rfl),qag⟩,⟨⟨rfl,_,(er rfl),qag⟩,trivial⟩⟩⟩ rf qbm) ?_
 refine f1 4 ?_
 refine f1 5 ?_
 refine f1 6 ?_
 refine qkr 7 rfl (by kernel_rfl) (by ((refine qaw call72 (qcf _ _ ?_) ⟨qaq,⟨qaq,trivial⟩⟩);all_goals (omega))) ?_
 refine qne 9 rfl (by kernel_rfl) (fun _=>(qbl rfl qbm rfl)) ?_
 (refine zay 8 [0,1,2,3,4,5,6,7,8] rfl (by kernel_rfl) (by ((refine qaw call12 (qfa (⟨_,_,_,_,_,_⟩:Ep26) _ ?_ ?_) ⟨qbc,⟨qbc,trivial⟩⟩);all_goals (first|exact Nat.le_trans (qah _ _) (by omega)|simp;done))) ?_;intro x210 hx210)
 (refine qgr 23 9 (by kernel_rfl) rfl rfl ?_;intro i23)
 refine qe6 10 [0,1,2,3,4,5,6,7,8,9,10] rfl (by kernel_rfl) (fun c'=>by exact qa2 (er rfl) (er rfl) qag qae rf rf rf) ?_
 refine qd0 (by kernel_rfl) rfl ?_
 show JQ _ _ _ _ _ _
 refine t3 ?_
 obtain ⟨⟨he1,he2,he3⟩,he4⟩:=hx210
 have he1l:=he1.1
 refine t6 ?_
 refine cN ?_ ?_ <;> intro h46
 ·refine t10 ?_
  exact rXF (⟨_,_,(⟨_,(⟨_,_,_⟩:Cu),_,_⟩:SO26),_⟩:SS26) results127 (hp:=by exact wl0)
 refine t11 ?_
 refine cN ?_ ?_ <;> intro h48
 ·refine t5 ?_
  refine kRF call125 (qbj c.w.heap.size _) ?_
  refine t5 ?_
  exact rXF (⟨_,_,(⟨_,(⟨_,_,_⟩:Cu),_,_⟩:SO26),_⟩:SS26) results127 (hp:=by exact wl0)
 refine t3 ?_
 refine qaz rfl (by kernel_rfl) ?_
 refine qaf 9 (by kernel_rfl) ?_
 refine t4 ?_
 refine qbh (by ((refine qaw call72 (qcf _ _ ?_) ⟨qaq,⟨qaq,trivial⟩⟩);all_goals (omega))) ?_
 refine t2 ?_
 refine qbh (by ((refine qaw call72 (qcf _ _ ?_) ⟨qaq,⟨qaq,trivial⟩⟩);all_goals (exact Nat.le_trans (Nat.add_le_add_right (qah _ _) _) (by omega)))) ?_
 refine s1 ?_
 refine ⟨rfl,?_⟩
 refine qar ?_
 refine t6 ?_
 refine qap rfl (OpP.to (qac (size:=1) (qs:=[(0,_),(1,_)]) rfl rfl rfl ⟨⟨rfl,_,(er rfl),qag⟩,⟨⟨rfl,_,(er rfl),qag⟩,trivial⟩⟩ rf rf) (SubL.row2 (T:=tI64) (x:=_) (y:=_) rf rf rf rf qak qak)) ?_
 refine s1 ?_
 refine qap rfl (by ((refine qad call131 (qly c.w.heap.size _ _ (⟨_,_,_⟩:Cu) ?_ ?_) ⟨qbc,⟨qbc,⟨qbc,trivial⟩⟩⟩);all_goals (first|(simp;done)|(refine Nat.le_trans (qah _ _) (Nat.le_trans (Nat.add_le_add_right (qah _ _) _) ?_);omega)))) ?_
 (refine qa5 238 rfl ?_;intro x238 hx238)
 refine t4 ?_
 exact rXF (⟨_,_,(⟨_,(⟨_,_,_⟩:Cu),_,_⟩:SO26),_⟩:SS26) results127 (hp:=by exact qiq hx238 (qgn (qgn ht1 hy1 (Nat.le_refl _)) he1 (by decide)))
theorem qme (cu:Cu) (cl lines:Int) (ks:List Pg) (hks:ks.length≤5000):FnF Tryz.prog 128 [IsCu cu,Is (.int .i64 cl),Is (.int .i64 lines),IsSl tPg ks] (fun B=>qes PSS fun r=>qjx B r):=by
 refine FnF.enter func128 ntmps128 rfl rfl ?_
 intro c hX
 refine t3 ?_
 intro i4
 refine s1 ?_
 intro i8
 refine t5 ?_
 refine kRF call32 (qby _ _) ?_
 refine t4 ?_
 intro i9
 refine t11 ?_
 refine cN ?_ ?_ <;> intro h2
 ·refine t2 ?_
  refine qap rfl (OpP.to (qac (size:=1) (qs:=[(0,_)]) rfl rfl rfl ⟨⟨rfl,_,(er rfl),qag⟩,trivial⟩ rf rf) (SubL.row1 (T:=tI64) (x:=_) rf rf rf qak)) ?_
  refine t6 ?_
  exact rXF (⟨_,_,(⟨_,(⟨_,_,_⟩:Cu),_,_⟩:SO26),_⟩:SS26) results128 (hp:=by exact wl0)
 refine t5 ?_
 refine kRF call170 (qjv _) ?_
 (refine qa5 30 rfl ?_;intro x30 hx30)
 refine t4 ?_
 intro i11
 refine t6 ?_
 obtain ⟨hd0,hd5⟩:=hx30
 refine t5 ?_
 refine cN ?_ ?_ <;> intro h5
 ·refine t2 ?_
  refine kRF call125 (qbj c.w.heap.size _) ?_
  refine t5 ?_
  exact rXF (⟨_,_,(⟨_,(⟨_,_,_⟩:Cu),_,_⟩:SO26),_⟩:SS26) results128 (hp:=by exact wl0)
 refine t8 ?_
 refine qap rfl (qdt (er rfl) (er rfl)) ?_
 refine t7 ?_
 (refine qcp rfl rfl rfl (fun hg=>(by have hg0:=hg;(try simp at hg);exact qed (k:=x30.1.depth.toNat) qi4 evG (by omega) qct)) ?_)
 refine t4 ?_
 refine cN ?_ ?_ <;> intro h7
 ·refine t3 ?_
  refine kXF call130 (qgo c.w.heap.size (⟨_,_,_⟩:Cu)) ?_
  refine t5 ?_
  exact rXF (⟨_,_,(⟨_,(⟨_,_,_⟩:Cu),_,_⟩:SO26),_⟩:SS26) results128 (hp:=by exact wl0)
 refine t7 ?_
 refine kRF call171 (qk9 _ _) ?_
 (refine qa5 55 rfl ?_;intro x55 hx55)
 refine s1 ?_
 intro i13
 refine t5 ?_
 obtain ⟨hl1,hl2,hl3⟩:=hx55
 refine t7 ?_
 refine cN ?_ ?_ <;> intro h10
 ·refine t10 ?_
  exact rXF (⟨_,_,(⟨_,(⟨_,_,_⟩:Cu),_,_⟩:SO26),_⟩:SS26) results128 (hp:=by exact wl0)
 refine t11 ?_
 refine cN ?_ ?_ <;> intro h12
 ·refine t5 ?_
  refine kRF call125 (qbj c.w.heap.size _) ?_
  refine t5 ?_
  exact rXF (⟨_,_,(⟨_,(⟨_,_,_⟩:Cu),_,_⟩:SO26),_⟩:SS26) results128 (hp:=by exact wl0)
 refine t10 ?_
 refine cN ?_ ?_ <;> intro h14
 ·refine t4 ?_
  refine qap rfl (qaw call169 (qhj _ _ (⟨_,_⟩:Pt) _ _) ⟨qbc,⟨qbc,⟨qbc,⟨qbc,⟨qbc,trivial⟩⟩⟩⟩⟩) ?_
  (refine qa5 76 rfl ?_;intro x76 hx76)
  refine s1 ?_
  intro i14
  refine t4 ?_
  have hx14:PS23 x76:=hx76
  refine t17 ?_
  refine qb1 [(3,_),(4,_),(8,_),(14,_)] [blk i8 _ _,blk i4 _ _] (fun yc:S23×(List Pg)=>PS23 yc.1∧WL 12 yc.2) (fun yc=>[(15,IsSl tPg yc.2)]) (fun yc=>[blk i14 285 ((qo6 c.w.heap.size).cells yc.1)]) qaj qab ?_ ?_
  rotate_left
  focus
   refine cN ?_ ?_ <;> intro h17
   ·refine t8 ?_
    refine qap rfl (by ((refine qad call172 (qj1 _ _ _ _ ?_) ⟨qaq,⟨qaq,⟨qaq,⟨qaq,trivial⟩⟩⟩⟩);all_goals (first|omega|(simp;done)|(simp;omega)|(refine Nat.le_trans (qah _ _) ?_;omega)|(refine Nat.le_trans (qah _ _) (Nat.le_trans (Nat.add_le_add_right (qah _ _) _) ?_);omega)))) ?_
    (refine qa5 91 rfl ?_;intro x91 hx91)
    refine s1 ?_
    intro i16
    refine t5 ?_
    obtain ⟨ha1,ha2,ha3,ha4⟩:=hx91
    have ha1l:=ha1.1
    refine t6 ?_
    refine cN ?_ ?_ <;> intro h19
    ·refine t12 ?_
     exact rXF (⟨_,_,(⟨_,(⟨_,_,_⟩:Cu),_,_⟩:SO26),_⟩:SS26) results128 (hp:=by exact wl0)
    refine t10 ?_
    refine cN ?_ ?_ <;> intro h21
    ·refine t4 ?_
     refine kRF call125 (qbj c.w.heap.size _) ?_
     refine t7 ?_
     exact rXF (⟨_,_,(⟨_,(⟨_,_,_⟩:Cu),_,_⟩:SO26),_⟩:SS26) results128 (hp:=by exact wl0)
    refine t9 ?_
    refine qaz rfl (by kernel_rfl) ?_
    refine qaf 8 (by kernel_rfl) ?_
    refine t6 ?_
    refine qbh (by ((refine qaw call72 (qcf _ _ ?_) ⟨qaq,⟨qaq,trivial⟩⟩);all_goals (first|omega|(simp;done)|(simp;omega)|(refine Nat.le_trans (qah _ _) ?_;omega)|(refine Nat.le_trans (qah _ _) (Nat.le_trans (Nat.add_le_add_right (qah _ _) _) ?_);omega)))) ?_
    refine qbh (qaw call169 (qhj _ _ (⟨_,_⟩:Pt) _ _) ⟨qbc,⟨qbc,⟨qbc,⟨qbc,⟨qbc,trivial⟩⟩⟩⟩⟩) ?_
    refine ⟨rfl,?_⟩
    (refine qqj 113 rfl ?_;intro x113 hx113)
    refine qeb (by kernel_rfl) rfl (qas (er rfl) (er rfl) qag qae qbm rf rf rf) ?_
    refine qar ?_
    refine qao (b:=i14) (As':=(qo6 c.w.heap.size).cells (⟨_,_,(⟨_,_,_,_,_,_,(⟨_,_⟩:Pt),_,_,_⟩:O23),_⟩:S23)) qae qbf ?_
    refine qai ((⟨_,_,(⟨_,_,_,_,_,_,(⟨_,_⟩:Pt),_,_,_⟩:O23),_⟩:S23),_) ?_ qaj qab
    ·exact (by exact ⟨hx113,ha1⟩)
   refine s1 ?_
   refine qao (b:=i14) (As':=(qo6 c.w.heap.size).cells (⟨_,_,(⟨_,_,_,_,_,_,(⟨_,_⟩:Pt),_,_,_⟩:O23),_⟩:S23)) qae qbf ?_
   refine qai ((⟨_,_,(⟨_,_,_,_,_,_,(⟨_,_⟩:Pt),_,_,_⟩:O23),_⟩:S23),_) ?_ qaj qab
   ·exact (by exact ⟨hx14,wl0⟩)
  rintro ⟨s,ws⟩ hI
  dsimp only at hI ⊢
  obtain ⟨⟨hs1,hs2,hs3⟩,hw⟩:=hI
  have hs1l:=hs1.1
  have hwl:=hw.1
  refine t8 ?_
  refine cN ?_ ?_ <;> intro h25
  ·refine t11 ?_
   exact rXF (⟨_,_,(⟨_,(⟨_,_,_⟩:Cu),_,_⟩:SO26),_⟩:SS26) results128 (hp:=by exact wl0)
  refine t11 ?_
  refine cN ?_ ?_ <;> intro h27
  ·refine t5 ?_
   refine kRF call125 (qbj c.w.heap.size _) ?_
   refine t6 ?_
   exact rXF (⟨_,_,(⟨_,(⟨_,_,_⟩:Cu),_,_⟩:SO26),_⟩:SS26) results128 (hp:=by exact wl0)
  refine t3 ?_
  refine qaz rfl (by kernel_rfl) ?_
  refine qaf 9 (by kernel_rfl) ?_
  refine t3 ?_
  refine qbh (by ((refine qaw call72 (qcf _ _ ?_) ⟨qaq,⟨qaq,trivial⟩⟩);all_goals (first|omega|(simp;done)|(simp;omega)|(refine Nat.le_trans (qah _ _) ?_;omega)|(refine Nat.le_trans (qah _ _) (Nat.le_trans (Nat.add_le_add_right (qah _ _) _) ?_);omega)))) ?_
  refine t4 ?_
  refine qbh (by ((refine qad call131 (qly c.w.heap.size _ _ (⟨_,_,_⟩:Cu) ?_ ?_) ⟨qbc,⟨qbc,⟨qbc,trivial⟩⟩⟩);all_goals (first|omega|(simp;done)|(simp;omega)|(refine Nat.le_trans (qah _ _) ?_;omega)|(refine Nat.le_trans (qah _ _) (Nat.le_trans (Nat.add_le_add_right (qah _ _) _) ?_);omega)))) ?_
  refine ⟨rfl,?_⟩
  (refine qqj 136 rfl ?_;intro x136 hx136)
  refine qeb (by kernel_rfl) rfl (qas (er rfl) (er rfl) qag qae qbm rf rf rf) ?_
  refine qar ?_
  refine t3 ?_
  exact rXF (⟨_,_,(⟨_,(⟨_,_,_⟩:Cu),_,_⟩:SO26),_⟩:SS26) results128 (hp:=by exact qiq hx136 (qgn hw hs1 (by decide)))
 refine t9 ?_
 intro i17
 refine t9 ?_
 refine qap rfl (qaw call169 (qhj _ _ (⟨_,_⟩:Pt) _ _) ⟨qbc,⟨qbc,⟨qbc,⟨qbc,⟨qbc,trivial⟩⟩⟩⟩⟩) ?_
 (refine qa5 145 rfl ?_;intro x145 hx145)
 refine s1 ?_
 intro i18
 refine t5 ?_
 obtain ⟨hg1,hg2,hg3⟩:=hx145
 have hg1l:=hg1.1
 refine t6 ?_
 refine cN ?_ ?_ <;> intro h32
 ·refine t10 ?_
  exact rXF (⟨_,_,(⟨_,(⟨_,_,_⟩:Cu),_,_⟩:SO26),_⟩:SS26) results128 (hp:=by exact wl0)
 refine t11 ?_
 refine cN ?_ ?_ <;> intro h34
 ·refine t5 ?_
  refine kRF call125 (qbj c.w.heap.size _) ?_
  refine t5 ?_
  exact rXF (⟨_,_,(⟨_,(⟨_,_,_⟩:Cu),_,_⟩:SO26),_⟩:SS26) results128 (hp:=by exact wl0)
 refine t10 ?_
 refine cN ?_ ?_ <;> intro h36
 ·refine t8 ?_
  refine qap rfl (by ((refine qad call131 (qly c.w.heap.size _ _ (⟨_,_,_⟩:Cu) ?_ ?_) ⟨qbc,⟨qbc,⟨qbc,trivial⟩⟩⟩);all_goals (first|first|omega|(simp;done)|(simp;omega)|first|omega|(simp;done)|(simp;omega)|(refine Nat.le_trans (qah _ _) ?_;omega)|(refine Nat.le_trans (qah _ _) (Nat.le_trans (Nat.add_le_add_right (qah _ _) _) ?_);omega)))) ?_
  (refine qa5 169 rfl ?_;intro x169 hx169)
  refine t5 ?_
  exact rXF (⟨_,_,(⟨_,(⟨_,_,_⟩:Cu),_,_⟩:SO26),_⟩:SS26) results128 (hp:=by exact qiq hx169 (hg1.mono (by decide)))
 refine t5 ?_
 refine kXF call130 (qgo c.w.heap.size (⟨_,_,_⟩:Cu)) ?_
 refine t4 ?_
 exact rXF (⟨_,_,(⟨_,(⟨_,_,_⟩:Cu),_,_⟩:SO26),_⟩:SS26) results128 (hp:=by exact wl0)
theorem qnx (cu:Cu) (cl lines:Int) (ks:List Pg) (hks:ks.length≤5000):FnF Tryz.prog 129 [IsCu cu,Is (.int .i64 cl),Is (.int .i64 lines),IsSl tPg ks] (fun B=>qes PSS fun r=>qjx B r):=by
 refine FnF.enter func129 ntmps129 rfl rfl ?_
 intro c hX
 refine t3 ?_
 intro i4
 refine s1 ?_
 intro i8
 refine t11 ?_
 refine qap rfl (by ((refine qaw call12 (qfa (⟨_,_,_,_,_,_⟩:Ep26) _ ?_ ?_) ⟨qbc,⟨qbc,trivial⟩⟩);all_goals (first|omega|(simp;done)|(simp;omega)))) ?_
 (refine qa5 17 rfl ?_;intro x17 hx17)
 refine s1 ?_
 intro i9
 refine t5 ?_
 obtain ⟨⟨he1,he2,he3⟩,he4⟩:=hx17
 have he1l:=he1.1
 refine t6 ?_
 refine cN ?_ ?_ <;> intro h2
 ·refine t10 ?_
  exact rXF (⟨_,_,(⟨_,(⟨_,_,_⟩:Cu),_,_⟩:SO26),_⟩:SS26) results129 (hp:=by exact wl0)
 refine t11 ?_
 refine cN ?_ ?_ <;> intro h4
 ·refine t8 ?_
  refine cN ?_ ?_ <;> intro h5
  ·refine t3 ?_
   refine kXF call130 (qgo c.w.heap.size (⟨_,_,_⟩:Cu)) ?_
   refine t6 ?_
   exact rXF (⟨_,_,(⟨_,(⟨_,_,_⟩:Cu),_,_⟩:SO26),_⟩:SS26) results129 (hp:=by exact wl0)
  refine t8 ?_
  refine kXF call130 (qgo c.w.heap.size (⟨_,_,_⟩:Cu)) ?_
  refine t5 ?_
  exact rXF (⟨_,_,(⟨_,(⟨_,_,_⟩:Cu),_,_⟩:SO26),_⟩:SS26) results129 (hp:=by exact wl0)
 refine t11 ?_
 refine cN ?_ ?_ <;> intro h8
 ·refine t5 ?_
  refine kRF call125 (qbj c.w.heap.size _) ?_
  refine t5 ?_
  exact rXF (⟨_,_,(⟨_,(⟨_,_,_⟩:Cu),_,_⟩:SO26),_⟩:SS26) results129 (hp:=by exact wl0)
 refine t10 ?_
 refine qap rfl (by ((refine qad call131 (qly c.w.heap.size _ _ (⟨_,_,_⟩:Cu) ?_ ?_) ⟨qbc,⟨qbc,⟨qbc,trivial⟩⟩⟩);all_goals (first|first|omega|(simp;done)|(simp;omega)|first|omega|(simp;done)|(simp;omega)|(refine Nat.le_trans (qah _ _) ?_;omega)|(refine Nat.le_trans (qah _ _) (Nat.le_trans (Nat.add_le_add_right (qah _ _) _) ?_);omega)))) ?_
 (refine qa5 52 rfl ?_;intro x52 hx52)
 refine t4 ?_
 exact rXF (⟨_,_,(⟨_,(⟨_,_,_⟩:Cu),_,_⟩:SO26),_⟩:SS26) results129 (hp:=by exact qiq hx52 (he1.mono (by decide)))
theorem Sweep_ok (cu:Cu) (cl lines:Int) (ks:List Pg) (hks:ks.length≤5000):FnF Tryz.prog 77 [IsCu cu,Is (.int .i64 cl),Is (.int .i64 lines),IsSl tPg ks] (fun B=>qes PSS fun r=>qjx B r):=by
 refine FnF.enter func77 ntmps77 rfl rfl ?_
 intro c hX
 refine t3 ?_
 intro i4
 refine s1 ?_
 intro i8
 refine t31 ?_
 refine cN ?_ ?_ <;> intro h1
 ·refine t2 ?_
  refine kRF call125 (qbj c.w.heap.size _) ?_
  refine t5 ?_
  exact rXF (⟨_,_,(⟨_,(⟨_,_,_⟩:Cu),_,_⟩:SO26),_⟩:SS26) results77 (hp:=by exact wl0) (hD0:=hX.2)
 refine t16 ?_
 refine cN ?_ ?_ <;> intro h4
 ·refine t18 ?_
  refine cN ?_ ?_ <;> intro h5
  ·refine t2 ?_
   refine kRF call125 (qbj c.w.heap.size _) ?_
   refine t7 ?_
   exact rXF (⟨_,_,(⟨_,(⟨_,_,_⟩:Cu),_,_⟩:SO26),_⟩:SS26) results77 (hp:=by exact wl0) (hD0:=hX.2)
  have hlv:0≤cu.level:=by
   simp only [Bool.or_eq_false_iff,decide_eq_false_iff_not] at h5
   omega
  refine t8 ?_
  refine qap rfl (by ((refine qaw call126 (qsx cu _ _ _ ?_ hlv) ⟨qaq,⟨qaq,⟨qaq,⟨qaq,trivial⟩⟩⟩⟩);all_goals (first|omega|(simp;done)|(simp;omega)|(refine Nat.le_trans (qah _ _) ?_;omega)|(refine Nat.le_trans (qah _ _) (Nat.le_trans (Nat.add_le_add_right (qah _ _) _) ?_);omega)))) ?_
  (refine qa5 57 rfl ?_;intro x57 hx57)
  refine t6 ?_
  exact rXF (⟨_,_,(⟨_,(⟨_,_,_⟩:Cu),_,_⟩:SO26),_⟩:SS26) results77 (hp:=by exact hx57) (hD0:=hX.2)
 refine t6 ?_
 refine cN ?_ ?_ <;> intro h8
 ·refine t13 ?_
  refine cN ?_ ?_ <;> intro h9
  ·refine t2 ?_
   refine kRF call125 (qbj c.w.heap.size _) ?_
   refine t7 ?_
   exact rXF (⟨_,_,(⟨_,(⟨_,_,_⟩:Cu),_,_⟩:SO26),_⟩:SS26) results77 (hp:=by exact wl0) (hD0:=hX.2)
  refine t7 ?_
  refine qap rfl (by ((refine qaw call127 (qqr cu _ _ ?_) ⟨qaq,⟨qaq,⟨qaq,trivial⟩⟩⟩);all_goals (first|omega|(simp;done)|(simp;omega)|(refine Nat.le_trans (qah _ _) ?_;omega)|(refine Nat.le_trans (qah _ _) (Nat.le_trans (Nat.add_le_add_right (qah _ _) _) ?_);omega)))) ?_
  (refine qa5 72 rfl ?_;intro x72 hx72)
  refine t6 ?_
  exact rXF (⟨_,_,(⟨_,(⟨_,_,_⟩:Cu),_,_⟩:SO26),_⟩:SS26) results77 (hp:=by exact hx72) (hD0:=hX.2)
 refine t6 ?_
 refine cN ?_ ?_ <;> intro h12
 ·refine t6 ?_
  refine qap rfl (by ((refine qaw call128 (qme cu _ _ _ ?_) ⟨qaq,⟨qaq,⟨qaq,⟨qaq,trivial⟩⟩⟩⟩);all_goals (first|omega|(simp;done)|(simp;omega)|(refine Nat.le_trans (qah _ _) ?_;omega)|(refine Nat.le_trans (qah _ _) (Nat.le_trans (Nat.add_le_add_right (qah _ _) _) ?_);omega)))) ?_
  (refine qa5 79 rfl ?_;intro x79 hx79)
  refine t6 ?_
  exact rXF (⟨_,_,(⟨_,(⟨_,_,_⟩:Cu),_,_⟩:SO26),_⟩:SS26) results77 (hp:=by exact hx79) (hD0:=hX.2)
 refine t6 ?_
 refine cN ?_ ?_ <;> intro h14
 ·refine t8 ?_
  refine cN ?_ ?_ <;> intro h15
  ·refine t2 ?_
   refine kRF call125 (qbj c.w.heap.size _) ?_
   refine t7 ?_
   exact rXF (⟨_,_,(⟨_,(⟨_,_,_⟩:Cu),_,_⟩:SO26),_⟩:SS26) results77 (hp:=by exact wl0) (hD0:=hX.2)
  refine t8 ?_
  refine qap rfl (by ((refine qaw call129 (qnx cu _ _ _ ?_) ⟨qaq,⟨qaq,⟨qaq,⟨qaq,trivial⟩⟩⟩⟩);all_goals (first|omega|(simp;done)|(simp;omega)|(refine Nat.le_trans (qah _ _) ?_;omega)|(refine Nat.le_trans (qah _ _) (Nat.le_trans (Nat.add_le_add_right (qah _ _) _) ?_);omega)))) ?_
  (refine qa5 90 rfl ?_;intro x90 hx90)
  refine t6 ?_
  exact rXF (⟨_,_,(⟨_,(⟨_,_,_⟩:Cu),_,_⟩:SO26),_⟩:SS26) results77 (hp:=by exact hx90) (hD0:=hX.2)
 refine t6 ?_
 refine cN ?_ ?_ <;> intro h18
 ·refine t5 ?_
  refine qap rfl (by ((refine qaw call12 (qfa (⟨_,_,_,_,_,_⟩:Ep26) _ ?_ ?_) ⟨qbc,⟨qbc,trivial⟩⟩);all_goals (first|omega|(simp;done)|(simp;omega)|(refine Nat.le_trans (qah _ _) ?_;omega)|(refine Nat.le_trans (qah _ _) (Nat.le_trans (Nat.add_le_add_right (qah _ _) _) ?_);omega)))) ?_
  (refine qa5 96 rfl ?_;intro x96 hx96)
  refine s1 ?_
  intro i9
  refine t5 ?_
  obtain ⟨⟨he1,he2,he3⟩,he4⟩:=hx96
  have he1l:=he1.1
  refine t6 ?_
  refine cN ?_ ?_ <;> intro h20
  ·refine t12 ?_
   exact rXF (⟨_,_,(⟨_,(⟨_,_,_⟩:Cu),_,_⟩:SO26),_⟩:SS26) results77 (hp:=by exact wl0) (hD0:=hX.2)
  refine t22 ?_
  refine cN ?_ ?_ <;> intro h22
  ·refine t3 ?_
   refine kXF call130 (qgo c.w.heap.size (⟨_,_,_⟩:Cu)) ?_
   refine t7 ?_
   exact rXF (⟨_,_,(⟨_,(⟨_,_,_⟩:Cu),_,_⟩:SO26),_⟩:SS26) results77 (hp:=by exact wl0) (hD0:=hX.2)
  refine t11 ?_
  refine cN ?_ ?_ <;> intro h24
  ·refine t5 ?_
   refine kRF call125 (qbj c.w.heap.size _) ?_
   refine t7 ?_
   exact rXF (⟨_,_,(⟨_,(⟨_,_,_⟩:Cu),_,_⟩:SO26),_⟩:SS26) results77 (hp:=by exact wl0) (hD0:=hX.2)
  refine t10 ?_
  refine qap rfl (by ((refine qad call131 (qly c.w.heap.size _ _ (⟨_,_,_⟩:Cu) ?_ ?_) ⟨qbc,⟨qbc,⟨qbc,trivial⟩⟩⟩);all_goals (first|first|omega|(simp;done)|(simp;omega)|first|omega|(simp;done)|(simp;omega)|(refine Nat.le_trans (qah _ _) ?_;omega)|(refine Nat.le_trans (qah _ _) (Nat.le_trans (Nat.add_le_add_right (qah _ _) _) ?_);omega)))) ?_
  (refine qa5 134 rfl ?_;intro x134 hx134)
  refine t6 ?_
  exact rXF (⟨_,_,(⟨_,(⟨_,_,_⟩:Cu),_,_⟩:SO26),_⟩:SS26) results77 (hp:=by exact qiq hx134 (he1.mono (by decide))) (hD0:=hX.2)
 refine t6 ?_
 refine kXF call130 (qgo c.w.heap.size (⟨_,_,_⟩:Cu)) ?_
 refine t4 ?_
 exact rXF (⟨_,_,(⟨_,(⟨_,_,_⟩:Cu),_,_⟩:SO26),_⟩:SS26) results77 (hp:=by exact wl0) (hD0:=hX.2)
structure Hs where
 pages:List Pg
 seq:Int
 table:List Rw
 cur:Cu
def LnI (H:List Pg):Prop:=∀ (i:Nat) p,H[i]?=some p→p.l=96+(i:Int)
theorem lat_ix {H:List Pg} (h:LnI H) {i:Nat} {p:Pg} (hi:H[i]?=some p):qbk H (96+(i:Int))=p:=by
 have hp:=h i p hi
 unfold qbk qg3
 cases hq:(H.filter fun p=>decide (p.l=96+(i:Int))).getLast? with
 | none =>
  have h1:=List.getLast?_eq_none_iff.1 hq
  have h2:p∈H.filter fun p=>decide (p.l=96+(i:Int)):=List.mem_filter.2 ⟨List.mem_of_getElem? hi,decide_eq_true hp⟩
  rw [h1] at h2
  exact absurd h2 List.not_mem_nil
 | some q =>
  have h1:=List.mem_filter.1 (List.mem_of_getLast? hq)
  obtain ⟨j,hj⟩:=List.mem_iff_getElem?.1 h1.1
  have h2:=h j q hj
  have h3:=of_decide_eq_true h1.2
  have:j=i:=by omega
  subst this
  rw [hj] at hi
  cases hi
  rfl
theorem comP_ix {H:List Pg} {w:Pg} {i:Nat} {p:Pg} (h:(qnr H w)[i]?=some p):H[i]?=some p∨((i:Int)=w.l-96∧∃ x,p={ w with h:=x }):=by
 unfold qnr at h
 split at h
 ·rename_i hr
  rw [List.getElem?_set] at h
  split at h
  ·rename_i he
   split at h
   ·injection h with h
    exact .inr ⟨by omega,_,h.symm⟩
   ·cases h
  ·exact .inl h
 ·exact .inl h
theorem comP_ln {H:List Pg} {w:Pg} (h:LnI H):LnI (qnr H w):=fun i p hp=>by
 rcases comP_ix hp with hp|⟨h1,x,rfl⟩
 ·exact h i p hp
 ·show w.l=_;omega
theorem qok:∀ (ws:List Pg) {H:List Pg},LnI H→LnI (ws.foldl qnr H)
 | [],_,h=>h
 | w :: ws,_,h=>qok ws (comP_ln h)
theorem quf:∀ (ws:List Pg) {H:List Pg} {i:Nat},(∀ v,v∈ws→v.l≠96+(i:Int))→(ws.foldl qnr H)[i]?=H[i]?
 | [],H,i,_=>rfl
 | w :: ws,H,i,h=>by
  rw [List.foldl_cons,quf ws fun v hv=>h v (List.mem_cons_of_mem _ hv)]
  have hw:=h w (List.mem_cons_self ..)
  unfold qnr
  split
  ·rw [List.getElem?_set,if_neg (by omega)]
  ·rfl
theorem com_at:∀ (ws:List Pg) {H:List Pg} {w:Pg} {i:Nat},Asc ws→w∈ws→w.l=96+(i:Int)→i<H.length→∃ x,(ws.foldl qnr H)[i]?=some { w with h:=x }
 | v :: ws,H,w,i,ha,hm,hl,hi=>by
  obtain ⟨h1,h2⟩:=List.pairwise_cons.1 ha
  rw [List.foldl_cons]
  rcases List.mem_cons.1 hm with rfl|hm
  ·rw [quf ws fun u hu=>by have:=h1 u hu;omega]
   refine ⟨qz4 (H.getD (w.l-96).toNat Pg.nil).h,?_⟩
   unfold qnr
   rw [if_pos (by omega),List.getElem?_set,if_pos (by omega),if_pos (by omega)]
  ·exact com_at ws h2 hm hl (by rw [qy5];exact hi)
theorem zak {H ws:List Pg} {f:Int} {m:Nd} (h:LnI H) (hf:0≤f∧f<6) (hn:8≤H.length) (h0:(qc1 (qbk H (98+f))).2=0) (hm:Nld (qc1 (qbk H (98+f))).1 m) (hlt:qo9 m<qo9 (qc1 (qbk H (98+f))).1) (ha:Asc ws) (hw:(qck (qbk H (98+f)) m).1∈ws) :
  qo9 (qc1 (qbk (ws.foldl qnr H) (98+f))).1<qo9 (qc1 (qbk H (98+f))).1:=by
 obtain ⟨j,hj⟩:∃ j:Nat,f=(j:Int):=⟨f.toNat,by omega⟩
 subst hj
 have e1:(98:Int)+(j:Int)=96+((2+j:Nat):Int):=by omega
 obtain ⟨p,hp⟩:∃ p,H[2+j]?=some p:=⟨_,List.getElem?_eq_getElem (by omega)⟩
 have e2:=lat_ix h hp
 rw [← e1] at e2
 rw [e2] at h0 hm hlt hw ⊢
 have hpl:=h _ _ hp
 obtain ⟨b1,b2,b3⟩:=zen (zc2 h0 hm)
 obtain ⟨x,hx⟩:=com_at ws (H:=H) (i:=2+j) ha hw (by rw [b2];exact hpl) (by omega)
 have e3:=lat_ix (qok ws h) hx
 rw [← e1] at e3
 rw [e3]
 have e4:∀ (q:Pg) (y:BitVec 64),qc1 { q with h:=y }=qc1 q:=fun q y=>rfl
 rw [e4,b1]
 exact hlt
theorem qij (b n:Nat) (s:Option Addr×Nat) (C1 C2 C3 C4 C5 C6:VP) (H ws:List Pg) (hH:H.length=n) (hn:n≤200) (hlo:∀ w,w∈ws→Ln w) :
  Fn Tryz.prog 48 [Is (.pointer (some ⟨b,0,none⟩)),IsSl tPg ws] [blk b 42 [Is (slV n s),C1,C2,C3,C4,C5,C6],buf (slV n s) 48 tPg H] (fun _:Unit=>qbu []) (fun _=>[blk b 42 [Is (slV n s),C1,C2,C3,C4,C5,C6],buf (slV n s) 48 tPg (ws.foldl qnr H)]):=by
 refine Fn.enterN func48 ntmps48 rfl rfl ?_
 intro c hX
 refine qgv (t:=1) rfl (fun hlen=>?_)
 refine t6 ?_
 refine qbg (fun k:Nat=>k≤ws.length) (fun k=>[(0,Is (.pointer (some ⟨b,0,none⟩))),(1,IsSl tPg ws),(4,Is (.int .i64 (k:Nat)))]) (fun k=>[blk b 42 [Is (slV n s),C1,C2,C3,C4,C5,C6],buf (slV n s) 48 tPg ((ws.take k).foldl qnr H)]) (fun k=>ws.length-k) 0 (Nat.zero_le _) qa9 qab ?_
 rintro k hk
 refine t9 ?_
 refine cN ?_ ?_ <;> intro h1
 ·have hlt:k<ws.length:=by have:=of_decide_eq_true h1;omega
  clear h1
  obtain ⟨w,hz⟩:∃ z,ws[k]?=some z:=⟨ws[k],List.getElem?_eq_getElem hlt⟩
  have hct:=com_take (H:=H) hz
  have hwl0:=hlo w (List.mem_of_getElem? hz)
  have hwl:-1≤w.l∧w.l≤255:=hwl0
  obtain ⟨G,hG⟩:∃ G,(ws.take k).foldl qnr H=G:=⟨_,rfl⟩
  have hGl:G.length=n:=by rw [← hG,qk3,hH]
  rw [hG] at hct
  rw [hG]
  refine t9 ?_
  refine qap rfl (by exact qa0 (k:=0) (er rfl) rfl rfl rfl rfl qbm) ?_
  refine qap rfl (by exact qbx (er rfl) rfl rfl rfl) ?_
  refine t11 ?_
  (refine qcp rfl rfl rfl (fun hg=>(by have hg0:=hg;(try simp at hg);exact qhb evG)) ?_)
  (refine qcp rfl rfl rfl (fun hg=>(by have hg0:=hg;(try simp at hg);exact qbe (k:=0) evG rfl rfl rfl rfl)) ?_)
  (refine qcp rfl rfl rfl (fun hg=>(by have hg0:=hg;(try simp at hg);exact qeg evG qbw rf rf rf)) ?_)
  refine t5 ?_
  refine cN ?_ ?_ <;> intro h4
  ·have g:96≤w.l∧w.l<96+(n:Int):=by simp at h4;omega
   obtain ⟨j,hj⟩:∃ j:Nat,w.l-96=(j:Int):=⟨(w.l-96).toNat,by omega⟩
   have hjn:j<G.length:=by omega
   obtain ⟨q,hq⟩:∃ q,G[j]?=some q:=⟨G[j],List.getElem?_eq_getElem hjn⟩
   have hcv:qnr G w=G.set j { w with h:=qz4 q.h }:=by
    unfold qnr
    rw [if_pos (by omega),hj,Int.toNat_natCast,List.getD_eq_getElem?_getD,hq]
    rfl
   rw [hcv] at hct
   clear h4
   rw [hj]
   refine t7 ?_
   intro i6
   refine t6 ?_
   refine qap rfl (by exact qhb (er rfl)) ?_
   refine qap rfl (by exact qbe (k:=0) (er rfl) rfl rfl rfl rfl) ?_
   refine qap rfl (by exact qeg (er rfl) qbw rf rf rf) ?_
   refine s1 ?_
   refine qap rfl (by exact qax (k:=j) (er rfl) qbw (er rfl) rfl rfl qct qb8) ?_
   refine qap rfl (by exact qbi (k:=1) (er rfl) qbw qb8 rfl rfl rfl rfl) ?_
   refine qap rfl (by exact qet (er rfl) qbw hq rfl rfl rf) ?_
   refine t3 ?_
   refine qap rfl (by exact qbe (k:=1) (er rfl) rfl rfl rfl rfl) ?_
   refine qi1 44 (Is (.int .u64 (UV (qz4 q.h)))) rfl (SubL.eq (congrArg Is (congrArg (Value.int .u64) (nextH_eq q.h)))) ?_
   refine t3 ?_
   refine qaz rfl (by kernel_rfl) ?_
   refine qdm [0,1,1,1,0,1,1,2] (by kernel_rfl) (by kernel_rfl) ?_
   refine qc7 (qbb rfl) ?_
   refine qd6 (by exact qhb (er rfl)) ?_
   refine qd6 (by exact qbe (k:=0) (er rfl) rfl rfl rfl rfl) ?_
   refine qd6 (by exact qeg (er rfl) qbw rf rf rf) ?_
   refine qc7 (qbb rfl) ?_
   refine qd6 (by exact qbp (n:=9) (er rfl) qbw rf rf rf rf qbm) ?_
   refine qd6 (by exact qax (k:=j) (er rfl) qbw (er rfl) rfl rfl qct qb8) ?_
   refine qlb (by exact qge (z':={ w with h:=qz4 q.h }) (er rfl) (er rfl) qag qae hq rfl rf rf) ?_
   refine qfl ?_
   refine qar ?_
   refine t7 ?_
   (rw [← hct];exact qaa (k+1) (by omega) (by omega) qa9 qab)
  have hcv:qnr G w=G:=by
   unfold qnr
   rw [if_neg]
   simp at h4
   omega
  rw [hcv] at hct
  rw [← hct]
  clear h4
  refine t8 ?_
  exact qaa (k+1) (by omega) (by omega) qa9 qab
 have hke:k=ws.length:=by have:=of_decide_eq_false h1;omega
 subst hke
 clear h1
 rw [List.take_length]
 refine t5 ?_
 exact qbv (Bs:=[]) results48 trivial () SubL.rfl' qab
@[reducible] def zfj (B:Nat) (r:ES26):VP:=IsAgg [Top,qbd B (IsSl tPg r.writes),Is (.int .i64 r.out.code),Top,Top,Top,Top,Is (.bool r.over),Top]
@[reducible] def zfe (B:Nat) (r:SS26):VP:=IsAgg [Top,qbd B (IsSl tPg r.writes),Is (.int .i64 r.out.code),Is (.int .i64 r.out.next.phase),Is (.int .i64 r.out.next.level),Is (.int .u32 (UV r.out.next.key)),Top,Top,Top]
theorem zfo (op:Ep26) (ks:List Pg) (hks:ks.length≤10000) (hol:op.list.length≤1000):FnF Tryz.prog 12 [qfx op,IsSl tPg ks] (fun B=>qes (PEN op ks) fun r=>zfj B r):=
 (qfa op ks hks hol).sub fun B φ v ⟨r,hp,vs,e,k,o⟩=>⟨r,hp,vs,e,Subs.alls (show Subs ((qw6 B).cells r) [Top,qbd B (IsSl tPg r.writes),Is (.int .i64 r.out.code),Top,Top,Top,Top,Is (.bool r.over),Top] from ⟨qfo,Sub.rfl',Sub.rfl',qfo,qfo,qfo,qfo,Sub.rfl',qfo,trivial⟩) k,o⟩
theorem ze0 (cu:Cu) (cl lines:Int) (ks:List Pg) (hks:ks.length≤5000):FnF Tryz.prog 77 [IsCu cu,Is (.int .i64 cl),Is (.int .i64 lines),IsSl tPg ks] (fun B=>qes PSS fun r=>zfe B r):=
 (Sweep_ok cu cl lines ks hks).sub fun B φ v ⟨r,hp,vs,e,k,o⟩=>⟨r,hp,vs,e,Subs.alls (show Subs ((zbn B).cells r) [Top,qbd B (IsSl tPg r.writes),Is (.int .i64 r.out.code),Is (.int .i64 r.out.next.phase),Is (.int .i64 r.out.next.level),Is (.int .u32 (UV r.out.next.key)),Top,Top,Top] from ⟨qfo,Sub.rfl',Sub.rfl',Sub.rfl',Sub.rfl',Sub.rfl',qfo,qfo,qfo,trivial⟩) k,o⟩
theorem zdx {p:ES26→Prop}:qjz fun B=>qes p (fun r=>zfj B r):=qkd fun r =>
 qke [fun _=>Top,fun B=>qbd B (IsSl tPg r.writes),fun _=>Is (.int .i64 r.out.code),fun _=>Top,fun _=>Top,fun _=>Top,fun _=>Top,fun _=>Is (.bool r.over),fun _=>Top] ⟨qa8 qcw,qev,qa8 qdd,qa8 qcw,qa8 qcw,qa8 qcw,qa8 qcw,qa8 qdd,qa8 qcw,trivial⟩
theorem zdw {p:SS26→Prop}:qjz fun B=>qes p (fun r=>zfe B r):=qkd fun r =>
 qke [fun _=>Top,fun B=>qbd B (IsSl tPg r.writes),fun _=>Is (.int .i64 r.out.code),fun _=>Is (.int .i64 r.out.next.phase),fun _=>Is (.int .i64 r.out.next.level),fun _=>Is (.int .u32 (UV r.out.next.key)),fun _=>Top,fun _=>Top,fun _=>Top] ⟨qa8 qcw,qev,qa8 qdd,qa8 qdd,qa8 qdd,qa8 qdd,qa8 qcw,qa8 qcw,qa8 qcw,trivial⟩
theorem qj0 (b n:Nat) (s:Option Addr×Nat) (lines:Int) (x:Hs) (op:Ep26) (hop:op.list=[]) (hfor:op.kind=5→0≤op.for_∧op.for_<6) (hn:8≤n∧n≤200) (hH:x.pages.length=n) (hln:LnI x.pages):FnX Tryz.prog 45 [Is (.pointer (some ⟨b,0,none⟩)),qfx op] [blk b 42 [Is (slV n s),Is (.int .i64 lines),Is (.int .i64 x.seq),IsSl tRw x.table,Is (.int .i64 x.cur.phase),Is (.int .i64 x.cur.level),Is (.int .u32 (UV x.cur.key))],buf (slV n s) 48 tPg x.pages]
  (fun i:List Pg×Bool=>i.1.length=n∧LnI i.1∧(i.2=true→op.kind=5→qo9 (qc1 (qbk i.1 (98+op.for_))).1<qo9 (qc1 (qbk x.pages (98+op.for_))).1)) (fun i=>Is (.bool i.2)) (fun i=>[blk b 42 [Is (slV n s),Is (.int .i64 lines),Is (.int .i64 x.seq),IsSl tRw x.table,Is (.int .i64 x.cur.phase),Is (.int .i64 x.cur.level),Is (.int .u32 (UV x.cur.key))],buf (slV n s) 48 tPg (i.1)]):=by
 refine Fn.enterB func45 ntmps45 rfl rfl ?_
 intro c hX hbelow
 refine t3 ?_
 intro i3
 refine t4 ?_
 refine qaz rfl (by kernel_rfl) ?_
 refine qfi (its:=[]) ?_
 refine f1 0 ?_
 refine f1 1 ?_
 refine f1 2 ?_
 refine f1 3 ?_
 refine f1 4 ?_
 refine qne 6 rfl (by kernel_rfl) (fun _=>(qbl rfl qbm rfl)) ?_
 (refine zay 5 [0,1,2,3,4,5] rfl (by kernel_rfl) (by ((refine qdj qgg call12 (zfo op x.pages ?_ ?_) ⟨qaq,⟨qaq,trivial⟩⟩ (zdx));all_goals (first|omega|rw [hop];decide))) ?_;intro x11 hx11)
 (refine qgr 5 6 (by kernel_rfl) rfl rfl ?_;intro i5)
 refine qe6 7 [0,1,2,3,4,5,6,7] rfl (by kernel_rfl) (fun c'=>by exact qa2 (er rfl) (er rfl) qag qae rf rf rf) ?_
 refine qd0 (by kernel_rfl) rfl ?_
 show JQ _ _ _ _ _ _
 refine t3 ?_
 obtain ⟨⟨hw,hnd,hck⟩,h5⟩:=hx11
 refine t12 ?_
 refine cN ?_ ?_ <;> intro h2
 ·refine t7 ?_
  refine qat (Bs:=[_]) (_,_) ?_ rfl results45 eXF qab (hD0:=hX.2)
  exact ⟨hH,hln,fun h=>Bool.noConfusion h⟩
 rw [Bool.or_eq_false_iff] at h2
 have hov:x11.over=true:=by simpa using h2.1
 have hcd:x11.out.code=0:=by simpa using h2.2
 refine t7 ?_
 (refine qew rfl (qia qbs qbs call48 (qij b n s _ _ _ _ _ _ x.pages x11.writes hH hn.2 hw.2) ⟨qaq,⟨qaq,trivial⟩⟩) ?_;intro i24)
 refine t8 ?_
 refine qat (Bs:=[_]) (_,_) ?_ rfl results45 eXF qab (hD0:=hX.2)
 exact ⟨by rw [qk3];exact hH,qok _ hln,fun _ hk=>by
 obtain ⟨h0,m,hm,hlt,ha,hmem⟩:=h5 hk hov hcd
 exact zak hln (hfor hk) (by omega) h0 hm hlt ha hmem⟩
theorem qo3 (b n:Nat) (s:Option Addr×Nat) (lines:Int) (x:Hs) (cl:Int) (hcl:0≤cl∧cl<6) (hn:8≤n∧n≤200) (hH:x.pages.length=n) (hln:LnI x.pages):FnX Tryz.prog 46 [Is (.pointer (some ⟨b,0,none⟩)),Is (.int .i64 cl)] [blk b 42 [Is (slV n s),Is (.int .i64 lines),Is (.int .i64 x.seq),IsSl tRw x.table,Is (.int .i64 x.cur.phase),Is (.int .i64 x.cur.level),Is (.int .u32 (UV x.cur.key))],buf (slV n s) 48 tPg x.pages]
  (fun i:List Pg=>i.length=n∧LnI i) (fun i=>qbu []) (fun i=>[blk b 42 [Is (slV n s),Is (.int .i64 lines),Is (.int .i64 x.seq),IsSl tRw x.table,Is (.int .i64 x.cur.phase),Is (.int .i64 x.cur.level),Is (.int .u32 (UV x.cur.key))],buf (slV n s) 48 tPg (i)]):=by
 refine Fn.enterB func46 ntmps46 rfl rfl ?_
 intro c hX hbelow
 refine t4 ?_
 (refine qe5 rfl (by ((refine qdw qbs qbs call45 (qj0 b n s lines x (⟨3,_,_,_,_,[]⟩:Ep26) rfl (fun h=>absurd (show (3:Int)=5 from h) ?_) hn hH hln) ⟨qaq,⟨qaq,trivial⟩⟩);all_goals (decide))) ?_;intro x6 hx6)
 refine t3 ?_
 obtain ⟨he1,he2,_⟩:=hx6
 refine t3 ?_
 (refine qe5 rfl (by ((refine qdw qbs qbs call45 (qj0 b n s lines ⟨x6.1,x.seq,x.table,x.cur⟩ (⟨3,_,_,_,_,[]⟩:Ep26) rfl (fun h=>absurd (show (3:Int)=5 from h) ?_) hn he1 he2) ⟨qaq,⟨qaq,trivial⟩⟩);all_goals (decide))) ?_;intro x9 hx9)
 refine t3 ?_
 obtain ⟨he3,he4,_⟩:=hx9
 refine qav [(0,_),(1,_)] [] (fun y:(List Pg)=>y.length=n∧LnI y) (fun y=>[]) (fun y=>[blk b 42 [Is (slV n s),Is (.int .i64 lines),Is (.int .i64 x.seq),IsSl tRw x.table,Is (.int .i64 x.cur.phase),Is (.int .i64 x.cur.level),Is (.int .u32 (UV x.cur.key))],buf (slV n s) 48 tPg (y)]) (fun y=>qo9 (qc1 (qbk y (98+cl))).1) _ ?_ qaj qab ?_
 ·exact (⟨he3,he4⟩)
 rintro H hI
 refine t10 ?_
 (refine qe5 rfl (qdw qbs qbs call45 (qj0 b n s lines ⟨H,x.seq,x.table,x.cur⟩ (⟨5,_,_,_,cl,[]⟩:Ep26) rfl (fun _=>hcl) hn hI.1 hI.2) ⟨qaq,⟨qaq,trivial⟩⟩) ?_;intro x17 hx17)
 refine t2 ?_
 refine cN ?_ ?_ <;> intro h2
 ·refine t5 ?_
  refine qaa _ ?_ ?_ qaj qab
  ·exact ⟨hx17.1,hx17.2.1⟩
  ·exact hx17.2.2 h2 rfl
 refine t5 ?_
 refine qat (Bs:=[]) _ ?_ rfl results46 trivial qab (hD0:=hX.2)
 exact ⟨hx17.1,hx17.2.1⟩
structure Pq where
 kind:Int
 line:Int
 word:Int
 w:BitVec 64
def tPq:Ty Pq:=⟨4,fun a=>[Is (.int .i64 a.kind),Is (.int .i64 a.line),Is (.int .i64 a.word),Is (.int .u64 (UV a.w))],fun _=>rfl⟩
def Pg.setd (p:Pg) (j:Nat) (x:BitVec 64):Pg:=match j with
 | 0=>{ p with d0:=x }
 | 1=>{ p with d1:=x }
 | 2=>{ p with d2:=x }
 | 3=>{ p with d3:=x }
 | 4=>{ p with d4:=x }
 | 5=>{ p with d5:=x }
 | _=>{ p with d6:=x }
theorem qj4 (p:Pg) {j:Nat} (x:BitVec 64) (hj:j<7):tPg.cells (p.setd j x)=ovr (tPg.cells p) (2+j) [Is (.int .u64 (UV x))]:=by
 match j,hj with
 | 0,_=>rfl
 | 1,_=>rfl
 | 2,_=>rfl
 | 3,_=>rfl
 | 4,_=>rfl
 | 5,_=>rfl
 | 6,_=>rfl
theorem qud (p:Pg) {j:Nat} (hj:j<7):∃ x:BitVec 64,(tPg.cells p)[2+j]?=some (Is (.int .u64 (UV x))):=by
 match j,hj with
 | 0,_=>exact ⟨_,rfl⟩
 | 1,_=>exact ⟨_,rfl⟩
 | 2,_=>exact ⟨_,rfl⟩
 | 3,_=>exact ⟨_,rfl⟩
 | 4,_=>exact ⟨_,rfl⟩
 | 5,_=>exact ⟨_,rfl⟩
 | 6,_=>exact ⟨_,rfl⟩
theorem qr2 {k j:Nat} (h:2+j+1≤9):(Nat.beq 1 1&&Nat.ble (2+j+1) 9)=true:=by
 rw [Nat.ble_eq_true_of_le h];rfl
theorem qli (p:Pg) (j:Nat) (x:BitVec 64):(p.setd j x).l=p.l:=by
 unfold Pg.setd;split <;> rfl
theorem qgq {H:List Pg} {k:Nat} {p q:Pg} (h:LnI H) (hp:H[k]?=some p) (hq:q.l=p.l):LnI (H.set k q):=fun i r hr=>by
 rcases Nat.lt_or_ge k H.length with hk|hk
 ·by_cases hi:k=i
  ·subst hi
   rw [List.getElem?_set_self hk] at hr
   cases hr
   rw [hq];exact h _ _ hp
  ·rw [List.getElem?_set_ne hi] at hr
   exact h i r hr
 ·rw [List.set_eq_of_length_le hk] at hr;exact h i r hr
theorem zc8 (a:Int) {m:Int} (hm:0<m):∃ j:Nat,a % m=j∧(j:Int)<m:=
 ⟨(a % m).toNat,by have:=Int.emod_nonneg a (show m≠0 by omega);omega,by have:=Int.emod_nonneg a (show m≠0 by omega);have:=Int.emod_lt_of_pos a hm;omega⟩
section
variable {P:Program} {ops:Array Oper} {Q:Exit→Go.Act→World→Prop} {c:Ctx} {N:Nat} {rest:List Oper} {E:Env} {L:List Item}
theorem JL_mod {q:IntKind} {a m:Int} (t:Nat) (hl:look E t=some (Is (.int q (a % m)))) (hm:0<m) (h:∀ j:Nat,(j:Int)<m→JL P ops Q c N rest ((t,Is (.int q (j:Int))) :: E) L):JL P ops Q c N rest E L:=by
 obtain ⟨j,h1,h2⟩:=zc8 a hm
 exact qi1 t (Is (.int q (j:Int))) hl (SubL.eq (by rw [h1])) (h j h2)
theorem JC_mod {q:IntKind} {a m:Int} {x:Code} (t:Nat) (hl:look E t=some (Is (.int q (a % m)))) (hm:0<m) (h:∀ j:Nat,(j:Int)<m→JC P c N x ((t,Is (.int q (j:Int))) :: E) L Q):JC P c N x E L Q:=by
 obtain ⟨j,h1,h2⟩:=zc8 a hm
 exact qb0 t (Is (.int q (j:Int))) hl (SubL.eq (by rw [h1])) (h j h2)
end
theorem ze2 (n:Nat) (H0:List Pg) (l:List Pq) (hn:8≤n∧n≤200) (hH0:H0.length=n) (hln0:LnI H0) (hl:l.length≤1000):FnP Tryz.prog 6 [IsSl tPg H0,IsSl tPq l] (qes (fun r:List Pg=>r.length=n∧LnI r) fun r=>IsSl tPg r):=by
 refine FnP.enter func6 ntmps6 rfl rfl ?_
 intro c hX
 refine t7 ?_
 (refine qwx rfl (qb3 tPg rfl rfl) ?_;intro i10)
 refine s1 ?_
 (refine qew rfl (qb6 (er rfl) (fun _=>qae) qaq (by exact qej rfl rfl rfl) qb8) ?_;intro i12)
 refine t5 ?_
 rw [show ([]++H0:List Pg).length=n by rw [List.nil_append];exact hH0]
 refine t5 ?_
 refine qav [(1,_),(4,_),(5,_)] [] (fun y:Nat×(List Pg)=>y.1≤(l).length∧(y.2.length=n∧LnI y.2)) (fun y=>[(6,Is (.int .i64 (y.1:Nat)))]) (fun y=>[buf (slV n i12) 48 tPg y.2]) (fun y=>(l).length-y.1) (0,([]++H0)) ?_ qaj qab ?_
 ·exact ⟨by exact Nat.zero_le _,⟨hH0,hln0⟩⟩
 rintro ⟨k,H⟩ ⟨hk,hI⟩
 dsimp only at hk hI ⊢
 refine t9 ?_
 refine cN ?_ ?_ <;> intro h3
 ·have hlt:k<(l).length:=by have:=of_decide_eq_true h3;omega
  clear h3
  obtain ⟨z,hz⟩:∃ q,(l)[k]?=some q:=⟨_,List.getElem?_eq_getElem hlt⟩
  obtain ⟨hHn,hLn⟩:=hI
  refine t13 ?_
  refine qap rfl (by ((refine qad call7 (qc9 _ _ ?_ ?_) ⟨qaq,⟨qaq,trivial⟩⟩);all_goals (first|omega|(simp;done)|(simp;omega)|(refine Nat.le_trans (qah _ _) ?_;omega)|(refine Nat.le_trans (qah _ _) (Nat.le_trans (Nat.add_le_add_right (qah _ _) _) ?_);omega)))) ?_
  refine t4 ?_
  refine JC_mod (m:=(n:Int)) 7 rfl (by omega) (fun kk hkk=>?_)
  obtain ⟨p,hp⟩:∃ p,H[kk]?=some p:=⟨_,List.getElem?_eq_getElem (by omega)⟩
  have hof:∀ ww:Nat,kk*tPg.size+2+ww*1=kk*tPg.size+(2+ww):=fun ww=>by rw [Nat.mul_one,Nat.add_assoc]
  refine t6 ?_
  refine qap rfl (by ((refine qad call7 (qc9 _ _ ?_ ?_) ⟨qaq,⟨qaq,trivial⟩⟩);all_goals (first|omega|(simp;done)|(simp;omega)|(refine Nat.le_trans (qah _ _) ?_;omega)|(refine Nat.le_trans (qah _ _) (Nat.le_trans (Nat.add_le_add_right (qah _ _) _) ?_);omega)))) ?_
  refine t4 ?_
  refine JC_mod (m:=7) 8 rfl (by omega) (fun ww hw7'=>?_)
  have hw7:ww<7:=by omega
  replace hof:=hof ww
  obtain ⟨dx,hdx⟩:=qud p hw7
  refine t11 ?_
  refine qap rfl (by ((refine qad call7 (qc9 _ _ ?_ ?_) ⟨qaq,⟨qaq,trivial⟩⟩);all_goals (first|omega|(simp;done)|(simp;omega)|(refine Nat.le_trans (qah _ _) ?_;omega)|(refine Nat.le_trans (qah _ _) (Nat.le_trans (Nat.add_le_add_right (qah _ _) _) ?_);omega)))) ?_
  (refine JL_mod (m:=(n:Int)) 43 rfl (by omega) (fun jj hjj=>?_));obtain ⟨q,hq⟩:∃ q,H[jj]?=some q:=⟨_,List.getElem?_eq_getElem (by omega)⟩;obtain ⟨dy,hdy⟩:=qud q hw7
  refine qap rfl (by exact qax (k:=jj) (er rfl) qbw (er rfl) rfl rfl qct qb8) ?_
  refine qap rfl (by exact qde (er rfl) qbw hq rfl rfl rfl) ?_
  refine s1 ?_
  intro i9
  refine t10 ?_
  refine qap rfl (by ((refine qad call7 (qc9 _ _ ?_ ?_) ⟨qaq,⟨qaq,trivial⟩⟩);all_goals (first|omega|(simp;done)|(simp;omega)|(refine Nat.le_trans (qah _ _) ?_;omega)|(refine Nat.le_trans (qah _ _) (Nat.le_trans (Nat.add_le_add_right (qah _ _) _) ?_);omega)))) ?_
  refine t9 ?_
  refine cN ?_ ?_ <;> intro h9
  ·refine qaz rfl (by kernel_rfl) ?_
   refine qdm [0,0,0,0,0,1,1,1,1,1,1,2] (by kernel_rfl) (by kernel_rfl) ?_
   refine qc7 (qbb rfl) ?_
   refine qc7 (qbb rfl) ?_
   refine qc7 (qbb rfl) ?_
   refine qc7 (qbb rfl) ?_
   refine qc7 (qbb rfl) ?_
   refine qd6 (by exact qam (j:=_) (er rfl) (er rfl) rfl rfl rf hz) ?_
   refine qd6 (by exact qa0 (k:=3) (er rfl) rfl rfl rfl rfl qbm) ?_
   refine qd6 (by exact qbx (er rfl) rfl rfl rfl) ?_
   refine qd6 (by exact qax (k:=kk) (er rfl) qbw (er rfl) rfl rfl qct qb8) ?_
   refine qd6 (by exact qbi (k:=2) (er rfl) qbw qb8 rfl rfl rfl rfl) ?_
   refine qd6 (qdg (k:=ww) (sz:=1) (er rfl) qbw qb8 (er rfl) rfl rfl qct (by omega)) ?_
   refine qlb (qce (T:=tPg) (m:=1) (Bs:=[Is (.int .u64 (UV z.w))]) (z':=p.setd ww z.w) (k:=kk) (o:=2+ww) (Ev.sub rfl (SubL.eq (congrArg Is (congrArg (bpt _) hof)))) qaq qag qae hp rfl (qr2 (k:=0) (j:=ww) (by omega)) (qj4 p _ hw7)) ?_
   refine qfl ?_
   refine qar ?_
   refine t8 ?_
   refine qaa (k+1,_) ?_ ?_ qaj qab
   ·exact ⟨by omega,by exact ⟨by rw [List.length_set];exact hHn,qgq hLn hp (qli _ _ _)⟩⟩
   ·exact (by omega)
  refine t6 ?_
  refine cN ?_ ?_ <;> intro h11
  ·obtain ⟨sh,hsh⟩:∃ q:Nat,(UV z.w).tmod 64=(q:Int):=⟨z.w.toNat % 64,by show ((z.w.toNat:Nat):Int).tmod 64=_;rw [Int.tmod_eq_emod_of_nonneg (by omega)];omega⟩
   refine qaz rfl (by kernel_rfl) ?_
   refine qdm [0,0,0,1,1,1,1,0,0,1,1,1,0,0,0,1,1,1,2] (by kernel_rfl) (by kernel_rfl) ?_
   refine qc7 (qbb rfl) ?_
   refine qc7 (qbb rfl) ?_
   refine qc7 (qbb rfl) ?_
   refine qd6 (by exact qax (k:=kk) (er rfl) qbw (er rfl) rfl rfl qct qb8) ?_
   refine qd6 (by exact qbi (k:=2) (er rfl) qbw qb8 rfl rfl rfl rfl) ?_
   refine qd6 (qdg (k:=ww) (sz:=1) (er rfl) qbw qb8 (er rfl) rfl rfl qct (by omega)) ?_
   refine qd6 (qet (T:=tPg) (k:=kk) (j:=2+ww) (Ev.sub rfl (SubL.eq (congrArg Is (congrArg (bpt _) hof)))) qbw hp rfl rfl hdx) ?_
   refine qc7 (qbb rfl) ?_
   refine qc7 (qbb rfl) ?_
   refine qd6 (by exact qam (j:=_) (er rfl) (er rfl) rfl rfl rf hz) ?_
   refine qd6 (by exact qa0 (k:=3) (er rfl) rfl rfl rfl rfl qbm) ?_
   refine qd6 (by exact qbx (er rfl) rfl rfl rfl) ?_
   refine qc7 (qln (er rfl) (er rfl) (by omega) hsh) ?_
   refine qc7 (by exact qed (k:=sh) qgp (er rfl) (by omega) qct) ?_
   refine qc7 (by exact qeh qgp qgp (by simp) (qvb _ _)) ?_
   refine qd6 (by exact qax (k:=kk) (er rfl) qbw (er rfl) rfl rfl qct qb8) ?_
   refine qd6 (by exact qbi (k:=2) (er rfl) qbw qb8 rfl rfl rfl rfl) ?_
   refine qd6 (qdg (k:=ww) (sz:=1) (er rfl) qbw qb8 (er rfl) rfl rfl qct (by omega)) ?_
   refine qlb (qce (T:=tPg) (m:=1) (Bs:=[Is (.int .u64 (UV (dx ^^^ _)))]) (z':=p.setd ww (dx ^^^ _)) (k:=kk) (o:=2+ww) (Ev.sub rfl (SubL.eq (congrArg Is (congrArg (bpt _) hof)))) qaq qag qae hp rfl (qr2 (k:=0) (j:=ww) (by omega)) (qj4 p _ hw7)) ?_
   refine qfl ?_
   refine qar ?_
   refine t8 ?_
   refine qaa (k+1,_) ?_ ?_ qaj qab
   ·exact ⟨by omega,by exact ⟨by rw [List.length_set];exact hHn,qgq hLn hp (qli _ _ _)⟩⟩
   ·exact (by omega)
  refine t7 ?_
  refine cN ?_ ?_ <;> intro h13
  ·refine t2 ?_
   refine cN ?_ ?_ <;> intro h13
   ·refine qaz rfl (by kernel_rfl) ?_
    refine qdm [0,0,0,0,1,1,1,0,0,0,0,1,1,1,0,0,1,1,2] (by kernel_rfl) (by kernel_rfl) ?_
    refine qc7 (qbb rfl) ?_
    refine qc7 (qbb rfl) ?_
    refine qc7 (qbb rfl) ?_
    refine qc7 (qbb rfl) ?_
    refine qd6 (by exact qax (k:=kk) (er rfl) qbw (er rfl) rfl rfl qct qb8) ?_
    refine qd6 (by exact qbi (k:=1) (er rfl) qbw qb8 rfl rfl rfl rfl) ?_
    refine qd6 (by exact qet (er rfl) qbw hp rfl rfl rf) ?_
    refine qc7 (qjb (er rfl) (er rfl) (by omega) qil) ?_
    refine qc7 (by exact qtg (er rfl) (er rfl) qil) ?_
    refine qc7 (qbb rfl) ?_
    refine qc7 (qbb rfl) ?_
    refine qd6 (by exact qam (j:=_) (er rfl) (er rfl) rfl rfl rf hz) ?_
    refine qd6 (by exact qa0 (k:=3) (er rfl) rfl rfl rfl rfl qbm) ?_
    refine qd6 (by exact qbx (er rfl) rfl rfl rfl) ?_
    refine qc7 (qln (er rfl) (er rfl) (by omega) rfl) ?_
    refine qc7 (qjd (er rfl) (er rfl) (qih (wrr _)).symm) ?_
    refine qd6 (by exact qax (k:=kk) (er rfl) qbw (er rfl) rfl rfl qct qb8) ?_
    refine qd6 (by exact qbi (k:=1) (er rfl) qbw qb8 rfl rfl rfl rfl) ?_
    refine qlb (by exact qce (z':={ p with h:=BitVec.ofInt 64 _ }) (er rfl) (er rfl) qag qae hp rfl rf rf) ?_
    refine qfl ?_
    refine qar ?_
    refine t8 ?_
    refine qaa (k+1,_) ?_ ?_ qaj qab
    ·exact ⟨by omega,by exact ⟨by rw [List.length_set];exact hHn,qgq hLn hp rfl⟩⟩
    ·exact (by omega)
   refine t6 ?_
   refine cN ?_ ?_ <;> intro h16
   ·refine t3 ?_
    refine qap rfl (by exact qbe (k:=2) (er rfl) rfl rfl rfl rfl) ?_
    refine s1 ?_
    refine qap rfl (by exact qax (k:=kk) (er rfl) qbw (er rfl) rfl rfl qct qb8) ?_
    refine qap rfl (by exact qbi (k:=2) (er rfl) qbw qb8 rfl rfl rfl rfl) ?_
    refine qkl (by exact qce (z':=(⟨p.l,p.h,q.d0,q.d1,q.d2,q.d3,q.d4,q.d5,q.d6⟩:Pg)) (er rfl) (er rfl) qag qae hp rfl rf rf) ?_
    refine t9 ?_
    refine qaa (k+1,_) ?_ ?_ qaj qab
    ·exact ⟨by omega,by exact ⟨by rw [List.length_set];exact hHn,qgq hLn hp rfl⟩⟩
    ·exact (by omega)
   refine t6 ?_
   refine cN ?_ ?_ <;> intro h18
   ·refine qaz rfl (by kernel_rfl) ?_
    refine qdm [0,0,0,0,1,1,1,1,1,1,2] (by kernel_rfl) (by kernel_rfl) ?_
    refine qc7 (qbb rfl) ?_
    refine qc7 (qbb rfl) ?_
    refine qc7 (qbb rfl) ?_
    refine qc7 (qbb rfl) ?_
    refine qd6 (by exact qbe (k:=2) (er rfl) rfl rfl rfl rfl) ?_
    refine qd6 (qal (k:=ww) (sz:=1) (er rfl) (er rfl) rfl rfl qct (by omega)) ?_
    refine qd6 (qeg (o:=2+ww) (Ev.sub rfl (SubL.eq (congrArg Is (congrArg (fun o=>Value.pointer (some ⟨_,o,none⟩)) (show 2+ww*1=2+ww by omega))))) qbw rfl rfl hdy) ?_
    refine qd6 (by exact qax (k:=kk) (er rfl) qbw (er rfl) rfl rfl qct qb8) ?_
    refine qd6 (by exact qbi (k:=2) (er rfl) qbw qb8 rfl rfl rfl rfl) ?_
    refine qd6 (qdg (k:=ww) (sz:=1) (er rfl) qbw qb8 (er rfl) rfl rfl qct (by omega)) ?_
    refine qlb (qce (T:=tPg) (m:=1) (Bs:=[Is (.int .u64 (UV dy))]) (z':=p.setd ww dy) (k:=kk) (o:=2+ww) (Ev.sub rfl (SubL.eq (congrArg Is (congrArg (bpt _) hof)))) qaq qag qae hp rfl (qr2 (k:=0) (j:=ww) (by omega)) (qj4 p _ hw7)) ?_
    refine qfl ?_
    refine qar ?_
    refine t8 ?_
    refine qaa (k+1,_) ?_ ?_ qaj qab
    ·exact ⟨by omega,by exact ⟨by rw [List.length_set];exact hHn,qgq hLn hp (qli _ _ _)⟩⟩
    ·exact (by omega)
   refine t6 ?_
   refine cN ?_ ?_ <;> intro h20
   ·refine t3 ?_
    refine qap rfl (qdo (size:=1) (qs:=[]) rfl rfl rfl rfl trivial rf qbm) ?_
    refine qap rfl (by exact qax (k:=kk) (er rfl) qbw (er rfl) rfl rfl qct qb8) ?_
    refine qap rfl (by exact qbi (k:=2) (er rfl) qbw qb8 rfl rfl rfl rfl) ?_
    refine qkl (by exact qce (z':=(⟨p.l,p.h,0#64,0#64,0#64,0#64,0#64,0#64,0#64⟩:Pg)) (er rfl) (er rfl) qag qae hp rfl rf rf) ?_
    refine t9 ?_
    refine qaa (k+1,_) ?_ ?_ qaj qab
    ·exact ⟨by omega,by exact ⟨by rw [List.length_set];exact hHn,qgq hLn hp rfl⟩⟩
    ·exact (by omega)
   refine t6 ?_
   refine cN ?_ ?_ <;> intro h22
   ·refine qaz rfl (by kernel_rfl) ?_
    refine qdm [0,0,1,1,1,1,0,1,1,1,2] (by kernel_rfl) (by kernel_rfl) ?_
    refine qc7 (qbb rfl) ?_
    refine qc7 (qbb rfl) ?_
    refine qd6 (by exact qax (k:=kk) (er rfl) qbw (er rfl) rfl rfl qct qb8) ?_
    refine qd6 (by exact qbi (k:=2) (er rfl) qbw qb8 rfl rfl rfl rfl) ?_
    refine qd6 (qdg (k:=0) (sz:=1) (er rfl) qbw qb8 (er rfl) rfl rfl qct (by omega)) ?_
    refine qd6 (by exact qet (er rfl) qbw hp rfl rfl rf) ?_
    refine qc7 (by exact qfh qgp qgp (qot _ _ _)) ?_
    refine qd6 (by exact qax (k:=kk) (er rfl) qbw (er rfl) rfl rfl qct qb8) ?_
    refine qd6 (by exact qbi (k:=2) (er rfl) qbw qb8 rfl rfl rfl rfl) ?_
    refine qd6 (qdg (k:=0) (sz:=1) (er rfl) qbw qb8 (er rfl) rfl rfl qct (by omega)) ?_
    refine qlb (by exact qce (z':=(⟨p.l,p.h,p.d0+256#64,p.d1,p.d2,p.d3,p.d4,p.d5,p.d6⟩:Pg)) (er rfl) (er rfl) qag qae hp rfl rf rf) ?_
    refine qfl ?_
    refine qar ?_
    refine t8 ?_
    refine qaa (k+1,_) ?_ ?_ qaj qab
    ·exact ⟨by omega,by exact ⟨by rw [List.length_set];exact hHn,qgq hLn hp rfl⟩⟩
    ·exact (by omega)
   refine t9 ?_
   refine qaa (k+1,_) ?_ ?_ qaj qab
   ·exact ⟨by omega,by exact ⟨hHn,hLn⟩⟩
   ·exact (by omega)
  refine t5 ?_
  refine cN ?_ ?_ <;> intro h14
  ·refine qaz rfl (by kernel_rfl) ?_
   refine qdm [0,0,0,0,1,1,1,0,0,0,0,1,1,1,0,0,1,1,2] (by kernel_rfl) (by kernel_rfl) ?_
   refine qc7 (qbb rfl) ?_
   refine qc7 (qbb rfl) ?_
   refine qc7 (qbb rfl) ?_
   refine qc7 (qbb rfl) ?_
   refine qd6 (by exact qax (k:=kk) (er rfl) qbw (er rfl) rfl rfl qct qb8) ?_
   refine qd6 (by exact qbi (k:=1) (er rfl) qbw qb8 rfl rfl rfl rfl) ?_
   refine qd6 (by exact qet (er rfl) qbw hp rfl rfl rf) ?_
   refine qc7 (qjb (er rfl) (er rfl) (by omega) qil) ?_
   refine qc7 (by exact qtg (er rfl) (er rfl) qil) ?_
   refine qc7 (qbb rfl) ?_
   refine qc7 (qbb rfl) ?_
   refine qd6 (by exact qam (j:=_) (er rfl) (er rfl) rfl rfl rf hz) ?_
   refine qd6 (by exact qa0 (k:=3) (er rfl) rfl rfl rfl rfl qbm) ?_
   refine qd6 (by exact qbx (er rfl) rfl rfl rfl) ?_
   refine qc7 (qln (er rfl) (er rfl) (by omega) rfl) ?_
   refine qc7 (qjd (er rfl) (er rfl) (qih (wrr _)).symm) ?_
   refine qd6 (by exact qax (k:=kk) (er rfl) qbw (er rfl) rfl rfl qct qb8) ?_
   refine qd6 (by exact qbi (k:=1) (er rfl) qbw qb8 rfl rfl rfl rfl) ?_
   refine qlb (by exact qce (z':={ p with h:=BitVec.ofInt 64 _ }) (er rfl) (er rfl) qag qae hp rfl rf rf) ?_
   refine qfl ?_
   refine qar ?_
   refine t8 ?_
   refine qaa (k+1,_) ?_ ?_ qaj qab
   ·exact ⟨by omega,by exact ⟨by rw [List.length_set];exact hHn,qgq hLn hp rfl⟩⟩
   ·exact (by omega)
  refine t6 ?_
  refine cN ?_ ?_ <;> intro h16
  ·refine t3 ?_
   refine qap rfl (by exact qbe (k:=2) (er rfl) rfl rfl rfl rfl) ?_
   refine s1 ?_
   refine qap rfl (by exact qax (k:=kk) (er rfl) qbw (er rfl) rfl rfl qct qb8) ?_
   refine qap rfl (by exact qbi (k:=2) (er rfl) qbw qb8 rfl rfl rfl rfl) ?_
   refine qkl (by exact qce (z':=(⟨p.l,p.h,q.d0,q.d1,q.d2,q.d3,q.d4,q.d5,q.d6⟩:Pg)) (er rfl) (er rfl) qag qae hp rfl rf rf) ?_
   refine t9 ?_
   refine qaa (k+1,_) ?_ ?_ qaj qab
   ·exact ⟨by omega,by exact ⟨by rw [List.length_set];exact hHn,qgq hLn hp rfl⟩⟩
   ·exact (by omega)
  refine t6 ?_
  refine cN ?_ ?_ <;> intro h18
  ·refine qaz rfl (by kernel_rfl) ?_
   refine qdm [0,0,0,0,1,1,1,1,1,1,2] (by kernel_rfl) (by kernel_rfl) ?_
   refine qc7 (qbb rfl) ?_
   refine qc7 (qbb rfl) ?_
   refine qc7 (qbb rfl) ?_
   refine qc7 (qbb rfl) ?_
   refine qd6 (by exact qbe (k:=2) (er rfl) rfl rfl rfl rfl) ?_
   refine qd6 (qal (k:=ww) (sz:=1) (er rfl) (er rfl) rfl rfl qct (by omega)) ?_
   refine qd6 (qeg (o:=2+ww) (Ev.sub rfl (SubL.eq (congrArg Is (congrArg (fun o=>Value.pointer (some ⟨_,o,none⟩)) (show 2+ww*1=2+ww by omega))))) qbw rfl rfl hdy) ?_
   refine qd6 (by exact qax (k:=kk) (er rfl) qbw (er rfl) rfl rfl qct qb8) ?_
   refine qd6 (by exact qbi (k:=2) (er rfl) qbw qb8 rfl rfl rfl rfl) ?_
   refine qd6 (qdg (k:=ww) (sz:=1) (er rfl) qbw qb8 (er rfl) rfl rfl qct (by omega)) ?_
   refine qlb (qce (T:=tPg) (m:=1) (Bs:=[Is (.int .u64 (UV dy))]) (z':=p.setd ww dy) (k:=kk) (o:=2+ww) (Ev.sub rfl (SubL.eq (congrArg Is (congrArg (bpt _) hof)))) qaq qag qae hp rfl (qr2 (k:=0) (j:=ww) (by omega)) (qj4 p _ hw7)) ?_
   refine qfl ?_
   refine qar ?_
   refine t8 ?_
   refine qaa (k+1,_) ?_ ?_ qaj qab
   ·exact ⟨by omega,by exact ⟨by rw [List.length_set];exact hHn,qgq hLn hp (qli _ _ _)⟩⟩
   ·exact (by omega)
  refine t6 ?_
  refine cN ?_ ?_ <;> intro h20
  ·refine t3 ?_
   refine qap rfl (qdo (size:=1) (qs:=[]) rfl rfl rfl rfl trivial rf qbm) ?_
   refine qap rfl (by exact qax (k:=kk) (er rfl) qbw (er rfl) rfl rfl qct qb8) ?_
   refine qap rfl (by exact qbi (k:=2) (er rfl) qbw qb8 rfl rfl rfl rfl) ?_
   refine qkl (by exact qce (z':=(⟨p.l,p.h,0#64,0#64,0#64,0#64,0#64,0#64,0#64⟩:Pg)) (er rfl) (er rfl) qag qae hp rfl rf rf) ?_
   refine t9 ?_
   refine qaa (k+1,_) ?_ ?_ qaj qab
   ·exact ⟨by omega,by exact ⟨by rw [List.length_set];exact hHn,qgq hLn hp rfl⟩⟩
   ·exact (by omega)
  refine t6 ?_
  refine cN ?_ ?_ <;> intro h22
  ·refine qaz rfl (by kernel_rfl) ?_
   refine qdm [0,0,1,1,1,1,0,1,1,1,2] (by kernel_rfl) (by kernel_rfl) ?_
   refine qc7 (qbb rfl) ?_
   refine qc7 (qbb rfl) ?_
   refine qd6 (by exact qax (k:=kk) (er rfl) qbw (er rfl) rfl rfl qct qb8) ?_
   refine qd6 (by exact qbi (k:=2) (er rfl) qbw qb8 rfl rfl rfl rfl) ?_
   refine qd6 (qdg (k:=0) (sz:=1) (er rfl) qbw qb8 (er rfl) rfl rfl qct (by omega)) ?_
   refine qd6 (by exact qet (er rfl) qbw hp rfl rfl rf) ?_
   refine qc7 (by exact qfh qgp qgp (qot _ _ _)) ?_
   refine qd6 (by exact qax (k:=kk) (er rfl) qbw (er rfl) rfl rfl qct qb8) ?_
   refine qd6 (by exact qbi (k:=2) (er rfl) qbw qb8 rfl rfl rfl rfl) ?_
   refine qd6 (qdg (k:=0) (sz:=1) (er rfl) qbw qb8 (er rfl) rfl rfl qct (by omega)) ?_
   refine qlb (by exact qce (z':=(⟨p.l,p.h,p.d0+256#64,p.d1,p.d2,p.d3,p.d4,p.d5,p.d6⟩:Pg)) (er rfl) (er rfl) qag qae hp rfl rf rf) ?_
   refine qfl ?_
   refine qar ?_
   refine t8 ?_
   refine qaa (k+1,_) ?_ ?_ qaj qab
   ·exact ⟨by omega,by exact ⟨by rw [List.length_set];exact hHn,qgq hLn hp rfl⟩⟩
   ·exact (by omega)
  refine t9 ?_
  refine qaa (k+1,_) ?_ ?_ qaj qab
  ·exact ⟨by omega,by exact ⟨hHn,hLn⟩⟩
  ·exact (by omega)
 have hke:k=(l).length:=by have:=of_decide_eq_false h3;omega
 clear h3
 subst hke
 obtain ⟨hHn,hLn⟩:=hI
 subst hHn
 refine qa7 hX (v:=slV _ i12) qae ?_
 refine t12 ?_
 exact rXF _ results6 (hp:=by exact ⟨rfl,hLn⟩) (hD0:=hX.2)
theorem qvw {ks:List Pg} {o:Int} (h:0≤o∧o<6):Ln (qhv ks o).1:=by
 unfold qhv
 repeat' split
 all_goals exact qdl ks ⟨by omega,by omega⟩
theorem acW_wl {ks:List Pg} {o inc s:Int} {nd:Pg×Nd×Int} {wr:List Pg} {n:Nat} (hnd:Ln nd.1) (hwr:WL n wr):WL (n+2) (acW ks o inc s nd wr).writes:=
 qgn hwr (wl2 (n:=0) (qie _ hnd) (show Ln (hdA _ _) from qdl ks (qrk s))) (Nat.le_refl _)
theorem acT_wl {ks:List Pg} {o inc fr s:Int} {nd ot:Pg×Nd×Int} (hnd:Ln nd.1) (hot:Ln ot.1):WL 3 (acT ks o inc fr nd ot s).writes:=by
 unfold acT
 repeat' split
 all_goals first|exact wl0|exact acW_wl hnd (wl1 (n:=0) (show Ln (qwk _ _) from hot))
theorem acU_wl {ks:List Pg} {o inc s:Int} {nd:Pg×Nd×Int} (hnd:Ln nd.1):WL 3 (acU ks o inc nd s).writes:=by
 unfold acU
 split
 ·exact wl0
 ·exact acW_wl (n:=1) hnd wl0
theorem acR_wl (ks:List Pg) (o inc lines fr:Int):WL 3 (acR ks o inc lines fr).writes:=by
 unfold acR
 split
 ·exact wl0
 ·rename_i h1
  have hr:(0≤o∧o<6)∧fr<6:=by unfold clB at h1;simp at h1;omega
  split
  ·exact wl0
  ·split
   ·exact wl0
   ·split
    ·rename_i h2
     have h3:=of_decide_eq_true h2
     split
     ·exact wl0
     ·exact acT_wl (qvw hr.1) (qvw ⟨h3,hr.2⟩)
    ·split
     ·exact wl0
     ·exact acU_wl (qvw hr.1)
@[reducible] def IsS19T (B:Nat) (r:S19):VP:=IsAgg [Top,Top,qbd B (IsSl tPg r.writes),Top,Is (.int .i64 r.code),Top]
theorem zfr (ks:List Pg) (cl inc lines fr:Int) (hks:ks.length≤10000):FnF Tryz.prog 47 [Is (.int .i64 cl),Is (.int .i64 inc),Is (.int .i64 lines),Is (.int .i64 fr),IsSl tPg ks] (fun B=>qes (fun r:S19=>WL 3 r.writes) (IsS19T B)):=
 (qw3 ks cl inc lines fr hks).sub fun B φ v ⟨vs,e,k,o⟩=>⟨acR ks cl inc lines fr,acR_wl ks cl inc lines fr,vs,e,Subs.alls (show Subs ((tS19F B).cells (acR ks cl inc lines fr)) [Top,Top,qbd B (IsSl tPg (acR ks cl inc lines fr).writes),Top,Is (.int .i64 (acR ks cl inc lines fr).code),Top] from ⟨qfo,qfo,Sub.rfl',qfo,Sub.rfl',qfo,trivial⟩) k,o⟩
theorem qt4 {p:S19→Prop}:qjz fun B=>qes p (IsS19T B):=qkd fun r =>
 qke [fun _=>Top,fun _=>Top,fun B=>qbd B (IsSl tPg r.writes),fun _=>Top,fun _=>Is (.int .i64 r.code),fun _=>Top] ⟨qa8 qcw,qa8 qcw,qev,qa8 qcw,qa8 qdd,qa8 qcw,trivial⟩
theorem qzi (b n:Nat) (s:Option Addr×Nat) (lines:Int) (x:Hs) (cl:Int) (hcl:0≤cl∧cl<6) (hn:8≤n∧n≤200) (hH:x.pages.length=n) (hln:LnI x.pages):FnX Tryz.prog 43 [Is (.pointer (some ⟨b,0,none⟩)),Is (.int .i64 cl)] [blk b 42 [Is (slV n s),Is (.int .i64 lines),Is (.int .i64 x.seq),IsSl tRw x.table,Is (.int .i64 x.cur.phase),Is (.int .i64 x.cur.level),Is (.int .u32 (UV x.cur.key))],buf (slV n s) 48 tPg x.pages]
  (fun i:List Pg=>i.length=n∧LnI i) (fun i=>qbu []) (fun i=>[blk b 42 [Is (slV n s),Is (.int .i64 lines),Is (.int .i64 x.seq),IsSl tRw x.table,Is (.int .i64 x.cur.phase),Is (.int .i64 x.cur.level),Is (.int .u32 (UV x.cur.key))],buf (slV n s) 48 tPg (i)]):=by
 refine Fn.enterB func43 ntmps43 rfl rfl ?_
 intro c hX hbelow
 refine s1 ?_
 refine qaz rfl (by kernel_rfl) ?_
 refine qfi (its:=[]) ?_
 refine f1 0 ?_
 refine f1 1 ?_
 refine f1 2 ?_
 refine f1 3 ?_
 refine f1 4 ?_
 refine f1 5 ?_
 refine f1 6 ?_
 refine f1 7 ?_
 refine f1 8 ?_
 refine qne 10 rfl (by kernel_rfl) (fun _=>(qbl rfl qbm rfl)) ?_
 (refine zay 9 [0,1,2,3,4,5,6,7,8,9] rfl (by kernel_rfl) (by ((refine qdj qgg call47 (zfr x.pages _ _ _ _ ?_) ⟨qaq,⟨qaq,⟨qaq,⟨qaq,⟨qaq,trivial⟩⟩⟩⟩⟩ (qt4));all_goals (first|omega|(simp;done)|(simp;omega)|(refine Nat.le_trans (qah _ _) ?_;omega)|(refine Nat.le_trans (qah _ _) (Nat.le_trans (Nat.add_le_add_right (qah _ _) _) ?_);omega)))) ?_;intro x14 hx14)
 (refine qgr 4 10 (by kernel_rfl) rfl rfl ?_;intro i4)
 refine qe6 11 [0,1,2,3,4,5,6,7,8,9,10,11] rfl (by kernel_rfl) (fun c'=>by exact qa2 (er rfl) (er rfl) qag qae rf rf rf) ?_
 refine qd0 (by kernel_rfl) rfl ?_
 show JQ _ _ _ _ _ _
 refine t9 ?_
 refine qb1 [(0,_),(1,_)] [] (fun yc:(List Pg)=>yc.length=n∧LnI yc) (fun yc=>[]) (fun yc=>[blk b 42 [Is (slV n s),Is (.int .i64 lines),Is (.int .i64 x.seq),IsSl tRw x.table,Is (.int .i64 x.cur.phase),Is (.int .i64 x.cur.level),Is (.int .u32 (UV x.cur.key))],buf (slV n s) 48 tPg (yc)]) qaj qab ?_ ?_
 rotate_left
 focus
  refine cN ?_ ?_ <;> intro h1
  ·refine t4 ?_
   (refine qew rfl (qia qbs qbs call48 (qij b n s _ _ _ _ _ _ x.pages x14.writes hH hn.2 hx14.2) ⟨qaq,⟨qaq,trivial⟩⟩) ?_;intro i21)
   refine s1 ?_
   refine qai _ ?_ qaj qab
   ·exact (by exact ⟨by rw [qk3];exact hH,qok _ hln⟩)
  refine s1 ?_
  refine qai _ ?_ qaj qab
  ·exact (by exact ⟨hH,hln⟩)
 rintro H hI
 refine t3 ?_
 (refine qe5 rfl (qdw qbs qbs call46 (qo3 b n s lines ⟨H,x.seq,x.table,x.cur⟩ cl hcl hn hI.1 hI.2) ⟨qaq,⟨qaq,trivial⟩⟩) ?_;intro x24 hx24)
 refine t2 ?_
 refine qat (Bs:=[]) _ ?_ rfl results43 trivial qab (hD0:=hX.2)
 exact hx24
theorem ze1 (b n:Nat) (s:Option Addr×Nat) (lines:Int) (x:Hs) (cl:Int) (hcl:0≤cl∧cl<6) (hn:8≤n∧n≤200) (hH:x.pages.length=n) (hln:LnI x.pages):FnX Tryz.prog 44 [Is (.pointer (some ⟨b,0,none⟩)),Is (.int .i64 cl)] [blk b 42 [Is (slV n s),Is (.int .i64 lines),Is (.int .i64 x.seq),IsSl tRw x.table,Is (.int .i64 x.cur.phase),Is (.int .i64 x.cur.level),Is (.int .u32 (UV x.cur.key))],buf (slV n s) 48 tPg x.pages]
  (fun i:List Pg×Cu=>i.1.length=n∧LnI i.1) (fun i=>qbu []) (fun i=>[blk b 42 [Is (slV n s),Is (.int .i64 lines),Is (.int .i64 x.seq),IsSl tRw x.table,Is (.int .i64 (i.2).phase),Is (.int .i64 (i.2).level),Is (.int .u32 (UV (i.2).key))],buf (slV n s) 48 tPg (i.1)]):=by
 refine Fn.enterB func44 ntmps44 rfl rfl ?_
 intro c hX hbelow
 refine s1 ?_
 refine qaz rfl (by kernel_rfl) ?_
 refine qfi (its:=[]) ?_
 refine f1 0 ?_
 refine f1 1 ?_
 refine f1 2 ?_
 refine f1 3 ?_
 refine f1 4 ?_
 refine f1 5 ?_
 refine f1 6 ?_
 refine f1 7 ?_
 refine f1 8 ?_
 refine f1 9 ?_
 refine f1 10 ?_
 refine f1 11 ?_
 refine f1 12 ?_
 refine qne 14 rfl (by kernel_rfl) (fun _=>(qbl rfl qbm rfl)) ?_
 (refine zay 13 [0,1,2,3,4,5,6,7,8,9,10,11,12,13] rfl (by kernel_rfl) (by ((refine qdj qgg call77 (ze0 (⟨_,_,_⟩:Cu) _ _ x.pages ?_) ⟨qbc,⟨qbc,⟨qbc,⟨qbc,trivial⟩⟩⟩⟩ (zdw));all_goals (first|omega|(simp;done)|(simp;omega)|(refine Nat.le_trans (qah _ _) ?_;omega)|(refine Nat.le_trans (qah _ _) (Nat.le_trans (Nat.add_le_add_right (qah _ _) _) ?_);omega)))) ?_;intro x18 hx18)
 (refine qgr 4 14 (by kernel_rfl) rfl rfl ?_;intro i4)
 refine qe6 15 [0,1,2,3,4,5,6,7,8,9,10,11,12,13,14,15] rfl (by kernel_rfl) (fun c'=>by exact qa2 (er rfl) (er rfl) qag qae rf rf rf) ?_
 refine qd0 (by kernel_rfl) rfl ?_
 show JQ _ _ _ _ _ _
 refine t10 ?_
 refine cN ?_ ?_ <;> intro h1
 ·refine t4 ?_
  (refine qe5 rfl (qdw qbs qbs call43 (qzi b n s lines x cl hcl hn hH hln) ⟨qaq,⟨qaq,trivial⟩⟩) ?_;intro x25 hx25)
  refine t13 ?_
  refine qao (b:=b) (As':=[Is (slV n s),Is (.int .i64 lines),Is (.int .i64 x.seq),IsSl tRw x.table,Is (.int .i64 _),Is (.int .i64 _),Is (.int .u32 (UV _))]) qae qbf ?_
  refine qat (Bs:=[]) (_,(⟨_,_,_⟩:Cu)) ?_ rfl results44 trivial qab (hD0:=hX.2)
  exact by exact hx25
 refine t18 ?_
 refine cN ?_ ?_ <;> intro h4
 ·refine t11 ?_
  refine qao (b:=b) (As':=[Is (slV n s),Is (.int .i64 lines),Is (.int .i64 x.seq),IsSl tRw x.table,Is (.int .i64 _),Is (.int .i64 _),Is (.int .u32 (UV _))]) qae qbf ?_
  refine qat (Bs:=[]) (_,(⟨_,_,_⟩:Cu)) ?_ rfl results44 trivial qab (hD0:=hX.2)
  exact by exact ⟨hH,hln⟩
 refine t7 ?_
 (refine qew rfl (qia qbs qbs call48 (qij b n s _ _ _ _ _ _ x.pages x18.writes hH hn.2 hx18.2) ⟨qaq,⟨qaq,trivial⟩⟩) ?_;intro i48)
 refine t12 ?_
 refine qao (b:=b) (As':=[Is (slV n s),Is (.int .i64 lines),Is (.int .i64 x.seq),IsSl tRw x.table,Is (.int .i64 _),Is (.int .i64 _),Is (.int .u32 (UV _))]) qae qbf ?_
 refine qat (Bs:=[]) (_,(⟨_,_,_⟩:Cu)) ?_ rfl results44 trivial qab (hD0:=hX.2)
 exact by exact ⟨by rw [qk3];exact hH,qok _ hln⟩
def St29.vals (s:St29):List Value:=[.int .i64 s.kind,.int .u32 (UV s.key),.int .u32 (UV s.last),.int .i64 s.cols0,.int .i64 s.cols1,.int .i64 s.cols2,.int .i64 s.col,.int .i64 s.value,.int .i64 s.where_.col,.int .i64 s.where_.op,.int .i64 s.where_.value,.int .i64 s.limit]
def Co.vals (s:Co):List Value:=[.int .i64 s.col,.int .i64 s.op,.int .i64 s.value]
instance:DecidableEq Co:=fun p q=>if h:p.col=q.col∧p.op=q.op∧p.value=q.value then isTrue (by cases p;cases q;simp_all) else isFalse (fun e=>h (by subst e;exact ⟨rfl,rfl,rfl⟩))
instance:DecidableEq St29:=fun p q=>if h:p.kind=q.kind∧p.key=q.key∧p.last=q.last∧p.cols0=q.cols0∧p.cols1=q.cols1∧p.cols2=q.cols2∧p.col=q.col∧p.value=q.value∧p.where_=q.where_∧p.limit=q.limit then isTrue (by cases p;cases q;simp_all) else isFalse (fun e=>h (by subst e;exact ⟨rfl,rfl,rfl,rfl,rfl,rfl,rfl,rfl,rfl,rfl⟩))
theorem eqI3_el (d:Nat) (w:World) (a b c a' b' c':Int):(Op.equalIn (d+2) 119 (.agg #[.int .i64 a,.int .i64 b,.int .i64 c]) (.agg #[.int .i64 a',.int .i64 b',.int .i64 c'])).run Tryz.prog w = .ok (decide (a=a'∧b=b'∧c=c')) w:=by
 obtain ⟨i,hi⟩:=qy2
 rw [show d+2=(d+1)+1 from rfl,run_equalIn_array w (d+1) _ _ Tryz.underlying119 hi]
 have hc:Tryz.prog.cellsOf 2=1:=by kernel_rfl
 rw [hc]
 have hu:(isAgg 2).run Tryz.prog w = .ok false w:=qfp Tryz.underlying2 w
 simp only [List.range_succ,List.range_zero,List.nil_append,List.cons_append,Op.eqItems,part,Sem.run_bind,hu,Result.andThen_ok,Bool.false_eq_true,if_false,↓reduceIte]
 go_simp
 by_cases h1:a=a' <;> by_cases h2:b=b' <;> by_cases h3:c=c' <;> simp [h1,h2,h3]
attribute [go_sem high] eqI3_el
theorem eqCo_run (p q:Co) (w:World):(Op.equal 121 (.agg p.vals.toArray) (.agg q.vals.toArray)).run Tryz.prog w = .ok (decide (p=q)) w:=by
 have h:(Op.equalIn (9999+1) 121 (.agg #[.int .i64 p.col,.int .i64 p.op,.int .i64 p.value]) (.agg #[.int .i64 q.col,.int .i64 q.op,.int .i64 q.value])).run Tryz.prog w = .ok (decide (p=q)) w:=by
  go_simp
  obtain ⟨a,b,k⟩:=p
  obtain ⟨a',b',k'⟩:=q
  by_cases h0:k=k' <;> by_cases h1:a=a' <;> by_cases h2:b=b' <;> simp [h0,h1,h2]
 exact h
theorem eqSt_run (p q:St29) (w:World):(Op.equal 123 (.agg p.vals.toArray) (.agg q.vals.toArray)).run Tryz.prog w = .ok (decide (p=q)) w:=by
 have h:(Op.equalIn (9999+1) 123 (.agg #[.int .i64 p.kind,.int .u32 (UV p.key),.int .u32 (UV p.last),.int .i64 p.cols0,.int .i64 p.cols1,.int .i64 p.cols2,.int .i64 p.col,.int .i64 p.value,.int .i64 p.where_.col,.int .i64 p.where_.op,.int .i64 p.where_.value,.int .i64 p.limit]) (.agg #[.int .i64 q.kind,.int .u32 (UV q.key),.int .u32 (UV q.last),.int .i64 q.cols0,.int .i64 q.cols1,.int .i64 q.cols2,.int .i64 q.col,.int .i64 q.value,.int .i64 q.where_.col,.int .i64 q.where_.op,.int .i64 q.where_.value,.int .i64 q.limit])).run Tryz.prog w = .ok (decide (p=q)) w:=by
  go_simp
  obtain ⟨a0,a1,a2,a3,a4,a5,a6,a7,⟨a8,a9,a10⟩,a11⟩:=p
  obtain ⟨b0,b1,b2,b3,b4,b5,b6,b7,⟨b8,b9,b10⟩,b11⟩:=q
  by_cases h0:a0=b0
  case neg=>simp [h0]
  subst h0
  by_cases h1:a1=b1
  case neg=>simp [h1]
  subst h1
  by_cases h2:a2=b2
  case neg=>simp [h2]
  subst h2
  by_cases h3:a3=b3
  case neg=>simp [h3]
  subst h3
  by_cases h4:a4=b4
  case neg=>simp [h4]
  subst h4
  by_cases h5:a5=b5
  case neg=>simp [h5]
  subst h5
  by_cases h6:a6=b6
  case neg=>simp [h6]
  subst h6
  by_cases h7:a7=b7
  case neg=>simp [h7]
  subst h7
  by_cases h8:a8=b8 <;> by_cases h9:a9=b9 <;> by_cases h10:a10=b10 <;> by_cases h11:a11=b11 <;> simp [h8,h9,h10,h11]
 exact h
theorem zag (o:BinOp) (x y:Operand) (p q:St29) (w:World):(eqGuard o 123 x y (.agg p.vals.toArray) (.agg q.vals.toArray)).run Tryz.prog w = .ok () w:=by
 have h:Tryz.prog.eqGuardType Tryz.prog.depth 123=false:=by kernel_rfl
 cases o <;> simp [eqGuard,program,Sem.run,h]
theorem eqSt_neq (p q:St29) (w:World):(binOp .neq 123 (.agg p.vals.toArray) (.agg q.vals.toArray)).run Tryz.prog w = .ok (.bool (!decide (p=q))) w:=by
 simp only [binOp,Sem.run_bind,eqSt_run,Result.andThen_ok,Sem.run_pure]
theorem zaj (o:BinOp) (x y:Operand) (p q:Co) (w:World):(eqGuard o 121 x y (.agg p.vals.toArray) (.agg q.vals.toArray)).run Tryz.prog w = .ok () w:=by
 have h:Tryz.prog.eqGuardType Tryz.prog.depth 121=false:=by kernel_rfl
 cases o <;> simp [eqGuard,program,Sem.run,h]
theorem eqCo_neq (p q:Co) (w:World):(binOp .neq 121 (.agg p.vals.toArray) (.agg q.vals.toArray)).run Tryz.prog w = .ok (.bool (!decide (p=q))) w:=by
 simp only [binOp,Sem.run_bind,eqCo_run,Result.andThen_ok,Sem.run_pure]
def qrm (n lo hi:Int):Bool:=decide (n≥lo)&&decide (n≤hi)
theorem qwb (n lo hi:Int):FnP Tryz.prog 161 [Is (.int .i64 n),Is (.int .i64 lo),Is (.int .i64 hi)] (Is (.bool (qrm n lo hi))):=by
 refine FnP.enter func161 ntmps161 rfl rfl ?_
 intro c hX
 refine t19 ?_
 refine qay results161 rfl () (SubL.eq ?_) (List.nil_sublist _)
 rfl
def qn3 (s:St29):St29:=
 if (s.kind==1)=true then ⟨s.kind,s.key,0#32,s.cols0,s.cols1,s.cols2,0,0,⟨0,0,0⟩,0⟩ else
 if (s.kind==2||s.kind==3)=true then ⟨s.kind,s.key,0#32,0,0,0,s.col,s.value,⟨0,0,0⟩,0⟩ else
 if (s.kind==6)=true then ⟨s.kind,s.key,s.last,0,0,0,0,0,s.where_,s.limit⟩ else
 if (s.kind==7)=true then ⟨s.kind,s.key,s.last,0,0,0,0,0,s.where_,0⟩ else
 if (s.kind==8)=true then ⟨s.kind,s.key,s.last,0,0,0,s.col,0,s.where_,0⟩ else
 if (s.kind==9)=true then ⟨s.kind,s.key,0#32,0,0,0,0,0,s.where_,0⟩ else ⟨s.kind,s.key,0#32,0,0,0,0,0,⟨0,0,0⟩,0⟩
theorem plain_ok (s:St29):FnP Tryz.prog 190 [qo2 s] (qo2 (qn3 s)):=by
 obtain ⟨W,hE⟩:∃ W,qn3 s=W:=⟨_,rfl⟩
 rw [hE]
 unfold qn3 at hE
 refine FnP.enter func190 ntmps190 rfl rfl ?_
 intro c hX
 refine t3 ?_
 intro i1
 refine s1 ?_
 intro i2
 refine t3 ?_
 refine qd8 (b:=i1) hX qae ?_
 refine qb0 1 (qc4 (tSt29.cells s)) rfl qgw ?_
 refine t7 ?_
 intro i3
 refine t10 ?_
 refine qb1 [(2,_),(3,_)] [blk i2 _ _] (fun z:Unit=>True) (fun z=>[]) (fun z=>[blk i3 123 (tSt29.cells W)]) qa9 qab ?_ ?_
 rotate_left
 focus
  refine t7 ?_
  refine cN ?_ ?_ <;> intro h3
  ·replace hE:=qa4 hE h3
   refine t7 ?_
   subst hE
   exact qai () trivial qa9 qab
  replace hE:=qba hE h3
  refine t7 ?_
  refine qb1 [(1,_),(2,_),(3,_),(10,_)] [blk i3 _ _,blk i2 _ _] (fun yc:Bool=>yc=(s.kind==2||s.kind==3)) (fun yc=>[(16,Is (.bool yc))]) (fun yc=>[]) qa9 qab ?_ ?_
  rotate_left
  focus
   refine cN ?_ ?_ <;> intro h5
   ·skip
    refine s1 ?_
    refine qai _ ?_ qa9 qab
    ·exact (by (rw [h5];rfl))
   skip
   refine t4 ?_
   refine qai _ ?_ qa9 qab
   ·exact (by (rw [h5];rfl))
  rintro b hI
  refine cN ?_ ?_ <;> intro h5b
  ·rw [hI] at h5b
   replace hE:=qa4 hE h5b
   refine qaz rfl (by kernel_rfl) ?_
   refine qdm [0,0,0,0,0,2,0,2] (by kernel_rfl) (by kernel_rfl) ?_
   refine qc7 (by exact qa0 (k:=6) (er rfl) rfl rfl rfl rfl qbm) ?_
   refine qc7 (by exact qbx (er rfl) rfl rfl rfl) ?_
   refine qc7 (by exact qa0 (k:=7) (er rfl) rfl rfl rfl rfl qbm) ?_
   refine qc7 (by exact qbx (er rfl) rfl rfl rfl) ?_
   refine qc7 (by exact qbe (k:=6) (er rfl) rfl rfl rfl rfl) ?_
   refine qlb (qas (er rfl) (er rfl) qag qae qbm rf rf rf) ?_
   refine qc7 (by exact qbe (k:=7) (er rfl) rfl rfl rfl rfl) ?_
   refine qlb (qas (er rfl) (er rfl) qag qae qbm rf rf rf) ?_
   refine qfl ?_
   refine qar ?_
   refine s1 ?_
   subst hE
   exact qai () trivial qa9 qab
  rw [hI] at h5b
  replace hE:=qba hE h5b
  refine t6 ?_
  refine cN ?_ ?_ <;> intro h8
  ·replace hE:=qa4 hE h8
   refine qaz rfl (by kernel_rfl) ?_
   refine qdm [0,0,0,0,0,0,0,2,0,2,0,2] (by kernel_rfl) (by kernel_rfl) ?_
   refine qc7 (by exact qa0 (k:=2) (er rfl) rfl rfl rfl rfl qbm) ?_
   refine qc7 (by exact qbx (er rfl) rfl rfl rfl) ?_
   refine qc7 (by exact qa0 (k:=8) (er rfl) rfl rfl rfl rfl qbm) ?_
   refine qc7 (by exact qb2 (n:=3) (er rfl) rfl rfl rfl rf qbm) ?_
   refine qc7 (by exact qa0 (k:=11) (er rfl) rfl rfl rfl rfl qbm) ?_
   refine qc7 (by exact qbx (er rfl) rfl rfl rfl) ?_
   refine qc7 (by exact qbe (k:=2) (er rfl) rfl rfl rfl rfl) ?_
   refine qlb (qas (er rfl) (er rfl) qag qae qbm rf rf rf) ?_
   refine qc7 (by exact qbe (k:=8) (er rfl) rfl rfl rfl rfl) ?_
   refine qlb (qas (er rfl) (er rfl) qag qae qbm rf rf rf) ?_
   refine qc7 (by exact qbe (k:=11) (er rfl) rfl rfl rfl rfl) ?_
   refine qlb (qas (er rfl) (er rfl) qag qae qbm rf rf rf) ?_
   refine qfl ?_
   refine qar ?_
   refine s1 ?_
   subst hE
   exact qai () trivial qa9 qab
  replace hE:=qba hE h8
  refine t6 ?_
  refine cN ?_ ?_ <;> intro h10
  ·replace hE:=qa4 hE h10
   refine qaz rfl (by kernel_rfl) ?_
   refine qdm [0,0,0,0,0,2,0,2] (by kernel_rfl) (by kernel_rfl) ?_
   refine qc7 (by exact qa0 (k:=2) (er rfl) rfl rfl rfl rfl qbm) ?_
   refine qc7 (by exact qbx (er rfl) rfl rfl rfl) ?_
   refine qc7 (by exact qa0 (k:=8) (er rfl) rfl rfl rfl rfl qbm) ?_
   refine qc7 (by exact qb2 (n:=3) (er rfl) rfl rfl rfl rf qbm) ?_
   refine qc7 (by exact qbe (k:=2) (er rfl) rfl rfl rfl rfl) ?_
   refine qlb (qas (er rfl) (er rfl) qag qae qbm rf rf rf) ?_
   refine qc7 (by exact qbe (k:=8) (er rfl) rfl rfl rfl rfl) ?_
   refine qlb (qas (er rfl) (er rfl) qag qae qbm rf rf rf) ?_
   refine qfl ?_
   refine qar ?_
   refine s1 ?_
   subst hE
   exact qai () trivial qa9 qab
  replace hE:=qba hE h10
  refine t6 ?_
  refine cN ?_ ?_ <;> intro h12
  ·replace hE:=qa4 hE h12
   refine qaz rfl (by kernel_rfl) ?_
   refine qdm [0,0,0,0,0,0,0,2,0,2,0,2] (by kernel_rfl) (by kernel_rfl) ?_
   refine qc7 (by exact qa0 (k:=2) (er rfl) rfl rfl rfl rfl qbm) ?_
   refine qc7 (by exact qbx (er rfl) rfl rfl rfl) ?_
   refine qc7 (by exact qa0 (k:=8) (er rfl) rfl rfl rfl rfl qbm) ?_
   refine qc7 (by exact qb2 (n:=3) (er rfl) rfl rfl rfl rf qbm) ?_
   refine qc7 (by exact qa0 (k:=6) (er rfl) rfl rfl rfl rfl qbm) ?_
   refine qc7 (by exact qbx (er rfl) rfl rfl rfl) ?_
   refine qc7 (by exact qbe (k:=2) (er rfl) rfl rfl rfl rfl) ?_
   refine qlb (qas (er rfl) (er rfl) qag qae qbm rf rf rf) ?_
   refine qc7 (by exact qbe (k:=8) (er rfl) rfl rfl rfl rfl) ?_
   refine qlb (qas (er rfl) (er rfl) qag qae qbm rf rf rf) ?_
   refine qc7 (by exact qbe (k:=6) (er rfl) rfl rfl rfl rfl) ?_
   refine qlb (qas (er rfl) (er rfl) qag qae qbm rf rf rf) ?_
   refine qfl ?_
   refine qar ?_
   refine s1 ?_
   subst hE
   exact qai () trivial qa9 qab
  replace hE:=qba hE h12
  refine t6 ?_
  refine cN ?_ ?_ <;> intro h14
  ·replace hE:=qa4 hE h14
   refine t7 ?_
   subst hE
   exact qai () trivial qa9 qab
  replace hE:=qba hE h14
  refine t2 ?_
  subst hE
  exact qai () trivial qa9 qab
 rintro ⟨⟩ _
 refine t7 ?_
 exact qan (Bs:=[_]) results190 eRF () SubL.rfl' (List.nil_sublist _)
end Go.Proofs.YtghkkdjbaehboaaGreat
