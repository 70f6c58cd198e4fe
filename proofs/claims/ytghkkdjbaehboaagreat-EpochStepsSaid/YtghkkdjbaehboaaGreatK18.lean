/- Walks of functions and plain laws, laid together. Own work. -/
import Derived.Test.YtghkkdjbaehboaaGreatK14
import Derived.Test.YtghkkdjbaehboaaGreatK17
namespace Go.Proofs.YtghkkdjbaehboaaGreat
open Go.RowKit Tryz
set_option linter.unusedVariables false
set_option linter.unusedSimpArgs false
set_option maxRecDepth 100000
set_option maxHeartbeats 4000000
theorem mem_latB {ks:List Pg} {x:Int}:qhh ks x=true↔∃ p,p∈ks∧p.l=x:=by
 unfold qhh qg3
 constructor
 ·intro h
  obtain ⟨p,hp⟩:=Option.isSome_iff_exists.1 h
  have h1:=List.mem_filter.1 (List.mem_of_getLast? hp)
  exact ⟨p,h1.1,of_decide_eq_true h1.2⟩
 ·rintro ⟨p,h1,h2⟩
  have h3:p∈ks.filter fun p=>decide (p.l=x):=List.mem_filter.2 ⟨h1,decide_eq_true h2⟩
  cases h4:(ks.filter fun p=>decide (p.l=x)).getLast? with
  | none=>rw [List.getLast?_eq_none_iff.1 h4] at h3;cases h3
  | some q=>rfl
theorem qy4 {p q:Nat→Bool} (h:∀ i,p i=true→q i=true):∀ {l:List Nat},(∃ i,i∈l∧q i=true∧p i=false)→(l.filter p).length<(l.filter q).length
 | [],he=>by obtain ⟨i,hi,_⟩:=he;cases hi
 | a :: l,he=>by
  have hle:∀ l:List Nat,(l.filter p).length≤(l.filter q).length:=fun l=>by
   induction l with
   | nil=>exact Nat.le_refl _
   | cons b l ih =>
    rw [List.filter_cons,List.filter_cons]
    cases hp:p b with
    | true=>rw [if_pos rfl,if_pos (h b hp)];simp only [List.length_cons];omega
    | false =>
     rw [if_neg (by simp)]
     split
     ·simp only [List.length_cons];omega
     ·exact ih
  obtain ⟨i,hi,hq,hp⟩:=he
  rw [List.filter_cons,List.filter_cons]
  rcases List.mem_cons.1 hi with rfl|hi
  ·rw [hp,hq,if_neg (by simp),if_pos rfl]
   have:=hle l
   simp only [List.length_cons];omega
  ·have ih:=qy4 h ⟨i,hi,hq,hp⟩
   cases hpa:p a with
   | true=>rw [if_pos rfl,if_pos (h a hpa)];simp only [List.length_cons];omega
   | false =>
    rw [if_neg (by simp)]
    split
    ·simp only [List.length_cons];omega
    ·exact ih
def cntK (ks:List Pg):Nat:=((List.range 160).filter fun i:Nat=>qhh ks (96+(i:Int))).length
theorem zef (ks:List Pg):cntK ks≤160:=by
 unfold cntK
 exact Nat.le_trans (List.length_filter_le _ _) (by rw [List.length_range];exact Nat.le_refl _)
theorem pgF_l {H:List Pg} (hH:LnI H) {x:Int} (hx:96≤x):(pgF H x).l=x:=by
 by_cases h:x-96<(H.length:Int)
 ·obtain ⟨p,hp⟩:∃ q,H[(x-96).toNat]?=some q:=⟨_,List.getElem?_eq_getElem (by omega)⟩
  rw [pgF_in h hp,hH _ _ hp]
  omega
 ·rw [zcg h]
def ndOk (ks:List Pg) (nd:List Int):Prop:=0<nd.length∧nd.length≤30∧nd.Pairwise (· < ·)∧∀ x,x∈nd→qhh ks x=false∧96≤x∧x≤255
theorem zaf {ks H:List Pg} {nd:List Int} (hH:LnI H) (hn:ndOk ks nd):cntK ks<cntK (ks++nd.map (pgF H)):=by
 obtain ⟨h1,_,_,h2⟩:=hn
 unfold cntK
 refine qy4 (fun i hi=>?_) ?_
 ·obtain ⟨p,h3,h4⟩:=mem_latB.1 hi
  exact mem_latB.2 ⟨p,List.mem_append_left _ h3,h4⟩
 ·cases nd with
  | nil=>exact absurd h1 (by simp)
  | cons x r =>
   obtain ⟨h3,h4,h5⟩:=h2 x (List.mem_cons_self ..)
   refine ⟨(x-96).toNat,List.mem_range.2 (by omega),?_,?_⟩
   ·rw [show 96+(((x-96).toNat:Nat):Int)=x by omega]
    exact mem_latB.2 ⟨pgF H x,List.mem_append_right _ (List.mem_map_of_mem (List.mem_cons_self ..)),pgF_l hH h4⟩
   ·rw [show 96+(((x-96).toNat:Nat):Int)=x by omega]
    exact h3
theorem qtq {ks:List Pg} {ls:List Int} (hl:ls.length≤30) (hr:∀ x,x∈ls→96≤x∧x≤255) (h:decide (((qc2 ks ls).length:Int)>0)=true):ndOk ks (qc2 ks ls):=by
 have h0:=of_decide_eq_true h
 have h1:=qjf ks ls
 exact ⟨by omega,by omega,qts ks ls,fun x hx=>⟨(mem_missR.1 hx).2,hr x (mem_missR.1 hx).1⟩⟩
theorem line_in {s:Int} (h:0≤s∧s≤8):96≤qau s∧qau s≤255:=by
 unfold qau
 rw [if_pos h]
 omega
theorem qs7 {ks:List Pg} {lines:Int}:∀ (r:List Pt) (w:List Pg),(qxg ks lines r w).over=true
 | [],_=>rfl
 | p :: r,w=>by
  unfold qxg
  split
  ·rfl
  split
  ·rfl
  split
  ·rfl
  split
  ·rfl
  ·exact qs7 r _
theorem qyx {ks:List Pg} {lines:Int} {all:List Pt}:∀ (r pre:List Pt) (ask:List Int),ask.length≤2*pre.length→pre.length+r.length≤3→(∀ x,x∈ask→96≤x∧x≤255)→(frD ks lines all pre r ask).over=false→ndOk ks (frD ks lines all pre r ask).need
 | [],pre,ask,h1,h2,h3,h=>by
  have e:frD ks lines all pre [] ask=frC ks lines all ask:=by unfold frD;rfl
  rw [e] at h ⊢
  unfold frC at h ⊢
  by_cases h4:decide (((qc2 ks ask).length:Int)>0)=true
  ·rw [if_pos h4]
   exact qtq (by simp at h2;omega) h3 h4
  ·rw [if_neg h4,qs7] at h;cases h
 | p :: r,pre,ask,h1,h2,h3,h=>by
  unfold frD at h ⊢
  by_cases h4:(!(qdh lines p.line).2.2 || !qc5 p)=true
  ·rw [if_pos h4] at h;cases h
  rw [if_neg h4] at h ⊢
  by_cases h5:pre.any (fun q=>q.line==p.line)=true
  ·rw [if_pos h5] at h;cases h
  rw [if_neg h5] at h ⊢
  have hl:(qdh lines p.line).2.2=true:=by
   revert h4
   cases (qdh lines p.line).2.2 <;> simp
  obtain ⟨q1,q2,q3⟩:=qoa hl
  have hn:=qe2 lines
  refine qyx r (pre++[p]) _ (by simp;omega) (by simp at h2 ⊢;omega) (fun x hx=>?_) h
  rcases List.mem_append.1 hx with e|e
  ·exact h3 x e
  ·rcases List.mem_cons.1 e with e|e
   ·rw [e,q3,qhf (by omega)];omega
   ·rw [List.mem_singleton.1 e];exact line_in (by omega)
theorem fre_need {ks:List Pg} {lines:Int} {l:List Pt} (h:(qmn ks lines l).over=false):ndOk ks (qmn ks lines l).need:=by
 unfold qmn at h ⊢
 by_cases h1:((!clB 0 lines||decide ((l.length:Int)<1))||decide ((l.length:Int)>3))=true
 ·rw [if_pos h1] at h;cases h
 rw [if_neg h1] at h ⊢
 have hl:l.length≤3:=by simp at h1;omega
 exact qyx l [] [] (Nat.le_refl _) (by simp;omega) (fun x hx=>by cases hx) h
theorem qyc {op:Ep26} (h:qi3 op=true):op.kind=1∨op.kind=2∨op.kind=3∨op.kind=4∨op.kind=5∨op.kind=6:=by
 unfold qi3 at h
 split at h
 ·cases h
 split at h
 ·rename_i h1;simp at h1;omega
 split at h
 ·rename_i h1;simp at h1;omega
 split at h
 ·rename_i h1;simp at h1;omega
 split at h
 ·rename_i h1;simp at h1;omega
 split at h
 ·rename_i h1;simp at h1;omega
 ·cases h
theorem qp1 {all:List Pt}:∀ (r pre:List Pt),zaa all pre r=true→∀ p,p∈r→qc5 p=true
 | [],_,_,p,hp=>by cases hp
 | q :: r,pre,h,p,hp=>by
  unfold zaa at h
  split at h
  ·cases h
  ·rename_i h1
   split at h
   ·cases h
   ·rcases List.mem_cons.1 hp with e|e
    ·rw [e];simpa using h1
    ·exact qp1 r _ h p e
theorem okE_nil {op:Ep26} (h:qi3 op=true) (h4:op.kind=4):Pt.nil ∉ op.list:=by
 unfold qi3 at h
 split at h
 ·cases h
 rw [h4] at h
 have h':zaa op.list [] op.list=true:=h
 intro hm
 have:=qp1 _ _ h' _ hm
 exact absurd this (by decide)
theorem end_eq {op:Ep26} {ks:List Pg} {g:BitVec 32} (hok:qi3 op=true):prj4 (enC op ks g ((qbn op).map (nP ks)) ((qbn op).map (nN ks)))=zd4 op (kdP op ks g):=by
 rcases qyc hok with hk|hk|hk|hk|hk|hk
 ·have hn:qbn op=[op.client]:=by unfold qbn;rw [hk];rfl
  have hd:enC op ks g ((qbn op).map (nP ks)) ((qbn op).map (nN ks))=enD op ks g (nP ks op.client) (nN ks op.client) [nN ks op.client]:=by rw [hn];rfl
  have hp:kdP op ks g=w4 (pnP (nN ks op.client) (nP ks op.client) g op.inc):=by unfold kdP;rw [if_pos (by rw [hk];rfl)]
  rw [hd,hp,fin_w (by omega)]
  unfold enD pnP
  rw [if_pos (by rw [hk];rfl)]
  split <;> rfl
 ·have hn:qbn op=[op.client]:=by unfold qbn;rw [hk];rfl
  have hd:enC op ks g ((qbn op).map (nP ks)) ((qbn op).map (nN ks))=enD op ks g (nP ks op.client) (nN ks op.client) [nN ks op.client]:=by rw [hn];rfl
  have hp:kdP op ks g=w4 (unP (nN ks op.client) (nP ks op.client) ((nN ks op.client).inc==op.inc)):=by unfold kdP;rw [if_neg (by rw [hk];decide),if_pos (by rw [hk];rfl)]
  rw [hd,hp,fin_w (by omega)]
  unfold enD unP
  rw [if_neg (by rw [hk];decide),if_pos (by rw [hk];rfl)]
  have hc:((!(nN ks op.client).pin||(op.kind==2&&(nN ks op.client).inc != op.inc))||decide ((nN ks op.client).inc>op.inc))=(!(nN ks op.client).pin || !((nN ks op.client).inc==op.inc)):=by
   rw [hk]
   cases (nN ks op.client).pin with
   | false=>rfl
   | true =>
    by_cases he:(nN ks op.client).inc=op.inc
    ·rw [he];simp
    ·have e1:((nN ks op.client).inc != op.inc)=true:=by simpa using he
     have e2:((nN ks op.client).inc==op.inc)=false:=by simpa using he
     rw [e1,e2];rfl
  rw [hc]
  split <;> rfl
 ·have hn:qbn op=qkj 6:=by unfold qbn;rw [hk];rfl
  have hd:enC op ks g ((qbn op).map (nP ks)) ((qbn op).map (nN ks))=advR g ks ((qkj 6).map (nN ks)):=by
   rw [hn]
   show enD op ks g _ _ _=_
   unfold enD
   rw [if_neg (by rw [hk];decide),if_neg (by rw [hk];decide),if_pos (by rw [hk];rfl)]
   rfl
  have hp:kdP op ks g=w4 (adL (nN ks) (qbk ks 97) g (qkj 6)):=by unfold kdP;rw [if_neg (by rw [hk];decide),if_neg (by rw [hk];decide),if_neg (by rw [hk];decide),if_pos (by rw [hk];rfl)]
  rw [hd,hp,adv_same]
  unfold zd4 w4 advB
  dsimp only
  rw [show (op.kind==3)=true by rw [hk];rfl]
  by_cases h3:((adL (nN ks) (qbk ks 97) g (qkj 6)).2.code==3)=true
  ·rw [if_pos h3,h3];rfl
  ·rw [if_neg h3,show ((adL (nN ks) (qbk ks 97) g (qkj 6)).2.code==3)=false by simpa using h3];rfl
 ·have hn:qbn op=[op.client]:=by unfold qbn;rw [hk];rfl
  have hd:enC op ks g ((qbn op).map (nP ks)) ((qbn op).map (nN ks))=retR op (nN ks op.client) (nP ks op.client) ⟨0,g,-1,[],[]⟩:=by
   rw [hn]
   show enD op ks g (nP ks op.client) (nN ks op.client) [nN ks op.client]=_
   unfold enD
   rw [if_neg (by rw [hk];decide),if_neg (by rw [hk];decide),if_neg (by rw [hk];decide),if_pos (by rw [hk];rfl)]
  have hp:kdP op ks g=w4 (rtA op.list (nP ks op.client) g (nN ks op.client) 4 0 0):=by unfold kdP;rw [if_neg (by rw [hk];decide),if_neg (by rw [hk];decide),if_neg (by rw [hk];decide),if_neg (by rw [hk];decide),if_pos (by rw [hk];rfl)]
  rw [hd,hp,fin_w (by omega),ret_same (okE_nil hok hk)]
 ·have hn:qbn op=[op.for_]:=by unfold qbn;rw [hk];rfl
  have hd:enC op ks g ((qbn op).map (nP ks)) ((qbn op).map (nN ks))=qsr op.lines (nP ks op.for_) ⟨0,g,-1,[],[]⟩ ks 4 0 (nN ks op.for_) []:=by
   rw [hn]
   show enD op ks g (nP ks op.for_) (nN ks op.for_) [nN ks op.for_]=_
   unfold enD
   rw [if_neg (by rw [hk];decide),if_neg (by rw [hk];decide),if_neg (by rw [hk];decide),if_neg (by rw [hk];decide),if_pos (by rw [hk];rfl)]
  have hp:kdP op ks g=clZ op.lines (nP ks op.for_) g ks (clL g (nN ks op.for_) 4 0 (nN ks op.for_) []):=by unfold kdP;rw [if_neg (by rw [hk];decide),if_neg (by rw [hk];decide),if_neg (by rw [hk];decide),if_neg (by rw [hk];decide),if_neg (by rw [hk];decide),if_pos (by rw [hk];rfl)]
  rw [hd,hp,zed 4 0 _ _ rfl (fun _ _ _=>rfl)]
  unfold zd4 bkf4
  rw [show (op.kind==3)=false by rw [hk];rfl]
  simp only [Bool.false_and,Bool.not_false,Bool.and_true]
 ·have hn:qbn op=[op.for_]:=by unfold qbn;rw [hk];rfl
  have hd:enC op ks g ((qbn op).map (nP ks)) ((qbn op).map (nN ks))=enD op ks g (nP ks op.for_) (nN ks op.for_) [nN ks op.for_]:=by rw [hn];rfl
  have hp:kdP op ks g=w4 (unP (nN ks op.for_) (nP ks op.for_) (decide ((nN ks op.for_).inc≤op.inc))):=by unfold kdP;rw [if_neg (by rw [hk];decide),if_neg (by rw [hk];decide),if_pos (by rw [hk];rfl)]
  rw [hd,hp,fin_w (by omega)]
  unfold enD unP
  rw [if_neg (by rw [hk];decide),if_pos (by rw [hk];rfl)]
  have hc:((!(nN ks op.for_).pin||(op.kind==2&&(nN ks op.for_).inc != op.inc))||decide ((nN ks op.for_).inc>op.inc))=(!(nN ks op.for_).pin || !decide ((nN ks op.for_).inc≤op.inc)):=by
   rw [hk]
   cases (nN ks op.for_).pin with
   | false=>rfl
   | true =>
    by_cases he:(nN ks op.for_).inc≤op.inc
    ·simp [he]
    ·simp [he];omega
  rw [hc]
  split <;> rfl
theorem rd_ne {op:Ep26} {ks:List Pg} (h:¬ ((neL ks (qfc op)).length:Int)>0):rdA op ks=([],rdW op ks (qfc op) RW.nil):=by
 unfold rdA
 rw [if_neg (by simpa using h)]
theorem nx_eq (op:Ep26) (ks:List Pg):nxP op ks=prj4 (enX op ks):=by
 unfold nxP enX
 rw [qpw]
 by_cases hok:(!qi3 op)=true
 ·rw [if_pos hok,if_pos hok];rfl
 rw [if_neg hok,if_neg hok]
 have hok':qi3 op=true:=by simpa using hok
 have ha:=qpx hok'
 have hm:neL ks (qfc op)=qc2 ks (qe3 op):=by rw [qiu];exact qv5 (qr7 ha)
 by_cases hn:((qc2 ks (qe3 op)).length:Int)>0
 ·have e:rdA op ks=(qc2 ks (qe3 op),RW.nil,-1,0):=by unfold rdA;rw [hm,if_pos (decide_eq_true hn)]
  rw [e,if_pos (decide_eq_true hn),if_pos (decide_eq_true hn)]
  rfl
 ·have hR:(if decide (((qc2 ks (qe3 op)).length:Int)>0)=true then (⟨qc2 ks (qe3 op),[],EO26.nil,false,false⟩:ES26) else enB op ks (qe3 op) 0#32 [] [])=enB op ks (qe3 op) 0#32 [] []:=if_neg (by simpa using hn)
  rw [hR,rd_ne (by rw [hm];exact hn),if_neg (by simp)]
  have hall:∀ l,l∈qfc op→qhh ks l=true∧97≤l∧l≤103:=fun l hl=>by
   rw [qiu] at hl
   exact ⟨qri hn hl,qns ha l hl⟩
  cases hb:qlk op ks (qfc op) with
  | some x =>
   obtain ⟨b,c⟩:=x
   have h1:=qq0 (qfc op) RW.nil hb
   obtain ⟨e1,e2,e3,e4,e5⟩:=qrw (qfc op) 0#32 [] [] hall hb
   rw [h1,if_pos (by simpa using e5),← qiu]
   unfold prj4
   rw [e1,e2,e3,e4]
  | none =>
   obtain ⟨s,h1,h2⟩:=rd_ok ha hb
   rw [h1,if_neg (show ¬ ((0:Int) != 0)=true by decide),← qiu,zeb _ _ _ _ hb,filt_lin ha,epG_lin ha,List.nil_append,List.nil_append,List.map_map,List.map_map]
   exact (end_eq hok').symm
theorem qjh {ws:List Pg} (h:ws.length≤1):Asc ws∧ws.length≤5:=by
 refine ⟨?_,by omega⟩
 match ws,h with
 | [],_=>exact List.Pairwise.nil
 | [x],_=>exact List.pairwise_singleton _ _
theorem pnP_len (n:Nd) (p:Pg) (g:BitVec 32) (inc:Int):(pnP n p g inc).1.length≤1:=by unfold pnP;split <;> simp
theorem zbd (n:Nd) (p:Pg) (b:Bool):(unP n p b).1.length≤1:=by unfold unP;split <;> simp
theorem qvj {p:Pg} {g:BitVec 32} {n:Nd}:∀ (r k:Nat) (m:Nd) (l:List Pt),(rtF p g n r k m l).1.length≤1
 | 0,_,_,_=>Nat.le_refl _
 | r+1,k,m,l=>by
  unfold rtF
  split
  ·exact qvj r _ _ _
  ·exact qvj r _ _ _
theorem rtA_len (L:List Pt) (p:Pg) (g:BitVec 32) (n:Nd) (r k fr:Nat):(rtA L p g n r k fr).1.length≤1:=by
 rw [qxd]
 split
 ·exact Nat.zero_le _
 ·split
  ·exact Nat.zero_le _
  ·exact qvj _ _ _ _
theorem zev {N:Int→Nd} {pg:Pg} {g:BitVec 32}:∀ l:List Int,(adL N pg g l).1.length≤1
 | []=>by unfold adL adF;split <;> simp
 | c :: r=>by
  unfold adL
  split
  ·exact Nat.zero_le _
  ·exact zev r
theorem free_len (ks:List Pg) (lines:Int) {l:List Pt} (hl:l.length≤2):(qmn ks lines l).writes.length≤4:=by
 unfold qmn
 split
 ·exact Nat.zero_le _
 ·have h:=qrs ks lines l l [] []
  have:=h.1.1
  omega
theorem clZ_wr {lines:Int} {p:Pg} {g:BitVec 32} {ks:List Pg} {z:Nd×List Pt} (hz:z.2.length≤2):Asc (clZ lines p g ks z).2.1∧(clZ lines p g ks z).2.1.length≤5:=by
 unfold clZ
 split
 ·exact qjh (Nat.zero_le _)
 ·unfold clY
  split
  ·exact qjh (Nat.zero_le _)
  ·split
   ·exact qjh (Nat.zero_le _)
   ·have h1:=qah (qmn ks lines z.2).writes [(qck p z.1).1]
    have h2:=free_len ks lines hz
    refine ⟨qop _ _,Nat.le_trans h1 ?_⟩
    simp;omega
theorem ask_len {op:Ep26} (h:EA op):(qe3 op).length≤7∧∀ x,x∈qe3 op→96≤x∧x≤255:=⟨(qwo h).1.2,fun x hx=>by have:=qns h x hx;omega⟩
theorem ep_need {op:Ep26} {ks:List Pg} (h:(nxP op ks).2.2.2=false):ndOk ks (nxP op ks).1:=by
 have hz:qi3 op=true:=by
  cases hv:qi3 op with
  | true=>rfl
  | false =>
   unfold nxP at h
   rw [qpw,hv,if_pos (by decide)] at h
   cases h
 have ha:=qpx hz
 have hm:neL ks (qfc op)=qc2 ks (qe3 op):=by rw [qiu];exact qv5 (qr7 ha)
 unfold nxP at h ⊢
 rw [qpw,hz,if_neg (by decide)] at h ⊢
 by_cases hn:((qc2 ks (qe3 op)).length:Int)>0
 ·have e:rdA op ks=(qc2 ks (qe3 op),RW.nil,-1,0):=by unfold rdA;rw [hm,if_pos (decide_eq_true hn)]
  rw [e,if_pos (decide_eq_true hn)]
  have hl:=ask_len ha
  exact qtq (by omega) hl.2 (decide_eq_true hn)
 ·rw [rd_ne (by rw [hm];exact hn),if_neg (by simp)] at h ⊢
  by_cases hc:((rdW op ks (qfc op) RW.nil).2.2 != 0)=true
  ·rw [if_pos hc] at h;cases h
  rw [if_neg hc] at h ⊢
  have h':(kdP op ks (epO op ks)).2.2.2=false:=h
  show ndOk ks (kdP op ks (epO op ks)).1
  unfold kdP at h' ⊢
  split
  ·rename_i hk;rw [if_pos hk] at h';cases h'
  rename_i hk1;rw [if_neg hk1] at h'
  split
  ·rename_i hk;rw [if_pos hk] at h';cases h'
  rename_i hk2;rw [if_neg hk2] at h'
  split
  ·rename_i hk;rw [if_pos hk] at h';cases h'
  rename_i hk6;rw [if_neg hk6] at h'
  split
  ·rename_i hk;rw [if_pos hk] at h';cases h'
  rename_i hk3;rw [if_neg hk3] at h'
  split
  ·rename_i hk;rw [if_pos hk] at h';cases h'
  rename_i hk4;rw [if_neg hk4] at h'
  split
  ·rename_i hk;rw [if_pos hk] at h'
   unfold clZ at h' ⊢
   split
   ·rename_i hz2;rw [if_pos hz2] at h';cases h'
   ·rename_i hz2;rw [if_neg hz2] at h'
    unfold clY at h' ⊢
    split
    ·rename_i ho
     exact fre_need (by simpa using ho)
    ·rename_i ho;rw [if_neg ho] at h'
     split at h' <;> cases h'
  ·rename_i hk;rw [if_neg hk] at h';cases h'
theorem nx_rd {o:Ep26} {ks:List Pg} (hok:qtn o=true) (hn:¬ ((neL ks (qfc o)).length:Int)>0) (h6:((rdA o ks).2.2.2 != 0)=false):∃ s,rdA o ks=([],s,-1,0)∧RdOk o ks s:=by
 have ha:=qpx (by rw [← qpw];exact hok)
 have hm:neL ks (qfc o)=qc2 ks (qe3 o):=by rw [qiu];exact qv5 (qr7 ha)
 rw [rd_ne hn] at h6 ⊢
 have hall:∀ l,l∈qfc o→qhh ks l=true∧97≤l∧l≤103:=fun l hl=>by
  rw [qiu] at hl
  exact ⟨qri (by rw [← hm];exact hn) hl,qns ha l hl⟩
 cases hb:qlk o ks (qfc o) with
 | some x =>
  obtain ⟨b,c⟩:=x
  have h1:=qq0 (qfc o) RW.nil hb
  obtain ⟨_,_,_,_,e5⟩:=qrw (qfc o) 0#32 [] [] hall hb
  dsimp only at h6
  rw [h1] at h6
  exact absurd h6 (by simpa using e5)
 | none =>
  obtain ⟨s,h1,h2⟩:=rd_ok ha hb
  exact ⟨s,by rw [h1],h2⟩
theorem qrd {o:Ep26} (h3:o.kind≠3) (h5:o.kind≠5) (h6:o.kind≠6):qbn o=[o.client]:=by
 unfold qbn
 rw [if_neg (by simp;omega),if_neg (by simpa using h3)]
theorem qye {o:Ep26} (h:o.kind=5∨o.kind=6):qbn o=[o.for_]:=by
 unfold qbn
 rw [if_pos (by simp;omega)]
theorem nodesV_6 {o:Ep26} (h:o.kind=3):qbn o=qkj 6:=by
 unfold qbn
 rw [h];rfl
theorem NextE_ok (o:Ep26) (ks:List Pg):FnP Tryz.prog 11 [qfx o,IsSl tPg ks] (qbu [IsSl tI64 (nxP o ks).1,IsSl tPg (nxP o ks).2.1,qec (nxP o ks).2.2.1,Is (.bool (nxP o ks).2.2.2)]):=by
 obtain ⟨W,hE⟩:∃ W,nxP o ks=W:=⟨_,rfl⟩
 rw [hE]
 unfold nxP at hE
 refine FnP.enter func11 ntmps11 rfl rfl ?_
 intro c hX
 refine t3 ?_
 intro i2
 refine t3 ?_
 intro i6
 refine t7 ?_
 refine kR call19 (qv9 o) ?_
 refine t3 ?_
 refine cN ?_ ?_ <;> intro h1
 ·replace hE:=qa4 hE h1
  subst hE
  refine t11 ?_
  exact qbv (Bs:=[IsSl tI64 [],IsSl tPg [],qec ⟨1,0#32,-1,[],[]⟩,Is (.bool true)]) results11 eR () SubL.rfl' qab
 replace hE:=qba hE h1
 have hok:qtn o=true:=by simpa using h1
 have ha:=qpx (op:=o) (by rw [← qpw];exact hok)
 have hkd:=qyc (op:=o) (by rw [← qpw];exact hok)
 have hrn:=qj8 ha
 clear h1
 refine t6 ?_
 (refine qew rfl (qlo call20 (readW_ok o ks hrn) ⟨evR,⟨evR,trivial⟩⟩) ?_;intro i18)
 refine t6 ?_
 intro i8
 refine t14 ?_
 refine cN ?_ ?_ <;> intro h4
 ·replace hE:=qa4 hE h4
  subst hE
  refine t12 ?_
  exact qbv (Bs:=[IsSl tI64 (rdA o ks).1,IsSl tPg [],qec EO26.nil,Is (.bool false)]) results11 eR () SubL.rfl' qab
 replace hE:=qba hE h4
 refine t9 ?_
 refine cN ?_ ?_ <;> intro h6
 ·replace hE:=qa4 hE h6
  subst hE
  refine t13 ?_
  exact qbv (Bs:=[IsSl tI64 [],IsSl tPg [],qec ⟨(rdA o ks).2.2.2,0#32,(rdA o ks).2.2.1,[],[]⟩,Is (.bool true)]) results11 eR () SubL.rfl' qab
 replace hE:=qba hE h6
 have hnn:¬ ((neL ks (qfc o)).length:Int)>0:=by
  intro hgt
  have e:rdA o ks=(neL ks (qfc o),RW.nil,-1,0):=by unfold rdA;rw [if_pos (decide_eq_true hgt)]
  rw [e] at h4
  exact absurd h4 (by rw [decide_eq_true hgt];decide)
 obtain ⟨⟨pg,g,m1,m2⟩,hrA,hro⟩:=nx_rd hok hnn h6
 obtain ⟨hr1,hr2,hr3,hr4⟩:=hro
 dsimp only at hr1 hr2 hr3 hr4
 subst hr2
 clear h4 h6
 rw [hrA]
 dsimp only
 obtain ⟨K,hK⟩:∃ K,kdP o ks (epO o ks)=K:=⟨_,rfl⟩
 rw [hK] at hE
 unfold kdP at hK
 refine t14 ?_
 refine qgs (fun z:P4=>zd4 o z=W∧Asc z.2.1∧z.2.1.length≤5) (fun z=>[(2,Is (.pointer (some ⟨i2,0,none⟩))),(4,IsSl tI64 z.1),(5,IsSl tPg z.2.1),(6,Is (.pointer (some ⟨i6,0,none⟩))),(7,Is (.bool z.2.2.2))]) (fun z=>[blk i2 45 (tEp26.cells o),blk i6 60 (tEO26.cells z.2.2.1)]) ?_ ?_
 rotate_left
 focus
  refine t7 ?_
  refine cN ?_ ?_ <;> intro h10
  ·replace hK:=qa4 hK h10
   have hk1:o.kind=1:=by simpa using h10
   have hnv:=qrd (o:=o) (by omega) (by omega) (by omega)
   have hmp:=hr3 o.client (by rw [hnv];exact List.mem_singleton.2 rfl)
   have hmn:=hr4 o.client (by rw [hnv];exact List.mem_singleton.2 rfl)
   refine t3 ?_
   (refine qew rfl (qf7 (Drops.cons qhi (Drops.cons qhi (Drops.nil _))) call21 (pin_ok ⟨pg,epO o ks,i18.1,i18.2⟩ o m1 m2 (nN ks o.client) (nP ks o.client) hmp hmn) ⟨evR,⟨evR,trivial⟩⟩) ?_;intro i40)
   refine t7 ?_
   have hl:=pnP_len (nN ks o.client) (nP ks o.client) (epO o ks) o.inc
   obtain ⟨Z,hZ⟩:∃ Z,pnP (nN ks o.client) (nP ks o.client) (epO o ks) o.inc=Z:=⟨_,rfl⟩
   rw [hZ] at hK hl ⊢
   obtain ⟨zw,zo⟩:=Z
   subst hK
   exact qai (([],zw,zo,true):P4) ⟨hE,qjh hl⟩ qbz qab
  replace hK:=qba hK h10
  refine t6 ?_
  refine cN ?_ ?_ <;> intro h12
  ·replace hK:=qa4 hK h12
   have hk1:o.kind=2:=by simpa using h12
   have hnv:=qrd (o:=o) (by omega) (by omega) (by omega)
   have hmp:=hr3 o.client (by rw [hnv];exact List.mem_singleton.2 rfl)
   have hmn:=hr4 o.client (by rw [hnv];exact List.mem_singleton.2 rfl)
   refine t8 ?_
   refine qap rfl (qe7 hmn (er rfl) qbw (er rfl) rfl rfl rfl) ?_
   refine t4 ?_
   (refine qew rfl (qf7 (Drops.cons qhi (Drops.cons qhi (Drops.nil _))) call22 (qw5 ⟨pg,epO o ks,i18.1,i18.2⟩ o.client ((nN ks o.client).inc==o.inc) m1 m2 (nN ks o.client) (nP ks o.client) hmp hmn) ⟨evR,⟨evR,⟨evR,trivial⟩⟩⟩) ?_;intro i58)
   refine t7 ?_
   have hl:=zbd (nN ks o.client) (nP ks o.client) ((nN ks o.client).inc==o.inc)
   obtain ⟨Z,hZ⟩:∃ Z,unP (nN ks o.client) (nP ks o.client) ((nN ks o.client).inc==o.inc)=Z:=⟨_,rfl⟩
   rw [hZ] at hK hl ⊢
   obtain ⟨zw,zo⟩:=Z
   subst hK
   exact qai (([],zw,zo,true):P4) ⟨hE,qjh hl⟩ qbz qab
  replace hK:=qba hK h12
  refine t6 ?_
  refine cN ?_ ?_ <;> intro h14
  ·replace hK:=qa4 hK h14
   have hk1:o.kind=6:=by simpa using h14
   have hnv:=qye (o:=o) (.inr hk1)
   have hmp:=hr3 o.for_ (by rw [hnv];exact List.mem_singleton.2 rfl)
   have hmn:=hr4 o.for_ (by rw [hnv];exact List.mem_singleton.2 rfl)
   refine t8 ?_
   refine qap rfl (qe7 hmn (er rfl) qbw (er rfl) rfl rfl rfl) ?_
   refine t4 ?_
   (refine qew rfl (qf7 (Drops.cons qhi (Drops.cons qhi (Drops.nil _))) call22 (qw5 ⟨pg,epO o ks,i18.1,i18.2⟩ o.for_ (decide ((nN ks o.for_).inc≤o.inc)) m1 m2 (nN ks o.for_) (nP ks o.for_) hmp hmn) ⟨evR,⟨evR,⟨evR,trivial⟩⟩⟩) ?_;intro i76)
   refine t7 ?_
   have hl:=zbd (nN ks o.for_) (nP ks o.for_) (decide ((nN ks o.for_).inc≤o.inc))
   obtain ⟨Z,hZ⟩:∃ Z,unP (nN ks o.for_) (nP ks o.for_) (decide ((nN ks o.for_).inc≤o.inc))=Z:=⟨_,rfl⟩
   rw [hZ] at hK hl ⊢
   obtain ⟨zw,zo⟩:=Z
   subst hK
   exact qai (([],zw,zo,true):P4) ⟨hE,qjh hl⟩ qbz qab
  replace hK:=qba hK h14
  refine t6 ?_
  refine cN ?_ ?_ <;> intro h16
  ·replace hK:=qa4 hK h16
   have hk3:o.kind=3:=by simpa using h16
   have hma:∀ c,c∈qkj 6→qfy m2 c=some (nN ks c):=fun c hc=>hr4 c (by rw [nodesV_6 hk3];exact hc)
   have hpg:=hr1 (by unfold zdt;rw [hk3];rfl)
   subst hpg
   refine t3 ?_
   (refine qew rfl (qf7 (Drops.cons qhi (Drops.nil _)) call23 (qwr ⟨qbk ks 97,epO o ks,i18.1,i18.2⟩ o (nN ks) m2 hk3 hma) ⟨evR,⟨evR,trivial⟩⟩) ?_;intro i84)
   refine t7 ?_
   have hl:=zev (N:=nN ks) (pg:=qbk ks 97) (g:=epO o ks) (qkj 6)
   obtain ⟨Z,hZ⟩:∃ Z,adL (nN ks) (qbk ks 97) (epO o ks) (qkj 6)=Z:=⟨_,rfl⟩
   rw [hZ] at hK hl ⊢
   obtain ⟨zw,zo⟩:=Z
   subst hK
   exact qai (([],zw,zo,true):P4) ⟨hE,qjh hl⟩ qbz qab
  replace hK:=qba hK h16
  refine t6 ?_
  refine cN ?_ ?_ <;> intro h18
  ·replace hK:=qa4 hK h18
   have hk1:o.kind=4:=by simpa using h18
   have hnv:=qrd (o:=o) (by omega) (by omega) (by omega)
   have hmp:=hr3 o.client (by rw [hnv];exact List.mem_singleton.2 rfl)
   have hmn:=hr4 o.client (by rw [hnv];exact List.mem_singleton.2 rfl)
   have hol:=(ha.2.1 hk1).2
   refine t3 ?_
   (refine qew rfl (qf7 (Drops.cons qhi (Drops.cons qhi (Drops.nil _))) call24 (qzt ⟨pg,epO o ks,i18.1,i18.2⟩ o m1 m2 (nN ks o.client) (nP ks o.client) hol hmp hmn) ⟨evR,⟨evR,trivial⟩⟩) ?_;intro i92)
   refine t7 ?_
   have hl:=rtA_len o.list (nP ks o.client) (epO o ks) (nN ks o.client) 4 0 0
   obtain ⟨Z,hZ⟩:∃ Z,rtA o.list (nP ks o.client) (epO o ks) (nN ks o.client) 4 0 0=Z:=⟨_,rfl⟩
   rw [hZ] at hK hl ⊢
   obtain ⟨zw,zo⟩:=Z
   subst hK
   exact qai (([],zw,zo,true):P4) ⟨hE,qjh hl⟩ qbz qab
  replace hK:=qba hK h18
  refine t6 ?_
  refine cN ?_ ?_ <;> intro h20
  ·replace hK:=qa4 hK h20
   have hk1:o.kind=5:=by simpa using h20
   have hnv:=qye (o:=o) (.inl hk1)
   have hmp:=hr3 o.for_ (by rw [hnv];exact List.mem_singleton.2 rfl)
   have hmn:=hr4 o.for_ (by rw [hnv];exact List.mem_singleton.2 rfl)
   refine t4 ?_
   (refine qew rfl (qf7 (Drops.cons qhi (Drops.cons qhi (Drops.nil _))) call25 (qwi ⟨pg,epO o ks,i18.1,i18.2⟩ o ks m1 m2 (nN ks o.for_) (nP ks o.for_) hmp hmn) ⟨evR,⟨evR,⟨evR,trivial⟩⟩⟩) ?_;intro i101)
   refine t11 ?_
   have hl:=clZ_wr (lines:=o.lines) (p:=nP ks o.for_) (g:=epO o ks) (ks:=ks) (z:=clL (epO o ks) (nN ks o.for_) 4 0 (nN ks o.for_) []) (qwl _ _ _ _ (Nat.zero_le _))
   obtain ⟨Z,hZ⟩:∃ Z,clZ o.lines (nP ks o.for_) (epO o ks) ks (clL (epO o ks) (nN ks o.for_) 4 0 (nN ks o.for_) [])=Z:=⟨_,rfl⟩
   rw [hZ] at hK hl ⊢
   obtain ⟨zn,zw,zo,zv⟩:=Z
   subst hK
   exact qai ((zn,zw,zo,zv):P4) ⟨hE,hl⟩ qbz qab
  exact absurd h20 (by simp at h10 h12 h14 h16 h18 ⊢;omega)
 rintro ⟨zn,zw,zo,zv⟩ ⟨hz1,hz2,hz3⟩
 dsimp only at hz1 hz2 hz3 ⊢
 clear hE hK
 refine t17 ?_
 refine cN ?_ ?_ <;> intro h22
 ·have e:zd4 o (zn,zw,zo,zv)=(zn,zw,blkZ zo,zv):=by unfold zd4;rw [if_pos h22]
  rw [e] at hz1
  subst hz1
  have hT:True:=trivial
  refine t8 ?_
  refine kR call26 (qox _ hz2 hz3) ?_
  refine t3 ?_
  refine qaz rfl (by kernel_rfl) ?_
  refine qfi (its:=[]) ?_
  refine f1 0 ?_
  refine f1 1 ?_
  refine f1 2 ?_
  refine qfz 3 rfl (by kernel_rfl) (fun _=>(qbb rfl)) ?_
  refine f1 4 ?_
  refine f1 5 ?_
  refine qe6 6 [0,1,2,4,5,6] rfl (by kernel_rfl) (fun c'=>by exact qa2 (er rfl) (er rfl) qa6 qae rf rf rf) ?_
  refine f1 7 ?_
  refine qd0 (by kernel_rfl) rfl ?_
  show JQ _ _ _ _ _ _
  refine t2 ?_
  first
  | (have:=hT;exact qbv (Bs:=[IsSl tI64 zn,IsSl tPg zw,qec (blkZ zo),Is (.bool zv)]) results11 eR () SubL.rfl' qab)
  | exact qbv (Bs:=[IsSl tI64 zn,IsSl tPg zw,qec zo,Is (.bool zv)]) results11 eR () SubL.rfl' qab
 have e:zd4 o (zn,zw,zo,zv)=(zn,zw,zo,zv):=by unfold zd4;rw [if_neg (by rw [h22];simp)]
 rw [e] at hz1
 subst hz1
 refine t5 ?_
 refine kR call26 (qox _ hz2 hz3) ?_
 refine t3 ?_
 refine qaz rfl (by kernel_rfl) ?_
 refine qfi (its:=[]) ?_
 refine f1 0 ?_
 refine f1 1 ?_
 refine f1 2 ?_
 refine qfz 3 rfl (by kernel_rfl) (fun _=>(qbb rfl)) ?_
 refine f1 4 ?_
 refine f1 5 ?_
 refine qe6 6 [0,1,2,4,5,6] rfl (by kernel_rfl) (fun c'=>by exact qa2 (er rfl) (er rfl) qa6 qae rf rf rf) ?_
 refine f1 7 ?_
 refine qd0 (by kernel_rfl) rfl ?_
 show JQ _ _ _ _ _ _
 refine t2 ?_
 first
 | (have:=hT;exact qbv (Bs:=[IsSl tI64 zn,IsSl tPg zw,qec (blkZ zo),Is (.bool zv)]) results11 eR () SubL.rfl' qab)
 | exact qbv (Bs:=[IsSl tI64 zn,IsSl tPg zw,qec zo,Is (.bool zv)]) results11 eR () SubL.rfl' qab
section
open Go.RowKit Go.ChangeShapes Go.WideShapes Go.ChangeAt
section
variable {H:Type} {enc:TypeId×Value→H} {w:World} {base:Nat} {sp:Nat→Bool} {held:Bool}
def Acn.wf (a:Acn):Prop:=qi6 a.kind∧qi6 a.client∧qi6 a.key∧qi6 a.a∧qi6 a.b∧qi6 a.n
theorem qfj:Tryz.prog.cellsOf 77=6:=by kernel_rfl
theorem qgj:Tryz.prog.cellsOf 3=1:=by kernel_rfl
theorem rds_Act:Rds enc Tryz.prog w base sp held 77 tAct Acn.wf:=by
 intro fuel cs x h
 obtain ⟨xs,n,_,_,hlen,hxs,hf⟩:=DataW.trod_struct Tryz.underlying77 h
 rw [qfj] at hlen
 match cs,hlen with
 | [c0,c1,c2,c3,c4,c5],_ =>
  match xs,hxs with
  | [x0,x1,x2,x3,x4,x5],_ =>
   have f0:DataW.trod enc Tryz.prog w base sp held n 3 (([c0,c1,c2,c3,c4,c5].drop 0).take (Tryz.prog.cellsOf 3))=some x0:=hf 0 _ rfl
   rw [qgj] at f0
   obtain ⟨a0,g0,o0,w0⟩:=(rds_i64 Tryz.underlying3) _ _ _ f0
   have f1:DataW.trod enc Tryz.prog w base sp held n 3 (([c0,c1,c2,c3,c4,c5].drop 1).take (Tryz.prog.cellsOf 3))=some x1:=hf 1 _ rfl
   rw [qgj] at f1
   obtain ⟨a1,g1,o1,w1⟩:=(rds_i64 Tryz.underlying3) _ _ _ f1
   have f2:DataW.trod enc Tryz.prog w base sp held n 3 (([c0,c1,c2,c3,c4,c5].drop 2).take (Tryz.prog.cellsOf 3))=some x2:=hf 2 _ rfl
   rw [qgj] at f2
   obtain ⟨a2,g2,o2,w2⟩:=(rds_i64 Tryz.underlying3) _ _ _ f2
   have f3:DataW.trod enc Tryz.prog w base sp held n 3 (([c0,c1,c2,c3,c4,c5].drop 3).take (Tryz.prog.cellsOf 3))=some x3:=hf 3 _ rfl
   rw [qgj] at f3
   obtain ⟨a3,g3,o3,w3⟩:=(rds_i64 Tryz.underlying3) _ _ _ f3
   have f4:DataW.trod enc Tryz.prog w base sp held n 3 (([c0,c1,c2,c3,c4,c5].drop 4).take (Tryz.prog.cellsOf 3))=some x4:=hf 4 _ rfl
   rw [qgj] at f4
   obtain ⟨a4,g4,o4,w4⟩:=(rds_i64 Tryz.underlying3) _ _ _ f4
   have f5:DataW.trod enc Tryz.prog w base sp held n 3 (([c0,c1,c2,c3,c4,c5].drop 5).take (Tryz.prog.cellsOf 3))=some x5:=hf 5 _ rfl
   rw [qgj] at f5
   obtain ⟨a5,g5,o5,w5⟩:=(rds_i64 Tryz.underlying3) _ _ _ f5
   exact ⟨⟨a0,a1,a2,a3,a4,a5⟩,(((((g0.append g1).append g2).append g3).append g4).append g5),(qea (qea (qea (qea (qea o0 o1) o2) o3) o4) o5),⟨w0,w1,w2,w3,w4,w5⟩⟩
def Pq.wf (a:Pq):Prop:=qi6 a.kind∧qi6 a.line∧qi6 a.word∧(fun _=>True) a.w
theorem qfd:Tryz.prog.cellsOf 79=4:=by kernel_rfl
theorem quh:Tryz.prog.cellsOf 24=1:=by kernel_rfl
theorem rds_Pq:Rds enc Tryz.prog w base sp held 79 tPq Pq.wf:=by
 intro fuel cs x h
 obtain ⟨xs,n,_,_,hlen,hxs,hf⟩:=DataW.trod_struct Tryz.underlying79 h
 rw [qfd] at hlen
 match cs,hlen with
 | [c0,c1,c2,c3],_ =>
  match xs,hxs with
  | [x0,x1,x2,x3],_ =>
   have f0:DataW.trod enc Tryz.prog w base sp held n 3 (([c0,c1,c2,c3].drop 0).take (Tryz.prog.cellsOf 3))=some x0:=hf 0 _ rfl
   rw [qgj] at f0
   obtain ⟨a0,g0,o0,w0⟩:=(rds_i64 Tryz.underlying3) _ _ _ f0
   have f1:DataW.trod enc Tryz.prog w base sp held n 3 (([c0,c1,c2,c3].drop 1).take (Tryz.prog.cellsOf 3))=some x1:=hf 1 _ rfl
   rw [qgj] at f1
   obtain ⟨a1,g1,o1,w1⟩:=(rds_i64 Tryz.underlying3) _ _ _ f1
   have f2:DataW.trod enc Tryz.prog w base sp held n 3 (([c0,c1,c2,c3].drop 2).take (Tryz.prog.cellsOf 3))=some x2:=hf 2 _ rfl
   rw [qgj] at f2
   obtain ⟨a2,g2,o2,w2⟩:=(rds_i64 Tryz.underlying3) _ _ _ f2
   have f3:DataW.trod enc Tryz.prog w base sp held n 24 (([c0,c1,c2,c3].drop 3).take (Tryz.prog.cellsOf 24))=some x3:=hf 3 _ rfl
   rw [quh] at f3
   obtain ⟨a3,g3,o3,w3⟩:=(rds_u64 Tryz.underlying24) _ _ _ f3
   exact ⟨⟨a0,a1,a2,a3⟩,(((g0.append g1).append g2).append g3),(qea (qea (qea o0 o1) o2) o3),⟨w0,w1,w2,w3⟩⟩
def Pt.wf (a:Pt):Prop:=qi6 a.line∧qi6 a.gen
theorem qhy:Tryz.prog.cellsOf 51=2:=by kernel_rfl
theorem rds_Pt:Rds enc Tryz.prog w base sp held 51 tPt Pt.wf:=by
 intro fuel cs x h
 obtain ⟨xs,n,_,_,hlen,hxs,hf⟩:=DataW.trod_struct Tryz.underlying51 h
 rw [qhy] at hlen
 match cs,hlen with
 | [c0,c1],_ =>
  match xs,hxs with
  | [x0,x1],_ =>
   have f0:DataW.trod enc Tryz.prog w base sp held n 3 (([c0,c1].drop 0).take (Tryz.prog.cellsOf 3))=some x0:=hf 0 _ rfl
   rw [qgj] at f0
   obtain ⟨a0,g0,o0,w0⟩:=(rds_i64 Tryz.underlying3) _ _ _ f0
   have f1:DataW.trod enc Tryz.prog w base sp held n 3 (([c0,c1].drop 1).take (Tryz.prog.cellsOf 3))=some x1:=hf 1 _ rfl
   rw [qgj] at f1
   obtain ⟨a1,g1,o1,w1⟩:=(rds_i64 Tryz.underlying3) _ _ _ f1
   exact ⟨⟨a0,a1⟩,(g0.append g1),(qea o0 o1),⟨w0,w1⟩⟩
structure Cs20 where
 size:Int
 acts:List Acn
 pokes:List Pq
 mask:BitVec 64
def tCs20:Ty Cs20:=⟨4,fun a=>[Is (.int .i64 a.size),IsSl tAct a.acts,IsSl tPq a.pokes,Is (.int .u64 (UV a.mask))],fun _=>rfl⟩
@[reducible] def IsCs20 (a:Cs20):VP:=IsAgg (tCs20.cells a)
def Cs20.wf (a:Cs20):Prop:=qi6 a.size∧(fun xs=>∀ a∈xs,Acn.wf a) a.acts∧(fun xs=>∀ a∈xs,Pq.wf a) a.pokes∧(fun _=>True) a.mask
theorem qho:Tryz.prog.cellsOf 26=4:=by kernel_rfl
theorem ql0:Tryz.prog.cellsOf 22=1:=by kernel_rfl
theorem qk5:Tryz.prog.cellsOf 23=1:=by kernel_rfl
theorem rds_Cs20:Rds enc Tryz.prog w base sp held 26 tCs20 Cs20.wf:=by
 intro fuel cs x h
 obtain ⟨xs,n,_,_,hlen,hxs,hf⟩:=DataW.trod_struct Tryz.underlying26 h
 rw [qho] at hlen
 match cs,hlen with
 | [c0,c1,c2,c3],_ =>
  match xs,hxs with
  | [x0,x1,x2,x3],_ =>
   have f0:DataW.trod enc Tryz.prog w base sp held n 3 (([c0,c1,c2,c3].drop 0).take (Tryz.prog.cellsOf 3))=some x0:=hf 0 _ rfl
   rw [qgj] at f0
   obtain ⟨a0,g0,o0,w0⟩:=(rds_i64 Tryz.underlying3) _ _ _ f0
   have f1:DataW.trod enc Tryz.prog w base sp held n 22 (([c0,c1,c2,c3].drop 1).take (Tryz.prog.cellsOf 22))=some x1:=hf 1 _ rfl
   rw [ql0] at f1
   obtain ⟨a1,g1,o1,w1⟩:=(rds_slice Tryz.underlying22 qfj rfl rds_Act) _ _ _ f1
   have f2:DataW.trod enc Tryz.prog w base sp held n 23 (([c0,c1,c2,c3].drop 2).take (Tryz.prog.cellsOf 23))=some x2:=hf 2 _ rfl
   rw [qk5] at f2
   obtain ⟨a2,g2,o2,w2⟩:=(rds_slice Tryz.underlying23 qfd rfl rds_Pq) _ _ _ f2
   have f3:DataW.trod enc Tryz.prog w base sp held n 24 (([c0,c1,c2,c3].drop 3).take (Tryz.prog.cellsOf 24))=some x3:=hf 3 _ rfl
   rw [quh] at f3
   obtain ⟨a3,g3,o3,w3⟩:=(rds_u64 Tryz.underlying24) _ _ _ f3
   exact ⟨⟨a0,a1,a2,a3⟩,(((g0.append g1).append g2).append g3),(qea (qea (qea o0 o1) o2) o3),⟨w0,w1,w2,w3⟩⟩
structure Ask26 where
 kind:Int
 client:Int
 inc:Int
 for_:Int
 list:List Int
 raw:Bool
def tAsk26:Ty Ask26:=⟨6,fun a=>[Is (.int .i64 a.kind),Is (.int .i64 a.client),Is (.int .i64 a.inc),Is (.int .i64 a.for_),IsSl tI64 a.list,Is (.bool a.raw)],fun _=>rfl⟩
@[reducible] def IsAsk26 (a:Ask26):VP:=IsAgg (tAsk26.cells a)
def Ask26.wf (a:Ask26):Prop:=qi6 a.kind∧qi6 a.client∧qi6 a.inc∧qi6 a.for_∧(fun xs=>∀ a∈xs,qi6 a) a.list∧(fun _=>True) a.raw
theorem qhz:Tryz.prog.cellsOf 29=6:=by kernel_rfl
theorem cN__int:Tryz.prog.cellsOf 27=1:=by kernel_rfl
theorem cN_bool:Tryz.prog.cellsOf 4=1:=by kernel_rfl
theorem rds_Ask26:Rds enc Tryz.prog w base sp held 29 tAsk26 Ask26.wf:=by
 intro fuel cs x h
 obtain ⟨xs,n,_,_,hlen,hxs,hf⟩:=DataW.trod_struct Tryz.underlying29 h
 rw [qhz] at hlen
 match cs,hlen with
 | [c0,c1,c2,c3,c4,c5],_ =>
  match xs,hxs with
  | [x0,x1,x2,x3,x4,x5],_ =>
   have f0:DataW.trod enc Tryz.prog w base sp held n 3 (([c0,c1,c2,c3,c4,c5].drop 0).take (Tryz.prog.cellsOf 3))=some x0:=hf 0 _ rfl
   rw [qgj] at f0
   obtain ⟨a0,g0,o0,w0⟩:=(rds_i64 Tryz.underlying3) _ _ _ f0
   have f1:DataW.trod enc Tryz.prog w base sp held n 3 (([c0,c1,c2,c3,c4,c5].drop 1).take (Tryz.prog.cellsOf 3))=some x1:=hf 1 _ rfl
   rw [qgj] at f1
   obtain ⟨a1,g1,o1,w1⟩:=(rds_i64 Tryz.underlying3) _ _ _ f1
   have f2:DataW.trod enc Tryz.prog w base sp held n 3 (([c0,c1,c2,c3,c4,c5].drop 2).take (Tryz.prog.cellsOf 3))=some x2:=hf 2 _ rfl
   rw [qgj] at f2
   obtain ⟨a2,g2,o2,w2⟩:=(rds_i64 Tryz.underlying3) _ _ _ f2
   have f3:DataW.trod enc Tryz.prog w base sp held n 3 (([c0,c1,c2,c3,c4,c5].drop 3).take (Tryz.prog.cellsOf 3))=some x3:=hf 3 _ rfl
   rw [qgj] at f3
   obtain ⟨a3,g3,o3,w3⟩:=(rds_i64 Tryz.underlying3) _ _ _ f3
   have f4:DataW.trod enc Tryz.prog w base sp held n 27 (([c0,c1,c2,c3,c4,c5].drop 4).take (Tryz.prog.cellsOf 27))=some x4:=hf 4 _ rfl
   rw [cN__int] at f4
   obtain ⟨a4,g4,o4,w4⟩:=(rds_slice Tryz.underlying27 qgj rfl (rds_i64 Tryz.underlying3)) _ _ _ f4
   have f5:DataW.trod enc Tryz.prog w base sp held n 4 (([c0,c1,c2,c3,c4,c5].drop 5).take (Tryz.prog.cellsOf 4))=some x5:=hf 5 _ rfl
   rw [cN_bool] at f5
   obtain ⟨a5,g5,o5,w5⟩:=(rds_bool Tryz.underlying4) _ _ _ f5
   exact ⟨⟨a0,a1,a2,a3,a4,a5⟩,(((((g0.append g1).append g2).append g3).append g4).append g5),(qea (qea (qea (qea (qea o0 o1) o2) o3) o4) o5),⟨w0,w1,w2,w3,w4,w5⟩⟩
end
end
def nC (z:Int):Nat:=8+16*(1+(z % 5).toNat)
theorem nC_rng (z:Int):8≤nC z∧nC z≤200:=by unfold nC;omega
theorem SizeC_ok (z:Int):FnP Tryz.prog 5 [Is (.int .i64 z)] (Is (.int .i64 (96+(nC z:Int)))):=by
 have h1:=Int.emod_nonneg z (show (5:Int)≠0 by omega)
 have h2:=Int.emod_lt_of_pos z (show (0:Int)<5 by omega)
 have e:(96+(nC z:Int))=104+16*(1+z % 5):=by unfold nC;omega
 rw [e]
 refine FnP.enter func5 ntmps5 rfl rfl ?_
 intro c hX
 refine t8 ?_
 refine qap rfl (by ((refine qad call7 (qc9 _ _ ?_ ?_) ⟨qaq,⟨qaq,trivial⟩⟩);all_goals (first|omega|(simp;done)|(simp;omega)|(refine Nat.le_trans (qah _ _) ?_;omega)|(refine Nat.le_trans (qah _ _) (Nat.le_trans (Nat.add_le_add_right (qah _ _) _) ?_);omega)))) ?_
 refine t7 ?_
 refine qay results5 rfl () (SubL.eq ?_) (List.nil_sublist _)
 rfl
theorem qso (op:Ep26) (ks:List Pg) (hks:ks.length≤10000) (hol:op.list.length≤1000):FnP Tryz.prog 12 [qfx op,IsSl tPg ks] (IsES26 (enX op ks)):=
 (ql9 op ks hks hol).toP fun B φ v ⟨vs,e,k,o1⟩=>⟨vs,e,Subs.alls (show Subs ((qw6 B).cells (enX op ks)) (tES26.cells (enX op ks)) from ⟨Sub.rfl',fun φ v h=>SubL.fresh (L:=[]) φ v (fun _ hi=>absurd hi List.not_mem_nil) h,Sub.rfl',Sub.rfl',Sub.rfl',Sub.rfl',Sub.rfl',Sub.rfl',Sub.rfl',trivial⟩) k,o1⟩
theorem zeo:FnP Tryz.prog 16 [] (Is (.bool true)):=by
 refine FnP.enter func16 ntmps16 rfl rfl ?_
 intro c hX
 refine t7 ?_
 refine kR call40 (qsi (5#32) (3#32)) ?_
 refine s1 ?_
 (refine qcp rfl rfl rfl (fun hg=>(by have hg0:=hg;(try simp at hg);exact qad call40 (qsi (4#32) (3#32)) ⟨evR,⟨evR,trivial⟩⟩)) ?_)
 refine t6 ?_
 refine qay results16 rfl () (SubL.eq ?_) (List.nil_sublist _)
 rw [show (qqs 5#32 3#32 && !qqs 4#32 3#32)=true by decide +kernel]
theorem qxh (p:Pt):FnP Tryz.prog 9 [qks p] (qks p):=by
 refine FnP.enter func9 ntmps9 rfl rfl ?_
 intro c hX
 refine t3 ?_
 intro i1
 refine s1 ?_
 intro i2
 refine t13 ?_
 exact qan (Bs:=[qks p]) results9 eR () SubL.rfl' (List.nil_sublist _)
theorem EpochSteps_ok (cs:Cs20) (a:Ask26) (raw:List Pt):FnP Tryz.prog 3 [IsCs20 cs,IsAsk26 a,IsSl tPt raw] (Is (.bool true)):=by
 have hn:=nC_rng cs.size
 refine FnP.enter func3 ntmps3 rfl rfl ?_
 intro c hX
 refine t3 ?_
 intro i3
 refine s1 ?_
 intro i4
 refine t29 ?_
 refine cN ?_ ?_ <;> intro h1
 ·refine t7 ?_
  refine qay results3 rfl () (SubL.eq ?_) (List.nil_sublist _)
  rfl
 have hcl:(cs.acts.length≤1000∧cs.pokes.length≤1000)∧a.list.length≤6∧raw.length≤6:=by simp at h1;omega
 obtain ⟨hll,hli,hraw⟩:=hcl
 clear h1
 refine t3 ?_
 refine qaz rfl (by kernel_rfl) ?_
 refine qfi (its:=[]) ?_
 refine f1 0 ?_
 refine f1 1 ?_
 refine qkr 2 rfl (by kernel_rfl) (qad call5 (SizeC_ok _) ⟨evR,trivial⟩) ?_
 refine f1 3 ?_
 refine f1 4 ?_
 (refine JF_tx 5 [0,1,2,3,4,5] rfl (by kernel_rfl) (fun c'=>by exact qz2 call4 (zfq (nC cs.size) _ hn hll.1) ⟨evR,⟨evR,trivial⟩⟩) ?_;intro x50 hx50)
 refine f1 6 ?_
 refine qd0 (by kernel_rfl) rfl ?_
 show JQ _ _ _ _ _ _
 refine t2 ?_
 obtain ⟨hx1,hx2⟩:=hx50
 refine qa7 hX (v:=slV (nC cs.size) x50.2.1) qae ?_
 refine qbr (b:=x50.1) (As':=[IsSl tPg x50.2.2.pages,Is (.int .i64 (96+(nC cs.size:Int))),Top,Top,Top,Top,Top]) qae qim ?_
 refine qd8 (b:=x50.1) hX qae ?_
 refine qb0 7 (qc4 [IsSl tPg x50.2.2.pages,Is (.int .i64 (96+(nC cs.size:Int))),Top,Top,Top,Top,Top]) rfl (SubL.fact qbw) ?_
 refine qaz rfl (by kernel_rfl) ?_
 refine qfi (its:=[]) ?_
 refine f1 0 ?_
 refine f1 1 ?_
 refine f1 2 ?_
 refine f1 3 ?_
 refine f1 4 ?_
 refine f1 5 ?_
 (refine zay 6 [0,1,2,3,4,5,6] rfl (by kernel_rfl) (qad call6 (ze2 (nC cs.size) _ _ hn hx1 hx2 hll.2) ⟨evR,⟨evR,trivial⟩⟩) ?_;intro x57 hx57)
 refine f1 7 ?_
 refine qd0 (by kernel_rfl) rfl ?_
 show JQ _ _ _ _ _ _
 refine t2 ?_
 obtain ⟨hH,hLn⟩:=hx57
 obtain ⟨H,hHe⟩:∃ q,x57=q:=⟨_,rfl⟩
 rw [hHe] at hH hLn ⊢
 have hHl:H.length≤10000:=by omega
 have hH8:8≤H.length:=by omega
 clear hHe
 refine qaz rfl (by kernel_rfl) ?_
 refine qaf 21 (by kernel_rfl) ?_
 refine t2 ?_
 refine qbh (by ((refine qad call7 (qc9 _ _ ?_ ?_) ⟨evR,⟨evR,trivial⟩⟩);all_goals (omega))) ?_
 refine t2 ?_
 refine qbh (by ((refine qad call7 (qc9 _ _ ?_ ?_) ⟨evR,⟨evR,trivial⟩⟩);all_goals (omega))) ?_
 refine t3 ?_
 refine qbh (by ((refine qad call7 (qc9 _ _ ?_ ?_) ⟨evR,⟨evR,trivial⟩⟩);all_goals (omega))) ?_
 refine t6 ?_
 refine qbh (by ((refine qad call7 (qc9 _ _ ?_ ?_) ⟨evR,⟨evR,trivial⟩⟩);all_goals (omega))) ?_
 refine t2 ?_
 refine qkq (qbl rfl qbm rfl) ?_
 refine qcy rfl rfl rfl (by kernel_rfl) (qca evR qa6 rfl rfl rfl qbm) ?_
 refine ⟨rfl,?_⟩
 intro i9
 refine qar ?_
 refine t8 ?_
 refine qgs (fun z:(Int×Int×Int)×Int×Int=>True) (fun z=>[(2,IsSl tPt raw),(3,Is (.pointer (some ⟨i3,0,none⟩))),(4,Is (.pointer (some ⟨i4,0,none⟩))),(6,Is (.bool false)),(8,IsSl tPg H),(9,Is (.pointer (some ⟨i9,0,none⟩)))]) (fun z=>[blk i3 26 (tCs20.cells cs),blk i4 29 (tAsk26.cells a),blk i9 45 [Is (.int .i64 z.1.1),Is (.int .i64 z.1.2.1),Is (.int .i64 z.1.2.2),Is (.int .i64 z.2.1),Is (.int .i64 z.2.2),Is (.slice none 0 0)]]) ?_ ?_
 rotate_left
 focus
  refine cN ?_ ?_ <;> intro h6
  ·refine t14 ?_
   exact qai ((a.kind,a.client,a.inc),a.for_,a.for_) trivial qbz qab
  refine s1 ?_
  exact qai ((a.kind % 8,a.client % 8-1,a.inc % 4),96+(nC cs.size:Int),a.for_ % 8-1) trivial qbz qab
 rintro ⟨⟨o1,o2,o3⟩,o4,o5⟩ _
 dsimp only
 refine t7 ?_
 refine qcd 51 tPt ?_
 refine qav [(2,_),(3,_),(4,_),(6,_),(8,_),(9,_)] [blk i4 _ _,blk i3 _ _] (fun y:Nat×(List Pt)×(Option Addr×Nat)=>y.1≤(a.list).length∧(y.2.1.length≤y.1)) (fun y=>[(10,Is (.int .i64 (y.1:Nat)))]) (fun y=>[blk i9 45 [Is (.int .i64 o1),Is (.int .i64 o2),Is (.int .i64 o3),Is (.int .i64 o4),Is (.int .i64 o5),Is (slV (y.2.1).length y.2.2)],buf (slV (y.2.1).length y.2.2) 51 tPt (y.2.1)]) (fun y=>(a.list).length-y.1) (0,[],(none,0)) ⟨by exact Nat.zero_le _,Nat.le_refl 0⟩ qbz qab ?_
 rintro ⟨k,ps,v_0⟩ ⟨hk,hI⟩
 dsimp only at hk hI ⊢
 refine t10 ?_
 refine cN ?_ ?_ <;> intro h9
 ·have hlt:k<(a.list).length:=by have:=of_decide_eq_true h9;omega
  clear h9
  obtain ⟨z,hz⟩:∃ q,(a.list)[k]?=some q:=⟨_,List.getElem?_eq_getElem hlt⟩
  obtain ⟨j,hj⟩:∃ j:Nat,z % (H.length:Int)=(j:Int):=⟨(z % (H.length:Int)).toNat,by have:=Int.emod_nonneg z (show (H.length:Int)≠0 by omega);omega⟩
  have hjl:j<H.length:=by have:=Int.emod_lt_of_pos z (show 0<(H.length:Int) by omega);omega
  obtain ⟨pg,hpg⟩:∃ pg,H[j]?=some pg:=⟨_,List.getElem?_eq_getElem hjl⟩
  have hgl:=gen_le pg.d0
  have hgn:0≤qlt pg.d0:=qbq _
  refine t10 ?_
  refine qap rfl (by exact qam (j:=_) (er rfl) (er rfl) rfl rfl rf (by assumption)) ?_
  refine t3 ?_
  refine qap rfl (by ((refine qad call7 (qc9 _ _ ?_ ?_) ⟨evR,⟨evR,trivial⟩⟩);all_goals (omega))) ?_
  refine qi1 105 (Is (.int .i64 (j:Nat))) rfl (SubL.eq (ieq hj)) ?_
  refine qap rfl (by exact qam (j:=j) (er rfl) (er rfl) rfl rfl rf hpg) ?_
  refine t2 ?_
  intro i11
  refine t3 ?_
  refine qaz rfl (by kernel_rfl) ?_
  refine qaf 8 (by kernel_rfl) ?_
  refine t5 ?_
  refine qbh (qad call8 (qgt _) ⟨evR,trivial⟩) ?_
  refine s1 ?_
  refine qbh (qac (size:=2) (qs:=[(0,_)]) rfl rfl rfl ⟨⟨rfl,_,(er rfl),qa6⟩,trivial⟩ rf rf) ?_
  refine ⟨rfl,?_⟩
  (refine JD_s (by kernel_rfl) rfl rfl (qb6 (er rfl) (fun _=>qae) (by exact Ev.sub rfl (by exact SubL.row (xs:=[(⟨pg.l,qlt pg.d0⟩:Pt)]) rf rf qg9)) (by exact qej rfl rfl rfl) qb8) ?_;intro i116)
  refine qaf 1 (by kernel_rfl) ?_
  refine s1 ?_
  refine ⟨rfl,?_⟩
  refine qeb (by kernel_rfl) rfl (qas (er rfl) (er rfl) qa6 qae qbm rf rf rf) ?_
  refine qar ?_
  refine t7 ?_
  exact qaa (k+1,ps++[(⟨pg.l,qlt pg.d0⟩:Pt)],_) ⟨by omega,by simp;omega⟩ (by omega) qbz qab
 have hke:k=(a.list).length:=by have:=of_decide_eq_false h9;omega
 clear h9
 subst hke
 refine t10 ?_
 (refine qew rfl (qb6 (er rfl) (fun _=>qae) evR (by exact qej rfl rfl rfl) qb8) ?_;intro i121)
 refine t5 ?_
 obtain ⟨xs,hxs⟩:∃ q,ps++raw=q:=⟨_,rfl⟩
 rw [hxs]
 have hxl:xs.length≤1000:=by rw [← hxs,List.length_append];omega
 refine qa7 hX (v:=slV xs.length i121) qae ?_
 refine qbr (b:=i9) (As':=[Is (.int .i64 o1),Is (.int .i64 o2),Is (.int .i64 o3),Is (.int .i64 o4),Is (.int .i64 o5),IsSl tPt xs]) qae qim ?_
 refine t13 ?_
 intro i12
 refine t10 ?_
 refine qcd 55 tPt ?_
 refine qav [(3,_),(6,_),(8,_),(9,_),(12,_)] [blk i9 _ _,blk i3 _ _] (fun y:Nat×(List Pt)×(Option Addr×Nat)=>y.1≤(xs).length∧(y.2.1=List.take y.1 xs)) (fun y=>[(13,Is (.int .i64 (y.1:Nat)))]) (fun y=>[blk i12 54 [Is (.int .i64 o1),Is (.int .i64 o2),Is (.int .i64 o3),Is (.int .i64 o4),Is (.int .i64 o5),Is (slV (y.2.1).length y.2.2)],buf (slV (y.2.1).length y.2.2) 55 tPt (y.2.1)]) (fun y=>(xs).length-y.1) (0,[],(none,0)) ⟨by exact Nat.zero_le _,rfl⟩ qbz qab ?_
 rintro ⟨k,qs,v_0⟩ ⟨hk,hI⟩
 dsimp only at hk hI ⊢
 refine t10 ?_
 refine cN ?_ ?_ <;> intro h16
 ·have hlt:k<(xs).length:=by have:=of_decide_eq_true h16;omega
  clear h16
  obtain ⟨z,hz⟩:∃ q,(xs)[k]?=some q:=⟨_,List.getElem?_eq_getElem hlt⟩
  have hql:qs.length≤1000:=by rw [hI,List.length_take];omega
  refine t4 ?_
  refine qaz rfl (by kernel_rfl) ?_
  refine qaf 9 (by kernel_rfl) ?_
  refine t7 ?_
  refine qbh (qad call9 (qxh _) ⟨evR,trivial⟩) ?_
  refine qbh (qac (size:=2) (qs:=[(0,_)]) rfl rfl rfl ⟨⟨rfl,_,(er rfl),qa6⟩,trivial⟩ rf rf) ?_
  refine ⟨rfl,?_⟩
  (refine JD_s (by kernel_rfl) rfl rfl (qb6 (er rfl) (fun _=>qae) (by exact Ev.sub rfl (by exact SubL.row (xs:=[z]) rf rf qg9)) (by exact qej rfl rfl rfl) qb8) ?_;intro i150)
  refine qaf 1 (by kernel_rfl) ?_
  refine s1 ?_
  refine ⟨rfl,?_⟩
  refine qeb (by kernel_rfl) rfl (qas (er rfl) (er rfl) qa6 qae qbm rf rf rf) ?_
  refine qar ?_
  refine t7 ?_
  exact qaa (k+1,qs++[z],_) ⟨by omega,by rw [hI,List.take_add_one,hz];rfl⟩ (by omega) qbz qab
 have hke:k=(xs).length:=by have:=of_decide_eq_false h16;omega
 clear h16
 subst hke
 (try rw [List.take_length])
 (try rw [List.take_length] at hI)
 have hqs:qs=xs:=hI
 rw [hqs]
 refine qa7 hX (v:=slV xs.length v_0) qae ?_
 refine qbr (b:=i12) (As':=tEp26.cells ⟨o1,o2,o3,o4,o5,xs⟩) qae qim ?_
 refine t10 ?_
 refine kR call10 (ze7 H _ hHl) ?_
 (refine qa5 155 rfl ?_;intro x155 hx155)
 refine t5 ?_
 obtain ⟨k0,hk0⟩:∃ q,x155=q:=⟨_,rfl⟩
 rw [hk0] at hx155 ⊢
 clear hk0
 refine qbr (b:=i9) (As':=tEp26.cells ⟨o1,o2,o3,o4,o5,xs⟩) qae qim ?_
 obtain ⟨op,hop⟩:∃ q:Ep26,q=⟨o1,o2,o3,o4,o5,xs⟩:=⟨_,rfl⟩
 have hxl:op.list.length≤1000:=by rw [hop];exact hxl
 rw [← hop]
 clear hop
 refine t5 ?_
 refine qav [(6,_),(8,_),(9,_),(12,_)] [blk i12 _ _,blk i9 _ _] (fun y:Nat×(List Pg)=>y.1≤300∧(y.2.length≤200+30*y.1∧y.1≤cntK y.2)) (fun y=>[(14,IsSl tPg y.2),(15,Is (.int .i64 (y.1:Nat)))]) (fun y=>[]) (fun y=>300-y.1) (0,k0) ⟨by exact Nat.zero_le _,⟨(show k0.length≤200+30*0 by omega),Nat.zero_le _⟩⟩ qbz qab ?_
 rintro ⟨k,ks⟩ ⟨hk,hI⟩
 dsimp only at hk hI ⊢
 refine t7 ?_
 refine cN ?_ ?_ <;> intro h21
 ·have hlt:k<300:=by have:=of_decide_eq_true h21;omega
  clear h21
  obtain ⟨hi1,hi2⟩:=hI
  have hck:=zef ks
  have hkl:ks.length≤10000:=by omega
  refine t8 ?_
  refine kR call11 (NextE_ok _ ks) ?_
  refine t6 ?_
  intro i18
  refine t10 ?_
  refine kR call12 (qso _ ks hkl hxl) ?_
  refine s1 ?_
  intro i20
  refine t5 ?_
  have hnd:=ep_need (op:=op) (ks:=ks)
  rw [nx_eq] at hnd ⊢
  obtain ⟨W,hW⟩:∃ W,enX op ks=W:=⟨_,rfl⟩
  rw [hW] at hnd ⊢
  obtain ⟨nd,ws,ou,ov,wx⟩:=W
  dsimp only [prj4] at hnd ⊢
  clear hW
  refine t9 ?_
  (refine qcp rfl rfl rfl (fun hg=>(by have hg0:=hg;(try simp at hg);exact qad call13 (qoy _ _) ⟨evR,⟨evR,trivial⟩⟩)) ?_)
  refine t6 ?_
  (refine qcp rfl rfl rfl (fun hg=>(by have hg0:=hg;(try simp at hg);exact qad call14 (quu _ _) ⟨evR,⟨evR,trivial⟩⟩)) ?_)
  refine t4 ?_
  refine cN ?_ ?_ <;> intro h25
  ·exact absurd h25 (by simp)
  clear h25
  refine t9 ?_
  refine cN ?_ ?_ <;> intro h27
  ·have hov:ov=false:=by simpa using h27
   obtain ⟨hd1,hd2,hd3,hd4⟩:=hnd hov
   have hgr:=zaf hLn (hnd hov)
   have hf1:nd.length≤10000:=by omega
   have hf2:∀ x,x∈nd→qhh ks x=false∧96≤x∧x≤300:=fun x hx=>⟨(hd4 x hx).1,(hd4 x hx).2.1,by have:=(hd4 x hx).2.2;omega⟩
   have hf3:=hd3
   refine t5 ?_
   refine kR call15 (zfn ks H nd hkl hf1 hf2 hf3) ?_
   refine t14 ?_
   refine cN ?_ ?_ <;> intro h29
   ·exact absurd h29 (by rw [decide_eq_true (show (nd.length:Int)>0 by omega)];decide)
   clear h29
   refine t17 ?_
   exact qaa (k+1,ks++nd.map (pgF H)) ⟨by omega,⟨(show (ks++nd.map (pgF H)).length≤200+30*(k+1) by rw [List.length_append,List.length_map];omega),(show k+1≤cntK (ks++nd.map (pgF H)) by omega)⟩⟩ (by omega) qbz qab
  refine t40 ?_
  refine t3 ?_
  (refine qcp rfl rfl rfl (fun hg=>(by have hg0:=hg;(try simp at hg);exact qad call13 (qoy _ _) ⟨evR,⟨evR,trivial⟩⟩)) ?_)
  refine t4 ?_
  refine cN ?_ ?_ <;> intro h32
  ·exact absurd h32 (by simp)
  clear h32
  refine t9 ?_
  refine qav [(6,_),(8,_),(9,_),(12,_),(14,_),(15,_),(16,_),(17,_),(18,_),(19,_),(20,_),(156,_),(160,_),(161,_),(162,_),(163,_),(164,_),(165,_),(166,_),(167,_),(168,_),(169,_),(170,_),(171,_),(172,_),(173,_),(174,_),(175,_),(176,_),(177,_),(178,_),(179,_),(180,_),(181,_),(182,_),(183,_),(184,_),(185,_),(186,_),(187,_),(189,_),(201,_),(202,_),(203,_),(204,_),(205,_),(206,_),(207,_),(208,_),(209,_),(210,_),(211,_),(212,_),(213,_),(214,_),(215,_),(216,_),(217,_),(218,_),(219,_),(220,_),(221,_),(222,_),(223,_),(224,_),(225,_),(226,_),(227,_),(228,_),(229,_),(230,_),(231,_),(232,_),(233,_),(234,_),(235,_),(236,_),(237,_),(238,_),(239,_),(240,_)] [blk i20 _ _,blk i18 _ _,blk i12 _ _,blk i9 _ _] (fun k:Nat=>k≤(ou.freed).length) (fun k=>[(23,Is (.int .i64 (k:Nat)))]) (fun k=>[]) (fun k=>(ou.freed).length-k) 0 (Nat.zero_le _) qbz qab ?_
  rintro k hk
  refine t10 ?_
  refine qgv (t:=244) rfl (fun hfl=>?_)
  refine cN ?_ ?_ <;> intro h35
  ·have hlt:k<(ou.freed).length:=by have:=of_decide_eq_true h35;omega
   clear h35
   obtain ⟨z,hz⟩:∃ q,(ou.freed)[k]?=some q:=⟨_,List.getElem?_eq_getElem hlt⟩
   refine t5 ?_
   refine qaz rfl (by kernel_rfl) ?_
   refine qaf 13 (by kernel_rfl) ?_
   refine t5 ?_
   refine qbh (qad call9 (qxh _) ⟨evR,trivial⟩) ?_
   refine t6 ?_
   refine qbh (qgx (er rfl) (er rfl)) ?_
   refine ⟨rfl,?_⟩
   refine qar ?_
   refine s1 ?_
   refine cN ?_ ?_ <;> intro h37
   ·exact absurd h37 (by simp)
   clear h37
   refine t8 ?_
   exact qaa (k+1) (by omega) (by omega) qbz qab
  have hke:k=(ou.freed).length:=by have:=of_decide_eq_false h35;omega
  clear h35
  subst hke
  refine t7 ?_
  refine qap rfl (qad call16 (zeo) trivial) ?_
  refine t9 ?_
  refine qay results3 rfl () (SubL.eq ?_) (List.nil_sublist _)
  rfl
 exact absurd (zef ks) (by have h9:=of_decide_eq_false h21;have h10:=hI.2;omega)
end Go.Proofs.YtghkkdjbaehboaaGreat
