/- Texts laid together: walks of functions, what they compute, and plain laws of it. Own work. -/
import Derived.Test.YtmgoplaamlignaaGreatK25
import Derived.Test.YtmgoplaamlignaaGreatK19
import Derived.Test.YtmgoplaamlignaaGreatK24
import Derived.Test.YtmgoplaamlignaaGreatK22
import Derived.Test.YtmgoplaamlignaaGreatK23
import Derived.Test.YtmgoplaamlignaaGreatK1
namespace Go.Proofs.YtmgoplaamlignaaGreat
open Go.RowKit Tryz
set_option linter.unusedVariables false
set_option linter.unusedSimpArgs false
set_option maxRecDepth 100000
set_option maxHeartbeats 4000000
theorem miss_one {ks:List Pg} {x:Int} (h:qe5 ks x=false):qdu ks [x]=[x]:=
 qr2 (qti ks [x]) (List.pairwise_singleton _ _) fun y=>by
  rw [mem_missR]
  constructor
  ·exact fun h=>h.1
  ·intro h1
   rw [List.mem_singleton] at h1
   subst h1
   exact ⟨List.mem_singleton.2 rfl,h⟩
theorem zbg {ks:List Pg} {x:Int} (h:qe5 ks x=true):qdu ks [x]=[]:=by
 cases e:qdu ks [x] with
 | nil=>rfl
 | cons y l =>
  have h1:=(mem_missR (ks:=ks) (ls:=[x]) (x:=y)).1 (by rw [e];exact List.mem_cons_self ..)
  rw [List.mem_singleton.1 h1.1,h] at h1
  exact absurd h1.2 (by decide)
theorem head_l1 (ks:List Pg) (s:Int):(qeg ks s).2.2.1=qe5 ks (qas s):=by
 unfold qeg
 cases h:qe5 ks (qas s) with
 | false=>rfl
 | true =>
  rw [if_pos rfl]
  split <;> rfl
theorem hdr_line {s:Int} (h:0≤s∧s≤8):qp1 (qas s)=true:=by
 unfold qp1 qas
 rw [if_pos h]
 exact decide_eq_true ⟨by omega,by omega,by omega⟩
theorem qye {p:Pg} (h:qp1 p.l=true):(qcj p).2=0∨(qcj p).2=14:=by
 unfold qcj
 rw [if_pos h]
 split
 ·exact .inr rfl
 ·exact .inl rfl
theorem qxh {ks:List Pg} {s:Int} (hb:qe5 ks (qas s)=true) (hs:0≤s∧s≤8) {α:Type} {f:Int→α} {z:α} (h:((qeg ks s).2.2.2 != 0)=true):(if qeo (qb6 ks (qas s))=true then f 3 else if ((qcj (qb6 ks (qas s))).2 != 0)=true then f 14 else z)=f (qeg ks s).2.2.2:=by
 revert h
 unfold qeg
 rw [if_pos hb]
 by_cases h1:qeo (qb6 ks (qas s))=true
 ·rw [if_pos h1,if_pos h1]
  intro _;rfl
 ·rw [if_neg h1,if_neg h1]
  dsimp only
  intro h
  rw [if_pos h]
  rcases qye (p:=qb6 ks (qas s)) (by rw [qf4 hb];exact hdr_line hs) with h2|h2
  ·rw [h2] at h;exact absurd h (by decide)
  ·rw [h2]
theorem qtr {ks:List Pg} {s:Int} (hb:qe5 ks (qas s)=true) (h:((qeg ks s).2.2.2 != 0)=false):qeo (qb6 ks (qas s))=false∧(qcj (qb6 ks (qas s))).2=0∧qeg ks s=(qb6 ks (qas s),(qcj (qb6 ks (qas s))).1,true,0):=by
 revert h
 unfold qeg
 rw [if_pos hb]
 by_cases h1:qeo (qb6 ks (qas s))=true
 ·rw [if_pos h1]
  intro h;exact absurd h (by decide)
 ·rw [if_neg h1]
  dsimp only
  intro h
  have h2:(qcj (qb6 ks (qas s))).2=0:=by simpa using h
  exact ⟨by simpa using h1,h2,by rw [h2]⟩
theorem qt9 {xs ys zs:List Pg} (hs:Srt Pg.l 0 xs.length ys) (hp:PI 0 xs.length xs ys) (hz:zs.Perm xs) (ha:zs.Pairwise (fun x y=>x.l<y.l)):ys=zs:=by
 have hl:ys.length=xs.length:=hp.len
 have hn:(zs.map Pg.l).Nodup:=by
  rw [List.Nodup,List.pairwise_map]
  exact ha.imp fun h=>by omega
 have hd:(ys.map Pg.l).Nodup:=(((hp.perm.trans hz.symm).map Pg.l).nodup_iff).2 hn
 exact qmg (key:=Pg.l) (hp.perm.trans hz.symm) (qz8 (by rw [hl];exact hs) hd) ha
theorem asc3 {a b t:Pg} {ys:List Pg} (hs:Srt Pg.l 0 3 ys) (hp:PI 0 3 [a,b,t] ys) (h1:a.l<b.l) (h2:t.l<b.l) (h3:t.l≠a.l):ys=qcx [t] [a,b]:=by
 show ys=qfj (qfj [t] a) b
 rcases Int.lt_or_gt_of_ne h3 with h|h
 ·rw [show qfj [t] a=[t,a] by unfold qfj;rw [if_pos h];rfl,show qfj [t,a] b=[t,a,b] by unfold qfj;rw [if_pos h2];unfold qfj;rw [if_pos h1];rfl]
  refine qt9 (xs:=[a,b,t]) hs hp ?_ (by simp;omega)
  exact (List.perm_append_comm (l₁:=[t]) (l₂:=[a,b]))
 ·rw [show qfj [t] a=[a,t] by unfold qfj;rw [if_neg (by omega),if_neg h3],show qfj [a,t] b=[a,t,b] by unfold qfj;rw [if_pos h1];unfold qfj;rw [if_pos h2];rfl]
  refine qt9 (xs:=[a,b,t]) hs hp ?_ (by simp;omega)
  exact List.Perm.cons _ (List.Perm.swap b t [])
theorem qwr {bm:BitVec 32} {n:Nat} {x:Int} {r:List Int} (h:qf8 bm n=x :: r):0≤x∧x<n:=qnz (bm:=bm) (by rw [h];exact List.mem_cons_self ..)
theorem AcqY_ok (ks:List Pg) (o inc lines fr:Int) (hfr1:fr ≠ -1) :
  FnP Tryz.prog 11 [IsAgg [Is (.int .i64 o),Is (.int .i64 inc),Is (.int .i64 lines),Is (.int .i64 fr)],qal tPg ks] (qbv [qal tI64 (acR ks o inc lines fr).need,qal tPg (acR ks o inc lines fr).writes,Is (.int .i64 (acR ks o inc lines fr).s),Is (.int .i64 (acR ks o inc lines fr).code),Is (.bool (acR ks o inc lines fr).over)]):=by
 have hcn:=qe9 lines
 obtain ⟨W,hE⟩:∃ W,acR ks o inc lines fr=W:=⟨_,rfl⟩
 rw [hE]
 unfold acR at hE
 rw [ac0] at hE
 refine FnP.enter func11 ntmps11 rfl rfl ?_
 intro c hX
 refine t3 ?_
 intro i2
 refine t12 ?_
 refine kS call31 (qko _) ?_
 refine t14 ?_
 (refine qcq rfl rfl rfl (fun hg=>(by have hg0:=hg;(try simp at hg);exact qac call32 (qlj _) ⟨evS,trivial⟩)) ?_)
 refine t21 ?_
 refine cN ?_ ?_ <;> intro h1
 ·replace hE:=qce hE h1
  refine t11 ?_
  subst hE
  exact qaq (Bs:=[_,_,_,_,_]) results11 eT () SubL.rfl' (List.nil_sublist _)
 rw [ifF h1] at hE
 have hcl:(0≤o∧o<6)∧(104≤lines∧lines≤256)∧(1≤inc∧inc≤59)∧(0≤fr∧fr<6)∧fr≠o:=by unfold qkt qqp at h1;simp at h1;omega
 obtain ⟨ho,hli,hinc,hfr,hne⟩:=hcl
 obtain ⟨cl,rfl⟩:∃ n:Nat,o=(n:Int):=⟨o.toNat,by omega⟩
 obtain ⟨fl,rfl⟩:∃ n:Nat,fr=(n:Int):=⟨fr.toNat,by omega⟩
 rw [ifT (show decide (((fl:Nat):Int)≥0)=true from decide_eq_true hfr.1),show ask2 (cl:Int) (fl:Int)=[98+(cl:Int),98+(fl:Int)] by unfold ask2;rw [ifT (show decide (((fl:Nat):Int)≥0)=true from decide_eq_true hfr.1)]] at hE
 have h1l:([98+(cl:Int),98+(fl:Int)]:List Int).length≤1000000:=by simp
 have hnm:((fl:Nat):Int) ≠ -1:=by omega
 clear h1
 refine t7 ?_
 refine qap rfl (qcb (size:=1) (qs:=[(0,_)]) rfl rfl rfl ⟨⟨rfl,_,(er rfl),qbn⟩,trivial⟩ rf rf) ?_
 refine t11 ?_
 refine cN ?_ ?_ <;> intro h4
 ·skip
  refine t5 ?_
  refine qap rfl (qcb (size:=1) (qs:=[(0,_)]) rfl rfl rfl ⟨⟨rfl,_,(er rfl),qbn⟩,trivial⟩ rf rf) ?_
  refine qap rfl (qn3 (T:=tI64) ([98+(cl:Int)]) (er rfl) qz3 rfl rfl (by exact Ev.sub rfl (by exact SubL.row (xs:=[98+(fl:Int)]) rf rf qev)) (by exact qep rfl rfl rfl) qbt) ?_
  refine t8 ?_
  refine kS call33 (qkn _ [98+(cl:Int),98+(fl:Int)] h1l) ?_
  refine t10 ?_
  refine cN ?_ ?_ <;> intro h7
  ·replace hE:=qce hE h7
   refine t12 ?_
   subst hE
   exact qaq (Bs:=[_,_,_,_,_]) results11 eT () SubL.rfl' (List.nil_sublist _)
  rw [ifF h7] at hE
  have hno:=qra (qnf (of_decide_eq_false h7) (List.mem_cons_self ..)) ho
  have hbf:qe5 ks (98+(fl:Int))=true:=qnf (of_decide_eq_false h7) (List.mem_cons_of_mem _ (List.mem_singleton.2 rfl))
  have hnf:=qra hbf hfr
  clear h7
  refine t7 ?_
  refine qap rfl (by ((refine qac call34 (qrb _ _ ?_) ⟨evS,⟨evS,trivial⟩⟩);all_goals (omega))) ?_
  refine t6 ?_
  intro i10
  refine s1 ?_
  intro i11
  refine t8 ?_
  obtain ⟨nv,hnv⟩:∃ q,qgq ks (cl:Int)=q:=⟨_,rfl⟩
  rw [hnv] at hno ⊢
  obtain ⟨q1,q2,q3,q4⟩:=nv
  dsimp only at hno ⊢
  generalize qfs ks (cl:Int)=nd at hE hno ⊢
  obtain ⟨rfl,hno2⟩:=hno
  clear hnv
  refine t5 ?_
  refine cN ?_ ?_ <;> intro h10
  ·replace hE:=qce hE h10
   refine t12 ?_
   subst hE
   exact qaq (Bs:=[_,_,_,_,_]) results11 eT () SubL.rfl' (List.nil_sublist _)
  rw [ifF h10] at hE
  have hn0:nd.2.2=0:=by simpa using h10
  obtain ⟨he,hnr,hnn,hnl⟩:=hno2 hn0
  simp only [Prod.mk.injEq] at he
  obtain ⟨rfl,rfl,rfl,_⟩:=he
  rw [hn0]
  clear h10 hno2
  refine t5 ?_
  intro i13
  refine t5 ?_
  intro i14
  refine t10 ?_
  refine cN ?_ ?_ <;> intro h14
  ·skip
   refine t5 ?_
   refine qap rfl (by ((refine qac call34 (qrb _ _ ?_) ⟨evS,⟨evS,trivial⟩⟩);all_goals (omega))) ?_
   refine t11 ?_
   obtain ⟨nf,hnv⟩:∃ q,qgq ks (fl:Int)=q:=⟨_,rfl⟩
   rw [hnv] at hnf ⊢
   obtain ⟨g1,g2,g3,g4⟩:=nf
   dsimp only at hnf ⊢
   generalize qfs ks (fl:Int)=ot at hE hnf ⊢
   obtain ⟨rfl,hnf2⟩:=hnf
   clear hnv
   refine t5 ?_
   refine cN ?_ ?_ <;> intro h16
   ·replace hE:=qce hE h16
    refine t12 ?_
    subst hE
    exact qaq (Bs:=[_,_,_,_,_]) results11 eT () SubL.rfl' (List.nil_sublist _)
   rw [ifF h16] at hE
   have hn0':ot.2.2=0:=by simpa using h16
   obtain ⟨he,hfr0,hfn,hfl⟩:=hnf2 hn0'
   simp only [Prod.mk.injEq] at he
   obtain ⟨rfl,rfl,rfl,_⟩:=he
   rw [hn0']
   rw [qng] at hE
   clear h16 hnf2
   refine t6 ?_
   refine kS call35 (qox _) ?_
   refine t11 ?_
   refine cN ?_ ?_ <;> intro h19
   ·exact absurd h19 (by simp)
   skip
   refine t5 ?_
   refine kS call37 (qq1 _ _ hcn) ?_
   refine t5 ?_
   obtain ⟨li,hli'⟩:∃ q,qf8 ot.2.1.sg (qa7 lines)=q:=⟨_,rfl⟩
   rw [hli'] at hE ⊢
   unfold acT at hE
   refine t6 ?_
   refine cN ?_ ?_ <;> intro h28
   ·obtain rfl:li=[]:=List.eq_nil_of_length_eq_zero (by simpa using h28)
    rw [ifT (show decide (([]:List Int).head?.getD (-1)<0)=true from rfl)] at hE
    refine t12 ?_
    subst hE
    exact qaq (Bs:=[_,_,_,_,_]) results11 eT () SubL.rfl' (List.nil_sublist _)
   obtain ⟨x,r,rfl⟩:∃ x r,li=x :: r:=by
    cases li with
    | nil=>exact absurd h28 (by simp)
    | cons x r=>exact ⟨x,r,rfl⟩
   obtain ⟨hx0,hxn⟩:=qwr hli'
   obtain ⟨s,rfl⟩:∃ n:Nat,x=(n:Int):=⟨x.toNat,by omega⟩
   rw [show ((s:Int) :: r).head?.getD (-1)=(s:Int) from rfl,ifF (show decide (((s:Nat):Int)<0)=false from decide_eq_false (by omega))] at hE
   have hs8:0≤(s:Int)∧(s:Int)≤8:=by omega
   have hix:((s:Int) :: r)[0]?=some (s:Int):=rfl
   clear h28 hli'
   refine t4 ?_
   refine qap rfl (by exact qau (j:=0) (er rfl) (er rfl) rfl rfl rf hix) ?_
   refine t8 ?_
   refine kS call39 (qll _ _) ?_
   refine t6 ?_
   intro i18
   refine s1 ?_
   intro i19
   refine t9 ?_
   have hb1:=head_l1 ks (s:Int)
   have hbd:=fun hb=>qxh (ks:=ks) (s:=(s:Int)) hb hs8 (f:=qgs) (z:=if ((qcj (qb6 ks (qas (s:Int)))).1.owner != (fl:Int))=true then qgs 11 else acW ks (cl:Int) inc (s:Int) nd [qvx ot.1 (s:Int)])
   have hgd:=fun hb=>qtr (ks:=ks) (s:=(s:Int)) hb
   obtain ⟨hv,hhv⟩:∃ q,qeg ks (s:Int)=q:=⟨_,rfl⟩
   rw [hhv] at hb1 hbd hgd ⊢
   obtain ⟨p1,p2,p3,p4⟩:=hv
   dsimp only at hb1 hbd hgd ⊢
   subst hb1
   clear hhv
   refine t6 ?_
   refine cN ?_ ?_ <;> intro h32
   ·have hbl:qe5 ks (qas (s:Int))=false:=by simpa using h32
    rw [miss_one hbl,ifT (show decide ((([qas (s:Int)]:List Int).length:Int)>0)=true from rfl)] at hE
    refine t3 ?_
    refine kS call21 (qio _) ?_
    refine qap rfl (qcb (size:=1) (qs:=[(0,_)]) rfl rfl rfl ⟨⟨rfl,_,(er rfl),qbn⟩,trivial⟩ rf rf) ?_
    refine t10 ?_
    subst hE
    exact qaq (Bs:=[_,_,_,_,_]) results11 eT () SubL.rfl' (List.nil_sublist _)
   have hbl:qe5 ks (qas (s:Int))=true:=by simpa using h32
   rw [zbg hbl,ifF (show decide ((([]:List Int).length:Int)>0)=false from rfl)] at hE
   clear h32
   refine t7 ?_
   refine cN ?_ ?_ <;> intro h34
   ·rw [hbd hbl h34] at hE
    refine t13 ?_
    subst hE
    exact qaq (Bs:=[_,_,_,_,_]) results11 eT () SubL.rfl' (List.nil_sublist _)
   obtain ⟨hlk,hrh,hev⟩:=hgd hbl h34
   simp only [Prod.mk.injEq] at hev
   obtain ⟨rfl,rfl,_,rfl⟩:=hev
   rw [ifF hlk,ifF (show ((qcj (qb6 ks (qas (s:Int)))).2 != 0)=false by rw [hrh];rfl)] at hE
   have hwh:=qxi hrh ho
   have hpl:(qb6 ks (qas (s:Int))).l=104+16*(s:Int):=by rw [qf4 hbl];unfold qas;rw [if_pos (by omega)]
   clear h34 hbd hgd
   refine t10 ?_
   refine cN ?_ ?_ <;> intro h36
   ·replace hE:=qce hE h36
    refine t12 ?_
    subst hE
    exact qaq (Bs:=[_,_,_,_,_]) results11 eT () SubL.rfl' (List.nil_sublist _)
   replace hE:=qdr hE h36
   refine t35 ?_
   refine kS call40 (qhf _ (ndS (nd).2.1 s inc)) ?_
   refine t10 ?_
   refine kS call41 (qhm _ (hdS (qcj (qb6 ks (qas (s:Int)))).1 (cl:Int))) ?_
   refine t7 ?_
   unfold acW at hE
   rw [show ndA nd.2.1 (s:Int) inc=ndS nd.2.1 s inc from rfl] at hE
   have hal:=qv6 nd.1 (ndS nd.2.1 s inc)
   obtain ⟨a,ha⟩:∃ a,(qdk nd.1 (ndS nd.2.1 s inc)).1=a:=⟨_,rfl⟩
   rw [ha] at hal hE ⊢
   rw [hwh]
   dsimp only
   obtain ⟨b,hb⟩:∃ b,hdA (qb6 ks (qas (s:Int))) cl=b:=⟨_,rfl⟩
   have hbl':b.l=104+16*(s:Int):=by rw [← hb];exact hpl
   rw [hb] at hE ⊢
   refine t3 ?_
   (refine qzh rfl (qhj (T:=tPg) ([a,b]) (size:=9) (Rs:=[a,b].flatMap tPg.cells) (qs:=[(0,tPg.cells a),(1,tPg.cells b)]) rfl rfl rfl ⟨⟨rfl,_,(er rfl),qbn⟩,⟨⟨rfl,_,(er rfl),qbn⟩,trivial⟩⟩ rf rf SubLs.rfl') ?_;intro i191)
   refine t11 ?_
   refine cN ?_ ?_ <;> intro h44
   ·have hwf:=qx5 (k:=((s:Nat):Int).toNat) hfr0 (by omega)
    rw [← hfn] at hwf
    refine t7 ?_
    refine qap rfl (by exact qea ql1 ql1 (by simp) (qqa _ _)) ?_
    refine t8 ?_
    refine kS call40 (qhf _ ({ ot.2.1 with sg:=ot.2.1.sg &&& ~~~(BitVec.ofInt 32 1<<<((s:Nat):Int).toNat) })) ?_
    refine t6 ?_
    rw [hwf]
    dsimp only
    refine t3 ?_
    refine qap rfl (qcb (size:=9) (qs:=[(0,_)]) rfl rfl rfl ⟨⟨rfl,_,(er rfl),qbn⟩,trivial⟩ rf rf) ?_
    (refine qe6 rfl (qb9 (er rfl) (fun _=>qae) (by exact Ev.sub rfl (by exact SubL.row (xs:=[qvx ot.1 s]) rf rf qev)) (by exact qep rfl rfl rfl) qbt) ?_;intro i211)
    refine t6 ?_
    (refine qe6 rfl (by ((refine qdy qbh call42 (qje ([a,b]++[qvx ot.1 s]) 3 i211 rfl ?_) ⟨evS,trivial⟩);all_goals (simp))) ?_;intro i213)
    refine t9 ?_
    obtain ⟨ys,hy1,hy2⟩:=i213
    dsimp only
    have hy:=asc3 hy1 hy2 (by omega) (show (ot.1).l<b.l by omega) (show (ot.1).l≠a.l by omega)
    rw [← hy] at hE
    refine qee hX (v:=slV 3 i211) qae ?_
    subst hE
    exact qaq (Bs:=[qal tI64 [],qal tPg ys,Is (.int .i64 (s:Nat)),Is (.int .i64 0),Is (.bool true)]) results11 eT () SubL.rfl' (List.nil_sublist _)
   exact absurd h44 (by simp)
  exact absurd h14 (by simp)
 exact absurd h4 (by simp)
theorem AcquireP_ok (ks:List Pg) (o inc lines fr:Int) :
  FnP Tryz.prog 11 [IsAgg [Is (.int .i64 o),Is (.int .i64 inc),Is (.int .i64 lines),Is (.int .i64 fr)],qal tPg ks] (qbv [qal tI64 (acR ks o inc lines fr).need,qal tPg (acR ks o inc lines fr).writes,Is (.int .i64 (acR ks o inc lines fr).s),Is (.int .i64 (acR ks o inc lines fr).code),Is (.bool (acR ks o inc lines fr).over)]):=by
 by_cases h:fr = -1
 ·subst h;exact AcqN_ok ks o inc lines
 ·exact AcqY_ok ks o inc lines fr h
theorem KnownH_ok (H:List Pg) (mask:BitVec 64) (hH:H.length≤10000):FnP Tryz.prog 10 [qal tPg H,Is (.int .u64 (UV mask))] (qek (fun r:List Pg=>r.length≤H.length) fun r=>qal tPg r):=by
 refine FnP.enter func10 ntmps10 rfl rfl ?_
 intro c hX
 refine qgn (t:=0) rfl (fun hlen=>?_)
 refine t17 ?_
 refine qcn 53 tPg ?_
 refine qaz [(0,_),(1,_),(4,_)] [] (fun y:Nat×(List Pg)×(Option Addr×Nat)=>y.1≤(H).length∧(y.2.1.length≤y.1)) (fun y=>[(5,Is (slV (y.2.1).length y.2.2)),(6,Is (.int .i64 (y.1:Nat)))]) (fun y=>[buf (slV (y.2.1).length y.2.2) 53 tPg (y.2.1)]) (fun y=>(H).length-y.1) (0,[],(none,0)) ?_ qah qab ?_
 ·exact ⟨by exact Nat.zero_le _,Nat.le_refl 0⟩
 rintro ⟨k,ws,v_0⟩ ⟨hk,hI⟩
 dsimp only at hk hI ⊢
 refine t9 ?_
 refine cN ?_ ?_ <;> intro h3
 ·have hlt:k<(H).length:=by have:=of_decide_eq_true h3;omega
  clear h3
  obtain ⟨z,hz⟩:∃ q,(H)[k]?=some q:=⟨_,List.getElem?_eq_getElem hlt⟩
  refine t15 ?_
  refine cN ?_ ?_ <;> intro h5
  ·refine t6 ?_
   refine qap rfl (qad (size:=9) (qs:=[(0,_)]) rfl rfl rfl ⟨⟨rfl,_,(er rfl),qaf⟩,trivial⟩ rf rf) ?_
   (refine qe6 rfl (qb9 (er rfl) (fun _=>qae) (by exact Ev.sub rfl (by exact SubL.row (xs:=[z]) rf rf qv8)) (by exact qep rfl rfl rfl) qbt) ?_;intro i26)
   refine t9 ?_
   refine qaa (k+1,_,i26) ?_ ?_ qah qab
   ·exact ⟨by omega,by (simp;omega)⟩
   ·exact (by omega)
  refine t8 ?_
  refine qaa (k+1,_,v_0) ?_ ?_ qah qab
  ·exact ⟨by omega,by (simp;omega)⟩
  ·exact (by omega)
 have hke:k=(H).length:=by have:=of_decide_eq_false h3;omega
 clear h3
 subst hke
 refine qa8 hX (v:=slV ws.length v_0) qae ?_
 refine qb0 5 (qal tPg ws) rfl (SubL.fact qbp) ?_
 refine t12 ?_
 exact rXF _ results10 (hp:=by exact hI) (hD0:=hX.2)
def pgF (H:List Pg) (x:Int):Pg:=if x-96<(H.length:Int) then (H[(x-96).toNat]?).getD Pg.nil else ⟨x,256#64,0#64,0#64,0#64,0#64,0#64,0#64,0#64⟩
theorem pgF_in {H:List Pg} {x:Int} {p:Pg} (h:x-96<(H.length:Int)) (hp:H[(x-96).toNat]?=some p):pgF H x=p:=by unfold pgF;rw [if_pos h,hp];rfl
theorem zas {H:List Pg} {x:Int} (h:¬ x-96<(H.length:Int)):pgF H x=⟨x,256#64,0#64,0#64,0#64,0#64,0#64,0#64,0#64⟩:=if_neg h
theorem zbj {H:List Pg} {ls:List Int} {k:Nat} {z:Int} (h:ls[k]?=some z):(ls.take (k+1)).map (pgF H)=(ls.take k).map (pgF H)++[pgF H z]:=by
 rw [List.take_add_one,h,List.map_append];rfl
theorem FetchH_ok (ks H:List Pg) (nd:List Int) (hkl:ks.length≤10000) (hnl:nd.length≤10000) (hg:∀ x,x∈nd→qe5 ks x=false∧96≤x∧x≤300) (ha:nd.Pairwise (· < ·)):FnP Tryz.prog 16 [qal tPg ks,qal tPg H,qal tI64 nd] (qbv [qal tPg (ks++nd.map (pgF H)),Is (.bool (decide ((nd.length:Int)>0)))]):=by
 refine FnP.enter func16 ntmps16 rfl rfl ?_
 intro c hX
 refine qgn (t:=1) rfl (fun hlen=>?_)
 refine t8 ?_
 (refine qzh rfl (qbx tPg rfl rfl) ?_;intro i14)
 refine s1 ?_
 (refine qe6 rfl (qb9 (er rfl) (fun _=>qae) qar (by exact qep rfl rfl rfl) qbt) ?_;intro i16)
 refine t5 ?_
 rw [show ([]++ks:List Pg)=ks++(nd.take 0).map (pgF H) by simp]
 refine t5 ?_
 refine qaz [(0,_),(1,_),(2,_),(6,_),(7,_)] [] (fun y:Nat×(Option Addr×Nat)=>y.1≤(nd).length) (fun y=>[(8,Is (slV (ks++(nd.take y.1).map (pgF H)).length y.2)),(9,Is (.int .i64 (y.1:Nat)))]) (fun y=>[buf (slV (ks++(nd.take y.1).map (pgF H)).length y.2) 53 tPg (ks++(nd.take y.1).map (pgF H))]) (fun y=>(nd).length-y.1) (0,i16) (Nat.zero_le _) qde qab ?_
 rintro ⟨k,v_0⟩ hk
 dsimp only at hk ⊢
 refine t9 ?_
 refine cN ?_ ?_ <;> intro h3
 ·have hlt:k<(nd).length:=by have:=of_decide_eq_true h3;omega
  clear h3
  obtain ⟨z,hz⟩:∃ q,(nd)[k]?=some q:=⟨_,List.getElem?_eq_getElem hlt⟩
  have hmt:(ks++(nd.take k).map (pgF H))++[pgF H z]=ks++(nd.take (k+1)).map (pgF H):=by rw [zbj hz,List.append_assoc]
  obtain ⟨hg1,hg2,hg3⟩:=hg z (List.mem_of_getElem? hz)
  obtain ⟨q,hq0⟩:∃ q,nd.getD (k-1) 0=q:=⟨_,rfl⟩
  have hq:0<k→nd[k-1]?=some q:=fun h=>by rw [← hq0,List.getD_eq_getElem?_getD,List.getElem?_eq_getElem (by omega)];rfl
  have hqz:0<k→q<z:=fun h=>by
   have h1:=List.pairwise_iff_getElem.1 ha (k-1) k (by omega) (by omega) (by omega)
   have h2:=(List.getElem?_eq_some_iff.1 (hq h)).2
   have h3:=(List.getElem?_eq_some_iff.1 hz).2
   rw [h2,h3] at h1
   exact h1
  have hml:(ks++(nd.take k).map (pgF H)).length≤20000:=by simp;omega
  refine t22 ?_
  refine kRF call19 (qbu _ _) ?_
  refine t4 ?_
  intro i11
  refine t5 ?_
  refine qa0 rfl (by kernel_rfl) ?_
  refine qag 21 (by kernel_rfl) ?_
  refine t8 ?_
  (refine JW_i rfl rfl (fun hp hg=>(by have hpg:=Bool.and_eq_true_iff.2 ⟨hp,hg⟩;have hg0:=hg;(try simp at hg);exact qau (j:=k-1) evG evG rfl rfl (by omega) (hq (by omega)))) ?_)
  refine t12 ?_
  refine ⟨rfl,?_⟩
  refine qat ?_
  refine s1 ?_
  refine cN ?_ ?_ <;> intro h7
  ·exact absurd h7 (by
    rw [hg1,Bool.false_or,decide_eq_false (show ¬ z-96<0 by omega),Bool.or_false]
    by_cases hk0:0<k
    ·rw [decide_eq_false (show ¬ q≥z by have:=hqz hk0;omega),Bool.and_false];decide
    ·rw [decide_eq_false (show ¬ (k:Int)>0 by omega),Bool.false_and];decide)
  refine t10 ?_
  intro i13
  refine t12 ?_
  refine qb3 [(0,_),(1,_),(2,_),(6,_),(7,_),(8,_),(9,_),(10,_),(11,_),(12,_),(13,_),(17,_),(18,_),(19,_),(23,_),(24,_),(25,_),(26,_),(27,_),(28,_),(29,_),(30,_),(31,_),(32,_),(33,_),(34,_),(35,_),(36,_),(37,_),(38,_),(39,_),(40,_),(41,_),(42,_),(43,_),(44,_),(45,_),(46,_),(47,_),(48,_),(49,_),(50,_),(51,_),(52,_),(53,_),(54,_),(55,_),(56,_),(58,_),(59,_),(60,_),(61,_),(62,_),(63,_),(64,_),(65,_)] [blk i11 _ _,buf _ _ _ _] (fun yc:Pg=>yc=pgF H z) (fun yc=>[]) (fun yc=>[blk i13 53 (tPg.cells yc)]) qde qab ?_ ?_
  rotate_left
  focus
   refine cN ?_ ?_ <;> intro h10
   ·obtain ⟨p0,hzp⟩:∃ q,H[(z-96).toNat]?=some q:=⟨_,List.getElem?_eq_getElem (by have:=of_decide_eq_true h10;omega)⟩
    have hpa:=(pgF_in (of_decide_eq_true h10) hzp).symm
    refine t3 ?_
    refine qap rfl (by exact qau (j:=(z-96).toNat) (er rfl) (er rfl) rfl rfl (by omega) hzp) ?_
    refine t3 ?_
    refine qam (b:=i13) (As':=tPg.cells p0) qae qba ?_
    refine qak p0 ?_ qde qab
    ·exact hpa
   have hpb:=(zas (of_decide_eq_false h10)).symm
   refine s1 ?_
   refine qam (b:=i13) (As':=tPg.cells (⟨z,256#64,0#64,0#64,0#64,0#64,0#64,0#64,0#64⟩:Pg)) qae qba ?_
   refine qak (⟨z,256#64,0#64,0#64,0#64,0#64,0#64,0#64,0#64⟩:Pg) ?_ qde qab
   ·exact hpb
  rintro p rfl
  refine t3 ?_
  refine qap rfl (qad (size:=9) (qs:=[(0,_)]) rfl rfl rfl ⟨⟨rfl,_,(er rfl),qaf⟩,trivial⟩ rf rf) ?_
  (refine qe6 rfl (qb9 (er rfl) (fun _=>qae) (by exact Ev.sub rfl (by exact SubL.row (xs:=[pgF H z]) rf rf qv8)) (by exact qep rfl rfl rfl) qbt) ?_;intro i74)
  refine t9 ?_
  rw [hmt]
  exact qaa (k+1,i74) (by omega) (by omega) qde qab
 have hke:k=(nd).length:=by have:=of_decide_eq_false h3;omega
 clear h3
 subst hke
 (try rw [List.take_length])
 refine qa8 hX (v:=slV _ v_0) qae ?_
 refine t16 ?_
 exact qaq (Bs:=[qal tPg (ks++nd.map (pgF H)),Is (.bool (decide ((nd.length:Int)>0)))]) results16 eRF () SubL.rfl' (List.nil_sublist _)
def relS (ks:List Pg) (lines:Int):List Pt→List Pg→S19
 | [],w=>{ S19.nil with over:=true,writes:=w }
 | p :: r,w =>
  if qeo (qb6 ks p.line)=true then qgs 3 else
  if (qh1 (qb6 ks p.line).d0==0||qm3 (qb6 ks p.line).d0 != p.gen)=true then qgs 11 else
  if qeo (qb6 (qcx ks w) (qas (qg9 lines p.line).1))=true then qgs 3 else
  if ((qcj (qb6 (qcx ks w) (qas (qg9 lines p.line).1))).2 != 0||UV ((qcj (qb6 (qcx ks w) (qas (qg9 lines p.line).1))).1.used>>>(qg9 lines p.line).2.1.toNat&&&BitVec.ofInt 32 1)==0)=true then qgs 14 else
  relS ks lines r (qcx w [(relR (qb6 ks p.line)).1,qvx (qb6 (qcx ks w) (qas (qg9 lines p.line).1)) (qg9 lines p.line).2.1])
def frC (ks:List Pg) (lines:Int) (all:List Pt) (ask:List Int):S19:=
 if decide (((qdu ks ask).length:Int)>0)=true then qre (qdu ks ask) else relS ks lines all []
def frD (ks:List Pg) (lines:Int) (all:List Pt):List Pt→List Pt→List Int→S19
 | _,[],ask=>frC ks lines all ask
 | pre,p :: r,ask =>
  if (!(qg9 lines p.line).2.2 || !qdz p)=true then qgs 1 else
  if pre.any (fun q=>q.line==p.line)=true then qgs 1 else
  frD ks lines all (pre++[p]) r (ask++[p.line,qas (qg9 lines p.line).1])
def freR (ks:List Pg) (lines:Int) (l:List Pt):S19:=
 if ((!clB 0 lines||decide ((l.length:Int)<1))||decide ((l.length:Int)>3))=true then qgs 1 else frD ks lines l [] l []
theorem any_at {α:Type} {p:α→Bool} {xs:List α} {k:Nat} {x:α} (h:xs[k]?=some x) (he:p x=true):xs.any p=true:=List.any_eq_true.2 ⟨x,List.mem_iff_getElem?.2 ⟨k,h⟩,he⟩
theorem any_no {α:Type} {p:α→Bool} {xs:List α} {k:Nat} {x:α} (h:xs[k]?=some x) (h0:(xs.take k).any p=false) (he:p x=false):(xs.take (k+1)).any p=false:=by
 rw [List.take_add_one,h,List.any_append,h0]
 simp [he]
theorem loc_rng (lines x:Int):0≤(qg9 lines x).2.1∧(qg9 lines x).2.1≤15:=by unfold qg9;split <;> (dsimp only;omega)
theorem FreeR_ok (ks:List Pg) (lines:Int) (l:List Pt) (hks:ks.length≤10000):FnP Tryz.prog 29 [Is (.int .i64 lines),qal tPt l,qal tPg ks] (qza (freR ks lines l)):=by
 obtain ⟨W,hE⟩:∃ W,freR ks lines l=W:=⟨_,rfl⟩
 rw [hE]
 unfold freR at hE
 refine FnP.enter func29 ntmps29 rfl rfl ?_
 intro c hX
 refine t3 ?_
 intro i6
 refine t6 ?_
 refine kR call43 (qfz _ _) ?_
 refine t13 ?_
 refine cN ?_ ?_ <;> intro h1
 ·replace hE:=qce hE h1
  refine t2 ?_
  refine kR call44 (qcr _) ?_
  refine t5 ?_
  subst hE
  exact qaq (Bs:=[_]) results29 eR () SubL.rfl' (List.nil_sublist _)
 rw [ifF h1] at hE
 have hcl:(104≤lines∧lines≤256)∧1≤l.length∧l.length≤3:=by unfold clB at h1;simp at h1;omega
 obtain ⟨hli,hll⟩:=hcl
 clear h1
 refine t14 ?_
 refine qcn 3 tI64 ?_
 refine qaz [(0,_),(1,_),(2,_),(6,_)] [blk i6 _ _] (fun y:Nat×(List Int)×(Option Addr×Nat)=>y.1≤(l).length∧(y.2.1.length≤2*y.1)∧frD ks lines l (List.take y.1 l) (List.drop y.1 (l)) y.2.1=W) (fun y=>[(7,Is (slV (y.2.1).length y.2.2)),(8,Is (.int .i64 (y.1:Nat)))]) (fun y=>[buf (slV (y.2.1).length y.2.2) 3 tI64 (y.2.1)]) (fun y=>(l).length-y.1) (0,[],(none,0)) ⟨by exact Nat.zero_le _,Nat.le_refl 0,hE⟩ qe8 qab ?_
 clear hE
 rintro ⟨k,ask,v_0⟩ ⟨hk,hI,hE⟩
 dsimp only at hk hI hE ⊢
 refine t9 ?_
 refine cN ?_ ?_ <;> intro h5
 ·have hlt:k<(l).length:=by have:=of_decide_eq_true h5;omega
  clear h5
  obtain ⟨z,hz⟩:∃ q,(l)[k]?=some q:=⟨_,List.getElem?_eq_getElem hlt⟩
  rw [qjc hz,frD] at hE
  (try dsimp only at hE)
  refine t12 ?_
  refine kR call64 (qmk _ _) ?_
  refine t18 ?_
  (refine qcq rfl rfl rfl (fun hg=>(by have hg0:=hg;(try simp at hg);exact qcm (n:=2) evG rfl rfl rfl rf qbo)) ?_)
  (refine qcq rfl rfl rfl (fun hg=>(by have hg0:=hg;(try simp at hg);exact qac call70 (qb8 _) ⟨evR,trivial⟩)) ?_)
  refine t4 ?_
  refine cN ?_ ?_ <;> intro h8
  ·replace hE:=qce hE h8
   refine t2 ?_
   refine kR call44 (qcr _) ?_
   refine t10 ?_
   subst hE
   exact qaq (Bs:=[_]) results29 eR () SubL.rfl' (List.nil_sublist _)
  replace hE:=qdr hE h8
  refine t9 ?_
  obtain ⟨n,hn⟩:∃ n,n=k:=⟨_,rfl⟩
  refine qaz [(0,_),(1,_),(2,_),(6,_),(7,_),(8,_),(9,_),(11,_),(41,_),(42,_),(43,_),(47,_),(48,_),(49,_),(50,_),(51,_),(52,_),(53,_),(54,_),(55,_),(56,_),(57,_),(58,_),(59,_),(60,_),(61,_),(62,_),(63,_),(64,_),(65,_),(66,_)] [blk i6 _ _,buf _ _ _ _] (fun ka:Nat=>ka≤n∧((List.take ka (List.take k l)).any (fun q=>q.line==z.line)=false)) (fun ka=>[(12,Is (.int .i64 (ka:Nat)))]) (fun ka=>[]) (fun ka=>n-ka) 0 ⟨by exact Nat.zero_le _,rfl⟩ qe8 qab ?_
  rintro ka ⟨hka,hIa⟩
  refine t8 ?_
  refine cN ?_ ?_ <;> intro h11
  ·have hlta:ka<n:=by have:=of_decide_eq_true h11;omega
   clear h11
   have hza:l[ka]?=some (l[ka]'(by omega)):=List.getElem?_eq_getElem (by omega)
   obtain ⟨y,hy⟩:∃ y,l[ka]'(by omega)=y:=⟨_,rfl⟩
   rw [hy] at hza
   have hzt:(List.take k l)[ka]?=some y:=by rw [List.getElem?_take_of_lt (by omega)];exact hza
   refine t5 ?_
   refine qa0 rfl (by kernel_rfl) ?_
   refine qag 11 (by kernel_rfl) ?_
   refine t2 ?_
   refine qbc (by exact qau (j:=_) (er rfl) (er rfl) rfl rfl rf hza) ?_
   refine t8 ?_
   refine ⟨rfl,?_⟩
   refine qat ?_
   refine s1 ?_
   refine cN ?_ ?_ <;> intro h13
   ·rw [ifT (any_at hzt h13)] at hE
    refine t2 ?_
    refine kR call44 (qcr _) ?_
    refine t14 ?_
    subst hE
    exact qaq (Bs:=[_]) results29 eR () SubL.rfl' (List.nil_sublist _)
   have hr:=any_no hzt hIa h13
   refine t8 ?_
   exact qaa (ka+1) ⟨by omega,hr⟩ (by omega) qe8 qab
  have hkea:ka=n:=by have:=of_decide_eq_false h11;omega
  clear h11
  subst hkea
  (try rw [List.take_length])
  (try rw [List.take_length] at hIa)
  rw [hn,List.take_take,Nat.min_self] at hIa
  refine t5 ?_
  refine qa0 rfl (by kernel_rfl) ?_
  refine qag 9 (by kernel_rfl) ?_
  refine t7 ?_
  refine qbc (qac call48 (qb2 _) ⟨evR,trivial⟩) ?_
  refine qbc (qad (size:=1) (qs:=[(0,_),(1,_)]) rfl rfl rfl ⟨⟨rfl,_,(er rfl),qbn⟩,⟨⟨rfl,_,(er rfl),qbn⟩,trivial⟩⟩ rf rf) ?_
  refine ⟨rfl,?_⟩
  (refine JD_s (by kernel_rfl) rfl rfl (qb9 (er rfl) (fun _=>qae) (by exact Ev.sub rfl (by exact SubL.row (xs:=[z.line,qas (qg9 lines z.line).1]) rf rf ql5)) (by exact qep rfl rfl rfl) qbt) ?_;intro i95)
  refine JD_1 (by kernel_rfl) rfl rfl (qeb rfl) ?_
  refine qat ?_
  refine t7 ?_
  rw [ifF hIa,show List.take k l++[z]=List.take (k+1) l by rw [List.take_add_one,hz];rfl] at hE
  exact qaa (k+1,_,i95) ⟨by omega,by simp;omega,hE⟩ (by dsimp only;omega) qe8 qab
 have hke:k=(l).length:=by have:=of_decide_eq_false h5;omega
 clear h5
 subst hke
 rw [List.drop_length,frD] at hE
 (try dsimp only at hE)
 unfold frC at hE
 refine qa8 hX (v:=slV ask.length v_0) qae ?_
 refine qb0 7 (qal tI64 ask) rfl subR ?_
 refine t9 ?_
 refine qap rfl (by ((refine qac call45 (qgy _ ask ?_) ⟨evR,⟨evR,trivial⟩⟩);all_goals (omega))) ?_
 refine t11 ?_
 refine cN ?_ ?_ <;> intro h17
 ·replace hE:=qce hE h17
  refine t9 ?_
  subst hE
  exact qaq (Bs:=[_]) results29 eR () SubL.rfl' (List.nil_sublist _)
 replace hE:=qdr hE h17
 refine t14 ?_
 refine qaz [(0,_),(1,_),(2,_),(6,_)] [blk i6 _ _] (fun y:Nat×(List Pg)=>y.1≤(l).length∧(y.2.length≤2*y.1)∧relS ks lines (List.drop y.1 (l)) y.2=W) (fun y=>[(14,qal tPg y.2),(15,Is (.int .i64 (y.1:Nat)))]) (fun y=>[]) (fun y=>(l).length-y.1) (0,[]) ⟨by exact Nat.zero_le _,Nat.le_refl 0,hE⟩ qe8 qab ?_
 clear hE
 rintro ⟨k,w⟩ ⟨hk,hI,hE⟩
 dsimp only at hk hI hE ⊢
 refine t9 ?_
 refine cN ?_ ?_ <;> intro h21
 ·have hlt:k<(l).length:=by have:=of_decide_eq_true h21;omega
  clear h21
  obtain ⟨z,hz⟩:∃ q,(l)[k]?=some q:=⟨_,List.getElem?_eq_getElem hlt⟩
  rw [qjc hz,relS] at hE
  (try dsimp only at hE)
  have hlr:=loc_rng lines z.line
  refine t12 ?_
  refine kR call19 (qbu _ _) ?_
  refine t4 ?_
  intro i16
  refine t5 ?_
  generalize qb6 ks z.line=p at hE ⊢
  refine t7 ?_
  refine kR call64 (qmk _ _) ?_
  refine t11 ?_
  generalize qg9 lines z.line=lo at hE hlr ⊢
  refine t2 ?_
  refine kR call49 (qb5 _) ?_
  refine t2 ?_
  refine cN ?_ ?_ <;> intro h25
  ·replace hE:=qce hE h25
   refine t2 ?_
   refine kR call44 (qcr _) ?_
   refine t10 ?_
   subst hE
   exact qaq (Bs:=[_]) results29 eR () SubL.rfl' (List.nil_sublist _)
  replace hE:=qdr hE h25
  refine t4 ?_
  refine qa0 rfl (by kernel_rfl) ?_
  refine qag 13 (by kernel_rfl) ?_
  refine s1 ?_
  refine qbc (qac call63 (qel _) ⟨evR,trivial⟩) ?_
  refine t3 ?_
  (refine qem rfl rfl (fun hg=>(by have hg0:=hg;(try simp at hg);exact qac call26 (qg8 _) ⟨evR,trivial⟩)) ?_)
  refine t7 ?_
  refine ⟨rfl,?_⟩
  refine qat ?_
  refine s1 ?_
  refine cN ?_ ?_ <;> intro h27
  ·replace hE:=qce hE h27
   refine t2 ?_
   refine kR call44 (qcr _) ?_
   refine t10 ?_
   subst hE
   exact qaq (Bs:=[_]) results29 eR () SubL.rfl' (List.nil_sublist _)
  replace hE:=qdr hE h27
  refine t6 ?_
  refine qap rfl (by ((refine qac call52 (qlx ks w ?_) ⟨evR,⟨evR,trivial⟩⟩);all_goals (omega))) ?_
  refine s1 ?_
  refine kR call48 (qb2 _) ?_
  refine kR call19 (qbu _ _) ?_
  refine t4 ?_
  intro i21
  refine t6 ?_
  generalize qb6 (qcx ks w) (qas lo.1)=q at hE ⊢
  refine t2 ?_
  refine kR call49 (qb5 _) ?_
  refine t2 ?_
  refine cN ?_ ?_ <;> intro h30
  ·replace hE:=qce hE h30
   refine t2 ?_
   refine kR call44 (qcr _) ?_
   refine t10 ?_
   subst hE
   exact qaq (Bs:=[_]) results29 eR () SubL.rfl' (List.nil_sublist _)
  replace hE:=qdr hE h30
  refine t5 ?_
  refine kR call50 (qf6 _) ?_
  refine t4 ?_
  intro i23
  refine t6 ?_
  generalize qcj q=hh at hE ⊢
  refine t8 ?_
  (refine qcq rfl rfl rfl (fun hg=>(by have hg0:=hg;(try simp at hg);exact qex (k:=lo.2.1.toNat) qiw evG (by omega) qca)) ?_)
  refine t5 ?_
  refine cN ?_ ?_ <;> intro h33
  ·replace hE:=qce hE h33
   refine t2 ?_
   refine kR call44 (qcr _) ?_
   refine t10 ?_
   subst hE
   exact qaq (Bs:=[_]) results29 eR () SubL.rfl' (List.nil_sublist _)
  replace hE:=qdr hE h33
  refine t9 ?_
  refine qap rfl (by exact qd5 (k:=lo.2.1.toNat) qgi (er rfl) (by omega) qca) ?_
  refine t9 ?_
  refine kR call71 (qv0 _) ?_
  refine t4 ?_
  intro i25
  refine t4 ?_
  generalize relR p=rr at hE ⊢
  refine t4 ?_
  refine qap rfl (qad (size:=9) (qs:=[(0,_),(1,_)]) rfl rfl rfl ⟨⟨rfl,_,(er rfl),qbn⟩,⟨⟨rfl,_,(er rfl),qbn⟩,trivial⟩⟩ rf rf) ?_
  refine qap rfl (by ((refine qac call52 (qlx w [rr.1,qvx q lo.2.1] ?_) ⟨evR,⟨evR,trivial⟩⟩);all_goals (simp;omega))) ?_
  refine t9 ?_
  exact qaa (k+1,_) ⟨by omega,by have h:=qai w [rr.1,qvx q lo.2.1];simp only [List.length_cons,List.length_nil] at h;exact Nat.le_trans h (by omega),hE⟩ (by omega) qe8 qab
 have hke:k=(l).length:=by have:=of_decide_eq_false h21;omega
 clear h21
 subst hke
 rw [List.drop_length,relS] at hE
 (try dsimp only at hE)
 refine t13 ?_
 subst hE
 exact qaq (Bs:=[_]) results29 eR () SubL.rfl' (List.nil_sublist _)
end Go.Proofs.YtmgoplaamlignaaGreat
