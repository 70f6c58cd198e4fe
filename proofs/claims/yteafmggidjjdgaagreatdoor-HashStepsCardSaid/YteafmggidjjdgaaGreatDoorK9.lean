/- Walks of functions and plain laws, laid together. Own work. -/
import Derived.Test.YteafmggidjjdgaaGreatDoorK8
namespace Go.Proofs.YteafmggidjjdgaaGreatDoor
open Go.RowKit Tryz
set_option linter.unusedVariables false
set_option linter.unusedSimpArgs false
set_option maxRecDepth 100000
set_option maxHeartbeats 4000000
@[reducible] def qfd:Item:=fact (.pointer (some ⟨0,0,none⟩)) (IsRef (tPt.cells Pt.nil))
theorem qrv (p:Pt):FnK prog 173 qfd [qh6 p] (Ib (qc9 p)):=by
 refine Fn.enterN func173 ntmps173 rfl rfl ?_;intro c hX;refine t3 ?_;intro i1;refine t6 ?_;refine qao rfl (qa6 (n:=2) (Ev.sub rfl (SubL.fact qba)) rfl rfl rfl rf qbx) ?_;refine qao rfl (qb0 (vs:=Pt.cells p) (ws:=Pt.cells Pt.nil) (er rfl) (er rfl) (qct _ _ _ p Pt.nil) (qek p Pt.nil)) ?_;refine t2 ?_;(refine qcg rfl rfl rfl (fun hg=>(by have hg0:=hg;(try simp at hg);exact qac call50 (qhz _) ⟨evS,trivial⟩)) ?_);refine t5 ?_;refine rB results173 rfl ?_;rfl
theorem qko (x:BitVec 32):FnP prog 111 [Is (.int .u32 (UV x))] (qbs [qh6 (qbb x),Ib (okW x)]):=by
 refine FnP.enter func111 ntmps111 rfl rfl ?_;intro c hX;refine t3 ?_;intro i2;refine t6 ?_;refine kS call172 (qv2 _) ?_;refine s1 ?_;intro i4;refine Z38 ?_;refine qc1 (it:=blk i2 _ _) (by repeat (first|exact Drop1.here _ _|apply Drop1.next)) ?_;refine qcz (its:=[_]) 9 kr ?_;refine t5 ?_;(refine qch rfl rfl (fun hg=>(by have hg0:=hg;(try simp at hg);exact qac call50 (qhz _) ⟨evS,trivial⟩)) ?_);refine s1 ?_;refine qdm (s:=14) rfl rfl rfl kr (fun c'=>by exact qat (er rfl) (er rfl) qa5 qaf rf rf rf) ?_;refine s1 ?_;refine ⟨rfl,?_⟩;intro _;refine Z33 ?_;exact qbq (Bs:=[qh6 (qbb x),Ib (okW x)]) results111 eT () SubL.rfl' (List.nil_sublist _)
theorem za2 (d:Int) (h:0<=d∧d<=5):FnP prog 174 [Ii d] (Ii (qfs d)):=by
 have h6:d=0∨d=1∨d=2∨d=3∨d=4∨d=5:=om;refine FnP.enter func174 ntmps174 rfl rfl ?_;intro c hX;refine t11 ?_;refine qao rfl (op_max (er rfl) (er rfl)) ?_;refine t4 ?_;refine rB results174 rfl ?_;rcases h6 with rfl|rfl|rfl|rfl|rfl|rfl <;> rfl
def zb6 (d i:Int) (p:Pt):Bool:=qc9 p && !(decide (p=Pt.nil)&&decide (i<qfs d))
def zeg (r:Rt) (j:Nat):Bool:=match j with
 | 0=>zb6 r.depth 0 r.p0
 | 1=>zb6 r.depth 1 r.p1
 | 2=>zb6 r.depth 2 r.p2
 | _=>zb6 r.depth 3 r.p3
def qnv (r:Rt):Bool:=qbt r.first&&decide (0<=r.depth)&&decide (r.depth<=5)
def qh2 (r:Rt):Bool:=if r.first=Pt.nil then decide (r=Rt.nil) else qnv r&&zeg r 0&&zeg r 1&&zeg r 2&&zeg r 3
theorem qss {d i:Int} {p:Pt} (h:(!qc9 p||decide (p=Pt.nil)&&decide (i<qfs d))=true):zb6 d i p=false:=by
 unfold zb6;revert h;cases qc9 p <;> cases decide (p=Pt.nil) <;> cases decide (i<qfs d) <;> simp
theorem qox {d i:Int} {p:Pt} (h:(!qc9 p||decide (p=Pt.nil)&&decide (i<qfs d))=false):zb6 d i p=true:=by
 unfold zb6;revert h;cases qc9 p <;> cases decide (p=Pt.nil) <;> cases decide (i<qfs d) <;> simp
theorem qoy {d i:Int} {p:Pt} (h:(!qc9 p||decide (i<qfs d)&&decide (p=Pt.nil))=true):zb6 d i p=false:=by
 unfold zb6;revert h;cases qc9 p <;> cases decide (p=Pt.nil) <;> cases decide (i<qfs d) <;> simp
theorem qmt {d i:Int} {p:Pt} (h:(!qc9 p||decide (i<qfs d)&&decide (p=Pt.nil))=false):zb6 d i p=true:=by
 unfold zb6;revert h;cases qc9 p <;> cases decide (p=Pt.nil) <;> cases decide (i<qfs d) <;> simp
theorem qie {Q:Nat->Bool} {k:Nat} (h:∀ j,j<k->Q j=true) (h1:Q k=true):∀ j,j<k+1->Q j=true:=fun j hj=>by
 by_cases e:j=k
 ·rw [e];exact h1
 ·exact h j om
theorem qpl {r:Rt} (hn:r.first≠Pt.nil) (h:qnv r=false):qh2 r=false:=by unfold qh2;rw [if_neg hn,h];rfl
theorem qyx {r:Rt} (hn:r.first≠Pt.nil) (h:zeg r 0=false∨zeg r 1=false∨zeg r 2=false∨zeg r 3=false):qh2 r=false:=by
 unfold qh2;rw [if_neg hn];rcases h with h|h|h|h <;> rw [h] <;> simp
theorem zdf {r:Rt} (hn:r.first≠Pt.nil) (hh:qnv r=true) (h:∀ j,j<4->zeg r j=true):qh2 r=true:=by
 unfold qh2;rw [if_neg hn,hh,h 0 om,h 1 om,h 2 om,h 3 om];rfl
theorem qoj (r:Rt):FnK prog 112 qfd [qwl r] (Ib (qh2 r)):=by
 refine Fn.enterN func112 ntmps112 rfl rfl ?_;intro c hX;refine t3 ?_;intro i1;refine t8 ?_;refine qao rfl (qa6 (n:=2) (Ev.sub rfl (SubL.fact qba)) rfl rfl rfl rf qbx) ?_;refine qao rfl (qb0 (vs:=Pt.cells r.first) (ws:=Pt.cells Pt.nil) (er rfl) (er rfl) (qct _ _ _ r.first Pt.nil) (qek r.first Pt.nil)) ?_;refine t2 ?_;refine cN ?_ ?_<;>intro h1
 ·have hn:r.first=Pt.nil:=of_decide_eq_true h1;refine t4 ?_;refine qao rfl (qb0 (vs:=Rt.cells r) (ws:=Rt.cells Rt.nil) (er rfl) (er rfl) (zbk _ _ _ r Rt.nil) (eqRt_eql r Rt.nil)) ?_;refine t5 ?_;refine rB results112 rfl ?_;unfold qh2;rw [if_pos hn]
 have hn:r.first≠Pt.nil:=of_decide_eq_false h1;refine t7 ?_;refine kS call50 (qhz _) ?_;refine t13 ?_;refine cN ?_ ?_<;>intro h3
 ·refine t7 ?_;refine rB results112 rfl ?_;rw [qpl hn (by unfold qnv;revert h3;cases qbt r.first <;> simp <;> omega)]
 have hh:qnv r=true:=by unfold qnv;revert h3;cases qbt r.first <;> simp <;> omega
 have hd:0<=r.depth∧r.depth<=5:=by unfold qnv at hh;simp at hh;omega
 clear h3;refine t11 ?_;refine qbm (fun k:Nat=>k<=4∧∀ j,j<k->zeg r j=true) (fun k=>[(1,Is (.pointer (some ⟨i1,0,none⟩))),(27,IsAgg [Ii r.p0.line,Ii r.p0.gen,Ii r.p1.line,Ii r.p1.gen,Ii r.p2.line,Ii r.p2.gen,Ii r.p3.line,Ii r.p3.gen]),(28,Ii (k:Nat))]) (fun _=>[blk i1 81 (tRt.cells r),qfd]) (fun k=>4-k) 0 ⟨om,fun j h=>by omega⟩ qa8 qab ?_;rintro k ⟨hk,hko⟩;refine t6 ?_;refine cN ?_ ?_<;>intro h6
 ·have hk4:k=0∨k=1∨k=2∨k=3:=by have:=of_decide_eq_true h6;omega
  clear h6;rcases hk4 with rfl|rfl|rfl|rfl
  all_goals
   refine t7 ?_;refine qao rfl (qur (k:=_) (sz:=2) (er rfl) (er rfl) rfl rfl rfl rfl qdh de qbx) ?_;refine s1 ?_;intro i4;refine t7 ?_;refine qao rfl (by ((refine qg5 call173 (qrv _) ⟨evS,trivial⟩ qba))) ?_;refine t3 ?_;(refine qcg rfl rfl rfl (fun hg=>(by have hg0:=hg;(try simp at hg);exact qa6 (n:=2) (Ev.sub rfl (SubL.fact qba)) rfl rfl rfl rf qbx)) ?_);(refine qcg rfl rfl rfl (fun hg=>(by have hg0:=hg;(try simp at hg);first|exact qb0 (vs:=Pt.cells r.p0) (ws:=Pt.cells Pt.nil) evG evG (qct _ _ _ r.p0 Pt.nil) (qek r.p0 Pt.nil)|exact qb0 (vs:=Pt.cells r.p1) (ws:=Pt.cells Pt.nil) evG evG (qct _ _ _ r.p1 Pt.nil) (qek r.p1 Pt.nil)|exact qb0 (vs:=Pt.cells r.p2) (ws:=Pt.cells Pt.nil) evG evG (qct _ _ _ r.p2 Pt.nil) (qek r.p2 Pt.nil)|exact qb0 (vs:=Pt.cells r.p3) (ws:=Pt.cells Pt.nil) evG evG (qct _ _ _ r.p3 Pt.nil) (qek r.p3 Pt.nil))) ?_);refine t4 ?_;(refine zgs rfl rfl rfl (fun hp hg=>(by have hpg:=Bool.and_eq_true_iff.2 ⟨hp,hg⟩;have hg0:=hg;(try simp at hg);((refine qac call174 (za2 _ ?_) ⟨evS,trivial⟩);all_goals (first|first|assumption|omega)))) ?_);refine t5 ?_;refine cN ?_ ?_<;>intro h8
   ·refine t11 ?_;refine rB results112 rfl ?_;rw [qyx hn (by first|exact Or.inl (qss h8)|exact Or.inr (Or.inl (qss h8))|exact Or.inr (Or.inr (Or.inl (qss h8)))|exact Or.inr (Or.inr (Or.inr (qss h8))))]
   refine t7 ?_;first|exact qaa 1 ⟨om,qie hko (qox h8)⟩ om qa8 qab|exact qaa 2 ⟨om,qie hko (qox h8)⟩ om qa8 qab|exact qaa 3 ⟨om,qie hko (qox h8)⟩ om qa8 qab|exact qaa 4 ⟨om,qie hko (qox h8)⟩ om qa8 qab
 have hk4:k=4:=by have:=of_decide_eq_false h6;omega
 subst hk4;refine t11 ?_;refine rB results112 rfl ?_;rw [zdf hn hh hko]
theorem qoi (r:Rt):FnP prog 141 [qwl r] (Ib (qh2 r)):=by
 refine FnP.enter func141 ntmps141 rfl rfl ?_;intro c hX;refine t3 ?_;intro i1;refine t9 ?_;refine qao rfl (qb0 (vs:=Pt.cells r.first) (ws:=Pt.cells Pt.nil) (er rfl) (er rfl) (qd3 _ _ _ r.first Pt.nil) (qf6 r.first Pt.nil)) ?_;refine t2 ?_;refine cN ?_ ?_<;>intro h1
 ·have hn:r.first=Pt.nil:=of_decide_eq_true h1;refine t4 ?_;refine qao rfl (qb0 (vs:=Rt.cells r) (ws:=Rt.cells Rt.nil) (er rfl) (er rfl) (qxs _ _ _ r Rt.nil) (zfq r Rt.nil)) ?_;refine t5 ?_;refine rB results141 rfl ?_;unfold qh2;rw [if_pos hn]
 have hn:r.first≠Pt.nil:=of_decide_eq_false h1;refine t7 ?_;refine kS call30 (qb5 _) ?_;refine t13 ?_;refine cN ?_ ?_<;>intro h3
 ·refine t7 ?_;refine rB results141 rfl ?_;rw [qpl hn (by unfold qnv;revert h3;cases qbt r.first <;> simp <;> omega)]
 have hh:qnv r=true:=by unfold qnv;revert h3;cases qbt r.first <;> simp <;> omega
 have hd:0<=r.depth∧r.depth<=5:=by unfold qnv at hh;simp at hh;omega
 clear h3;refine t9 ?_;refine qbm (fun k:Nat=>k<=4∧∀ j,j<k->zeg r j=true) (fun k=>[(1,Is (.pointer (some ⟨i1,0,none⟩))),(3,Ii (k:Nat))]) (fun _=>[blk i1 163 (tRt.cells r)]) (fun k=>4-k) 0 ⟨om,fun j h=>by omega⟩ qa8 qab ?_;rintro k ⟨hk,hko⟩;refine t7 ?_;refine cN ?_ ?_<;>intro h6
 ·have hk4:k=0∨k=1∨k=2∨k=3:=by have:=of_decide_eq_true h6;omega
  clear h6;rcases hk4 with rfl|rfl|rfl|rfl
  all_goals
   refine t8 ?_;refine Z53 ?_;refine s1 ?_;refine kS call140 (qxo _) ?_;refine t5 ?_;(refine qcg rfl rfl rfl (fun hg=>(by have hg0:=hg;(try simp at hg);((refine qac call89 (qy5 _ ?_) ⟨evS,trivial⟩);all_goals (first|first|assumption|omega)))) ?_);refine t4 ?_;(refine zgs rfl rfl rfl (fun hp hg=>(by have hpg:=Bool.and_eq_true_iff.2 ⟨hp,hg⟩;have hg0:=hg;(try simp at hg);exact qah (k:=_) (sz:=2) evG evG rfl rfl qdh de)) ?_);refine t2 ?_;(refine zgs rfl rfl rfl (fun hp hg=>(by have hpg:=Bool.and_eq_true_iff.2 ⟨hp,hg⟩;have hg0:=hg;(try simp at hg);first|exact qb0 (vs:=Pt.cells r.p0) (ws:=Pt.cells Pt.nil) evG evG (qd3 _ _ _ r.p0 Pt.nil) (qf6 r.p0 Pt.nil)|exact qb0 (vs:=Pt.cells r.p1) (ws:=Pt.cells Pt.nil) evG evG (qd3 _ _ _ r.p1 Pt.nil) (qf6 r.p1 Pt.nil)|exact qb0 (vs:=Pt.cells r.p2) (ws:=Pt.cells Pt.nil) evG evG (qd3 _ _ _ r.p2 Pt.nil) (qf6 r.p2 Pt.nil)|exact qb0 (vs:=Pt.cells r.p3) (ws:=Pt.cells Pt.nil) evG evG (qd3 _ _ _ r.p3 Pt.nil) (qf6 r.p3 Pt.nil))) ?_);refine t4 ?_;refine cN ?_ ?_<;>intro h8
   ·refine t11 ?_;refine rB results141 rfl ?_;rw [qyx hn (by first|exact Or.inl (qoy h8)|exact Or.inr (Or.inl (qoy h8))|exact Or.inr (Or.inr (Or.inl (qoy h8)))|exact Or.inr (Or.inr (Or.inr (qoy h8))))]
   refine t8 ?_;first|exact qaa 1 ⟨om,qie hko (qmt h8)⟩ om qa8 qab|exact qaa 2 ⟨om,qie hko (qmt h8)⟩ om qa8 qab|exact qaa 3 ⟨om,qie hko (qmt h8)⟩ om qa8 qab|exact qaa 4 ⟨om,qie hko (qmt h8)⟩ om qa8 qab
 have hk4:k=4:=by have:=of_decide_eq_false h6;omega
 subst hk4;refine t11 ?_;refine rB results141 rfl ?_;rw [zdf hn hh hko]
@[reducible] def w32 (x:BitVec 64) (s:Nat):BitVec 32:=(x>>>s).setWidth 32
def qk8 (p:Pg):Rt:=⟨qbb (p.d1.setWidth 32),UV (p.d1>>>32),qbb (w32 p.d2 0),qbb (w32 p.d2 32),qbb (w32 p.d3 0),qbb (w32 p.d3 32)⟩
def ptK (k j:Nat) (q:Pt):Pt:=if j<k then q else Pt.nil
def readK (p:Pg) (k:Nat):Rt:=⟨qbb (p.d1.setWidth 32),UV (p.d1>>>32),ptK k 0 (qbb (w32 p.d2 0)),ptK k 1 (qbb (w32 p.d2 32)),ptK k 2 (qbb (w32 p.d3 0)),ptK k 3 (qbb (w32 p.d3 32))⟩
def okK (p:Pg) (k:Nat):Bool:=match k with
 | 0=>okW (p.d1.setWidth 32)
 | 1=>okW (p.d1.setWidth 32)&&okW (w32 p.d2 0)
 | 2=>okW (p.d1.setWidth 32)&&okW (w32 p.d2 0)&&okW (w32 p.d2 32)
 | 3=>okW (p.d1.setWidth 32)&&okW (w32 p.d2 0)&&okW (w32 p.d2 32)&&okW (w32 p.d3 0)
 | _=>okW (p.d1.setWidth 32)&&okW (w32 p.d2 0)&&okW (w32 p.d2 32)&&okW (w32 p.d3 0)&&okW (w32 p.d3 32)
def qdu (p:Pg):Rt×Int:=if p.l≠96 then (Rt.nil,1) else if okK p 4&&qh2 (qk8 p) then (qk8 p,0) else (Rt.nil,14)
theorem read_1 {p:Pg} (h:p.l≠96):qdu p=(Rt.nil,1):=by unfold qdu;rw [if_pos h]
theorem qww {p:Pg} (h:p.l=96) (h1:(okK p 4&&qh2 (qk8 p))=false):qdu p=(Rt.nil,14):=by unfold qdu;rw [if_neg (not_not_intro h),h1];rfl
theorem read_0 {p:Pg} (h:p.l=96) (h1:(okK p 4&&qh2 (qk8 p))=true):qdu p=(qk8 p,0):=by unfold qdu;rw [if_neg (not_not_intro h),h1];rfl
theorem hi_in (x:BitVec 64):-9223372036854775808<=UV (x>>>32)∧UV (x>>>32)<=9223372036854775807:=by
 rw [qqd 64 x 32];have h1:=zgj x;have h2:=qa2 x;omega
@[reducible] def lowW (x:BitVec 64):BitVec 64:=(x.setWidth 32).setWidth 64
theorem qwv (x:BitVec 64):(UV x).tmod 4294967296=UV (lowW x):=by
 rw [Int.tmod_eq_emod_of_nonneg (qa2 x)];unfold UV lowW;simp only [BitVec.toNat_setWidth];have:=x.isLt;omega
theorem qxg (x:BitVec 64):(lowW x).setWidth 32=x.setWidth 32:=by
 apply BitVec.eq_of_toNat_eq
 simp only [lowW,BitVec.toNat_setWidth];omega
theorem deep_bad {p:Pg} (h:25769803776<=UV p.d1):qh2 (qk8 p)=false:=by
 have h1:6<=(qk8 p).depth:=by
  show 6<=UV (p.d1>>>32);rw [qqd 64 p.d1 32];omega
 by_cases hn:(qk8 p).first=Pt.nil
 ·unfold qh2;rw [if_pos hn];refine decide_eq_false fun e=>?_;rw [e] at h1;exact absurd h1 de
 ·exact qpl hn (by unfold qnv;simp;omega)
theorem qx7 (p:Pg):FnK prog 55 qfd [qcv p] (qbs [qwl (qdu p).1,Ii ((qdu p).2)]):=by
 have hdw:=hi_in p.d1;refine Fn.enterN func55 ntmps55 rfl rfl ?_;intro c hX;refine t3 ?_;intro i1;refine s1 ?_;intro i2;refine t11 ?_;refine cN ?_ ?_<;>intro h1
 ·have hl:p.l≠96:=by simpa using h1
  rw [read_1 hl];refine t9 ?_;exact qbq (Bs:=[qwl Rt.nil,Ii 1]) results55 eT () SubL.rfl' (List.nil_sublist _)
 have hl:p.l=96:=by simpa using h1
 refine t14 ?_;refine kS call111 (qko _) ?_;refine t4 ?_;intro i5;refine t8 ?_;refine Z108 ?_;refine t3 ?_;intro i7;refine t10 ?_;refine qbm (fun k:Nat=>k<=4) (fun k=>[(1,Is (.pointer (some ⟨i1,0,none⟩))),(2,Is (.pointer (some ⟨i2,0,none⟩))),(6,Ib (okK p k)),(7,Is (.pointer (some ⟨i7,0,none⟩))),(29,Ii (k:Nat))]) (fun k=>[blk i7 81 (tRt.cells (readK p k)),blk i2 81 (tRt.cells Rt.nil),blk i1 50 (tPg.cells p),qfd]) (fun k=>4-k) 0 (nZ _) qa8 qab ?_;rintro k hk;refine t6 ?_;refine cN ?_ ?_<;>intro h7
 ·have hk4:k=0∨k=1∨k=2∨k=3:=by have:=of_decide_eq_true h7;omega
  clear h7;rcases hk4 with rfl|rfl|rfl|rfl
  all_goals
   refine Z60 ?_;refine kS call111 (qko _) ?_;refine t4 ?_;intro i9;refine t12 ?_;refine Z53 ?_;refine t9 ?_;first|exact qaa 1 om om qa8 qab|exact qaa 2 om om qa8 qab|exact qaa 3 om om qa8 qab|exact qaa 4 om om qa8 qab
 have hk4:k=4:=by have:=of_decide_eq_false h7;omega
 subst hk4;refine qjl qaf (show tRt.cells (readK p 4)=tRt.cells (qk8 p) from rfl) ?_;refine t12 ?_;(refine qcg rfl rfl rfl (fun hg=>(by have hg0:=hg;(try simp at hg);((refine qg5 call112 (qoj _) ⟨evS,trivial⟩ qba)))) ?_);refine t4 ?_;refine cN ?_ ?_<;>intro h12
 ·rw [qww hl (by revert h12;cases okK p 4 <;> cases qh2 (qk8 p) <;> simp)];refine t9 ?_;exact qbq (Bs:=[qwl Rt.nil,Ii 14]) results55 eT () SubL.rfl' (List.nil_sublist _)
 rw [read_0 hl (by revert h12;cases okK p 4 <;> cases qh2 (qk8 p) <;> simp)];refine t10 ?_;exact qbq (Bs:=[qwl (qk8 p),Ii 0]) results55 eT () SubL.rfl' (List.nil_sublist _)
theorem qke (p:Pg):FnP prog 86 [qcv p] (qbs [qwl (qdu p).1,Ii ((qdu p).2)]):=by
 have hdw:=hi_in p.d1;refine FnP.enter func86 ntmps86 rfl rfl ?_;intro c hX;refine t3 ?_;intro i1;refine s1 ?_;intro i2;refine t11 ?_;refine cN ?_ ?_<;>intro h1
 ·have hl:p.l≠96:=by simpa using h1
  rw [read_1 hl];refine t9 ?_;exact qbq (Bs:=[qwl Rt.nil,Ii 1]) results86 eT () SubL.rfl' (List.nil_sublist _)
 have hl:p.l=96:=by simpa using h1
 refine t5 ?_;intro i4;refine t11 ?_;refine cN ?_ ?_<;>intro h4
 ·have hb:=of_decide_eq_true h4;rw [qww hl (by rw [deep_bad om];simp)];refine t9 ?_;exact qbq (Bs:=[qwl Rt.nil,Ii 14]) results86 eT () SubL.rfl' (List.nil_sublist _)
 refine t7 ?_;refine Z108 ?_;refine t16 ?_;rw [qwv];refine kS call139 (qkt _) ?_;rw [qxg];refine t15 ?_;refine qbm (fun k:Nat=>k<=4) (fun k=>[(1,Is (.pointer (some ⟨i1,0,none⟩))),(2,Is (.pointer (some ⟨i2,0,none⟩))),(4,Is (.pointer (some ⟨i4,0,none⟩))),(5,Ib (okK p k)),(6,Ii (k:Nat))]) (fun k=>[blk i4 163 (tRt.cells (readK p k)),blk i2 163 (tRt.cells Rt.nil),blk i1 50 (tPg.cells p)]) (fun k=>4-k) 0 (nZ _) qa8 qab ?_;rintro k hk;refine t7 ?_;refine cN ?_ ?_<;>intro h10
 ·have hk4:k=0∨k=1∨k=2∨k=3:=by have:=of_decide_eq_true h10;omega
  clear h10;rcases hk4 with rfl|rfl|rfl|rfl
  all_goals
   refine Z60 ?_;rw [qwv];refine kS call139 (qkt _) ?_;rw [qxg];refine t4 ?_;refine Z53 ?_;refine t18 ?_;first|exact qaa 1 om om qa8 qab|exact qaa 2 om om qa8 qab|exact qaa 3 om om qa8 qab|exact qaa 4 om om qa8 qab
 have hk4:k=4:=by have:=of_decide_eq_false h10;omega
 subst hk4;refine qjl qaf (show tRt.cells (readK p 4)=tRt.cells (qk8 p) from rfl) ?_;refine t12 ?_;(refine qcg rfl rfl rfl (fun hg=>(by have hg0:=hg;(try simp at hg);exact qac call141 (qoi _) ⟨evS,trivial⟩)) ?_);refine t4 ?_;refine cN ?_ ?_<;>intro h15
 ·rw [qww hl (by revert h15;cases okK p 4 <;> cases qh2 (qk8 p) <;> simp)];refine t9 ?_;exact qbq (Bs:=[qwl Rt.nil,Ii 14]) results86 eT () SubL.rfl' (List.nil_sublist _)
 rw [read_0 hl (by revert h15;cases okK p 4 <;> cases qh2 (qk8 p) <;> simp)];refine t10 ?_;exact qbq (Bs:=[qwl (qk8 p),Ii 0]) results86 eT () SubL.rfl' (List.nil_sublist _)
def zcd (p:Pg) (r:Rt) (k:Nat):Pg:=⟨p.l,p.h,p.d0,qiu (qcq r.first) (BitVec.ofInt 64 r.depth),if 2<=k then qiu (qcq r.p0) ((qcq r.p1).setWidth 64) else p.d2,if 4<=k then qiu (qcq r.p2) ((qcq r.p3).setWidth 64) else p.d3,p.d4,p.d5,p.d6⟩
def qtx (p:Pg) (r:Rt):Pg:=zcd p r 4
def qdp (p:Pg) (r:Rt):Pg×Int:=if (p.l != 96 || !qh2 r) then (Pg.nil,1) else (qtx p r,0)
theorem qif (p:Pg) (r:Rt):FnK prog 74 qfd [qcv p,qwl r] (qbs [qcv (qdp p r).1,Ii ((qdp p r).2)]):=by
 refine Fn.enterN func74 ntmps74 rfl rfl ?_;intro c hX;refine t3 ?_;intro i2;refine s1 ?_;intro i3;refine s1 ?_;intro i4;refine t11 ?_;(refine qcg rfl rfl rfl (fun hg=>(by have hg0:=hg;(try simp at hg);((refine qg5 call112 (qoj _) ⟨evS,trivial⟩ qba)))) ?_);refine t4 ?_;refine cN ?_ ?_<;>intro h1
 ·have e:qdp p r=(Pg.nil,1):=by unfold qdp;rw [if_pos h1]
  rw [e];refine t9 ?_;exact qbq (Bs:=[qcv Pg.nil,Ii 1]) results74 eT () SubL.rfl' (List.nil_sublist _)
 have e:qdp p r=(qtx p r,0):=by unfold qdp;rw [if_neg (by rw [h1];simp)]
 rw [e];refine Z32 ?_;refine qx3 ?_;refine t2 ?_;refine Z71 ?_;refine t4 ?_;refine Z42 ?_;refine t3 ?_;refine ⟨rfl,?_⟩;refine Z11 ?_;refine t8 ?_;refine qbm (fun k:Nat=>k=0∨k=2∨k=4) (fun k=>[(2,Is (.pointer (some ⟨i2,0,none⟩))),(3,Is (.pointer (some ⟨i3,0,none⟩))),(4,Is (.pointer (some ⟨i4,0,none⟩))),(6,Ii (k:Nat))]) (fun k=>[blk i2 50 (tPg.cells (zcd p r k)),blk i4 50 (tPg.cells Pg.nil),blk i3 81 (tRt.cells r),qfd]) (fun k=>4-k) 0 (Or.inl rfl) qa8 qab ?_;rintro k hk;refine t7 ?_;refine cN ?_ ?_<;>intro h5
 ·have hk4:k=0∨k=2:=by have:=of_decide_eq_true h5;omega
  clear h5 hk;rcases hk4 with rfl|rfl
  all_goals
   refine Z38 ?_;refine qaj 20 kr ?_;refine t5 ?_;refine qbc (qah (k:=_) (sz:=2) (er rfl) (er rfl) rfl rfl qdh de) ?_;refine s1 ?_;refine Z71 ?_;refine t4 ?_;refine Z110 ?_;refine Z71 ?_;refine Z97 ?_;refine ⟨rfl,?_⟩;refine Z11 ?_;refine t7 ?_;first|exact qaa 2 om om qa8 qab|exact qaa 4 om om qa8 qab
 have hk4:k=4:=by have:=of_decide_eq_false h5;omega
 subst hk4;refine t13 ?_;exact qbq (Bs:=[qcv (qtx p r),Ii 0]) results74 eT () SubL.rfl' (List.nil_sublist _)
theorem qm9 (p:Pg) (r:Rt):FnP prog 87 [qcv p,qwl r] (qbs [qcv (qdp p r).1,Ii ((qdp p r).2)]):=by
 refine FnP.enter func87 ntmps87 rfl rfl ?_;intro c hX;refine t3 ?_;intro i2;refine s1 ?_;intro i3;refine s1 ?_;intro i4;refine t11 ?_;(refine qcg rfl rfl rfl (fun hg=>(by have hg0:=hg;(try simp at hg);exact qac call141 (qoi _) ⟨evS,trivial⟩)) ?_);refine t4 ?_;refine cN ?_ ?_<;>intro h1
 ·have e:qdp p r=(Pg.nil,1):=by unfold qdp;rw [if_pos h1]
  rw [e];refine t9 ?_;exact qbq (Bs:=[qcv Pg.nil,Ii 1]) results87 eT () SubL.rfl' (List.nil_sublist _)
 have e:qdp p r=(qtx p r,0):=by unfold qdp;rw [if_neg (by rw [h1];simp)]
 rw [e];refine t6 ?_;intro i6;refine Z38 ?_;refine qx3 ?_;refine t2 ?_;refine Z94 ?_;refine t4 ?_;refine Z42 ?_;refine t3 ?_;refine ⟨rfl,?_⟩;refine Z11 ?_;refine t3 ?_;rw [qvw];refine t5 ?_;refine qbm (fun k:Nat=>k<=2) (fun k=>[(3,Is (.pointer (some ⟨i3,0,none⟩))),(4,Is (.pointer (some ⟨i4,0,none⟩))),(6,Is (.pointer (some ⟨i6,0,none⟩))),(7,Ii (k:Nat))]) (fun k=>[blk i6 50 (tPg.cells (zcd p r (2*k))),blk i4 50 (tPg.cells Pg.nil),blk i3 163 (tRt.cells r)]) (fun k=>2-k) 0 (nZ _) qa8 qab ?_;rintro k hk;refine t7 ?_;refine cN ?_ ?_<;>intro h6
 ·have hk4:k=0∨k=1:=by have:=of_decide_eq_true h6;omega
  clear h6;rcases hk4 with rfl|rfl
  all_goals
   refine Z38 ?_;refine qaj 21 kr ?_;refine t5 ?_;refine qbc (by first|exact qah (k:=0) (sz:=2) (er rfl) (er rfl) rfl rfl de de|exact qah (k:=2) (sz:=2) (er rfl) (er rfl) rfl rfl de de) ?_;refine s1 ?_;refine Z94 ?_;refine t5 ?_;refine Z110 ?_;refine Z94 ?_;refine Z97 ?_;refine ⟨rfl,?_⟩;refine Z11 ?_;refine t2 ?_;rw [qvw];refine t5 ?_;first|exact qaa 1 om om qa8 qab|exact qaa 2 om om qa8 qab
 have hk4:k=2:=by have:=of_decide_eq_false h6;omega
 subst hk4;refine t13 ?_;exact qbq (Bs:=[qcv (qtx p r),Ii 0]) results87 eT () SubL.rfl' (List.nil_sublist _)
theorem qoa (x:BitVec 32):FnP prog 40 [Is (.int .u32 (UV x))] (Is (.int .u32 (UV ((x*2654435769#32) ^^^ (x*2654435769#32)>>>16)))):=by
 refine FnP.enter func40 ntmps40 rfl rfl ?_;intro c hX;refine t16 ?_;refine Z81 ?_;refine t5 ?_;refine rB results40 rfl ?_;rfl
theorem ze2 (p:Pg) (k:Int):FnP prog 181 [qcv p,Ii k] (Ib (qcw p.d0==k)):=by
 refine FnP.enter func181 ntmps181 rfl rfl ?_;intro c hX;refine t3 ?_;intro i2;refine t8 ?_;refine kS call119 (qgu _) ?_;refine t7 ?_;refine rB results181 rfl ?_;rfl
def wd8 (k i:Nat) (a b:BitVec 32):BitVec 64:=if i+1<k then (BitVec.ofInt 64 0|||a.setWidth 64<<<0)|||b.setWidth 64<<<32 else if i<k then BitVec.ofInt 64 0|||a.setWidth 64<<<0 else BitVec.ofInt 64 0
def qfh (p:Pg) (s:S8) (k:Nat):Pg:=⟨p.l,p.h,qh3 ⟨qcw p.d0,qge p.d0,0#32⟩,wd8 k 0 (qcq s.s0) (qcq s.s1),wd8 k 2 (qcq s.s2) (qcq s.s3),wd8 k 4 (qcq s.s4) (qcq s.s5),wd8 k 6 (qcq s.s6) (qcq s.s7),0#64,0#64⟩
set_option maxHeartbeats 8000000 in
theorem qgs (p:Pg) (s:S8):FnP prog 71 [qcv p,qtu s] (qcv (qfh p s 8)):=by
 refine FnP.enter func71 ntmps71 rfl rfl ?_;intro c hX;refine t3 ?_;intro i2;refine s1 ?_;intro i3;refine s1 ?_;intro i4;refine t7 ?_;refine kS call119 (qgu _) ?_;refine s1 ?_;intro i5;refine t12 ?_;refine kS call120 (qn7 ⟨qcw p.d0,qge p.d0,0#32⟩) ?_;refine qao rfl (qd1 (size:=1) (qs:=[(0,_)]) rfl rfl rfl rfl ⟨⟨rfl,_,(er rfl),qa5⟩,trivial⟩ rf qbx) ?_;refine t12 ?_;refine qbm (fun k:Nat=>k<=8) (fun k=>[(2,Is (.pointer (some ⟨i2,0,none⟩))),(4,Is (.pointer (some ⟨i4,0,none⟩))),(17,IsAgg [Ii s.s0.line,Ii s.s0.gen,Ii s.s1.line,Ii s.s1.gen,Ii s.s2.line,Ii s.s2.gen,Ii s.s3.line,Ii s.s3.gen,Ii s.s4.line,Ii s.s4.gen,Ii s.s5.line,Ii s.s5.gen,Ii s.s6.line,Ii s.s6.gen,Ii s.s7.line,Ii s.s7.gen]),(18,Ii (k:Nat))]) (fun k=>[blk i2 50 (tPg.cells (qfh p s k)),blk i4 50 (tPg.cells Pg.nil)]) (fun k=>8-k) 0 (nZ _) qa8 qab ?_;rintro k hk;refine t6 ?_;refine cN ?_ ?_<;>intro h5
 ·have hk4:k=0∨k=1∨k=2∨k=3∨k=4∨k=5∨k=6∨k=7:=by have:=of_decide_eq_true h5;omega
  clear h5;rcases hk4 with rfl|rfl|rfl|rfl|rfl|rfl|rfl|rfl
  all_goals
   refine t7 ?_;refine qao rfl (qur (k:=_) (sz:=2) (er rfl) (er rfl) rfl rfl rfl rfl qdh de qbx) ?_;refine s1 ?_;intro i7;refine Z38 ?_;refine qaj 17 kr ?_;refine t4 ?_;refine Z19 ?_;refine t2 ?_;refine Z71 ?_;refine t5 ?_;refine qbc (by first|exact qeg (k:=0) qhh (er rfl) de de|exact qeg (k:=32) qhh (er rfl) de de) ?_;refine t2 ?_;refine Z19 ?_;refine ⟨rfl,?_⟩;refine Z11 ?_;refine t6 ?_;first|exact qaa 1 om om qa8 qab|exact qaa 2 om om qa8 qab|exact qaa 3 om om qa8 qab|exact qaa 4 om om qa8 qab|exact qaa 5 om om qa8 qab|exact qaa 6 om om qa8 qab|exact qaa 7 om om qa8 qab|exact qaa 8 om om qa8 qab
 have hk4:k=8:=by have:=of_decide_eq_false h5;omega
 subst hk4;refine t12 ?_;exact qbq (Bs:=[qcv (qfh p s 8)]) results71 eT () SubL.rfl' (List.nil_sublist _)
theorem tag_nat (x:BitVec 64) (z:BitVec 32):(qh3 ⟨qcw x,qge x,z⟩).toNat=x.toNat % 4294967296+z.toNat*4294967296:=by
 have h1:=qg2 64 8 x (BitVec.ofInt 64 255) rfl;have h2:=qg2 64 24 (x>>>8) (BitVec.ofInt 64 16777215) rfl;have h3:=qqd 64 x 8;unfold qh3 qcw qge;dsimp only;rw [qkv,qkv,BitVec.and_assoc,BitVec.and_self,BitVec.and_assoc,BitVec.and_self];unfold UV at h1 h2 h3;generalize hA:x&&&BitVec.ofInt 64 255=A at *;generalize hB:x>>>8&&&BitVec.ofInt 64 16777215=B at *;have hz:(z.setWidth 64).toNat=z.toNat:=by rw [BitVec.toNat_setWidth];have:=z.isLt;omega
 have hx:=x.isLt;have g1:=qpq A B 8 om om;have g2:=qpq (A|||B<<<8) (z.setWidth 64) 32 om (by have:=z.isLt;omega);rw [g2,g1,hz];omega
theorem aux_nat (x:BitVec 64):(qf9 x).toNat=x.toNat / 4294967296:=by
 unfold qf9;rw [BitVec.toNat_setWidth,BitVec.toNat_ushiftRight,Nat.shiftRight_eq_div_pow];have:=x.isLt;omega
theorem qyr (x:BitVec 64) (z:BitVec 32):qh3 ⟨qcw x,qge x,z⟩=x↔z=qf9 x:=by
 have h1:=tag_nat x z;have h2:=aux_nat x;constructor
 ·intro e;rw [e] at h1
  apply BitVec.eq_of_toNat_eq
  omega
 ·intro e
  apply BitVec.eq_of_toNat_eq
  rw [h1,e,h2];omega
theorem qo6 (i:Nat) (hi:i+1<8) (a b:BitVec 32):wd8 8 i a b=qiu a (b.setWidth 64):=by
 unfold wd8;rw [if_pos hi];simp [qiu]
theorem qmo (x:BitVec 64):qiu (w32 x 0) ((w32 x 32).setWidth 64)=x:=by
 apply BitVec.eq_of_toNat_eq
 unfold qiu w32;have hx:=x.isLt;have e0:(((x>>>0).setWidth 32:BitVec 32).setWidth 64).toNat=x.toNat % 4294967296:=by
  simp only [BitVec.toNat_setWidth,BitVec.toNat_ushiftRight,Nat.shiftRight_eq_div_pow];omega
 have e1:(((x>>>32).setWidth 32:BitVec 32).setWidth 64).toNat=x.toNat / 4294967296:=by
  simp only [BitVec.toNat_setWidth,BitVec.toNat_ushiftRight,Nat.shiftRight_eq_div_pow];omega
 rw [qpq _ _ 32 om om,e0,e1];omega
theorem qjc {w:BitVec 32} (h:okW w=true):qcq (qbb w)=w:=by
 unfold okW at h;simp only [Bool.or_eq_true,beq_iff_eq] at h;rcases h with h|h
 ·have e:w=0#32:=by
   apply BitVec.eq_of_toNat_eq
   unfold UV at h;simp;omega
  subst e;rfl
 ·exact qpo h
def wrd (p:Pg):Nat->BitVec 32
 | 0=>w32 p.d1 0
 | 1=>w32 p.d1 32
 | 2=>w32 p.d2 0
 | 3=>w32 p.d2 32
 | 4=>w32 p.d3 0
 | 5=>w32 p.d3 32
 | 6=>w32 p.d4 0
 | _=>w32 p.d4 32
def ok8 (p:Pg):Nat->Bool
 | 0=>qcw p.d0==3
 | k+1=>ok8 p k&&okW (wrd p k)
def s8K (p:Pg) (k:Nat):S8:=⟨ptK k 0 (qbb (w32 p.d1 0)),ptK k 1 (qbb (w32 p.d1 32)),ptK k 2 (qbb (w32 p.d2 0)),ptK k 3 (qbb (w32 p.d2 32)),ptK k 4 (qbb (w32 p.d3 0)),ptK k 5 (qbb (w32 p.d3 32)),ptK k 6 (qbb (w32 p.d4 0)),ptK k 7 (qbb (w32 p.d4 32))⟩
def qb2 (p:Pg):S8×Int:=if ok8 p 8&&qhy (qfh p (s8K p 8) 8) p then (s8K p 8,0) else (S8.nil,14)
theorem ok8_le {p:Pg} {k j:Nat} (h:ok8 p (k+j)=true):ok8 p k=true:=by
 induction j with
 | zero=>exact h
 | succ j ih =>
  apply ih
  have h':(ok8 p (k+j)&&okW (wrd p (k+j)))=true:=h;simp only [Bool.and_eq_true] at h';exact h'.1
theorem qxc {p:Pg} (h:ok8 p 8=true):(qcw p.d0=3∧okW (w32 p.d1 0)=true∧okW (w32 p.d1 32)=true∧okW (w32 p.d2 0)=true∧okW (w32 p.d2 32)=true∧okW (w32 p.d3 0)=true∧okW (w32 p.d3 32)=true∧okW (w32 p.d4 0)=true∧okW (w32 p.d4 32)=true):=by
 have h':(((((((((qcw p.d0==3)&&okW (w32 p.d1 0))&&okW (w32 p.d1 32))&&okW (w32 p.d2 0))&&okW (w32 p.d2 32))&&okW (w32 p.d3 0))&&okW (w32 p.d3 32))&&okW (w32 p.d4 0))&&okW (w32 p.d4 32))=true:=h;simp only [Bool.and_eq_true,beq_iff_eq] at h';obtain ⟨⟨⟨⟨⟨⟨⟨⟨a,b⟩,c⟩,d⟩,e⟩,f⟩,g⟩,i⟩,j⟩:=h';exact ⟨a,b,c,d,e,f,g,i,j⟩
theorem zfx {p:Pg} (h:ok8 p 8=true):qhy (qfh p (s8K p 8) 8) p=(decide (qf9 p.d0=0#32)&&(decide (p.d5=0#64)&&decide (p.d6=0#64))):=by
 obtain ⟨-,h1,h2,h3,h4,h5,h6,h7,h8⟩:=qxc h;have e0:((qfh p (s8K p 8) 8).d0==p.d0)=decide (qf9 p.d0=0#32):=by
  show (qh3 ⟨qcw p.d0,qge p.d0,0#32⟩==p.d0)=_;rw [Bool.eq_iff_iff,beq_iff_eq,qyr,decide_eq_true_iff];exact ⟨Eq.symm,Eq.symm⟩
 have e1:(qfh p (s8K p 8) 8).d1=p.d1:=by
  show wd8 8 0 (qcq (qbb (w32 p.d1 0))) (qcq (qbb (w32 p.d1 32)))=p.d1;rw [qo6 0 om,qjc h1,qjc h2,qmo]
 have e2:(qfh p (s8K p 8) 8).d2=p.d2:=by
  show wd8 8 2 (qcq (qbb (w32 p.d2 0))) (qcq (qbb (w32 p.d2 32)))=p.d2;rw [qo6 2 om,qjc h3,qjc h4,qmo]
 have e3:(qfh p (s8K p 8) 8).d3=p.d3:=by
  show wd8 8 4 (qcq (qbb (w32 p.d3 0))) (qcq (qbb (w32 p.d3 32)))=p.d3;rw [qo6 4 om,qjc h5,qjc h6,qmo]
 have e4:(qfh p (s8K p 8) 8).d4=p.d4:=by
  show wd8 8 6 (qcq (qbb (w32 p.d4 0))) (qcq (qbb (w32 p.d4 32)))=p.d4;rw [qo6 6 om,qjc h7,qjc h8,qmo]
 unfold qhy;rw [e0,e1,e2,e3,e4];simp only [BEq.rfl,Bool.true_and];show (decide (qf9 p.d0=0#32)&&(0#64==p.d5&&0#64==p.d6))=_
 congr 2 <;> rw [Bool.eq_iff_iff,beq_iff_eq,decide_eq_true_iff] <;> exact ⟨Eq.symm,Eq.symm⟩
def s8l (s:S8):List Pt:=[s.s0,s.s1,s.s2,s.s3,s.s4,s.s5,s.s6,s.s7]
def qgk (p:Pg) (s:S8):Pg×Int:=if (!(qcw p.d0==3)||(s8l s).any fun q=>!qc9 q) then (Pg.nil,1) else (qfh p s 8,0)
theorem eqD_run2 (p q:Pg) (w:World):(Op.equal 48 (.agg (qld p).toArray) (.agg (qld q).toArray)).run prog w = .ok (qhy p q) w:=
 eq7 9998 w p.d0 p.d1 p.d2 p.d3 p.d4 p.d5 p.d6 q.d0 q.d1 q.d2 q.d3 q.d4 q.d5 q.d6
theorem qz4 (p q:Pg) (w:World):(binOp .neq 48 (.agg (qld p).toArray) (.agg (qld q).toArray)).run prog w = .ok (.bool (!qhy p q)) w:=by
 simp only [binOp,Sem.run_bind,eqD_run2,Result.andThen_ok,Sem.run_pure]
theorem qsj {p:Pg} (h:(!ok8 p 8 || !qhy (qfh p (s8K p 8) 8) p)=true):qb2 p=(S8.nil,14):=by
 unfold qb2;rw [if_neg];revert h;cases ok8 p 8 <;> cases qhy (qfh p (s8K p 8) 8) p <;> simp
theorem zdk {p:Pg} (h:(!ok8 p 8 || !qhy (qfh p (s8K p 8) 8) p)=false):qb2 p=(s8K p 8,0):=by
 unfold qb2;rw [if_pos];revert h;cases ok8 p 8 <;> cases qhy (qfh p (s8K p 8) 8) p <;> simp
set_option maxHeartbeats 8000000 in
theorem qkd (p:Pg):FnP prog 126 [qcv p] (qbs [qtu (qb2 p).1,Ii ((qb2 p).2)]):=by
 refine FnP.enter func126 ntmps126 rfl rfl ?_;intro c hX;refine t3 ?_;intro i1;refine s1 ?_;intro i2;refine t6 ?_;intro i4;refine t5 ?_;refine kS call181 (ze2 _ _) ?_;refine t10 ?_;refine qbm (fun k:Nat=>k<=8) (fun k=>[(1,Is (.pointer (some ⟨i1,0,none⟩))),(2,Is (.pointer (some ⟨i2,0,none⟩))),(4,Is (.pointer (some ⟨i4,0,none⟩))),(5,Ib (ok8 p k)),(11,Ii (k:Nat))]) (fun k=>[blk i4 151 (tS8.cells (s8K p k)),blk i2 151 (tS8.cells S8.nil),blk i1 50 (tPg.cells p)]) (fun k=>8-k) 0 (nZ _) qa8 qab ?_;rintro k hk;refine t6 ?_;refine cN ?_ ?_<;>intro h4
 ·have hk4:k=0∨k=1∨k=2∨k=3∨k=4∨k=5∨k=6∨k=7:=by have:=of_decide_eq_true h4;omega
  clear h4;rcases hk4 with rfl|rfl|rfl|rfl|rfl|rfl|rfl|rfl
  all_goals
   refine Z39 ?_;refine kS call111 (qko _) ?_;refine t4 ?_;intro i7;refine t11 ?_;refine Z53 ?_;refine t9 ?_;first|exact qaa 1 om om qa8 qab|exact qaa 2 om om qa8 qab|exact qaa 3 om om qa8 qab|exact qaa 4 om om qa8 qab|exact qaa 5 om om qa8 qab|exact qaa 6 om om qa8 qab|exact qaa 7 om om qa8 qab|exact qaa 8 om om qa8 qab
 have hk4:k=8:=by have:=of_decide_eq_false h4;omega
 subst hk4;refine t7 ?_;refine Z5 ?_;refine qx3 ?_;refine t5 ?_;(refine qch rfl rfl (fun hg=>(by have hg0:=hg;(try simp at hg);exact qac call71 (qgs p (s8K p 8)) ⟨evS,⟨evS,trivial⟩⟩)) ?_);(refine qch rfl rfl (fun hg=>(by have hg0:=hg;(try simp at hg);exact qnp (n:=7) evG rfl rfl rfl rfl rfl qbx)) ?_);refine t2 ?_;(refine qch rfl rfl (fun hg=>(by have hg0:=hg;(try simp at hg);exact qb0 (vs:=qld (qfh p (s8K p 8) 8)) (ws:=qld p) evG evG (qp2 _ _ _ (qfh p (s8K p 8) 8) p) (qz4 (qfh p (s8K p 8) 8) p))) ?_);refine s1 ?_;refine ⟨rfl,?_⟩;refine Z20 ?_;refine cN ?_ ?_<;>intro h9
 ·rw [qsj h9];refine t2 ?_;refine qao rfl (qd1 (size:=2) (qs:=[]) rfl rfl rfl rfl trivial rf qbx) ?_;refine t6 ?_;exact qbq (Bs:=[qtu S8.nil,Ii 14]) results126 eT () SubL.rfl' (List.nil_sublist _)
 rw [zdk h9];refine t10 ?_;exact qbq (Bs:=[qtu (s8K p 8),Ii 0]) results126 eT () SubL.rfl' (List.nil_sublist _)
theorem qg1 {b:Bool} (h:(!b)=true):b=false:=by cases b <;> simp_all
theorem qey {b:Bool} (h:(!b)=false):b=true:=by cases b <;> simp_all
theorem qy0 {p:Pg} (h:ok8 p 8=false):qb2 p=(S8.nil,14):=qsj (by rw [h];rfl)
theorem zay {p:Pg} (h:((((qcw p.d0 != 3)||(UV (qf9 p.d0) != 0))||(UV p.d5 != 0))||(UV p.d6 != 0))=true):qb2 p=(S8.nil,14):=by
 cases hk:ok8 p 8
 ·exact qy0 hk
 ·apply qsj
  rw [(qxc hk).1] at h;rw [zfx hk];simp only [Bool.or_eq_true,bne_iff_ne,ne_eq] at h;by_cases h1:qf9 p.d0=0#32
  ·by_cases h2:p.d5=0#64
   ·by_cases h3:p.d6=0#64
    ·exfalso;rw [h1,h2,h3] at h;revert h;simp [UV]
    ·simp [h3]
   ·simp [h2]
  ·simp [h1]
theorem zaz {p:Pg} (h:((((qcw p.d0 != 3)||(UV (qf9 p.d0) != 0))||(UV p.d5 != 0))||(UV p.d6 != 0))=false) (hk:ok8 p 8=true):qb2 p=(s8K p 8,0):=by
 apply zdk
 rw [zfx hk,hk];simp only [Bool.or_eq_false_iff,bne_eq_false_iff_eq] at h;obtain ⟨⟨⟨a,b⟩,c⟩,d⟩:=h;have z:∀ {w:Nat} {x:BitVec w},UV x=0->x=0#w:=fun {w x} e=>by
  apply BitVec.eq_of_toNat_eq
  unfold UV at e;simp;omega
 rw [z b,z c,z d];rfl
theorem qgl {p:Pg} (k j:Nat) (hk:k+1+j=8) (h:okW (wrd p k)=false):qb2 p=(S8.nil,14):=by
 apply qy0
 cases h8:ok8 p 8
 ·rfl
 ·have h1:ok8 p (k+1)=true:=ok8_le (j:=j) (by rw [hk];exact h8);have h2:(ok8 p k&&okW (wrd p k))=true:=h1;rw [h] at h2;simp at h2
theorem qia {p:Pg} (k:Nat) (h:ok8 p k=true) (h2:okW (wrd p k)=true):ok8 p (k+1)=true:=by
 show (ok8 p k&&okW (wrd p k))=true;rw [h,h2];rfl
set_option maxHeartbeats 8000000 in
theorem qhb (p:Pg):FnP prog 82 [qcv p] (qbs [qtu (qb2 p).1,Ii ((qb2 p).2)]):=by
 refine FnP.enter func82 ntmps82 rfl rfl ?_;intro c hX;refine t3 ?_;intro i1;refine s1 ?_;intro i2;refine t6 ?_;intro i4;refine t6 ?_;refine kS call92 (qel _) ?_;refine t3 ?_;(refine qcg rfl rfl rfl (fun hg=>(by have hg0:=hg;(try simp at hg);exact qac call138 (qqo _) ⟨evS,trivial⟩)) ?_);refine t16 ?_;refine cN ?_ ?_<;>intro h2
 ·rw [zay h2];refine t9 ?_;exact qbq (Bs:=[qtu S8.nil,Ii 14]) results82 eT () SubL.rfl' (List.nil_sublist _)
 refine t9 ?_;refine qbm (fun k:Nat=>k<=8∧ok8 p k=true) (fun k=>[(1,Is (.pointer (some ⟨i1,0,none⟩))),(2,Is (.pointer (some ⟨i2,0,none⟩))),(4,Is (.pointer (some ⟨i4,0,none⟩))),(5,Ii (k:Nat))]) (fun k=>[blk i4 168 (tS8.cells (s8K p k)),blk i2 168 (tS8.cells S8.nil),blk i1 50 (tPg.cells p)]) (fun k=>8-k) 0 ⟨nZ _,by show (qcw p.d0==3)=true;simp only [Bool.or_eq_false_iff,bne_eq_false_iff_eq] at h2;rw [h2.1.1.1];rfl⟩ qa8 qab ?_;rintro k ⟨hk,ho⟩;refine t7 ?_;refine cN ?_ ?_<;>intro h5
 ·have hk4:k=0∨k=1∨k=2∨k=3∨k=4∨k=5∨k=6∨k=7:=by have:=of_decide_eq_true h5;omega
  clear h5;rcases hk4 with rfl|rfl|rfl|rfl|rfl|rfl|rfl|rfl
  all_goals
   refine Z39 ?_;rw [qwv];refine kS call139 (qkt _) ?_;rw [qxg];refine t3 ?_;refine Z53 ?_;refine t10 ?_;refine cN ?_ ?_<;>intro h9
   ·have e:qb2 p=(S8.nil,14):=by first|exact qgl 0 7 rfl (qg1 h9)|exact qgl 1 6 rfl (qg1 h9)|exact qgl 2 5 rfl (qg1 h9)|exact qgl 3 4 rfl (qg1 h9)|exact qgl 4 3 rfl (qg1 h9)|exact qgl 5 2 rfl (qg1 h9)|exact qgl 6 1 rfl (qg1 h9)|exact qgl 7 0 rfl (qg1 h9)
    rw [e];refine t2 ?_;refine qao rfl (qd1 (size:=2) (qs:=[]) rfl rfl rfl rfl trivial rf qbx) ?_;refine t10 ?_;exact qbq (Bs:=[qtu S8.nil,Ii 14]) results82 eT () SubL.rfl' (List.nil_sublist _)
   refine t8 ?_;first|exact qaa 1 ⟨om,qia 0 ho (qey h9)⟩ om qa8 qab|exact qaa 2 ⟨om,qia 1 ho (qey h9)⟩ om qa8 qab|exact qaa 3 ⟨om,qia 2 ho (qey h9)⟩ om qa8 qab|exact qaa 4 ⟨om,qia 3 ho (qey h9)⟩ om qa8 qab|exact qaa 5 ⟨om,qia 4 ho (qey h9)⟩ om qa8 qab|exact qaa 6 ⟨om,qia 5 ho (qey h9)⟩ om qa8 qab|exact qaa 7 ⟨om,qia 6 ho (qey h9)⟩ om qa8 qab|exact qaa 8 ⟨om,qia 7 ho (qey h9)⟩ om qa8 qab
 have hk4:k=8:=by have:=of_decide_eq_false h5;omega
 subst hk4;rw [zaz h2 ho];refine t13 ?_;exact qbq (Bs:=[qtu (s8K p 8),Ii 0]) results82 eT () SubL.rfl' (List.nil_sublist _)
def wdA (k i:Nat) (a b:BitVec 32):BitVec 64:=if i+1<k then (BitVec.ofInt 64 0+a.setWidth 64<<<0)+b.setWidth 64<<<32 else if i<k then BitVec.ofInt 64 0+a.setWidth 64<<<0 else BitVec.ofInt 64 0
theorem qyn (i:Nat) (hi:i+1<8) (a b:BitVec 32):wdA 8 i a b=wd8 8 i a b:=by
 rw [qo6 i hi];unfold wdA;rw [if_pos hi,<- qvw];simp
def fillA (p:Pg) (s:S8) (k:Nat):Pg:=⟨p.l,p.h,qh3 ⟨3,qge p.d0,0#32⟩,wdA k 0 (qcq s.s0) (qcq s.s1),wdA k 2 (qcq s.s2) (qcq s.s3),wdA k 4 (qcq s.s4) (qcq s.s5),wdA k 6 (qcq s.s6) (qcq s.s7),0#64,0#64⟩
theorem fillA_eq {p:Pg} {s:S8} (h:qcw p.d0=3):fillA p s 8=qfh p s 8:=by
 unfold fillA qfh;rw [qyn 0 om,qyn 2 om,qyn 4 om,qyn 6 om,h]
theorem qfr {p:Pg} {s:S8} (q:Pt) (hq:q∈s8l s) (h:qc9 q=false):qgk p s=(Pg.nil,1):=by
 unfold qgk;rw [if_pos];rw [Bool.or_eq_true];refine .inr (List.any_eq_true.2 ⟨q,hq,by rw [h];rfl⟩)
theorem qo4 {p:Pg} {s:S8} (hk:qcw p.d0=3) (h:∀ i:Nat,i<8->∀ q,(s8l s)[i]?=some q->qc9 q=true):qgk p s=(qfh p s 8,0):=by
 unfold qgk;rw [if_neg];rw [hk,Bool.or_eq_true];rintro (e|e)
 ·simp at e
 ·obtain ⟨q,hq,hn⟩:=List.any_eq_true.1 e;obtain ⟨i,hi⟩:=List.getElem?_of_mem hq;have hl:i<8:=(List.getElem?_eq_some_iff.1 hi).1;rw [h i hl q hi] at hn;simp at hn
def okF (s:S8) (k:Nat):Prop:=∀ i:Nat,i<k->∀ q,(s8l s)[i]?=some q->qc9 q=true
theorem qh9 {s:S8} (k:Nat) (q:Pt) (hq:(s8l s)[k]?=some q) (h:okF s k) (h2:qc9 q=true):okF s (k+1):=fun i hi r hr=>by
 rcases Nat.lt_or_eq_of_le (Nat.le_of_lt_succ hi) with h3|h3
 ·exact h i h3 r hr
 ·subst h3;rw [hq] at hr;injection hr with e
  rw [<- e];exact h2
set_option maxHeartbeats 8000000 in
theorem qgi (p:Pg) (s:S8):FnP prog 84 [qcv p,qtu s] (qbs [qcv (qgk p s).1,Ii ((qgk p s).2)]):=by
 refine FnP.enter func84 ntmps84 rfl rfl ?_;intro c hX;refine t3 ?_;intro i2;refine s1 ?_;intro i3;refine s1 ?_;intro i4;refine t7 ?_;refine kS call92 (qel _) ?_;refine t3 ?_;refine cN ?_ ?_<;>intro h1
 ·have e:qgk p s=(Pg.nil,1):=by
   unfold qgk;have g:qcw p.d0≠3:=by simpa using h1
   rw [if_pos (by simp [g])]
  rw [e];refine t9 ?_;exact qbq (Bs:=[qcv Pg.nil,Ii 1]) results84 eT () SubL.rfl' (List.nil_sublist _)
 have hk3:qcw p.d0=3:=by simpa using h1
 refine t10 ?_;intro i6;refine t6 ?_;refine kS call95 (qh1 _) ?_;refine kS call94 (qn5 3 _ 0#32) ?_;refine t12 ?_;refine qbm (fun k:Nat=>k<=8∧okF s k) (fun k=>[(3,Is (.pointer (some ⟨i3,0,none⟩))),(4,Is (.pointer (some ⟨i4,0,none⟩))),(6,Is (.pointer (some ⟨i6,0,none⟩))),(7,Ii (k:Nat))]) (fun k=>[blk i6 50 (tPg.cells (fillA p s k)),blk i4 50 (tPg.cells Pg.nil),blk i3 168 (tS8.cells s)]) (fun k=>8-k) 0 ⟨nZ _,fun i hi=>by omega⟩ qa8 qab ?_;rintro k ⟨hk,ho⟩;refine t7 ?_;refine cN ?_ ?_<;>intro h6
 ·have hk4:k=0∨k=1∨k=2∨k=3∨k=4∨k=5∨k=6∨k=7:=by have:=of_decide_eq_true h6;omega
  clear h6;rcases hk4 with rfl|rfl|rfl|rfl|rfl|rfl|rfl|rfl
  all_goals
   refine t8 ?_;refine Z53 ?_;refine s1 ?_;refine kS call140 (qxo _) ?_;refine t3 ?_;refine cN ?_ ?_<;>intro h8
   ·have e:qgk p s=(Pg.nil,1):=by first|exact qfr s.s0 (by simp [s8l]) (qg1 h8)|exact qfr s.s1 (by simp [s8l]) (qg1 h8)|exact qfr s.s2 (by simp [s8l]) (qg1 h8)|exact qfr s.s3 (by simp [s8l]) (qg1 h8)|exact qfr s.s4 (by simp [s8l]) (qg1 h8)|exact qfr s.s5 (by simp [s8l]) (qg1 h8)|exact qfr s.s6 (by simp [s8l]) (qg1 h8)|exact qfr s.s7 (by simp [s8l]) (qg1 h8)
    rw [e];refine t14 ?_;exact qbq (Bs:=[qcv Pg.nil,Ii 1]) results84 eT () SubL.rfl' (List.nil_sublist _)
   refine t2 ?_;refine Z5 ?_;refine qaj 19 kr ?_;refine t4 ?_;refine Z19 ?_;refine t2 ?_;refine qbc (qah (k:=_) (sz:=2) (er rfl) (er rfl) rfl rfl qdh de) ?_;refine s1 ?_;refine Z94 ?_;refine t5 ?_;refine qbc (by first|exact qeg (k:=0) qhh (er rfl) de de|exact qeg (k:=32) qhh (er rfl) de de) ?_;refine t2 ?_;refine Z19 ?_;refine ⟨rfl,?_⟩;refine Z11 ?_;refine t7 ?_;first|exact qaa 1 ⟨om,qh9 0 s.s0 rfl ho (qey h8)⟩ om qa8 qab|exact qaa 2 ⟨om,qh9 1 s.s1 rfl ho (qey h8)⟩ om qa8 qab|exact qaa 3 ⟨om,qh9 2 s.s2 rfl ho (qey h8)⟩ om qa8 qab|exact qaa 4 ⟨om,qh9 3 s.s3 rfl ho (qey h8)⟩ om qa8 qab|exact qaa 5 ⟨om,qh9 4 s.s4 rfl ho (qey h8)⟩ om qa8 qab|exact qaa 6 ⟨om,qh9 5 s.s5 rfl ho (qey h8)⟩ om qa8 qab|exact qaa 7 ⟨om,qh9 6 s.s6 rfl ho (qey h8)⟩ om qa8 qab|exact qaa 8 ⟨om,qh9 7 s.s7 rfl ho (qey h8)⟩ om qa8 qab
 have hk4:k=8:=by have:=of_decide_eq_false h6;omega
 subst hk4;rw [qo4 hk3 ho,<- fillA_eq hk3];refine t13 ?_;exact qbq (Bs:=[qcv (fillA p s 8),Ii 0]) results84 eT () SubL.rfl' (List.nil_sublist _)
def Pg.setd (p:Pg) (j:Nat) (x:BitVec 64):Pg:=match j with
 | 0=>{ p with d0:=x }
 | 1=>{ p with d1:=x }
 | 2=>{ p with d2:=x }
 | 3=>{ p with d3:=x }
 | 4=>{ p with d4:=x }
 | 5=>{ p with d5:=x }
 | _=>{ p with d6:=x }
theorem qhe (p:Pg) {j:Nat} (x:BitVec 64) (hj:j<7):tPg.cells (p.setd j x)=ovr (tPg.cells p) (2+j) [Iw x]:=by
 match j,hj with
 | 0,_=>rfl
 | 1,_=>rfl
 | 2,_=>rfl
 | 3,_=>rfl
 | 4,_=>rfl
 | 5,_=>rfl
 | 6,_=>rfl
theorem qvp (p:Pg) {j:Nat} (hj:j<7):∃ x:BitVec 64,(tPg.cells p)[2+j]?=some (Iw x):=by
 match j,hj with
 | 0,_=>exact ⟨_,rfl⟩
 | 1,_=>exact ⟨_,rfl⟩
 | 2,_=>exact ⟨_,rfl⟩
 | 3,_=>exact ⟨_,rfl⟩
 | 4,_=>exact ⟨_,rfl⟩
 | 5,_=>exact ⟨_,rfl⟩
 | 6,_=>exact ⟨_,rfl⟩
theorem qtj {k j:Nat} (h:2+j+1<=9):(Nat.beq 1 1&&Nat.ble (2+j+1) 9)=true:=by
 rw [Nat.ble_eq_true_of_le h];rfl
theorem qsu (h:BitVec 32) {d:Int} (hd:0<=d∧d<=16):h=qfk h d↔h.toNat<2 ^ d.toNat:=by
 have h2:0<(2:Nat) ^ d.toNat:=Nat.pow_pos om;have e:=qnr h hd;constructor
 ·intro h1;rw [h1,e];exact Nat.mod_lt _ h2
 ·intro h1
  apply BitVec.eq_of_toNat_eq
  rw [e,Nat.mod_eq_of_lt h1]
def qnu (b:Bk):Bool:=decide (b.depth<0)||decide (b.depth>16)||(UV b.pat != UV (qfk b.pat b.depth))||(!qc9 b.next)||decide ((b.es.length:Int)>5)
def zfv (d:Int) (pat last:BitVec 32) (e:En):Bool:=decide (UV e.key<=UV last)||decide (UV e.key>4294967294)||(!qbt e.to) || !(UV (qfk (qbk e.key) d)==UV pat)
def qfy (d:Int) (pat:BitVec 32):BitVec 32->List En->Bool
 | _,[]=>true
 | last,e::es=>!zfv d pat last e&&qfy d pat e.key es
def qco (b:Bk):Bool:=!qnu b&&qfy b.depth b.pat 0#32 b.es
theorem qxm {b:Bk} (h:qnu b=false):(0<=b.depth∧b.depth<=16)∧b.pat.toNat<2 ^ b.depth.toNat∧qc9 b.next=true∧b.es.length<=5:=by
 unfold qnu at h;simp only [Bool.or_eq_false_iff,decide_eq_false_iff_not,bne_eq_false_iff_eq,Bool.not_eq_false'] at h;obtain ⟨⟨⟨⟨h1,h2⟩,h3⟩,h4⟩,h5⟩:=h;have hd:0<=b.depth∧b.depth<=16:=om;refine ⟨hd,?_,h4,om⟩;rw [<- qsu _ hd]
 apply BitVec.eq_of_toNat_eq
 unfold UV at h3;omega
theorem qvo {d:Int} {pat last:BitVec 32} {es:List En} {k:Nat} {e:En} (h:es[k]?=some e):qfy d pat last (es.drop k)=(!zfv d pat last e&&qfy d pat e.key (es.drop (k+1))):=by
 have hl:k<es.length:=(List.getElem?_eq_some_iff.1 h).1;rw [List.drop_eq_getElem_cons hl];have:es[k]=e:=by rw [gE hl] at h;exact Option.some.inj h
 rw [this];rfl
theorem qz6 {d:Int} {pat:BitVec 32}:∀ {last:BitVec 32} {es:List En},qfy d pat last es=true->∀ e∈es,qbt e.to=true
 | _,[],_,e,he=>by cases he
 | last,x::es,h,e,he=>by
  have h':(!zfv d pat last x&&qfy d pat x.key es)=true:=h;simp only [Bool.and_eq_true,Bool.not_eq_true'] at h';rcases List.mem_cons.1 he with rfl|he
  ·have h1:=h'.1;unfold zfv at h1;simp only [Bool.or_eq_false_iff] at h1
   simpa using h1.1.2
  ·exact qz6 h'.2 e he
def enW (e:En):BitVec 64:=e.key.setWidth 64<<<32|||(qcq e.to).setWidth 64
def unE (w:BitVec 64):En:=⟨(w>>>32).setWidth 32,qbb (w.setWidth 32)⟩
theorem zfw (e:En):enW e=qiu (qcq e.to) (e.key.setWidth 64):=by
 unfold enW qiu;exact BitVec.or_comm _ _
theorem low_w32 (w:BitVec 64):w.setWidth 32=w32 w 0:=by unfold w32;rw [BitVec.ushiftRight_zero]
theorem en_un {w:BitVec 64} (h:qbt (unE w).to=true):enW (unE w)=w:=by
 rw [zfw];unfold unE at h ⊢;dsimp only at h ⊢;rw [qpo h,low_w32];exact qmo w
def qjr (es:List En) (i:Nat):BitVec 64:=match es[i]? with
 | some e=>enW e
 | none=>0#64
theorem qip (es:List En) (k i:Nat):qjr (es.take k) i=if i<k then qjr es i else 0#64:=by
 unfold qjr;rw [List.getElem?_take];split <;> simp_all
def auxB (b:Bk):BitVec 32:=BitVec.ofInt 32 b.depth|||BitVec.ofInt 32 (b.es.length:Int)<<<8|||b.pat<<<16
def qor (p:Pg) (b:Bk) (xs:List En):Pg:=⟨p.l,p.h,qh3 ⟨qcw p.d0,qge p.d0,auxB b⟩,(qcq b.next).setWidth 64,qjr xs 0,qjr xs 1,qjr xs 2,qjr xs 3,qjr xs 4⟩
def qej (p:Pg) (b:Bk):Pg:=qor p b b.es
theorem fill_set (p:Pg) (b:Bk) {es:List En} {k:Nat} {e:En} (h:es[k]?=some e) (hk:k<5):(qor p b (es.take k)).setd (2+k) (enW e)=qor p b (es.take (k+1)):=by
 have hw:qjr es k=enW e:=by unfold qjr;rw [h]
 match k,hk with
 | 0,_=>unfold qor;simp only [qip];simp [Pg.setd,hw]
 | 1,_=>unfold qor;simp only [qip];simp [Pg.setd,hw]
 | 2,_=>unfold qor;simp only [qip];simp [Pg.setd,hw]
 | 3,_=>unfold qor;simp only [qip];simp [Pg.setd,hw]
 | 4,_=>unfold qor;simp only [qip];simp [Pg.setd,hw]
def qm3 (p:Pg) (n:Nat):List En:=((dat p).drop 2 |>.take n).map unE
def qle (a:BitVec 32):Int:=UV (a>>>8&&&BitVec.ofInt 32 255)
theorem zaa (a:BitVec 32):0<=qle a∧qle a<=255:=by
 have:=qg2 32 8 (a>>>8) (BitVec.ofInt 32 255) rfl;unfold qle;omega
def rdB (p:Pg):Bk:=⟨UV (qf9 p.d0&&&BitVec.ofInt 32 255),qf9 p.d0>>>16,qbb (p.d1.setWidth 32),qm3 p (qle (qf9 p.d0)).toNat⟩
def qdq (p:Pg):Bk×Int:=if (qcw p.d0 != 2||decide (qle (qf9 p.d0)>5)) then (Bk.nil,14) else if (!okW (p.d1.setWidth 32) || !qco (rdB p) || !qhy (qej p (rdB p)) p) then (Bk.nil,14) else (rdB p,0)
def qgz (p:Pg) (b:Bk):Pg×Int:=if (!(qcw p.d0==2) || !qco b) then (Pg.nil,1) else (qej p b,0)
theorem qvu {b:Bk} (hd:0<=b.depth∧b.depth<=16) (hp:b.pat.toNat<2 ^ b.depth.toNat) (hl:b.es.length<=5):(auxB b).toNat=b.depth.toNat+b.es.length*256+b.pat.toNat*65536:=by
 have h16:(2:Nat) ^ b.depth.toNat<=2 ^ 16:=Nat.pow_le_pow_right om om;have e1:(BitVec.ofInt 32 b.depth).toNat=b.depth.toNat:=by rw [BitVec.toNat_ofInt];omega
 have e2:(BitVec.ofInt 32 (b.es.length:Int)).toNat=b.es.length:=by rw [BitVec.toNat_ofInt];omega
 have or32:∀ (x y:BitVec 32) (n:Nat),x.toNat<2 ^ n->y.toNat*2 ^ n<2 ^ 32->(x|||y<<<n).toNat=x.toNat+y.toNat*2 ^ n:=fun x y n ha hb=>by
  rw [BitVec.toNat_or,BitVec.toNat_shiftLeft,Nat.shiftLeft_eq,Nat.mod_eq_of_lt hb,Nat.mul_comm,Nat.or_comm,<- Nat.two_pow_add_eq_or_of_lt ha,Nat.add_comm]
 have g1:=or32 (BitVec.ofInt 32 b.depth) (BitVec.ofInt 32 (b.es.length:Int)) 8 om om;have g2:=or32 (BitVec.ofInt 32 b.depth|||BitVec.ofInt 32 (b.es.length:Int)<<<8) b.pat 16 om om;unfold auxB;rw [g2,g1,e1,e2]
theorem qfj {b:Bk} (h:qco b=true):((0<=b.depth∧b.depth<=16)∧b.pat.toNat<2 ^ b.depth.toNat∧qc9 b.next=true∧b.es.length<=5)∧∀ e∈b.es,qbt e.to=true:=by
 unfold qco at h;simp only [Bool.and_eq_true,Bool.not_eq_true'] at h;exact ⟨qxm h.1,qz6 h.2⟩
theorem qg8 (p:Pg) {n:Nat} (h:n<=5):(qm3 p n).length=n:=by
 simp [qm3,dat];omega
def qgt (p:Pg) (i:Nat):BitVec 64:=match i with
 | 0=>p.d2
 | 1=>p.d3
 | 2=>p.d4
 | 3=>p.d5
 | _=>p.d6
theorem qxx (p:Pg) {i:Nat} (h:i<5):(dat p)[2+i]?=some (qgt p i):=by
 match i,h with
 | 0,_=>rfl
 | 1,_=>rfl
 | 2,_=>rfl
 | 3,_=>rfl
 | 4,_=>rfl
theorem qo0 (p:Pg) {n i:Nat} (h:i<n) (h5:i<5):(qm3 p n)[i]?=some (unE (qgt p i)):=by
 unfold qm3;rw [List.getElem?_map,List.getElem?_take,if_pos h,List.getElem?_drop,qxx p h5];rfl
theorem qvn (p:Pg) {n i:Nat} (h:n<=i):(qm3 p n)[i]?=none:=by
 unfold qm3;rw [List.getElem?_map,List.getElem?_take,if_neg om];rfl
theorem qvm (p:Pg) {k:Nat} (h:k<5):qm3 p k++[unE (qgt p k)]=qm3 p (k+1):=by
 apply List.ext_getElem?
 intro i;rcases Nat.lt_trichotomy i k with h1|h1|h1
 ·rw [List.getElem?_append_left (by rw [qg8 p om];exact h1),qo0 p h1 om,qo0 p (show i<k+1 by omega) om]
 ·subst h1;rw [List.getElem?_append_right (by rw [qg8 p om];omega),qg8 p om,Nat.sub_self,qo0 p (show i<i+1 by omega) h];rfl
 ·rw [List.getElem?_append_right (by rw [qg8 p om];omega),qg8 p om,qvn p (show k+1<=i by omega)];have:i-k=(i-k-1)+1:=om;rw [this];rfl
theorem zce {p:Pg} {n:Nat} (hv:∀ e∈qm3 p n,qbt e.to=true) {i:Nat} (h:i<5):qjr (qm3 p n) i=if i<n then qgt p i else 0#64:=by
 unfold qjr;by_cases hi:i<n
 ·have g:=qo0 p hi h;rw [g,if_pos hi];exact en_un (hv _ (List.mem_of_getElem? g))
 ·rw [qvn p om,if_neg hi]
theorem qxw {p:Pg} (hn:qle (qf9 p.d0)<=5) (ho:okW (p.d1.setWidth 32)=true) (hv:qco (rdB p)=true):qhy (qej p (rdB p)) p=true↔UV p.d1<4294967296∧∀ i:Nat,qle (qf9 p.d0)<=i->i<5->qgt p i=0#64:=by
 obtain ⟨⟨hd,hp,hf,hl⟩,hve⟩:=qfj hv;have hc:=zaa (qf9 p.d0);obtain ⟨n,hnn⟩:∃ n:Nat,qle (qf9 p.d0)=n:=⟨(qle (qf9 p.d0)).toNat,om⟩
 have hes:(rdB p).es=qm3 p n:=by show qm3 p (qle (qf9 p.d0)).toNat=_;rw [hnn,Int.toNat_natCast]
 have hw:∀ i,i<5->qjr (qm3 p n) i=if i<n then qgt p i else 0#64:=fun i hi=>zce (by rw [<- hes];exact hve) hi
 have e0:(qej p (rdB p)).d0=p.d0:=by
  show qh3 ⟨qcw p.d0,qge p.d0,auxB (rdB p)⟩=p.d0;rw [qyr]
  apply BitVec.eq_of_toNat_eq
  have g:=qvu hd hp hl;rw [hes,qg8 p om] at g;rw [g];have q1:(rdB p).depth=UV (qf9 p.d0) % 256:=qg2 32 8 (qf9 p.d0) (BitVec.ofInt 32 255) rfl;have q2:(rdB p).pat.toNat=(qf9 p.d0).toNat / 65536:=by
   show (qf9 p.d0>>>16).toNat=_;rw [BitVec.toNat_ushiftRight,Nat.shiftRight_eq_div_pow]
  have q3:qle (qf9 p.d0)=UV (qf9 p.d0) / 256 % 256:=by
   unfold qle;rw [qg2 32 8 (qf9 p.d0>>>8) (BitVec.ofInt 32 255) rfl,qqd 32 (qf9 p.d0) 8];rfl
  unfold UV at q1 q3;rw [q2];omega
 have e1:(qej p (rdB p)).d1=(p.d1.setWidth 32).setWidth 64:=by
  show (qcq (qbb (p.d1.setWidth 32))).setWidth 64=_;rw [qjc ho]
 have e1':(qej p (rdB p)).d1=p.d1↔UV p.d1<4294967296:=by
  rw [e1];have hn:((p.d1.setWidth 32).setWidth 64).toNat=p.d1.toNat % 4294967296:=by
   simp only [BitVec.toNat_setWidth];omega
  unfold UV;constructor
  ·intro h;rw [h] at hn;omega
  ·intro h
   apply BitVec.eq_of_toNat_eq
   omega
 have g0:(qej p (rdB p)).d2=qjr (qm3 p n) 0:=by rw [<- hes];rfl
 have g1:(qej p (rdB p)).d3=qjr (qm3 p n) 1:=by rw [<- hes];rfl
 have g2:(qej p (rdB p)).d4=qjr (qm3 p n) 2:=by rw [<- hes];rfl
 have g3:(qej p (rdB p)).d5=qjr (qm3 p n) 3:=by rw [<- hes];rfl
 have g4:(qej p (rdB p)).d6=qjr (qm3 p n) 4:=by rw [<- hes];rfl
 have hz:∀ i,i<5->((if i<n then qgt p i else 0#64)=qgt p i↔(n<=i->qgt p i=0#64)):=fun i hi=>by
  by_cases h:i<n
  ·rw [if_pos h];exact ⟨fun _ h2=>absurd h2 om,fun _=>rfl⟩
  ·rw [if_neg h];exact ⟨fun h2 _=>h2.symm,fun h2=>(h2 om).symm⟩
 rw [data_iff,e1',g0,g1,g2,g3,g4,hw 0 om,hw 1 om,hw 2 om,hw 3 om,hw 4 om,hnn];constructor
 ·rintro ⟨_,h1,h2,h3,h4,h5,h6⟩;refine ⟨h1,fun i hi hi5=>?_⟩;have hi':n<=i:=om
  match i,hi5 with
  | 0,_=>exact (hz 0 om).1 h2 hi'
  | 1,_=>exact (hz 1 om).1 h3 hi'
  | 2,_=>exact (hz 2 om).1 h4 hi'
  | 3,_=>exact (hz 3 om).1 h5 hi'
  | 4,_=>exact (hz 4 om).1 h6 hi'
 ·rintro ⟨h1,h2⟩;have hq:∀ i,i<5->(n<=i->qgt p i=0#64):=fun i hi hn=>h2 i om hi;exact ⟨e0,h1,(hz 0 om).2 (hq 0 om),(hz 1 om).2 (hq 1 om),(hz 2 om).2 (hq 2 om),(hz 3 om).2 (hq 3 om),(hz 4 om).2 (hq 4 om)⟩
section
variable {p:Pg}
theorem qrm (h:(qcw p.d0 != 2||decide (qle (qf9 p.d0)>5))=true):qdq p=(Bk.nil,14):=by unfold qdq;rw [if_pos h]
theorem que (h:(qcw p.d0 != 2||decide (qle (qf9 p.d0)>5))=false) (h1:(!okW (p.d1.setWidth 32) || !qco (rdB p) || !qhy (qej p (rdB p)) p)=true):qdq p=(Bk.nil,14):=by unfold qdq;rw [if_neg (by rw [h];simp),if_pos h1]
theorem zdp (h:(qcw p.d0 != 2||decide (qle (qf9 p.d0)>5))=false) (h1:(!okW (p.d1.setWidth 32) || !qco (rdB p) || !qhy (qej p (rdB p)) p)=false):qdq p=(rdB p,0):=by unfold qdq;rw [if_neg (by rw [h];simp),if_neg (by rw [h1];simp)]
theorem qsk (h:¬ (qcw p.d0=2∧qle (qf9 p.d0)<=5∧okW (p.d1.setWidth 32)=true∧qco (rdB p)=true∧qhy (qej p (rdB p)) p=true)):qdq p=(Bk.nil,14):=by
 cases h0:(qcw p.d0 != 2||decide (qle (qf9 p.d0)>5)) with
 | true=>exact qrm h0
 | false =>
  refine que h0 ?_;simp only [Bool.or_eq_false_iff,bne_eq_false_iff_eq,decide_eq_false_iff_not] at h0;cases h1:okW (p.d1.setWidth 32)
  ·rfl
  ·cases h2:qco (rdB p)
   ·rfl
   ·cases h3:qhy (qej p (rdB p)) p
    ·rfl
    ·exact absurd ⟨h0.1,om,h1,h2,h3⟩ h
theorem zdo (h1:qcw p.d0=2) (h2:qle (qf9 p.d0)<=5) (h3:okW (p.d1.setWidth 32)=true) (h4:qco (rdB p)=true) (h5:qhy (qej p (rdB p)) p=true):qdq p=(rdB p,0):=by
 refine zdp ?_ (by rw [h3,h4,h5];rfl);rw [h1];simp;omega
end
theorem qzo (h:BitVec 32) (d:Int) (hd:0<=d∧d<=16):FnP prog 68 [Is (.int .u32 (UV h)),Ii d] (Is (.int .u32 (UV (qfk h d)))):=by
 refine FnP.enter func68 ntmps68 rfl rfl ?_;intro c hX;refine t10 ?_;refine qao rfl (by exact qev (k:=d.toNat) qn0 (er rfl) om qdh) ?_;refine t6 ?_;refine rB results68 rfl ?_;rfl
theorem qm6 (b:Bk) (h:BitVec 32) (hd:0<=b.depth∧b.depth<=16):FnP prog 66 [zb9 b,Is (.int .u32 (UV h))] (Ib (UV (qfk h b.depth)==UV b.pat)):=by
 refine FnP.enter func66 ntmps66 rfl rfl ?_;intro c hX;refine t3 ?_;intro i2;refine Z38 ?_;refine qaj 8 kr ?_;refine t3 ?_;refine qbc (by ((refine qac call68 (qzo _ _ ?_) ⟨evS,⟨evS,trivial⟩⟩);all_goals (omega))) ?_;refine t4 ?_;refine ⟨rfl,?_⟩;refine Z33 ?_;refine rB results66 rfl ?_;rfl
theorem qrh {b:Bk} (h:qnu b=true):qco b=false:=by unfold qco;rw [h];rfl
theorem qkn {b:Bk} (h:qnu b=false):qco b=qfy b.depth b.pat 0#32 b.es:=by unfold qco;rw [h];rfl
theorem zb2 (b:Bk):FnK prog 207 qfd [zb9 b] (Ib (qco b)):=by
 refine Fn.enterN func207 ntmps207 rfl rfl ?_;intro c hX;refine t3 ?_;intro i1;refine Z70 ?_;refine qaj 30 kr ?_;refine t15 ?_;(refine qch rfl rfl (fun hg=>(by have hg0:=hg;(try simp at hg);((refine qac call68 (qzo _ _ ?_) ⟨evS,⟨evS,trivial⟩⟩);all_goals (omega)))) ?_);refine t5 ?_;(refine qch rfl rfl (fun hg=>(by have hg0:=hg;(try simp at hg);((refine qg5 call173 (qrv _) ⟨evS,trivial⟩ qba)))) ?_);refine t8 ?_;refine ⟨rfl,?_⟩;refine Z20 ?_;refine cN ?_ ?_<;>intro h1
 ·have h0:qnu b=true:=h1;refine t7 ?_;refine rB results207 rfl ?_;rw [qrh h0]
 have h0:qnu b=false:=h1;obtain ⟨hd,hp,hf,hl⟩:=qxm h0;clear h1;refine t17 ?_;refine qbm (fun z:Nat×BitVec 32=>z.1<=b.es.length∧qfy b.depth b.pat 0#32 b.es=qfy b.depth b.pat z.2 (b.es.drop z.1)) (fun z=>[(1,Is (.pointer (some ⟨i1,0,none⟩))),(3,Is (.int .u32 (UV z.2))),(37,qad tEn b.es),(38,Ii b.es.length),(39,Ii (z.1:Nat))]) (fun _=>[blk i1 132 (tBk.cells b),qfd]) (fun z=>b.es.length-z.1) (0,0#32) ⟨nZ _,rfl⟩ qa8 qab ?_;rintro ⟨k,last⟩ ⟨hk,hs⟩;dsimp only at hk hs ⊢;refine t6 ?_;refine cN ?_ ?_<;>intro h5
 ·have h':(k:Int)<b.es.length:=of_decide_eq_true h5;obtain ⟨e,hz⟩:∃ e,b.es[k]?=some e:=⟨b.es[k],gE om⟩
  rw [qvo hz] at hs;clear h5;refine t6 ?_;refine qao rfl (by exact qak (j:=_) (er rfl) (er rfl) rfl rfl rf (by assumption)) ?_;refine t2 ?_;intro i5;refine Z70 ?_;refine qaj 23 kr ?_;refine t12 ?_;(refine qch rfl rfl (fun hg=>(by have hg0:=hg;(try simp at hg);exact qac call50 (qhz _) ⟨evS,trivial⟩)) ?_);refine t6 ?_;(refine qch rfl rfl (fun hg=>(by have hg0:=hg;(try simp at hg);exact qac call40 (qoa _) ⟨evS,trivial⟩)) ?_);(refine qch rfl rfl (fun hg=>(by have hg0:=hg;(try simp at hg);((refine qac call66 (qm6 b _ ?_) ⟨evS,⟨evS,trivial⟩⟩);all_goals (omega)))) ?_);refine t2 ?_;refine ⟨rfl,?_⟩;refine Z20 ?_;refine cN ?_ ?_<;>intro h7
  ·rw [show zfv b.depth b.pat last e=true from h7] at hs;refine t12 ?_;refine rB results207 rfl ?_;rw [qkn h0,hs];rfl
  rw [show zfv b.depth b.pat last e=false from h7] at hs;refine t13 ?_;exact qaa (k+1,e.key) ⟨by dsimp only;omega,by simpa using hs⟩ (by dsimp only;omega) qa8 qab
 have h':¬ (k:Int)<b.es.length:=of_decide_eq_false h5;have hkl:k=b.es.length:=om;subst hkl;rw [List.drop_length] at hs;refine t11 ?_;refine rB results207 rfl ?_;rw [qkn h0,hs];rfl
theorem qgv (b:Bk) (p:Pg) (hl:b.es.length<=5):FnP prog 62 [zb9 b,qcv p] (qcv (qej p b)):=by
 refine FnP.enter func62 ntmps62 rfl rfl ?_;intro c hX;refine t3 ?_;intro i2;refine s1 ?_;intro i3;refine s1 ?_;intro i4;refine t7 ?_;refine kS call119 (qgu _) ?_;refine s1 ?_;intro i5;refine t12 ?_;refine qao rfl (by exact qev (k:=8) qn0 (er rfl) om qdh) ?_;refine t3 ?_;refine qao rfl (by exact qev (k:=16) qn0 (er rfl) om qdh) ?_;refine t6 ?_;refine Z101 ?_;refine s1 ?_;refine qbc (qac call120 (qn7 ⟨qcw p.d0,qge p.d0,auxB b⟩) ⟨evS,trivial⟩) ?_;refine t2 ?_;refine Z71 ?_;refine s1 ?_;refine qbc (qd1 (size:=1) (qs:=[(0,_),(1,_)]) rfl rfl rfl rfl ⟨⟨rfl,_,(er rfl),qa5⟩,⟨⟨rfl,_,(er rfl),qa5⟩,trivial⟩⟩ rf qbx) ?_;refine s1 ?_;refine ⟨rfl,?_⟩;refine Z11 ?_;refine t11 ?_;refine qbm (fun k:Nat=>k<=b.es.length) (fun k=>[(3,Is (.pointer (some ⟨i3,0,none⟩))),(4,Is (.pointer (some ⟨i4,0,none⟩))),(35,qad tEn b.es),(36,Ii b.es.length),(37,Ii (k:Nat))]) (fun k=>[blk i3 50 (tPg.cells (qor p b (b.es.take k))),blk i4 50 (tPg.cells Pg.nil)]) (fun k=>b.es.length-k) 0 (nZ _) qa8 qab ?_;rintro k hk;refine t6 ?_;refine cN ?_ ?_<;>intro h5
 ·have h':k<b.es.length:=by have:=of_decide_eq_true h5;omega
  obtain ⟨e,hz⟩:∃ e,b.es[k]?=some e:=⟨b.es[k],gE om⟩
  have hcl:(tPg.cells (qor p b (b.es.take k))).length=9:=rfl;have hof:0+2+(2+k)*1=2+(2+k):=om;clear h5;refine t7 ?_;refine qao rfl (by exact qak (j:=_) (er rfl) (er rfl) rfl rfl rf (by assumption)) ?_;refine t2 ?_;intro i7;refine Z38 ?_;refine zbq ?_;refine t5 ?_;refine Z42 ?_;refine t2 ?_;refine Z71 ?_;refine t3 ?_;refine qbc (qah (k:=2+k) (sz:=1) (er rfl) (er rfl) rfl rfl qdh om) ?_;refine ⟨rfl,?_⟩;refine zbx kr rfl (quj (n:=1) (Rs:=tPg.cells (qor p b (b.es.take (k+1)))) (er rfl) (er rfl) qa5 qaf (by rw [hof,<- fill_set p b hz om];exact (qhe _ _ om).symm) rf rf (by (simp;omega))) ?_;refine qda ?_;refine t6 ?_;exact qaa (k+1) om om qa8 qab
 have hkl:k=b.es.length:=by have:=of_decide_eq_false h5;omega
 subst hkl;rw [List.take_length];refine t12 ?_;exact qbq (Bs:=[qcv (qej p b)]) results62 eT () SubL.rfl' (List.nil_sublist _)
theorem qvd (b:Bk):(decide (b.depth<0)||decide (b.depth>16)||decide (UV (b.pat.setWidth 64)>=UV (BitVec.ofInt 64 1<<<b.depth.toNat))||(!qc9 b.next)||decide ((b.es.length:Int)>5))=qnu b:=by
 unfold qnu;by_cases hd:0<=b.depth∧b.depth<=16
 ·congr 3
  obtain ⟨h1,h2,h3⟩:=pow_UV hd;have h4:=qsu b.pat hd;rw [h1,zci,Bool.eq_iff_iff,decide_eq_true_iff,bne_iff_ne];have h5:(UV b.pat=UV (qfk b.pat b.depth))↔b.pat.toNat<2 ^ b.depth.toNat:=by
   rw [<- h4];constructor
   ·intro h
    apply BitVec.eq_of_toNat_eq
    unfold UV at h;omega
   ·intro h;rw [<- h]
  rw [ne_eq,h5];unfold UV;generalize (2:Nat) ^ b.depth.toNat=m at *;omega
 ·have h0:(decide (b.depth<0)||decide (b.depth>16))=true:=by
   simp;omega
  rw [h0];rfl
def qzq (es:List En) (k:Nat):BitVec 32:=if k=0 then 0#32 else (qq6 es (k-1)).key
theorem qz7 (d:Int) (pat:BitVec 32) (es:List En) (k:Nat) (e:En):(decide (UV e.key<1)||decide (UV e.key>4294967294)||(!qbt e.to)||(UV (qfk (qbk e.key) d) != UV pat)||(decide ((k:Int)>0)&&decide (UV (qq6 es (k-1)).key>=UV e.key)))=zfv d pat (qzq es k) e:=by
 unfold zfv;have h1:=qa2 e.key;have h2:=qa2 (qq6 es (k-1)).key;have h3:decide (UV e.key<=UV (qzq es k))=(decide (UV e.key<1)||(decide ((k:Int)>0)&&decide (UV (qq6 es (k-1)).key>=UV e.key))):=by
  unfold qzq;by_cases hk:k=0
  ·subst hk;have:UV (0#32)=0:=rfl;rw [if_pos rfl,this,Bool.eq_iff_iff];simp;omega
  ·rw [if_neg hk,Bool.eq_iff_iff];simp;omega
 rw [h3];show _=(_||_||_ || !(UV (qfk (qbk e.key) d)==UV pat))
 have h4:(UV (qfk (qbk e.key) d) != UV pat) = !(UV (qfk (qbk e.key) d)==UV pat):=rfl;rw [h4];generalize decide (UV e.key<1)=a;generalize (decide ((k:Int)>0)&&decide (UV (qq6 es (k-1)).key>=UV e.key))=b;generalize decide (UV e.key>4294967294)=c;generalize (!qbt e.to)=d1;generalize (!(UV (qfk (qbk e.key) d)==UV pat))=d2;cases a <;> cases b <;> cases c <;> cases d1 <;> cases d2 <;> rfl
theorem qqn (b:Bk):FnP prog 93 [zb9 b] (Ib (qco b)):=by
 refine FnP.enter func93 ntmps93 rfl rfl ?_;intro c hX;refine t3 ?_;intro i1;refine t21 ?_;(refine qcg rfl rfl rfl (fun hg=>(by have hg0:=hg;(try simp at hg);exact qeg (k:=b.depth.toNat) qjv evG om qdh)) ?_);refine t5 ?_;(refine qcg rfl rfl rfl (fun hg=>(by have hg0:=hg;(try simp at hg);exact qac call140 (qxo _) ⟨evS,trivial⟩)) ?_);refine t10 ?_;refine cN ?_ ?_<;>intro h1
 ·have h0:qnu b=true:=(qvd b).symm.trans h1;refine t7 ?_;refine rB results93 rfl ?_;rw [qrh h0]
 have h0:qnu b=false:=(qvd b).symm.trans h1;obtain ⟨hd,hp,hf,hl⟩:=qxm h0;clear h1;refine t9 ?_;refine qbm (fun k:Nat=>k<=b.es.length∧qfy b.depth b.pat 0#32 b.es=qfy b.depth b.pat (qzq b.es k) (b.es.drop k)) (fun k=>[(1,Is (.pointer (some ⟨i1,0,none⟩))),(3,Ii (k:Nat))]) (fun _=>[blk i1 92 (tBk.cells b)]) (fun k=>b.es.length-k) 0 ⟨nZ _,rfl⟩ qa8 qab ?_;rintro k ⟨hk,hs⟩;refine t10 ?_;refine cN ?_ ?_<;>intro h4
 ·have h':k<b.es.length:=by have:=of_decide_eq_true h4;omega
  have hz:=qg9 h';have hz1:0<k->b.es[k-1]?=some (qq6 b.es (k-1)):=fun _=>qg9 om;rw [qvo hz] at hs;clear h4;refine t9 ?_;refine qao rfl (by exact qak (j:=_) (er rfl) (er rfl) rfl rfl rf (by assumption)) ?_;refine t2 ?_;intro i4;refine Z38 ?_;refine qaj 41 kr ?_;refine t11 ?_;(refine qch rfl rfl (fun hg=>(by have hg0:=hg;(try simp at hg);exact qac call30 (qb5 _) ⟨evS,trivial⟩)) ?_);refine t5 ?_;(refine qch rfl rfl (fun hg=>(by have hg0:=hg;(try simp at hg);exact qac call35 (qo3 _) ⟨evS,trivial⟩)) ?_);refine t2 ?_;(refine qch rfl rfl (fun hg=>(by have hg0:=hg;(try simp at hg);((refine qac call80 (qns _ _ ?_) ⟨evS,⟨evS,trivial⟩⟩);all_goals (omega)))) ?_);refine t12 ?_;(refine zgr rfl rfl (fun hp hg=>(by have hpg:=Bool.and_eq_true_iff.2 ⟨hp,hg⟩;have hg0:=hg;(try simp at hg);exact qak (j:=k-1) evG evG rfl rfl om (hz1 om))) ?_);refine t7 ?_;refine ⟨rfl,?_⟩;refine Z20 ?_;refine cN ?_ ?_<;>intro h7
  ·rw [qz7] at h7;rw [h7] at hs;refine t11 ?_;refine rB results93 rfl ?_;rw [qkn h0,hs];rfl
  rw [qz7] at h7;rw [h7] at hs;refine t8 ?_;exact qaa (k+1) ⟨om,by rw [hs];rfl⟩ om qa8 qab
 have hkl:k=b.es.length:=by have:=of_decide_eq_false h4;omega
 subst hkl;rw [List.drop_length] at hs;refine t11 ?_;refine rB results93 rfl ?_;rw [qkn h0,hs];rfl
theorem cnt_rng (a:BitVec 32):-9223372036854775808<=UV (a>>>8&&&BitVec.ofInt 32 255)∧UV (a>>>8&&&BitVec.ofInt 32 255)<=9223372036854775807:=by
 have:=zaa a;unfold qle at this;omega
theorem dep_rng (a:BitVec 32):-9223372036854775808<=UV (a&&&BitVec.ofInt 32 255)∧UV (a&&&BitVec.ofInt 32 255)<=9223372036854775807:=by
 have:=qg2 32 8 a (BitVec.ofInt 32 255) rfl;omega
theorem cnt_ref (a:BitVec 32):IntKind.i64.wrap ((IntKind.u32.wrap ((UV a).tdiv 256)).tmod 256)=qle a:=by
 have h1:=qa2 a;have h2:=zgj a;have h3:qle a=UV a / 256 % 256:=by
  unfold qle;rw [qg2 32 8 (a>>>8) (BitVec.ofInt 32 255) rfl,qqd 32 a 8];rfl
 rw [h3,Int.tdiv_eq_ediv_of_nonneg h1,wU32 (n:=UV a / 256) om,Int.tmod_eq_emod_of_nonneg om,qqq om]
theorem dep_ref (p:Pg):IntKind.i64.wrap ((UV (qf9 p.d0)).tmod 256)=(rdB p).depth:=by
 have h1:=qa2 (qf9 p.d0);have h3:(rdB p).depth=UV (qf9 p.d0) % 256:=qg2 32 8 (qf9 p.d0) (BitVec.ofInt 32 255) rfl;rw [h3,Int.tmod_eq_emod_of_nonneg h1,qqq om]
theorem head_ref {p:Pg} (h:(((((qcw p.d0 != 2)||decide ((UV (qf9 p.d0)).tmod 256>16))||decide (qle (qf9 p.d0)>5))||(!okW (p.d1.setWidth 32)))||decide (UV p.d1>=4294967296))=true):qdq p=(Bk.nil,14):=by
 apply qsk
 rintro ⟨g1,g2,g3,g4,g5⟩;have h3:(rdB p).depth=UV (qf9 p.d0) % 256:=qg2 32 8 (qf9 p.d0) (BitVec.ofInt 32 255) rfl;have h4:=(qfj g4).1.1;have h5:=((qxw g2 g3 g4).1 g5).1;rw [Int.tmod_eq_emod_of_nonneg (qa2 _)] at h;simp only [Bool.or_eq_true,bne_iff_ne,decide_eq_true_eq,Bool.not_eq_true'] at h;rcases h with (((h|h)|h)|h)|h
 ·exact h g1
 ·omega
 ·omega
 ·rw [h] at g3;cases g3
 ·omega
theorem qrc (p:Pg):FnP prog 144 [qcv p] (qbs [zb9 (qdq p).1,Ii ((qdq p).2)]):=by
 have hc3:=zaa (qf9 p.d0);refine FnP.enter func144 ntmps144 rfl rfl ?_;intro c hX;refine t3 ?_;intro i1;refine s1 ?_;intro i2;refine t6 ?_;refine kS call138 (qqo _) ?_;refine t9 ?_;refine qln 16 (Ii (qle (qf9 p.d0))) rfl (SubL.eq (by rw [cnt_ref])) ?_;refine t8 ?_;refine kS call139 (qkt _) ?_;refine t4 ?_;intro i6;refine t8 ?_;refine kS call92 (qel _) ?_;refine t22 ?_;refine cN ?_ ?_<;>intro h4
 ·rw [head_ref h4];refine t9 ?_;exact qbq (Bs:=[zb9 Bk.nil,Ii 14]) results144 eT () SubL.rfl' (List.nil_sublist _)
 simp only [Bool.or_eq_false_iff,bne_eq_false_iff_eq,decide_eq_false_iff_not,Bool.not_eq_false'] at h4;obtain ⟨⟨⟨⟨g1,g2⟩,g3⟩,g4⟩,g5⟩:=h4;have hn5:qle (qf9 p.d0)<=5:=om;have hd1:UV p.d1<4294967296:=om;obtain ⟨n,hn⟩:∃ n:Nat,qle (qf9 p.d0)=n:=⟨(qle (qf9 p.d0)).toNat,om⟩
 have hes:(rdB p).es=qm3 p n:=by show qm3 p (qle (qf9 p.d0)).toNat=_;rw [hn,Int.toNat_natCast]
 refine qbl 5 (Ii (n:Int)) rfl (SubL.eq (by rw [<- hn])) ?_;refine t7 ?_;refine qln 49 (Ii ((rdB p).depth)) rfl (SubL.eq (by rw [dep_ref])) ?_;refine s1 ?_;refine Z81 ?_;refine t3 ?_;intro i8;refine t5 ?_;refine qdo 100 tEn ?_;refine qec hX (b:=i1) qaf ?_;refine qbl 1 (IsRef (tPg.cells p)) rfl (SubL.fact qba) ?_;refine t5 ?_;refine qbm (fun i:Nat×(Option Addr×Nat)=>i.1<=5∧∀ j:Nat,n<=j->j<i.1->qgt p j=0#64) (fun i=>[(1,IsRef (tPg.cells p)),(2,Is (.pointer (some ⟨i2,0,none⟩))),(5,Ii (n:Int)),(8,Is (.pointer (some ⟨i8,0,none⟩))),(9,Ii (i.1:Nat))]) (fun i=>[blk i8 92 [Ii ((rdB p).depth),Is (.int .u32 (UV (rdB p).pat)),Ii ((rdB p).next.line),Ii ((rdB p).next.gen),Is (slV (qm3 p (min i.1 n)).length i.2)],buf (slV (qm3 p (min i.1 n)).length i.2) 100 tEn (qm3 p (min i.1 n)),blk i2 92 [Ii 0,Is (.int .u32 0),Ii 0,Ii 0,Is (.slice none 0 0)]]) (fun i=>5-i.1) (0,(none,0)) ⟨nZ _,fun j h1 h2=>by dsimp only at h2;omega⟩ qa8 (by dsimp only;rw [Nat.zero_min];exact qab) ?_;rintro ⟨k,s⟩ ⟨hk,hrest⟩;dsimp only at hk hrest ⊢;have hel:=qg8 p (n:=min k n) om;refine t7 ?_;refine cN ?_ ?_<;>intro h8
 ·have h':k<5:=by have:=of_decide_eq_true h8;omega
  have hd:=qxx p h';clear h8;refine t9 ?_;refine qao rfl (by exact qgd (j:=2+k) (T:=tU64) (dat p) (er rfl) (er rfl) rfl rfl rf qih rf hd) ?_;refine t12 ?_;refine cN ?_ ?_<;>intro h11
  ·have hkn:n<=k:=by have:=of_decide_eq_true h11;omega
   clear h11;refine t7 ?_;refine cN ?_ ?_<;>intro h12
   ·have h0:¬ qgt p k=0#64:=fun e=>by rw [e] at h12;simp [UV] at h12
    have e:qdq p=(Bk.nil,14):=qsk (fun ⟨q1,q2,q3,q4,q5⟩=>h0 (((qxw q2 q3 q4).1 q5).2 k om h'));rw [e];refine t15 ?_;exact qbq (Bs:=[zb9 Bk.nil,Ii 14]) results144 eT () SubL.rfl' (List.nil_sublist _)
   have h0:qgt p k=0#64:=by
    apply BitVec.eq_of_toNat_eq
    unfold UV at h12;simp at h12;simp;omega
   have hm:min k n=min (k+1) n:=om;have hrest2:∀ j:Nat,n<=j->j<k+1->qgt p j=0#64:=fun j h1 h2=>by
    rcases Nat.lt_or_ge j k with h3|h3
    ·exact hrest j h1 h3
    ·rw [show j=k by omega];exact h0
   rw [hm];refine t11 ?_;exact qaa (k+1,s) ⟨by dsimp only;omega,hrest2⟩ (by dsimp only;omega) qa8 qab
  have hkn:k<n:=by have:=of_decide_eq_false h11;omega
  clear h11;refine t2 ?_;refine Z5 ?_;refine qc1 (it:=buf _ _ _ _) (by repeat (first|exact Drop1.here _ _|apply Drop1.next)) ?_;refine qcz (its:=[_]) 12 kr ?_;refine Z112 ?_;refine qbc (qac call187 (qfv _) ⟨evS,trivial⟩) ?_;refine s1 ?_;refine qbc (qb7 (size:=3) (qs:=[(0,_)]) rfl rfl rfl ⟨⟨rfl,_,(er rfl),qa5⟩,trivial⟩ rf rf) ?_;refine qv6 (s:=86) rfl rfl rfl rfl kr (zee (er rfl) (by exact Ev.sub rfl (by exact SubL.row (xs:=[unE (qgt p k)]) rf rf qih)) (by exact qfz rfl rfl rfl) qcn) ?_;refine s1 ?_;refine ⟨rfl,?_⟩;intro i79;refine Z11 ?_;refine t7 ?_;(rw [show min k n=k by omega,qvm p om];exact qaa (k+1,i79) ⟨by dsimp only;omega,fun j h1 h2=>by dsimp only at h2;omega⟩ (by dsimp only;omega) qa8 (by dsimp only;rw [show min (k+1) n=k+1 by omega];exact qab))
 have hk5:k=5:=by have:=of_decide_eq_false h8;omega
 subst hk5;clear h8;have hm:min 5 n=n:=om;rw [hm] at *;refine qa7 hX qaf ?_;refine qbv (b:=i8) (As':=tBk.cells (rdB p)) qaf (by show SubLs _ _ [_,_,_,_,qad tEn (rdB p).es];rw [hes];exact qih) ?_;refine t9 ?_;refine kS call93 (qqn (rdB p)) ?_;refine t3 ?_;refine cN ?_ ?_<;>intro h15
 ·have e:qdq p=(Bk.nil,14):=qsk (fun ⟨q1,q2,q3,q4,q5⟩=>by rw [q4] at h15;cases h15);rw [e];refine t9 ?_;exact qbq (Bs:=[zb9 Bk.nil,Ii 14]) results144 eT () SubL.rfl' (List.nil_sublist _)
 have hv:qco (rdB p)=true:=qey h15;rw [zdo g1 hn5 g4 hv ((qxw hn5 g4 hv).2 ⟨hd1,fun j h1 h2=>hrest j om h2⟩)]
 refine t10 ?_;exact qbq (Bs:=[zb9 (rdB p),Ii 0]) results144 eT () SubL.rfl' (List.nil_sublist _)
def qqt (f:En->BitVec 64) (es:List En) (i:Nat):BitVec 64:=match es[i]? with
 | some e=>f e
 | none=>0#64
theorem qio (f:En->BitVec 64) (es:List En) (k i:Nat):qqt f (es.take k) i=if i<k then qqt f es i else 0#64:=by
 unfold qqt;rw [List.getElem?_take];split <;> simp_all
def qoq (p:Pg) (t:BitVec 64) (b:Bk) (f:En->BitVec 64) (xs:List En):Pg:=⟨p.l,p.h,t,(qcq b.next).setWidth 64,qqt f xs 0,qqt f xs 1,qqt f xs 2,qqt f xs 3,qqt f xs 4⟩
theorem zfo (p:Pg) (t:BitVec 64) (b:Bk) (f:En->BitVec 64) {es:List En} {k:Nat} {e:En} (h:es[k]?=some e) (hk:k<5):(qoq p t b f (es.take k)).setd (2+k) (f e)=qoq p t b f (es.take (k+1)):=by
 have hw:qqt f es k=f e:=by unfold qqt;rw [h]
 match k,hk with
 | 0,_=>unfold qoq;simp only [qio];simp [Pg.setd,hw]
 | 1,_=>unfold qoq;simp only [qio];simp [Pg.setd,hw]
 | 2,_=>unfold qoq;simp only [qio];simp [Pg.setd,hw]
 | 3,_=>unfold qoq;simp only [qio];simp [Pg.setd,hw]
 | 4,_=>unfold qoq;simp only [qio];simp [Pg.setd,hw]
def enA (e:En):BitVec 64:=e.key.setWidth 64<<<32+(qcq e.to).setWidth 64
theorem enA_eq:enA=enW:=by
 funext e;rw [zfw,<- qvw];exact BitVec.add_comm _ _
def auxA (b:Bk):BitVec 32:=BitVec.ofInt 32 b.depth+BitVec.ofInt 32 256*BitVec.ofInt 32 (b.es.length:Int)+b.pat<<<16
theorem auxA_eq {b:Bk} (h:qco b=true):auxA b=auxB b:=by
 obtain ⟨⟨hd,hp,hf,hl⟩,-⟩:=qfj h;have h16:(2:Nat) ^ b.depth.toNat<=2 ^ 16:=Nat.pow_le_pow_right om om;have hp2:b.pat.toNat<65536:=om;have e1:(BitVec.ofInt 32 b.depth).toNat=b.depth.toNat:=by rw [BitVec.toNat_ofInt];omega
 have e2:(BitVec.ofInt 32 (b.es.length:Int)).toNat=b.es.length:=by rw [BitVec.toNat_ofInt];omega
 apply BitVec.eq_of_toNat_eq
 rw [qvu hd hp hl];unfold auxA;simp only [BitVec.toNat_add,BitVec.toNat_mul,BitVec.toNat_shiftLeft,e1,e2,Nat.shiftLeft_eq,show (BitVec.ofInt 32 256).toNat=256 from rfl];omega
theorem fillF_eq {p:Pg} {b:Bk} (hk:qcw p.d0=2) (h:qco b=true):qoq p (qh3 ⟨2,qge p.d0,auxA b⟩) b enA b.es=qej p b:=by
 unfold qej qor qoq;rw [enA_eq,auxA_eq h,hk];rfl
theorem qe3 (p:Pg) (b:Bk):FnP prog 38 [qcv p,zb9 b] (qbs [qcv (qgz p b).1,Ii ((qgz p b).2)]):=by
 refine FnP.enter func38 ntmps38 rfl rfl ?_;intro c hX;refine t3 ?_;intro i2;refine s1 ?_;intro i3;refine s1 ?_;intro i4;refine t7 ?_;refine kS call92 (qel _) ?_;refine t3 ?_;(refine qcg rfl rfl rfl (fun hg=>(by have hg0:=hg;(try simp at hg);exact qac call93 (qqn b) ⟨evS,trivial⟩)) ?_);refine t4 ?_;refine cN ?_ ?_<;>intro h1
 ·have e:qgz p b=(Pg.nil,1):=by
   unfold qgz;rw [if_pos];revert h1;cases qco b <;> simp
  rw [e];refine t9 ?_;exact qbq (Bs:=[qcv Pg.nil,Ii 1]) results38 eT () SubL.rfl' (List.nil_sublist _)
 simp only [Bool.or_eq_false_iff,bne_eq_false_iff_eq,Bool.not_eq_false'] at h1;obtain ⟨hk2,hv⟩:=h1;have e:qgz p b=(qej p b,0):=by unfold qgz;rw [if_neg (by rw [hk2,hv];simp)]
 have hl:=(qfj hv).1.2.2.2;rw [e];refine t10 ?_;intro i6;refine Z38 ?_;refine qaj 18 kr ?_;refine s1 ?_;refine qbc (qac call95 (qh1 _) ⟨evS,trivial⟩) ?_;refine t11 ?_;refine qbc (by exact qev (k:=16) qn0 (er rfl) om qdh) ?_;refine s1 ?_;refine qbc (qac call94 (qn5 2 _ _) ⟨evS,⟨evS,⟨evS,trivial⟩⟩⟩) ?_;refine t2 ?_;refine ⟨rfl,?_⟩;refine Z11 ?_;refine t5 ?_;refine kS call96 (qji _) ?_;refine t13 ?_;refine qbm (fun k:Nat=>k<=b.es.length) (fun k=>[(3,Is (.pointer (some ⟨i3,0,none⟩))),(4,Is (.pointer (some ⟨i4,0,none⟩))),(6,Is (.pointer (some ⟨i6,0,none⟩))),(7,Ii (k:Nat))]) (fun k=>[blk i6 50 (tPg.cells (qoq p (qh3 ⟨2,qge p.d0,auxA b⟩) b enA (b.es.take k))),blk i4 50 (tPg.cells Pg.nil),blk i3 92 (tBk.cells b)]) (fun k=>b.es.length-k) 0 (nZ _) qa8 qab ?_;rintro k hk;refine t10 ?_;refine cN ?_ ?_<;>intro h7
 ·have h':k<b.es.length:=by have:=of_decide_eq_true h7;omega
  obtain ⟨e,hz⟩:∃ e,b.es[k]?=some e:=⟨b.es[k],gE om⟩
  have hcl:(tPg.cells (qoq p (qh3 ⟨2,qge p.d0,auxA b⟩) b enA (b.es.take k))).length=9:=rfl;have hof:0+2+(2+k)*1=2+(2+k):=om;clear h7;refine Z38 ?_;refine qaj 21 kr ?_;refine t5 ?_;refine qbc (by exact qak (j:=_) (er rfl) (er rfl) rfl rfl rf (by assumption)) ?_;refine t3 ?_;refine Z42 ?_;refine t3 ?_;refine qbc (by exact qak (j:=_) (er rfl) (er rfl) rfl rfl rf (by assumption)) ?_;refine t2 ?_;refine Z94 ?_;refine t3 ?_;refine qbc (qah (k:=2+k) (sz:=1) (er rfl) (er rfl) rfl rfl qdh om) ?_;refine ⟨rfl,?_⟩;refine zbx kr rfl (quj (n:=1) (Rs:=tPg.cells (qoq p (qh3 ⟨2,qge p.d0,auxA b⟩) b enA (b.es.take (k+1)))) (er rfl) (er rfl) qa5 qaf (by rw [hof,<- zfo p _ b enA hz om];exact (qhe _ _ om).symm) rf rf (by (simp;omega))) ?_;refine Z74 ?_;exact qaa (k+1) om om qa8 qab
 have hkl:k=b.es.length:=by have:=of_decide_eq_false h7;omega
 subst hkl;rw [List.take_length,fillF_eq hk2 hv];refine t13 ?_;exact qbq (Bs:=[qcv (qej p b),Ii 0]) results38 eT () SubL.rfl' (List.nil_sublist _)
def qmj (ks:List Pg):Pg×Rt×List Int×Int:=
 if (!qjt ks 96)=true then (qb9 ks 96,Rt.nil,[96],0) else
 if ((qdu (qb9 ks 96)).2 != 0)=true then (qb9 ks 96,Rt.nil,[],14) else (qb9 ks 96,(qdu (qb9 ks 96)).1,[],0)
theorem qrk (ks:List Pg):FnP prog 79 [qad tPg ks] (qbs [qcv (qmj ks).1,qwl (qmj ks).2.1,qad qaw (qmj ks).2.2.1,Ii ((qmj ks).2.2.2)]):=by
 obtain ⟨W,hE⟩:=xE (qmj ks);rw [hE];unfold qmj at hE;refine FnP.enter func79 ntmps79 rfl rfl ?_;intro c hX;refine t3 ?_;intro i2;refine s1 ?_;intro i3;refine t7 ?_;refine Z27 ?_;intro i6;refine t11 ?_;refine cN ?_ ?_<;>intro h2
 ·replace hE:=qaq hE h2;refine t4 ?_;refine Z1 ?_;refine t8 ?_;subst hE;exact rA (Bs:=[_,_,_,_]) results79 eRF
 replace hE:=qar hE h2;refine t5 ?_;refine kRF call86 (qke _) ?_;refine t4 ?_;intro i8;refine t11 ?_;refine cN ?_ ?_<;>intro h5
 ·replace hE:=qaq hE h5;refine t12 ?_;subst hE;exact rA (Bs:=[_,_,_,_]) results79 eRF
 replace hE:=qar hE h5;refine Z32 ?_;refine qc1 (it:=blk i3 _ _) (by repeat (first|exact Drop1.here _ _|apply Drop1.next)) ?_;refine qc1 (it:=blk i2 _ _) (by repeat (first|exact Drop1.here _ _|apply Drop1.next)) ?_;refine qcz (its:=[_,_]) 6 kr ?_;refine t2 ?_;refine qdm (s:=31) rfl rfl rfl kr (fun c'=>by exact qat (er rfl) (er rfl) qas qaf rf rf rf) ?_;refine qdm (s:=32) rfl rfl rfl kr (fun c'=>by exact qat (er rfl) (er rfl) qas qaf rf rf rf) ?_;refine t2 ?_;refine ⟨rfl,?_⟩;intro _ _;refine Z33 ?_;subst hE;exact rA (Bs:=[_,_,_,_]) results79 eRF
def wkC {α:Type} (h:BitVec 32) (ks:List Pg) (N:Int->α) (B:Int->α) (O:Pg->Nat->α) (X:α):Nat->Nat->Pt->α
 | 0,_,_=>X
 | m+1,k,a =>
  if ((lkV ks a 2 false).2.2==0 && !(lkV ks a 2 false).2.1)=true then N a.line else
  if ((lkV ks a 2 false).2.2 != 0)=true then B (if ((lkV ks a 2 false).2.2 != 11)=true then 14 else (lkV ks a 2 false).2.2) else
  if ((qdq (lkV ks a 2 false).1).2 != 0)=true then B 14 else
  if (UV (qfk h (qdq (lkV ks a 2 false).1).1.depth)==UV (qdq (lkV ks a 2 false).1).1.pat)=true then O (lkV ks a 2 false).1 k else
  if decide ((qdq (lkV ks a 2 false).1).1.next=Pt.nil)=true then B 14 else wkC h ks N B O X m (k+1) (qdq (lkV ks a 2 false).1).1.next
def oC (c:Int):O23:=⟨c,false,false,false,false,false,Pt.nil,[],0,0⟩
def pC (c:Int):P23:=⟨[],false,⟨0,0#64,0#64,0#64,0#64,0#64,0#64,0#64,0#64⟩,Bk.nil,oC c⟩
def pN (l:Int):P23:=⟨[l],false,⟨0,0#64,0#64,0#64,0#64,0#64,0#64,0#64,0#64⟩,Bk.nil,oC 0⟩
def pX:P23:=⟨[],true,⟨0,0#64,0#64,0#64,0#64,0#64,0#64,0#64,0#64⟩,Bk.nil,oC 14⟩
def oK (r:Rt) (q:Pg) (k:Nat):O23:=⟨if qet q=true then 3 else 0,false,false,false,decide ((k:Int)>0)&&decide ((qdq q).1.depth<=r.depth),decide ((qdq q).1.depth>r.depth)&&decide (r.depth<5),Pt.nil,[],k,0⟩
def pO (r:Rt) (q:Pg) (k:Nat):P23:=⟨[],false,q,(qdq q).1,oK r q k⟩
def qrf (h:BitVec 32) (r:Rt) (ks:List Pg) (m k:Nat) (a:Pt):P23:=wkC h ks pN pC (pO r) pX m k a
theorem qud {p:Pg} (h:((qdq p).2 != 0)=false):(0<=(qdq p).1.depth∧(qdq p).1.depth<=16)∧(qdq p).1.es.length<=5:=by
 have h0:(qdq p).2=0:=by simpa using h
 unfold qdq at h0 ⊢;split at h0
 ·exact absurd h0 de
 ·split at h0
  ·exact absurd h0 de
  ·rename_i h1 h2;rw [if_neg h1,if_neg h2];have hv:qco (rdB p)=true:=by
    revert h2;cases qco (rdB p) <;> simp
   have:=qfj hv;exact ⟨this.1.1,this.1.2.2.2⟩
theorem qrg (at_:Pt) (h:BitVec 32) (r:Rt) (ks:List Pg):FnP prog 91 [qh6 at_,Is (.int .u32 (UV h)),qwl r,qad tPg ks] (IsP23 (qrf h r ks 257 0 at_)):=by
 obtain ⟨W,hE⟩:=xE (qrf h r ks 257 0 at_);rw [hE];refine FnP.enter func91 ntmps91 rfl rfl ?_;intro c hX;refine t3 ?_;intro i4;refine s1 ?_;intro i6;refine s1 ?_;intro i8;refine t6 ?_;intro i9;refine t10 ?_;refine qax [(1,_),(3,_),(6,_),(8,_),(9,_)] [blk i8 _ _,blk i6 _ _] (fun y:Nat×Pt=>y.1<=257∧qrf h r ks (257-y.1) y.1 y.2=W) (fun y=>[(10,Ii (y.1:Nat))]) (fun y=>[blk i9 57 (tPt.cells y.2)]) (fun y=>257-y.1) (0,(⟨_,_⟩:Pt)) ⟨by exact nZ _,hE⟩ qbu qab ?_;clear hE;rintro ⟨k,a⟩ ⟨hk,hE⟩;dsimp only at hk hE ⊢;refine t7 ?_;refine cN ?_ ?_<;>intro h3
 ·have hlt:k<257:=by have:=of_decide_eq_true h3;omega
  clear h3;rw [show 257-k=(257-(k+1))+1 by omega] at hE;unfold qrf wkC at hE;refine t8 ?_;refine Z59 ?_;intro i11;refine t16 ?_;refine cN ?_ ?_<;>intro h6
  ·replace hE:=qaq hE h6;subst hE;refine t4 ?_;refine Z1 ?_;refine t11 ?_;exact rA (Bs:=[_]) results91 eRF
  replace hE:=qar hE h6;refine t9 ?_;refine cN ?_ ?_<;>intro h8
  ·replace hE:=qaq hE h8;refine t7 ?_;refine cN ?_ ?_<;>intro h9
   ·rw [if_pos h9] at hE;subst hE;refine t19 ?_;exact rA (Bs:=[_]) results91 eRF
   rw [if_neg (by rw [h9];simp)] at hE;subst hE;refine t17 ?_;exact rA (Bs:=[_]) results91 eRF
  replace hE:=qar hE h8;refine t5 ?_;refine kRF call144 (qrc _) ?_;refine t4 ?_;intro i14;refine t11 ?_;refine cN ?_ ?_<;>intro h13
  ·replace hE:=qaq hE h13;subst hE;refine t14 ?_;exact rA (Bs:=[_]) results91 eRF
  replace hE:=qar hE h13;obtain ⟨hdb,hbl⟩:=qud h13;refine Z38 ?_;refine qaj 7 kr ?_;refine t3 ?_;refine qbc (by ((refine qac call80 (qns _ _ ?_) ⟨qap,⟨qap,trivial⟩⟩);all_goals (first|first|assumption|omega))) ?_;refine t3 ?_;refine ⟨rfl,?_⟩;refine Z20 ?_;refine cN ?_ ?_<;>intro h15
  ·replace hE:=qaq hE h15;refine t24 ?_;intro i16;refine t7 ?_;refine Z43 ?_;refine cN ?_ ?_<;>intro h17
   ·have e:oK r (lkV ks a 2 false).1 k=⟨3,false,false,false,decide ((k:Int)>0)&&decide ((qdq (lkV ks a 2 false).1).1.depth<=r.depth),decide ((qdq (lkV ks a 2 false).1).1.depth>r.depth)&&decide (r.depth<5),Pt.nil,[],k,0⟩:=by unfold oK;rw [if_pos h17]
    unfold pO at hE;rw [e] at hE;subst hE;refine t21 ?_;exact rA (Bs:=[_]) results91 eRF
   have e:oK r (lkV ks a 2 false).1 k=⟨0,false,false,false,decide ((k:Int)>0)&&decide ((qdq (lkV ks a 2 false).1).1.depth<=r.depth),decide ((qdq (lkV ks a 2 false).1).1.depth>r.depth)&&decide (r.depth<5),Pt.nil,[],k,0⟩:=by unfold oK;rw [if_neg (by rw [h17];simp)]
   unfold pO at hE;rw [e] at hE;subst hE;refine t18 ?_;exact rA (Bs:=[_]) results91 eRF
  replace hE:=qar hE h15;refine t8 ?_;refine Z54 ?_;refine t2 ?_;refine cN ?_ ?_<;>intro h20
  ·replace hE:=qaq hE h20;subst hE;refine t14 ?_;exact rA (Bs:=[_]) results91 eRF
  replace hE:=qar hE h20;refine t14 ?_;exact qaa (k+1,(⟨_,_⟩:Pt)) ⟨om,hE⟩ om qbu qab
 have hke:k=257:=by have:=of_decide_eq_false h3;omega
 clear h3;subst hke;have hE':pX=W:=hE;subst hE';refine t13 ?_;exact rA (Bs:=[_]) results91 eRF
theorem Z69 {A B:Prop} (h:A) (f:Bx A→B:=by intro z;refine kXF call87 (qm9 _ (⟨(⟨_,_⟩:Pt),_,(⟨_,_⟩:Pt),(⟨_,_⟩:Pt),(⟨_,_⟩:Pt),(⟨_,_⟩:Pt)⟩:Rt)) ?_;refine t4 ?_;exact z.out):B:=f ⟨h⟩
def cnW (st first:Pt) (P:P23):Bool:=((((!decide (st=first))&&((P.need.length:Int)==0))&&(P.out.code != 0))&&(P.out.code != 3)) && !P.empty
def stR (r:Rt) (i:Nat) (D:Pg×Bool×Int):Pt:=
 if (D.2.2==0)=true then (if ((qb2 D.1).2==0 && !decide (qpg (qb2 D.1).1 (i % 8)=Pt.nil))=true then qpg (qb2 D.1).1 (i % 8) else r.first) else r.first
def lcW (h:BitVec 32) (r:Rt) (ks:List Pg) (st:Pt):P23:=if cnW st r.first (qrf h r ks 257 0 st)=true then qrf h r ks 257 0 r.first else qrf h r ks 257 0 st
def lcA (h:BitVec 32) (r:Rt) (ks:List Pg) (i:Nat):P23:=
 if ((lkV ks (qdv r (i / 8)) 3 false).2.2==0 && !(lkV ks (qdv r (i / 8)) 3 false).2.1)=true then pN (qdv r (i / 8)).line else { lcW h r ks (stR r i (lkV ks (qdv r (i / 8)) 3 false)) with empty:=false }
def iH (h:BitVec 32) (d:Int):Nat:=(UV (qfk h d)).toNat
def lcZ (h:BitVec 32) (ks:List Pg) (z:Pg×Rt×List Int×Int):P23:=
 if (decide ((z.2.2.1.length:Int)>0)||(z.2.2.2 != 0))=true then ⟨z.2.2.1,false,⟨0,0#64,0#64,0#64,0#64,0#64,0#64,0#64,0#64⟩,Bk.nil,oC z.2.2.2⟩ else
 if decide (z.2.1.first=Pt.nil)=true then ⟨[],true,⟨0,0#64,0#64,0#64,0#64,0#64,0#64,0#64,0#64⟩,Bk.nil,oC 0⟩ else lcA h z.2.1 ks (iH h z.2.1.depth)
def qq3 (h:BitVec 32) (ks:List Pg):P23:=lcZ h ks (qmj ks)
theorem zdg {r:Rt} (h:qh2 r=true):0<=r.depth∧r.depth<=5:=by
 unfold qh2 at h;split at h
 ·rw [of_decide_eq_true h];exact ⟨de,de⟩
 ·unfold qnv at h;simp only [Bool.and_eq_true,decide_eq_true_eq] at h;omega
theorem qj0 (p:Pg):0<=(qdu p).1.depth∧(qdu p).1.depth<=5:=by
 unfold qdu;split
 ·exact ⟨de,de⟩
 ·split
  ·rename_i h;exact zdg (Bool.and_eq_true_iff.1 h).2
  ·exact ⟨de,de⟩
theorem qyw (ks:List Pg):0<=(qmj ks).2.1.depth∧(qmj ks).2.1.depth<=5:=by
 unfold qmj;split
 ·exact show (0:Int)<=0∧(0:Int)<=5 by decide
 ·split
  ·exact show (0:Int)<=0∧(0:Int)<=5 by decide
  ·exact qj0 _
theorem iH_lt {h:BitVec 32} {d:Int} (hd:0<=d∧d<=5):UV (qfk h d)=((iH h d:Nat):Int)∧iH h d<32:=by
 have h0:UV (qfk h d)<32:=by
  unfold UV;rw [qnr h om];have h1:(2:Nat) ^ d.toNat<=2 ^ 5:=Nat.pow_le_pow_right om om;have h2:=Nat.mod_lt h.toNat (show 0<(2:Nat) ^ d.toNat from Nat.pow_pos om);omega
 have h1:=qa2 (qfk h d);unfold iH;omega
theorem qkg (h:BitVec 32) (ks:List Pg):FnP prog 34 [Is (.int .u32 (UV h)),qad tPg ks] (IsP23 (qq3 h ks)):=by
 have hdp:=qyw ks;obtain ⟨W,hE⟩:=xE (qq3 h ks);rw [hE];unfold qq3 at hE;refine FnP.enter func34 ntmps34 rfl rfl ?_;intro c hX;refine t3 ?_;intro i4;refine t5 ?_;refine kRF call79 (qrk _) ?_;refine t6 ?_;intro i5;refine s1 ?_;intro i6;refine t8 ?_;obtain ⟨⟨p,r,nd,cd⟩,hz⟩:∃ z,qmj ks=z:=⟨_,rfl⟩
 rw [hz] at hE hdp ⊢;dsimp only at hdp ⊢;unfold lcZ at hE;dsimp only at hE;refine t10 ?_;refine cN ?_ ?_<;>intro h2
 ·replace hE:=qaq hE h2;subst hE;refine t11 ?_;exact rA (Bs:=[_]) results34 eRF
 replace hE:=qar hE h2;refine t8 ?_;refine Z54 ?_;refine t2 ?_;refine cN ?_ ?_<;>intro h4
 ·replace hE:=qaq hE h4;subst hE;refine t8 ?_;exact rA (Bs:=[_]) results34 eRF
 replace hE:=qar hE h4;obtain ⟨hlo,hi32⟩:=iH_lt (h:=h) hdp;obtain ⟨i,hi⟩:∃ i:Nat,iH h r.depth=i:=⟨_,rfl⟩
 rw [hi] at hE hlo hi32;have hq4:i / 8<4:=om;have hm8:i % 8<8:=om;unfold lcA at hE;refine t7 ?_;refine qao rfl (by ((refine qac call80 (qns _ _ ?_) ⟨qap,⟨qap,trivial⟩⟩);all_goals (omega))) ?_;refine t5 ?_;refine qbl 9 (Ii (i:Nat)) rfl (SubL.eq (by rw [<- hlo])) ?_;refine t4 ?_;intro i10;refine t7 ?_;refine qao rfl (qiw (er rfl) (er rfl) om (qI8 i om)) ?_;refine s1 ?_;refine qao rfl (qah (k:=i / 8) (sz:=2) (er rfl) (er rfl) rfl rfl rfl hq4) ?_;refine qao rfl (qa3 (n:=2) (er rfl) qba rf rf rf (qro _ hq4) (qy4 _ hq4)) ?_;refine Z59 ?_;intro i11;refine t16 ?_;refine cN ?_ ?_<;>intro h9
 ·replace hE:=qaq hE h9;subst hE;refine t3 ?_;refine qao rfl (qiw (er rfl) (er rfl) om (qI8 i om)) ?_;refine s1 ?_;refine qao rfl (qah (k:=i / 8) (sz:=2) (er rfl) (er rfl) rfl rfl rfl hq4) ?_;refine s1 ?_;refine qao rfl (qfn (er rfl) qba rf rf (qw0 _ hq4)) ?_;refine Z1 ?_;refine t6 ?_;exact rA (Bs:=[_]) results34 eRF
 replace hE:=qar hE h9;obtain ⟨S,hS⟩:=xE (stR r i (lkV ks (qdv r (i / 8)) 3 false));rw [hS] at hE;unfold stR at hS;refine t9 ?_;refine qbw [(0,_),(1,_),(4,_),(6,_),(10,_)] [blk i6 _ _,blk i4 _ _] (fun yc:Pt=>yc=S) (fun yc=>[]) (fun yc=>[blk i10 57 (tPt.cells yc)]) qbu qab ?_ ?_
 rotate_left
 focus
  refine cN ?_ ?_<;>intro h11
  ·refine t3 ?_;refine kRF call82 (qhb _) ?_;refine t4 ?_;intro i14;refine t10 ?_;(refine qcg rfl rfl rfl (fun hg=>(by have hg0:=hg;(try simp at hg);exact qiv evG evG om (rI8 i))) ?_);(refine qcg rfl rfl rfl (fun hg=>(by have hg0:=hg;(try simp at hg);exact qah (k:=i % 8) (sz:=2) evG evG rfl rfl rfl hm8)) ?_);(refine qcg rfl rfl rfl (fun hg=>(by have hg0:=hg;(try simp at hg);exact qa3 (n:=2) evG qba rf rf rf (qlh _ hm8) (qpf _ hm8))) ?_);refine s1 ?_;(refine qcg rfl rfl rfl (fun hg=>(by have hg0:=hg;(try simp at hg);exact qh7 evG evG)) ?_);refine t3 ?_;refine cN ?_ ?_<;>intro h13
   ·refine t2 ?_;refine qao rfl (qiv (er rfl) (er rfl) om (rI8 i)) ?_;refine qao rfl (qah (k:=i % 8) (sz:=2) (er rfl) (er rfl) rfl rfl rfl hm8) ?_;refine qao rfl (qa3 (n:=2) (er rfl) qba rf rf rf (qlh _ hm8) (qpf _ hm8)) ?_;refine t2 ?_;refine qal (⟨_,_⟩:Pt) ?_ qbu qab
    ·exact (by exact qaq (qaq hS h11) h13)
   refine s1 ?_;refine qal (⟨_,_⟩:Pt) ?_ qbu qab
   ·exact (by exact qar (qaq hS h11) h13)
  refine s1 ?_;refine qal (⟨_,_⟩:Pt) ?_ qbu qab
  ·exact (by exact qar hS h11)
 rintro st hst;subst hst;unfold lcW at hE;refine t6 ?_;refine kRF call91 (qrg _ _ _ _) ?_;refine s1 ?_;intro i16;refine t5 ?_;obtain ⟨P,hP⟩:=xE (qrf h r ks 257 0 st);rw [hP] at hE ⊢;obtain ⟨O,hO⟩:=xE (if cnW st r.first P=true then qrf h r ks 257 0 r.first else P);rw [hO] at hE;refine t4 ?_;refine qao rfl (qh7 (er rfl) (er rfl)) ?_;refine t25 ?_;refine qbw [(4,_),(16,_)] [blk i4 _ _] (fun yc:P23=>yc=O) (fun yc=>[]) (fun yc=>[blk i16 94 (tP23.cells yc)]) qbu qab ?_ ?_
 rotate_left
 focus
  refine cN ?_ ?_<;>intro h16
  ·refine t6 ?_;refine kRF call91 (qrg _ _ _ _) ?_;refine t2 ?_;refine qal (⟨_,_,(⟨_,_,_,_,_,_,_,_,_⟩:Pg),(⟨_,_,(⟨_,_⟩:Pt),_⟩:Bk),(⟨_,_,_,_,_,_,(⟨_,_⟩:Pt),_,_,_⟩:O23)⟩:P23) ?_ qbu qab
   ·exact (by exact qaq hO h16)
  refine s1 ?_;refine qal (⟨_,_,(⟨_,_,_,_,_,_,_,_,_⟩:Pg),(⟨_,_,(⟨_,_⟩:Pt),_⟩:Bk),(⟨_,_,_,_,_,_,(⟨_,_⟩:Pt),_,_,_⟩:O23)⟩:P23) ?_ qbu qab
  ·exact (by exact qar hO h16)
 rintro o ho;subst ho;subst hE;refine t13 ?_;exact rA (Bs:=[_]) results34 eRF
def ixE (key:BitVec 32):Nat->List En->Nat×Bool
 | k,[]=>(k,false)
 | k,z::r=>if decide (UV z.key>=UV key)=true then (k,UV z.key==UV key) else ixE key (k+1) r
theorem qpy (l:List En) (key:BitVec 32) (hl:l.length<=1000):FnP prog 37 [qad tEn l,Is (.int .u32 (UV key))] (qbs [Ii ((ixE key 0 l).1:Nat),Ib ((ixE key 0 l).2)]):=by
 obtain ⟨W,hE⟩:=xE (ixE key 0 l);rw [hE];refine FnP.enter func37 ntmps37 rfl rfl ?_;intro c hX;refine qjp (t:=0) rfl (fun hlen=>?_);refine t13 ?_;refine qax [(0,_),(1,_),(4,_),(5,_)] [] (fun k:Nat=>k<=(l).length∧ixE key k (List.drop k (l))=W) (fun k=>[(6,Ii (k:Nat))]) (fun k=>[]) (fun k=>(l).length-k) 0 ⟨by exact nZ _,hE⟩ qbu qab ?_;clear hE;rintro k ⟨hk,hE⟩;refine t9 ?_;refine cN ?_ ?_<;>intro h2
 ·have hlt:k<l.length:=by have:=of_decide_eq_true h2;omega
  clear h2;obtain ⟨z,hz⟩:∃ q,l[k]?=some q:=⟨_,gE hlt⟩
  rw [qf7 hz] at hE;unfold ixE at hE;refine t15 ?_;refine cN ?_ ?_<;>intro h4
  ·replace hE:=qaq hE h4;subst hE;refine s1 ?_;refine Z5 ?_;refine Z82 ?_;refine t10 ?_;refine ⟨rfl,?_⟩;refine Z74 ?_;exact rA (Bs:=[_,_]) results37 eRF
  replace hE:=qar hE h4;refine t8 ?_;exact qaa (k+1) ⟨om,hE⟩ om qbu qab
 have hke:k=l.length:=by have:=of_decide_eq_false h2;omega
 clear h2;subst hke;rw [List.drop_length] at hE;have hE':(l.length,false)=W:=hE;subst hE';refine t14 ?_;exact rA (Bs:=[_,_]) results37 eRF
theorem qoe (key:BitVec 32):∀ (l:List En) (k:Nat),(ixE key k l).1<=k+l.length∧((ixE key k l).2=true->(ixE key k l).1<k+l.length)
 | [],k=>⟨Nat.le_refl _,fun h=>by cases h⟩
 | z::r,k=>by
  unfold ixE;have ih:=qoe key r (k+1);split
  ·exact ⟨Nat.le_add_right _ _,fun _=>by simp⟩
  ·simp only [List.length_cons];exact ⟨om,fun h=>by have:=ih.2 h;omega⟩
def wiV (l:List En) (e:En):List En:=l.take (ixE e.key 0 l).1++[e]++l.drop (ixE e.key 0 l).1
theorem qnk (l:List En) (e:En) (hl:l.length<=1000):FnP prog 97 [qad tEn l,IsEn e] (qad tEn (wiV l e)):=by
 obtain ⟨hi1,hi2⟩:=qoe e.key l 0;unfold wiV;obtain ⟨⟨ix,fo⟩,hx⟩:∃ q,ixE e.key 0 l=q:=⟨_,rfl⟩
 rw [hx] at hi1 ⊢;dsimp only at hi1 ⊢;rw [Nat.zero_add] at hi1;refine FnP.enter func97 ntmps97 rfl rfl ?_;intro c hX;refine t3 ?_;intro i3;refine t8 ?_;refine kRF call37 (qpy _ _ hl) ?_;refine t8 ?_;rw [hx];dsimp only;refine Z5 ?_;refine zaj ?_;refine zbw (qb4 tEn rfl rfl) ?_;refine t2 ?_;refine Z37 ?_;refine s1 ?_;refine Z9 ?_;refine Z95 ?_;refine ⟨rfl,?_⟩;intro i25;refine Z80 ?_;refine Z33 ?_;rw [show List.drop ix (List.take l.length l)=List.drop ix l by rw [List.take_length],List.nil_append,List.drop_zero];refine qi3 hX qaf ?_;exact qbp (Bs:=[_]) results97 eRF () SubL.rfl' qab
def usV (fr:List Pg):List Int->Nat->List Int->List Pg->List Pg×Int
 | [],_,_,out=>(out,0)
 | z::r,k,ls,out=>if ((qlf (fr.getD k Pg.nil) z 0#32).2 != 0||zbf ls (fr.getD k Pg.nil).l)=true then ([],1) else usV fr r (k+1) (ls++[(fr.getD k Pg.nil).l]) (out++[(qlf (fr.getD k Pg.nil) z 0#32).1])
def qmc (fr:List Pg) (kinds others:List Int):List Pg×Int:=if decide ((fr.length:Int)<(kinds.length:Int))=true then ([],18) else usV fr kinds 0 others []
theorem qnb (fr:List Pg) (kinds others:List Int) (hk:kinds.length<=10) (ho:others.length<=10):FnP prog 90 [qad tPg fr,qad qaw kinds,qad qaw others] (qbs [qad tPg (qmc fr kinds others).1,Ii ((qmc fr kinds others).2)]):=by
 obtain ⟨W,hE⟩:=xE (qmc fr kinds others);rw [hE];unfold qmc at hE;refine FnP.enter func90 ntmps90 rfl rfl ?_;intro c hX;refine t16 ?_;refine cN ?_ ?_<;>intro h1
 ·replace hE:=qaq hE h1;subst hE;refine t8 ?_;exact rA (Bs:=[_,_]) results90 eRF
 replace hE:=qar hE h1;have hfk:kinds.length<=fr.length:=by have:=of_decide_eq_false h1;omega
 clear h1;refine t20 ?_;refine Z62 ?_;refine qax [(0,_),(1,_),(6,_),(7,_)] [] (fun y:Nat×(List Int)×(List Pg)×(Option Addr×Nat)=>y.1<=(kinds).length∧(y.2.2.1.length=y.1∧y.2.1.length<=10+y.1)∧usV fr (List.drop y.1 (kinds)) y.1 y.2.1 y.2.2.1=W) (fun y=>[(9,qad qaw y.2.1),(8,Is (slV (y.2.2.1).length y.2.2.2)),(10,Ii (y.1:Nat))]) (fun y=>[buf (slV (y.2.2.1).length y.2.2.2) 50 tPg (y.2.2.1)]) (fun y=>(kinds).length-y.1) (0,_,[],(none,0)) ⟨by exact nZ _,⟨rfl,by dsimp only;omega⟩,hE⟩ qbu qab ?_;clear hE;rintro ⟨k,ls,out,v_0⟩ ⟨hk,hI,hE⟩;dsimp only at hk hI hE ⊢;refine t9 ?_;refine cN ?_ ?_<;>intro h6
 ·have hlt:k<kinds.length:=by have:=of_decide_eq_true h6;omega
  clear h6;obtain ⟨z,hz⟩:∃ q,kinds[k]?=some q:=⟨_,gE hlt⟩
  obtain ⟨g,hzk⟩:∃ q,fr[k]?=some q:=⟨_,gE om⟩
  have hgd:fr.getD k Pg.nil=g:=by rw [List.getD_eq_getElem?_getD,hzk];rfl
  rw [qf7 hz] at hE;unfold usV at hE;rw [hgd] at hE;refine Z70 ?_;refine qaj 15 kr ?_;refine t2 ?_;refine qbc (by exact qak (j:=_) (er rfl) (er rfl) rfl rfl rf hzk) ?_;refine t5 ?_;refine qbc (qac call142 (qkm _ _ _) ⟨qap,⟨qap,⟨qap,trivial⟩⟩⟩) ?_;refine Z41 ?_;refine ⟨rfl,?_⟩;intro i11;refine qda ?_;refine t10 ?_;(refine qcg rfl rfl rfl (fun hg=>(by have hg0:=hg;(try simp at hg);exact qak (j:=_) evG evG rfl rfl rf hzk)) ?_);refine t2 ?_;(refine qcg rfl rfl rfl (fun hg=>(by have hg0:=hg;(try simp at hg);exact qac call143 (Has_ok _ _) ⟨qap,⟨qap,trivial⟩⟩)) ?_);refine t3 ?_;refine cN ?_ ?_<;>intro h9
  ·replace hE:=qaq hE h9;subst hE;refine t13 ?_;exact rA (Bs:=[_,_]) results90 eRF
  replace hE:=qar hE h9;refine Z32 ?_;refine Z82 ?_;refine zbw (qb4 qaw rfl rfl) ?_;refine s1 ?_;refine Z10 ?_;refine t2 ?_;refine qbc (by exact qak (j:=_) (er rfl) (er rfl) rfl rfl rf hzk) ?_;refine t2 ?_;refine Z57 ?_;refine qn9 rfl rfl rfl rf kr (qnq (by exact er rfl) (by exact qfz rfl rfl rfl) qcn) ?_;refine ⟨rfl,?_⟩;intro i57;refine Z80 ?_;refine Z20 ?_;refine qa7 hX (v:=slV _ i57) qaf ?_;refine qbl 9 (qad qaw (ls++[g.l])) rfl (by simpa using qf1) ?_;refine t3 ?_;refine Z2 ?_;(refine qc6 rfl (qca (er rfl) (fun _=>qaf) (by exact Ev.sub rfl (by exact qf1)) (by exact qfz rfl rfl rfl) qcn) ?_;intro i61);refine t9 ?_;exact qaa (k+1,_,_,_) ⟨om,⟨by simp;omega,by simp;omega⟩,hE⟩ om qbu qab
 have hke:k=kinds.length:=by have:=of_decide_eq_false h6;omega
 clear h6;subst hke;rw [List.drop_length] at hE;have hE':(out,0)=W:=hE;subst hE';refine qa7 hX (v:=slV out.length v_0) qaf ?_;refine qbl 8 (qad tPg out) rfl qf1 ?_;refine t13 ?_;exact rA (Bs:=[_,_]) results90 eRF
def qe9 (o:O23) (c:Int):S23:=⟨[],[],{ o with code:=c },true⟩
def em23 (kind:Int) (key:BitVec 32) (to:Pt) (fr ks:List Pg):S23:=
 if qet (qb9 ks 96)=true then qe9 (oC 0) 3 else
 if (kind==1)=true then ⟨[],[],{ oC 0 with check:=[96] },true⟩ else
 if (kind==3)=true then qe9 { oC 0 with check:=[96] } 16 else
 if ((qmc fr [2,3] [96]).2==18)=true then qe9 { oC 0 with fresh:=2 } (qmc fr [2,3] [96]).2 else
 if ((qmc fr [2,3] [96]).2 != 0)=true then qe9 (oC 0) (qmc fr [2,3] [96]).2 else
 ⟨[],qck [] [(qgz ((qmc fr [2,3] [96]).1.getD 0 Pg.nil) ⟨0,0#32,Pt.nil,[⟨key,to⟩]⟩).1,(qgk ((qmc fr [2,3] [96]).1.getD 1 Pg.nil) ⟨atR ((qmc fr [2,3] [96]).1.getD 0 Pg.nil),Pt.nil,Pt.nil,Pt.nil,Pt.nil,Pt.nil,Pt.nil,Pt.nil⟩).1,
  (qdp (qb9 ks 96) ⟨atR ((qmc fr [2,3] [96]).1.getD 0 Pg.nil),0,atR ((qmc fr [2,3] [96]).1.getD 1 Pg.nil),Pt.nil,Pt.nil,Pt.nil⟩).1],{ oC 0 with done:=true },true⟩
theorem zco (fr:List Pg):∀ (l:List Int) (k:Nat) (ls:List Int) (out:List Pg),(usV fr l k ls out).2=0->(usV fr l k ls out).1.length=out.length+l.length
 | [],_,_,out,_=>rfl
 | z::r,k,ls,out,h=>by
  unfold usV at h ⊢;split at h
  ·exact absurd h de
  ·rename_i h1;rw [if_neg h1,zco fr r _ _ _ h];simp;omega
theorem qou {fr:List Pg} {kinds others:List Int} (h:(qmc fr kinds others).2=0):(qmc fr kinds others).1.length=kinds.length:=by
 unfold qmc at h ⊢;split at h
 ·exact absurd h de
 ·rename_i h1;rw [if_neg h1,zco fr _ _ _ _ h];simp
theorem qxt (kind:Int) (key:BitVec 32) (to:Pt) (fr ks:List Pg):FnF prog 36 [Ii kind,Is (.int .u32 (UV key)),qh6 to,qad tPg fr,qad tPg ks] (fun B=>qqk B (em23 kind key to fr ks)):=by
 obtain ⟨W,hE⟩:=xE (em23 kind key to fr ks);rw [hE];unfold em23 at hE;refine FnF.enter func36 ntmps36 rfl rfl ?_;intro c hX;refine t3 ?_;intro i7;refine s1 ?_;intro i10;refine t5 ?_;refine Z27 ?_;intro i11;refine t8 ?_;refine Z43 ?_;refine cN ?_ ?_<;>intro h2
 ·replace hE:=qaq hE h2;refine t3 ?_;refine kXF call31 (qbi c.w.heap.size (⟨_,_,_,_,_,_,(⟨_,_⟩:Pt),_,_,_⟩:O23) _) ?_;refine t5 ?_;subst hE;exact rA (Bs:=[_]) results36 eRF
 replace hE:=qar hE h2;refine t9 ?_;refine cN ?_ ?_<;>intro h4
 ·replace hE:=qaq hE h4;refine t2 ?_;refine Z1 ?_;refine t7 ?_;subst hE;exact rA (Bs:=[_]) results36 eRF
 replace hE:=qar hE h4;refine t9 ?_;refine cN ?_ ?_<;>intro h6
 ·replace hE:=qaq hE h6;refine t2 ?_;refine Z1 ?_;refine s1 ?_;refine kXF call31 (qbi c.w.heap.size (⟨_,_,_,_,_,_,(⟨_,_⟩:Pt),_,_,_⟩:O23) _) ?_;refine t5 ?_;subst hE;exact rA (Bs:=[_]) results36 eRF
 replace hE:=qar hE h6;refine t5 ?_;refine Z26 ?_;refine Z1 ?_;refine qao rfl (by ((refine qac call90 (qnb _ [2,3] [96] ?_ ?_) ⟨qap,⟨qap,⟨qap,trivial⟩⟩⟩);all_goals (decide))) ?_;refine t9 ?_;obtain ⟨⟨ps,uc⟩,hu⟩:∃ q,qmc fr [2,3] [96]=q:=⟨_,rfl⟩
 have hul:=qou (fr:=fr) (kinds:=[2,3]) (others:=[96]);rw [hu] at hE hul ⊢;dsimp only at hE hul ⊢;refine t5 ?_;refine cN ?_ ?_<;>intro h9
 ·replace hE:=qaq hE h9;refine t4 ?_;refine kXF call31 (qbi c.w.heap.size (⟨_,_,_,_,_,_,(⟨_,_⟩:Pt),_,_,_⟩:O23) _) ?_;refine t5 ?_;subst hE;exact rA (Bs:=[_]) results36 eRF
 replace hE:=qar hE h9;refine t9 ?_;refine cN ?_ ?_<;>intro h11
 ·replace hE:=qaq hE h11;refine t4 ?_;refine kXF call31 (qbi c.w.heap.size (⟨_,_,_,_,_,_,(⟨_,_⟩:Pt),_,_,_⟩:O23) _) ?_;refine t5 ?_;subst hE;exact rA (Bs:=[_]) results36 eRF
 obtain ⟨pa,pb,hza,hzb⟩:=two_of (hul (by simpa using h11));have ha:ps.getD 0 Pg.nil=pa:=by rw [List.getD_eq_getElem?_getD,hza];rfl
 have hb:ps.getD 1 Pg.nil=pb:=by rw [List.getD_eq_getElem?_getD,hzb];rfl
 replace hE:=qar hE h11;rw [ha,hb] at hE;refine Z32 ?_;refine qaj 15 kr ?_;refine s1 ?_;refine qbc (by exact qak (j:=0) (er rfl) (er rfl) rfl rfl rf hza) ?_;refine t4 ?_;refine Z9 ?_;refine s1 ?_;refine qbc (qac call38 (qe3 _ (⟨_,_,(⟨_,_⟩:Pt),_⟩:Bk)) ⟨qbg,⟨qbg,trivial⟩⟩) ?_;refine Z41 ?_;refine ⟨rfl,?_⟩;intro i15;refine Z33 ?_;refine Z5 ?_;refine qaj 15 kr ?_;refine s1 ?_;refine qbc (by exact qak (j:=1) (er rfl) (er rfl) rfl rfl rf hzb) ?_;refine t2 ?_;refine qbc (by exact qak (j:=0) (er rfl) (er rfl) rfl rfl rf hza) ?_;refine s1 ?_;refine Z55 ?_;refine qbc (qd1 (size:=2) (qs:=[(0,_)]) rfl rfl rfl rfl ⟨⟨rfl,_,(er rfl),qas⟩,trivial⟩ rf qbx) ?_;refine qbc (qac call84 (qgi _ (⟨(⟨_,_⟩:Pt),(⟨_,_⟩:Pt),(⟨_,_⟩:Pt),(⟨_,_⟩:Pt),(⟨_,_⟩:Pt),(⟨_,_⟩:Pt),(⟨_,_⟩:Pt),(⟨_,_⟩:Pt)⟩:S8)) ⟨qbg,⟨qbg,trivial⟩⟩) ?_;refine Z41 ?_;refine ⟨rfl,?_⟩;intro i17;refine Z33 ?_;refine Z5 ?_;refine qaj 18 kr ?_;refine t2 ?_;refine qbc (by exact qak (j:=0) (er rfl) (er rfl) rfl rfl rf hza) ?_;refine s1 ?_;refine Z55 ?_;refine s1 ?_;refine qbc (by exact qak (j:=1) (er rfl) (er rfl) rfl rfl rf hzb) ?_;refine s1 ?_;refine Z55 ?_;refine qbc (qd1 (size:=2) (qs:=[(0,_)]) rfl rfl rfl rfl ⟨⟨rfl,_,(er rfl),qas⟩,trivial⟩ rf qbx) ?_;refine s1 ?_;refine qbc (qac call87 (qm9 _ (⟨(⟨_,_⟩:Pt),_,(⟨_,_⟩:Pt),(⟨_,_⟩:Pt),(⟨_,_⟩:Pt),(⟨_,_⟩:Pt)⟩:Rt)) ⟨qbg,⟨qbg,trivial⟩⟩) ?_;refine Z41 ?_;refine ⟨rfl,?_⟩;intro i19;refine qda ?_;refine t6 ?_;refine qao rfl (OpP.fr (qff (size:=9) (qs:=[(0,_),(1,_),(2,_)]) rfl rfl rfl ⟨⟨rfl,_,(er rfl),qas⟩,⟨⟨rfl,_,(er rfl),qas⟩,⟨⟨rfl,_,(er rfl),qas⟩,trivial⟩⟩⟩ rf rf) qmk (SubL.row3 (T:=tPg) (x:=(⟨_,_,_,_,_,_,_,_,_⟩:Pg)) (y:=(⟨_,_,_,_,_,_,_,_,_⟩:Pg)) (z:=(⟨_,_,_,_,_,_,_,_,_⟩:Pg)) rf rf rf rf rf qav qav qav)) ?_;refine qao rfl (by ((refine qau call88 (qb8 _ _ ?_) ⟨qap,⟨qap,trivial⟩⟩);all_goals ((simp;done)))) ?_;refine t6 ?_;subst hE;exact rA (Bs:=[_]) results36 eRF
end Go.Proofs.YteafmggidjjdgaaGreatDoor
