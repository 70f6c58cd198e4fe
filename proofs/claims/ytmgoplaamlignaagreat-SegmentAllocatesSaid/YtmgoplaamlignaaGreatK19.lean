/- Texts laid together: walks of functions, what they compute, and plain laws of it. Own work. -/
import Derived.Lib.BitFns
import Derived.Test.YtmgoplaamlignaaGreatK18
import Derived.Test.YtmgoplaamlignaaGreatK1
namespace Go.Proofs.YtmgoplaamlignaaGreat
open Go.RowKit Tryz
set_option linter.unusedVariables false
set_option linter.unusedSimpArgs false
set_option maxRecDepth 100000
set_option maxHeartbeats 4000000
theorem zal (n k:Int) (h:1≤k):(n.tmod k+k).tmod k=n % k:=by
 have h2:=Int.lt_tmod_of_pos n (show 0<k by omega)
 rw [Int.tmod_eq_emod_of_nonneg (by omega),zam n k h]
theorem qd4 (n k:Int) (hb:1≤k) (hb2:k≤4611686018427387903):FnP Tryz.prog 9 [Is (.int .i64 n),Is (.int .i64 k)] (Is (.int .i64 (n % k))):=by
 have h1:=Int.tmod_lt_of_pos n (show 0<k by omega)
 have h2:=Int.lt_tmod_of_pos n (show 0<k by omega)
 refine FnP.enter func9 ntmps9 rfl rfl ?_
 intro c hX
 (refine qx3 ?_)
 refine t3 ?_
 (repeat with_reducible first|refine qx3 ?_|refine qou ?_)
 (skip)
 refine t4 ?_
 (refine qou ?_)
 refine zdb (er rfl) (fun h=>absurd (of_decide_eq_true h) (by omega)) (fun h=>?_)
 (repeat with_reducible first|refine qx3 ?_|refine qou ?_|refine zc9 ?_)
 refine t10 ?_
 (repeat with_reducible first|refine qou ?_|refine JC_ret ?_)
 exact qa4 results9 rfl () (SubL.eq (by rw [zal n k hb])) (List.nil_sublist _)
theorem qh6 {n:Int} (h:0≤n∧n<18446744073709551616):UV (BitVec.ofInt 64 n)=n:=by
 unfold UV;rw [BitVec.toNat_ofInt];simp;omega
theorem wrr (n:Int):0≤IntKind.u64.wrap n∧IntKind.u64.wrap n<18446744073709551616:=by
 rw [qc7];omega
theorem qxz (x:BitVec 32):UV (x.setWidth 64)=UV x:=by
 unfold UV
 rw [BitVec.toNat_setWidth]
 have:=x.isLt
 congr 1
 omega
theorem back_header {p:Pg} {h:Hd} (e:(qfk p h).2=0):qcj (qfk p h).1=(h,0)∧(qfk p h).1.l=p.l∧(qfk p h).1.h=p.h:=by
 unfold qfk at e ⊢
 split at e
 ·exact absurd e (by decide)
 ·rename_i hb
  rw [if_neg hb]
  have hb':qrm p h=false:=by simpa using hb
  obtain ⟨r1,r2⟩:=hd_rng hb'
  have hl:qp1 p.l=true:=by
   unfold qrm at hb'
   simp only [Bool.or_eq_false_iff,Bool.not_eq_false'] at hb'
   exact hb'.1.1.1
  have hu:UV (h.used &&& ~~~BitVec.ofInt 32 65534)=0:=by
   unfold qrm at hb'
   simp only [Bool.or_eq_false_iff] at hb'
   simpa using hb'.2
  refine ⟨?_,rfl,rfl⟩
  have hd0:UV (qoc p h).d0=h.owner+1:=qh6 (by omega)
  have hd1:UV ((qoc p h).d1 &&& ~~~BitVec.ofInt 64 65534)=0:=by
   rw [uv0_iff] at hu ⊢
   show h.used.setWidth 64 &&& ~~~BitVec.ofInt 64 65534=0#64
   apply BitVec.eq_of_getLsbD_eq
   intro i hi
   rw [BitVec.getLsbD_and,BitVec.getLsbD_setWidth]
   rcases Nat.lt_or_ge i 32 with h32|h32
   ·have h1:=congrArg (fun x:BitVec 32=>x.getLsbD i) hu
    simp only [BitVec.getLsbD_and,BitVec.getLsbD_not,h32,decide_true,Bool.true_and] at h1
    simp only [BitVec.getLsbD_not,hi,decide_true,Bool.true_and]
    have h2:(BitVec.ofInt 64 65534).getLsbD i=(BitVec.ofInt 32 65534).getLsbD i:=by
     have h3:BitVec.ofInt 32 65534=(BitVec.ofInt 64 65534).setWidth 32:=by decide
     rw [h3,BitVec.getLsbD_setWidth];simp [h32]
    rw [h2];simpa using h1
   ·rw [BitVec.getLsbD_of_ge h.used i h32];simp
  have hub:qzq (qoc p h)=false:=by
   unfold qzq
   rw [hd0,hd1]
   simp;omega
  have hz:zB (qoc p h)=true:=by
   unfold zB qoc Pg.nil;rfl
  unfold qcj
  rw [if_pos (show qp1 (qoc p h).l=true from hl),if_neg (by rw [hub,hz];simp),hd0]
  have e1:h.owner+1-1=h.owner:=by omega
  have e2:(qoc p h).d1.setWidth 32=h.used:=qla h.used
  rw [e1,e2]
theorem qqv {r:Re} (h:rwB r=true):qlc (rwV r)=r∧qhr (rwV r)=true:=by
 by_cases hr:r=Re.nil
 ·subst hr
  exact ql7 (by unfold rwV;rw [if_pos rfl])
 ·have hv:qdz r.to=true:=by rw [qf7 hr] at h;exact h
  have e:rwV r=qm1 (qg2 r.to) (r.ep.setWidth 64):=by unfold rwV;rw [if_neg hr]
  have e1:(rwV r).setWidth 32=qg2 r.to:=by rw [e];exact pack_low _ _
  have e2:(rwV r>>>32).setWidth 32=r.ep:=by rw [e,zaw];exact qla _
  have hne:¬ rwV r=0#64:=fun h0=>by
   rw [h0] at e1
   exact pack_ne hv e1.symm
  obtain ⟨h1,h2⟩:=qit hne
  rw [h1,h2,e1,e2,quw hv]
  exact ⟨rfl,hv⟩
theorem okR_all {n:Nd} (h:okR n 4=true):rwB n.r0=true∧rwB n.r1=true∧rwB n.r2=true∧rwB n.r3=true:=by
 unfold okR at h
 simp only [Bool.and_eq_true] at h
 simp_all
theorem zcq {p:Pg} {n:Nd} (e:(qdk p n).2=0):qcu (qdk p n).1=(n,0)∧(qdk p n).1.l=p.l∧(qdk p n).1.h=p.h:=by
 cases hb:qp8 p n with
 | true=>rw [qqm hb] at e;exact absurd e (by decide)
 | false =>
  cases hk:okR n 4 with
  | false=>rw [qql hb hk] at e;exact absurd e (by decide)
  | true =>
   rw [qm8 hb hk]
   refine ⟨?_,rfl,rfl⟩
   obtain ⟨i1,i2,i3⟩:=qr0 hb
   have hl:qmo p.l=true:=by
    unfold qp8 at hb
    simp only [Bool.or_eq_false_iff,Bool.not_eq_false'] at hb
    exact hb.1
   have hpin:n.pin=false→UV n.ep=0:=fun h=>by
    unfold qp8 at hb
    simp only [Bool.or_eq_false_iff] at hb
    have:=hb.2.1
    rw [h] at this
    simpa using this
   obtain ⟨k0,k1,k2,k3⟩:=okR_all hk
   obtain ⟨a0,b0⟩:=qqv k0
   obtain ⟨a1,b1⟩:=qqv k1
   obtain ⟨a2,b2⟩:=qqv k2
   obtain ⟨a3,b3⟩:=qqv k3
   have hep:=qxz n.ep
   have hepr:0≤UV n.ep∧UV n.ep<4294967296:=by unfold UV;have:=n.ep.isLt;omega
   have d0:UV (pgK p n 4).d0=if n.pin=true then UV n.ep+1 else 0:=by
    show UV (qsj n)=_
    unfold qsj
    split
    ·unfold UV
     rw [BitVec.toNat_add,BitVec.toNat_setWidth]
     have:=n.ep.isLt
     simp
     omega
    ·rfl
   have d1:UV (pgK p n 4).d1=UV n.sg:=qxz n.sg
   have d2:UV (pgK p n 4).d2=n.inc:=qh6 (by omega)
   have hbad:qsl (pgK p n 4)=false:=by
    unfold qsl
    rw [d0,d1,d2]
    simp only [Bool.or_eq_false_iff,decide_eq_false_iff_not]
    refine ⟨⟨?_,by omega⟩,by omega⟩
    split <;> omega
   have hok:okN (pgK p n 4) 4=true:=by
    unfold okN
    show _=_
    have c0:qhr (pgK p n 4).d3=true:=b0
    have c1:qhr (pgK p n 4).d4=true:=b1
    have c2:qhr (pgK p n 4).d5=true:=b2
    have c3:qhr (pgK p n 4).d6=true:=b3
    simp [c0,c1,c2,c3]
   rw [qnx (show qmo (pgK p n 4).l=true from hl) hbad hok]
   have f0:qq0 (pgK p n 4)=n.pin:=by
    unfold qq0
    rw [d0]
    cases n.pin <;> simp;omega
   have f1:epV (pgK p n 4)=n.ep:=by
    unfold epV
    rw [d0]
    cases hp:n.pin with
    | true =>
     rw [if_pos rfl,if_pos (by omega)]
     show (qsj n-1#64).setWidth 32=n.ep
     unfold qsj
     rw [if_pos hp,BitVec.add_sub_cancel]
     exact qla _
    | false =>
     have:=(uv0_iff).1 (hpin hp)
     simp [this]
   have f2:(pgK p n 4).d1.setWidth 32=n.sg:=qla n.sg
   have g0:reK 4 0 (qlc (pgK p n 4).d3)=n.r0:=a0
   have g1:reK 4 1 (qlc (pgK p n 4).d4)=n.r1:=a1
   have g2:reK 4 2 (qlc (pgK p n 4).d5)=n.r2:=a2
   have g3:reK 4 3 (qlc (pgK p n 4).d6)=n.r3:=a3
   unfold ndK
   rw [f0,f1,f2,d2,g0,g1,g2,g3]
structure Tg where
 kind:Int
 gen:Int
 aux:BitVec 32
@[reducible] def tTg:Ty Tg:=⟨3,fun t=>[Is (.int .i64 t.kind),Is (.int .i64 t.gen),Is (.int .u32 (UV t.aux))],fun _=>rfl⟩
@[reducible] def IsTg (t:Tg):VP:=IsAgg (tTg.cells t)
def qh1 (x:BitVec 64):Int:=UV (x&&&BitVec.ofInt 64 255)
def qm3 (x:BitVec 64):Int:=UV (x>>>8&&&BitVec.ofInt 64 16777215)
def auxV (x:BitVec 64):BitVec 32:=(x>>>32).setWidth 32
theorem zbq (x:BitVec 64):qh1 x=UV x % 256:=by
 unfold qh1;rw [qir 64 8 x _ rfl];rfl
theorem qxj (x:BitVec 64):qm3 x=UV x / 256 % 16777216:=by
 unfold qm3;rw [qir 64 24 _ _ rfl,qlu];rfl
theorem kind_in (x:BitVec 64):-9223372036854775808≤UV (x&&&BitVec.ofInt 64 255)∧UV (x&&&BitVec.ofInt 64 255)≤9223372036854775807:=by
 have:=zbq x
 unfold qh1 at this
 omega
theorem gen_in (x:BitVec 64):-9223372036854775808≤UV (x>>>8&&&BitVec.ofInt 64 16777215)∧UV (x>>>8&&&BitVec.ofInt 64 16777215)≤9223372036854775807:=by
 have:=qxj x
 unfold qm3 at this
 omega
def ql3 (x:BitVec 64):Tg:=⟨qh1 x,qm3 x,auxV x⟩
theorem que (x:BitVec 64):FnP Tryz.prog 61 [Is (.int .u64 (UV x))] (IsTg (ql3 x)):=by
 have h1:=kind_in x
 have h2:=gen_in x
 refine FnP.enter func61 ntmps61 rfl rfl ?_
 intro c hX
 refine t3 ?_
 intro i2
 refine t8 ?_
 refine qap rfl (by exact qhi (k:=8) qgi (er rfl) (by omega) qca) ?_
 refine t3 ?_
 refine qap rfl (by exact qhi (k:=32) qgi (er rfl) (by omega) qca) ?_
 refine t6 ?_
 exact qaq (Bs:=[IsTg (ql3 x)]) results61 eT () SubL.rfl' (List.nil_sublist _)
def packT (t:Tg):BitVec 64:=(BitVec.ofInt 64 t.kind&&&BitVec.ofInt 64 255)|||((BitVec.ofInt 64 t.gen&&&BitVec.ofInt 64 16777215)<<<8)|||(t.aux.setWidth 64<<<32)
theorem qy6 (t:Tg):FnP Tryz.prog 110 [IsTg t] (Is (.int .u64 (UV (packT t)))):=by
 refine FnP.enter func110 ntmps110 rfl rfl ?_
 intro c hX
 refine t3 ?_
 intro i1
 refine t25 ?_
 refine qap rfl (by exact qd5 (k:=8) qgi (er rfl) (by omega) qca) ?_
 refine t4 ?_
 refine qap rfl (by exact qd5 (k:=32) qgi (er rfl) (by omega) qca) ?_
 refine t5 ?_
 refine qa4 results110 rfl () (SubL.eq ?_) (List.nil_sublist _)
 rfl
theorem tagOf_ok (p:Pg):FnP Tryz.prog 95 [qdw p] (IsTg (ql3 p.d0)):=by
 have hd0:(dat p)[0]?=some p.d0:=rfl
 refine FnP.enter func95 ntmps95 rfl rfl ?_
 intro c hX
 refine t3 ?_
 intro i1
 refine s1 ?_
 intro i2
 refine t7 ?_
 refine qap rfl (qac call61 (que _) ⟨evS,trivial⟩) ?_
 refine t4 ?_
 exact qaq (Bs:=[IsTg (ql3 p.d0)]) results95 eT () SubL.rfl' (List.nil_sublist _)
def tagP (p:Pg) (g:Tg):Pg:=⟨p.l,p.h,packT g,0#64,0#64,0#64,0#64,0#64,0#64⟩
theorem qz0 (p:Pg) (g:Tg):FnP Tryz.prog 96 [qdw p,IsTg g] (qdw (tagP p g)):=by
 refine FnP.enter func96 ntmps96 rfl rfl ?_
 intro c hX
 refine t3 ?_
 intro i2
 refine s1 ?_
 intro i3
 refine s1 ?_
 intro i4
 refine t10 ?_
 intro i5
 refine t6 ?_
 refine qap rfl (qac call110 (qy6 g) ⟨evS,trivial⟩) ?_
 refine t12 ?_
 exact qaq (Bs:=[qdw (tagP p g)]) results96 eT () SubL.rfl' (List.nil_sublist _)
def relP (p:Pg):Pg×Int:=
 if qob p.l=true then (if qeo p=true then (Pg.nil,3) else if qh1 p.d0=0 then (Pg.nil,16) else (tagP p ⟨0,qm3 p.d0,0#32⟩,0)) else (Pg.nil,1)
theorem Release_ok (p:Pg):FnP Tryz.prog 69 [qdw p] (qbv [qdw (relP p).1,Is (.int .i64 (relP p).2)]):=by
 refine FnP.enter func69 ntmps69 rfl rfl ?_
 intro c hX
 refine t3 ?_
 intro i1
 refine s1 ?_
 intro i2
 refine t6 ?_
 refine qap rfl (qac call95 (tagOf_ok p) ⟨evS,trivial⟩) ?_
 refine s1 ?_
 intro i4
 refine t9 ?_
 refine qap rfl (qac call94 (qtp _) ⟨evS,trivial⟩) ?_
 refine t4 ?_
 refine cN ?_ ?_ <;> intro h2
 ·have e:relP p=(Pg.nil,1):=by unfold relP;rw [if_neg (by simpa using h2)]
  rw [e]
  refine t10 ?_
  exact qaq (Bs:=[qdw Pg.nil,Is (.int .i64 1)]) results69 eT () SubL.rfl' (List.nil_sublist _)
 have g1:qob p.l=true:=by simpa using h2
 refine t3 ?_
 refine qap rfl (qac call62 (qly _) ⟨evS,trivial⟩) ?_
 refine t3 ?_
 refine cN ?_ ?_ <;> intro h4
 ·have e:relP p=(Pg.nil,3):=by unfold relP;rw [if_pos g1,if_pos (show qeo p=true from h4)]
  rw [e]
  refine t10 ?_
  exact qaq (Bs:=[qdw Pg.nil,Is (.int .i64 3)]) results69 eT () SubL.rfl' (List.nil_sublist _)
 have g2:¬ qeo p=true:=fun e=>Bool.noConfusion (show false=true from h4.symm.trans e)
 refine t8 ?_
 refine cN ?_ ?_ <;> intro h6
 ·have g3:qh1 p.d0=0:=by simpa [ql3] using h6
  have e:relP p=(Pg.nil,16):=by unfold relP;rw [if_pos g1,if_neg g2,if_pos g3]
  rw [e]
  refine t10 ?_
  exact qaq (Bs:=[qdw Pg.nil,Is (.int .i64 16)]) results69 eT () SubL.rfl' (List.nil_sublist _)
 have g3:¬ qh1 p.d0=0:=by simpa [ql3] using h6
 have e:relP p=(tagP p ⟨0,qm3 p.d0,0#32⟩,0):=by unfold relP;rw [if_pos g1,if_neg g2,if_neg g3]
 rw [e]
 clear h6
 refine t9 ?_
 refine qap rfl (qac call96 (qz0 p ⟨0,qm3 p.d0,0#32⟩) ⟨evS,⟨evS,trivial⟩⟩) ?_
 refine t5 ?_
 exact qaq (Bs:=[qdw (tagP p ⟨0,qm3 p.d0,0#32⟩),Is (.int .i64 0)]) results69 eT () SubL.rfl' (List.nil_sublist _)
def qyn (x:BitVec 64):BitVec 64:=BitVec.ofInt 64 (IntKind.u64.wrap (IntKind.u64.wrap (IntKind.u64.wrap ((UV x).tdiv 256)+1)*256))
def qnk (H:List Pg) (w:Pg):List Pg:=if 96≤w.l∧w.l<96+(H.length:Int) then H.set (w.l-96).toNat { w with h:=qyn (H.getD (w.l-96).toNat Pg.nil).h } else H
theorem qxs (H:List Pg) (w:Pg):(qnk H w).length=H.length:=by unfold qnk;split <;> simp
theorem qks:∀ (ws H:List Pg),(ws.foldl qnk H).length=H.length
 | [],H=>rfl
 | w :: ws,H=>by rw [List.foldl_cons,qks ws,qxs]
theorem com_take {ws H:List Pg} {k:Nat} {w:Pg} (h:ws[k]?=some w):(ws.take (k+1)).foldl qnk H=qnk ((ws.take k).foldl qnk H) w:=by
 rw [List.take_add_one,h,List.foldl_append];rfl
theorem nextH_eq (x:BitVec 64):IntKind.u64.wrap (IntKind.u64.wrap (IntKind.u64.wrap ((UV x).tdiv 256)+1)*256)=UV (qyn x):=(qh6 (wrr _)).symm
theorem qig {P:Program} {c:Ctx} {A:Nat→Option VP} {L:List Item} {d:Option Tmp} {ty:TypeId} {pos:String} {af:Array Edge} {g:Option (Nat×Bool)} {t:TypeId} {s:ByteArray} {y:Operand} {q:IntKind} {j:Int} (hs:s=Lib.pop8tab) (hu:P.underlying t=some .string) (hy:Ev A L y (Is (.int q j))) (h0:0≤j) (h1:j≤255) :
  OpP P c ⟨d,.index t (.const (.string s)) y,ty,pos,af,g⟩ A L (Is (.int .u8 (Lib.pop8 j))):=
 opp fun φ a w hm he=>by
  have e1:a.eval y = .int q j:=he y (by simp [Op.operands]) _ hy
  refine ⟨_,?_,rfl⟩
  have e2:a.eval (.const (.string s)) = .string s:=rfl
  simp only [execOp,e1,e2,hs]
  exact qcg (Lib.run_index_pop8tab w t q j hu h0 h1)
theorem pop8_rng:∀ n:Fin 256,0≤Lib.pop8 (n.val:Int)∧Lib.pop8 (n.val:Int)≤8:=by decide +kernel
theorem qi2 {j:Int} (h0:0≤j) (h1:j≤255):0≤Lib.pop8 j∧Lib.pop8 j≤8:=by
 have h:=pop8_rng ⟨j.toNat,by omega⟩
 rw [show ((⟨j.toNat,by omega⟩:Fin 256).val:Int)=j by simp;omega] at h
 exact h
theorem wU8 {n:Int} (h:0≤n∧n<256):IntKind.u8.wrap n=n:=by
 rw [qsp];unfold UV;rw [BitVec.toNat_ofInt];simp;omega
def popV (u:BitVec 32):Int:=Lib.pop8 (UV (u>>>24))+Lib.pop8 (UV (u>>>16&&&BitVec.ofInt 32 255))+Lib.pop8 (UV (u>>>8&&&BitVec.ofInt 32 255))+Lib.pop8 (UV (u&&&BitVec.ofInt 32 255))
theorem qsm (x:BitVec 32):0≤UV (x&&&BitVec.ofInt 32 255)∧UV (x&&&BitVec.ofInt 32 255)≤255:=by
 rw [qir 32 8 x _ rfl]
 have:=qbj x
 omega
theorem b24 (x:BitVec 32):0≤UV (x>>>24)∧UV (x>>>24)≤255:=by
 rw [qlu]
 have:=qbj x
 have h:UV x<4294967296:=by unfold UV;have:=x.isLt;omega
 omega
theorem popV_rng (u:BitVec 32):0≤popV u∧popV u≤32:=by
 unfold popV
 have h1:=qi2 (b24 u).1 (b24 u).2
 have h2:=qi2 (qsm (u>>>16)).1 (qsm (u>>>16)).2
 have h3:=qi2 (qsm (u>>>8)).1 (qsm (u>>>8)).2
 have h4:=qi2 (qsm u).1 (qsm u).2
 omega
theorem qpf (u:BitVec 32):FnP Tryz.prog 92 [Is (.int .u32 (UV u))] (Is (.int .i64 (popV u))):=by
 have h1:=qi2 (b24 u).1 (b24 u).2
 have h2:=qi2 (qsm (u>>>16)).1 (qsm (u>>>16)).2
 have h3:=qi2 (qsm (u>>>8)).1 (qsm (u>>>8)).2
 have h4:=qi2 (qsm u).1 (qsm u).2
 refine FnP.enter func92 ntmps92 rfl rfl ?_
 intro c hX
 refine t6 ?_
 refine qa0 rfl (by kernel_rfl) ?_
 refine qag 19 (by kernel_rfl) ?_
 refine s1 ?_
 refine qbc (by exact qex (k:=24) ql1 (er rfl) (by omega) qca) ?_
 refine qbc (qig rfl rfl (er rfl) (b24 u).1 (b24 u).2) ?_
 refine s1 ?_
 refine qbc (by exact qex (k:=16) ql1 (er rfl) (by omega) qca) ?_
 refine s1 ?_
 refine qbc (qig rfl rfl (er rfl) (qsm _).1 (qsm _).2) ?_
 refine qbc (qft (er rfl) (er rfl) (wU8 (by omega))) ?_
 refine s1 ?_
 refine qbc (by exact qex (k:=8) ql1 (er rfl) (by omega) qca) ?_
 refine s1 ?_
 refine qbc (qig rfl rfl (er rfl) (qsm _).1 (qsm _).2) ?_
 refine qbc (qft (er rfl) (er rfl) (wU8 (by omega))) ?_
 refine t2 ?_
 refine qbc (qig rfl rfl (er rfl) (qsm _).1 (qsm _).2) ?_
 refine qbc (qft (er rfl) (er rfl) (wU8 (by omega))) ?_
 refine qbc (qfd (er rfl) rfl rfl (qo3 (by omega))) ?_
 refine s1 ?_
 refine ⟨rfl,?_⟩
 refine qat ?_
 refine t2 ?_
 refine qa4 results92 rfl () (SubL.eq ?_) (List.nil_sublist _)
 rfl
def vacV (h:Hd):Int:=15-popV h.used
theorem vacant_ok (h:Hd):FnP Tryz.prog 59 [qut h] (Is (.int .i64 (vacV h))):=by
 have:=popV_rng h.used
 refine FnP.enter func59 ntmps59 rfl rfl ?_
 intro c hX
 refine t3 ?_
 intro i1
 refine t7 ?_
 refine qap rfl (qac call92 (qpf _) ⟨evS,trivial⟩) ?_
 refine t5 ?_
 refine qa4 results59 rfl () (SubL.eq ?_) (List.nil_sublist _)
 rfl
section
variable {P:Program} {c:Ctx} {A:Nat→Option VP} {L:List Item} {d:Option Tmp} {ty:TypeId} {pos:String} {af:Array Edge} {g:Option (Nat×Bool)} {α:Type} {V:α→VP} {l:List (Int×α)} {b:Nat} {t kt et:TypeId} {x y:Operand}
theorem op_lookupS {k:Int} {zv:Value} {v:α} (hv:qo1 l k=some v) (hx:Ev A L x (Is (.map (some b)))) (hL:mp b V l∈L) (hy:Ev A L y (Is (.int .i64 k))) (hu:P.underlying t=some (.map kt et)) (hk:P.underlying kt=some (.int .i64)) (hz:(P.info? et).map (·.zero)=some (some zv)) :
  OpP P c ⟨d,.lookup t x y false,ty,pos,af,g⟩ A L (V v):=by
 have h:=za4 (P:=P) (c:=c) (d:=d) (ty:=ty) (pos:=pos) (af:=af) (g:=g) hx hL hy hu hk hz
 rw [hv] at h
 exact h
end
theorem qrf {α:Type} {k:Int} {x:α}:∀ {l:List (Int×α)},k ∉ l.map Prod.fst→qmp l k x=l++[(k,x)]
 | [],_=>rfl
 | (j,y) :: l,h=>by
  simp only [List.map_cons,List.mem_cons,not_or] at h
  unfold qmp
  rw [if_neg (fun e=>h.1 e.symm),qrf h.2]
  rfl
theorem qth {α:Type} {k:Int} {x y:α}:∀ {l:List (Int×α)},k ∉ l.map Prod.fst→qmp (l++[(k,y)]) k x=l++[(k,x)]
 | [],_=>by simp [qmp]
 | (j,z) :: l,h=>by
  simp only [List.map_cons,List.mem_cons,not_or] at h
  rw [List.cons_append]
  unfold qmp
  rw [if_neg (fun e=>h.1 e.symm),qth h.2]
  rfl
theorem qtj {α:Type} {k:Int}:∀ {l:List (Int×α)},k ∉ l.map Prod.fst→qo1 l k=none
 | [],_=>rfl
 | (j,y) :: l,h=>by
  simp only [List.map_cons,List.mem_cons,not_or] at h
  unfold qo1
  rw [if_neg (fun e=>h.1 e.symm),qtj h.2]
theorem mget_map {α:Type} {f:Int→α} {s:Int}:∀ {S:List Int},s∈S→qo1 (S.map fun s=>(s,f s)) s=some (f s)
 | [],h=>by cases h
 | j :: S,h=>by
  simp only [List.map_cons]
  unfold qo1
  by_cases e:j=s
  ·rw [if_pos e,e]
  ·rw [if_neg e]
   rcases List.mem_cons.1 h with h|h
   ·exact absurd h.symm e
   ·exact mget_map h
theorem qvh {S:List Int} {k:Nat} {s:Int} (hz:S[k]?=some s) (hnd:S.Nodup):s ∉ S.take k:=fun hm=>by
 obtain ⟨j,hj,e⟩:=List.getElem_of_mem hm
 rw [List.getElem_take] at e
 obtain ⟨hk,e2⟩:=List.getElem?_eq_some_iff.1 hz
 have hjk:j<k:=by simp at hj;omega
 exact (List.pairwise_iff_getElem.1 hnd) j k (by omega) hk hjk (e.trans e2.symm)
theorem mput_map {α:Type} {f:Int→α} {S:List Int} {k:Nat} {s:Int} (hz:S[k]?=some s) (hnd:S.Nodup):qmp ((S.take k).map fun s=>(s,f s)) s (f s)=(S.take (k+1)).map fun s=>(s,f s):=by
 rw [qrf,List.take_add_one,hz,List.map_append]
 ·rfl
 ·rw [List.map_map]
  show s ∉ (S.take k).map (fun x=>x)
  rw [List.map_id']
  exact qvh hz hnd
theorem qnz {bm:BitVec 32} {x:Int}:∀ {n:Nat},x∈qf8 bm n→0≤x∧x<n
 | 0,h=>by cases h
 | n+1,h=>by
  unfold qf8 at h
  split at h
  ·rcases List.mem_append.1 h with h|h
   ·have:=qnz h;omega
   ·simp at h;omega
  ·have:=qnz h;omega
theorem qpp (bm:BitVec 32):∀ n:Nat,(qf8 bm n).Nodup
 | 0=>List.nodup_nil
 | n+1=>by
  unfold qf8
  split
  ·refine List.nodup_append.2 ⟨qpp bm n,by simp,fun a ha b hb e=>?_⟩
   simp at hb
   have:=qnz ha
   omega
  ·exact qpp bm n
abbrev Pk:=List (Int×List Nat)
abbrev Alo:=List Int×List Pg×List Pg×Int×Bool
@[reducible] def errA (e:Int):Alo:=([],[],[],e,true)
def orb (u:BitVec 32) (q:List Nat):BitVec 32:=q.foldl (fun u i=>u|||BitVec.ofInt 32 1<<<i) u
theorem orb_snoc (u:BitVec 32) (q:List Nat) (i:Nat):orb u (q++[i])=orb u q|||BitVec.ofInt 32 1<<<i:=by unfold orb;rw [List.foldl_append];rfl
def pkV (ks:List Pg) (l:Int):Int:=
 if qe5 ks l=true then (if qeo (qb6 ks l)=true then 3 else if qh1 (qb6 ks l).d0≠0 then 11 else if qm3 (qb6 ks l).d0=16777215 then -1 else 0) else 0
def inn (ks:List Pg) (s:Int) (cnt:Nat):Nat→Nat→Nat→BitVec 32→List Nat→Except Int (List Nat)
 | 0,_,_,_,q=>.ok q
 | f+1,i,ch,u,q =>
  if ch<cnt then
   if qk2 u i=true then inn ks s cnt f (i+1) ch u q
   else if pkV ks (qas s+i) = -1 then inn ks s cnt f (i+1) ch u q
   else if pkV ks (qas s+i)=0 then inn ks s cnt f (i+1) (ch+1) (u|||BitVec.ofInt 32 1<<<i) (q++[i])
   else .error (pkV ks (qas s+i))
  else .ok q
def qp2 (ks:List Pg) (s:Int):Hd:=(qeg ks s).2.1
def outS (ks:List Pg) (cnt:Nat):List Int→Nat→Pk→Except Int Pk
 | [],_,ps=>.ok ps
 | s :: ss,ch,ps=>match inn ks s cnt 15 1 ch (qp2 ks s).used [] with
  | .error e=>.error e
  | .ok q=>outS ks cnt ss (ch+q.length) (ps++[(s,q)])
def quy (ps:Pk):Nat:=(ps.map fun x=>x.2.length).sum
def qpw (ps:Pk):List Int:=ps.flatMap fun x=>x.2.map fun i:Nat=>qas x.1+(i:Int)
def qi6 (ks:List Pg) (ps:Pk):List Int:=(qpw ps).filter fun l=>!qe5 ks l
def qzg (ks:List Pg) (ps:Pk):List Pg:=((qpw ps).filter fun l=>qe5 ks l).map (qb6 ks)
def qrd (ks:List Pg) (x:Int×List Nat):Hd:=⟨(qp2 ks x.1).owner,orb (qp2 ks x.1).used x.2⟩
def qnl (ks:List Pg) (ps:Pk):List (Int×Hd):=(ps.filter fun x=>!x.2.isEmpty).map fun x=>(x.1,qrd ks x)
def wriP (ks:List Pg) (ps:Pk):List Pg:=(ps.filter fun x=>!x.2.isEmpty).map fun x=>(qfk (qeg ks x.1).1 (qrd ks x)).1
def finA (ks:List Pg) (cnt:Nat) (ps:Pk):Alo:=
 if quy ps<cnt then errA 12 else if 0<(qi6 ks ps).length then (qi6 ks ps,[],[],0,false) else ([],qzg ks ps,wriP ks ps,0,true)
def excA (ks:List Pg) (cnt:Nat):Except Int Pk→Alo
 | .error e=>errA e
 | .ok ps=>finA ks cnt ps
def srcV (ks:List Pg) (cnt:Nat) (S:List Int):List Int:=match S.find? fun s=>decide (vacV (qp2 ks s)≥(cnt:Int)) with
 | some s=>[s]
 | none=>S
def hdE (ks:List Pg) (cl:Int):List Int→Option Int
 | []=>none
 | s :: ss=>if (qeg ks s).2.2.2≠0 then some (qeg ks s).2.2.2 else if (qp2 ks s).owner≠cl then some 11 else hdE ks cl ss
def aloH (ks:List Pg) (cl:Int) (cnt:Nat) (S T:List Int):Alo:=match hdE ks cl T with
 | some e=>errA e
 | none=>excA ks cnt (outS ks cnt (srcV ks cnt S) 0 [])
def innX (ks:List Pg) (cnt:Nat) (s:Int) (ss:List Int) (ch0:Nat) (ps:Pk):Except Int (List Nat)→Alo
 | .error e=>errA e
 | .ok q=>excA ks cnt (outS ks cnt ss (ch0+q.length) (ps++[(s,q)]))
theorem outS_step {ks:List Pg} {cnt:Nat} {s:Int} {ss:List Int} {ch:Nat} {ps:Pk}:excA ks cnt (outS ks cnt (s :: ss) ch ps)=innX ks cnt s ss ch ps (inn ks s cnt 15 1 ch (qp2 ks s).used []):=by
 show excA ks cnt (match inn ks s cnt 15 1 ch (qp2 ks s).used [] with
  | .error e=>.error e
  | .ok q=>outS ks cnt ss (ch+q.length) (ps++[(s,q)]))=_
 cases inn ks s cnt 15 1 ch (qp2 ks s).used [] <;> rfl
theorem qhz (ps:Pk) (s:Int) (q:List Nat) (i:Nat):qpw (ps++[(s,q++[i])])=qpw (ps++[(s,q)])++[qas s+(i:Int)]:=by
 unfold qpw
 simp
theorem qrh (ps:Pk) (s:Int):qpw (ps++[(s,[])])=qpw ps:=by unfold qpw;simp
theorem qv7 (ps:Pk) (s:Int) (q:List Nat):quy (ps++[(s,q)])=quy ps+q.length:=by unfold quy;simp
theorem qvm (ps:Pk):(qpw ps).length=quy ps:=by
 unfold qpw quy
 induction ps with
 | nil=>rfl
 | cons x ps ih=>simp [ih]
theorem need_le (ks:List Pg) (ps:Pk):(qi6 ks ps).length≤quy ps:=by
 rw [← qvm];exact List.length_filter_le _ _
theorem fre_le (ks:List Pg) (ps:Pk):(qzg ks ps).length≤quy ps:=by
 rw [← qvm];unfold qzg;rw [List.length_map];exact List.length_filter_le _ _
theorem wri_le (ks:List Pg) (ps:Pk):(wriP ks ps).length≤ps.length:=by
 unfold wriP;rw [List.length_map];exact List.length_filter_le _ _
theorem qyp {ks:List Pg} {ps:Pk} {s:Int} {q:List Nat} {i:Nat} (h:qe5 ks (qas s+(i:Int))=false):qi6 ks (ps++[(s,q++[i])])=qi6 ks (ps++[(s,q)])++[qas s+(i:Int)]:=by
 unfold qi6;rw [qhz,List.filter_append];simp [h]
theorem qyo {ks:List Pg} {ps:Pk} {s:Int} {q:List Nat} {i:Nat} (h:qe5 ks (qas s+(i:Int))=true):qi6 ks (ps++[(s,q++[i])])=qi6 ks (ps++[(s,q)]):=by
 unfold qi6;rw [qhz,List.filter_append];simp [h]
theorem fre_snoc0 {ks:List Pg} {ps:Pk} {s:Int} {q:List Nat} {i:Nat} (h:qe5 ks (qas s+(i:Int))=false):qzg ks (ps++[(s,q++[i])])=qzg ks (ps++[(s,q)]):=by
 unfold qzg;rw [qhz,List.filter_append];simp [h]
theorem fre_snoc1 {ks:List Pg} {ps:Pk} {s:Int} {q:List Nat} {i:Nat} (h:qe5 ks (qas s+(i:Int))=true):qzg ks (ps++[(s,q++[i])])=qzg ks (ps++[(s,q)])++[qb6 ks (qas s+(i:Int))]:=by
 unfold qzg;rw [qhz,List.filter_append];simp [h]
theorem need_nil (ks:List Pg) (ps:Pk) (s:Int):qi6 ks (ps++[(s,[])])=qi6 ks ps:=by unfold qi6;rw [qrh]
theorem fre_nil (ks:List Pg) (ps:Pk) (s:Int):qzg ks (ps++[(s,[])])=qzg ks ps:=by unfold qzg;rw [qrh]
theorem chg_nil (ks:List Pg) (ps:Pk) (s:Int):qnl ks (ps++[(s,[])])=qnl ks ps:=by unfold qnl;simp
theorem qrt {ks:List Pg} {ps:Pk} {s:Int} (h:s ∉ ps.map Prod.fst):s ∉ (qnl ks ps).map Prod.fst:=fun hm=>by
 unfold qnl at hm
 rw [List.map_map] at hm
 obtain ⟨x,hx,rfl⟩:=List.mem_map.1 hm
 exact h (List.mem_map.2 ⟨x,(List.mem_filter.1 hx).1,rfl⟩)
theorem chg_put {ks:List Pg} {ps:Pk} {s:Int} {q:List Nat} {i:Nat} (h:s ∉ ps.map Prod.fst):qmp (qnl ks (ps++[(s,q)])) s (qrd ks (s,q++[i]))=qnl ks (ps++[(s,q++[i])]):=by
 have e:qnl ks (ps++[(s,q++[i])])=qnl ks ps++[(s,qrd ks (s,q++[i]))]:=by unfold qnl;simp
 rw [e]
 cases q with
 | nil=>rw [chg_nil,qrf (qrt h)]
 | cons a q =>
  have e2:qnl ks (ps++[(s,a :: q)])=qnl ks ps++[(s,qrd ks (s,a :: q))]:=by unfold qnl;simp
  rw [e2,qth (qrt h)]
theorem chg_get {ks:List Pg}:∀ {ps:Pk} {k:Nat} {s:Int} {q:List Nat},(ps.map Prod.fst).Nodup→ps[k]?=some (s,q)→qo1 (qnl ks ps) s=if q=[] then none else some (qrd ks (s,q))
 | [],k,s,q,_,h=>by simp at h
 | (s',q') :: ps,0,s,q,hn,h=>by
  simp at h
  obtain ⟨rfl,rfl⟩:=h
  have hk:=(List.nodup_cons.1 hn).1
  cases q' with
  | nil =>
   rw [if_pos rfl]
   exact qtj (by have:=qrt (ks:=ks) hk;unfold qnl at this ⊢;simpa using this)
  | cons a q =>
   rw [if_neg (by simp)]
   have e2:qnl ks ((s',a :: q) :: ps)=(s',qrd ks (s',a :: q)) :: qnl ks ps:=by unfold qnl;simp
   rw [e2]
   unfold qo1
   rw [if_pos rfl]
 | (s',q') :: ps,k+1,s,q,hn,h=>by
  have hk:=(List.nodup_cons.1 hn).1
  have h':ps[k]?=some (s,q):=by simpa using h
  have hne:s'≠s:=fun e=>hk (by
   rw [show (s',q').fst=s' from rfl,e]
   exact List.mem_map.2 ⟨_,List.mem_of_getElem? h',rfl⟩)
  have ih:=chg_get (ks:=ks) (List.nodup_cons.1 hn).2 h'
  cases q' with
  | nil =>
   have e2:qnl ks ((s',[]) :: ps)=qnl ks ps:=by unfold qnl;simp
   rw [e2];exact ih
  | cons a q'' =>
   have e2:qnl ks ((s',a :: q'') :: ps)=(s',qrd ks (s',a :: q'')) :: qnl ks ps:=by unfold qnl;simp
   rw [e2]
   conv=>lhs;unfold qo1
   rw [if_neg hne];exact ih
theorem wri_take {ks:List Pg} {ps:Pk} {k:Nat} {s:Int} {q:List Nat} (h:ps[k]?=some (s,q)):wriP ks (ps.take (k+1))=if q=[] then wriP ks (ps.take k) else wriP ks (ps.take k)++[(qfk (qeg ks s).1 (qrd ks (s,q))).1]:=by
 unfold wriP
 rw [List.take_add_one,h,List.filter_append,List.map_append]
 cases q <;> simp
theorem LatestP_ok (xs:List Pg) (l:Int):FnP Tryz.prog 60 [qal tPg xs,Is (.int .i64 l)] (qbv [qdw (qb6 xs l),Is (.bool (qe5 xs l))]):=qh7 xs l
theorem LockedB_ok (p:Pg):FnP Tryz.prog 62 [qdw p] (Is (.bool (qeo p))):=qly p
theorem missNil_ok (ks:List Pg) (ls:List Int) (hn:qdh ks ls=[]):FnP Tryz.prog 33 [qal tPg ks,qal tI64 ls] (Is (.slice none 0 0)):=by
 refine FnP.enter func33 ntmps33 rfl rfl ?_
 intro c hX
 refine qgn (t:=1) rfl (fun hlen=>?_)
 refine t19 ?_
 refine qbr (fun k:Nat=>k≤ls.length) (fun k=>[(0,qal tPg ks),(1,qal tI64 ls),(5,Is (.slice none 0 0)),(10,qal tI64 ls),(11,Is (.int .i64 (ls.length:Nat))),(12,Is (.int .i64 (k:Nat)))]) (fun _=>[]) (fun k=>ls.length-k) 0 (Nat.zero_le _) qbl qab ?_
 rintro k hk
 refine t6 ?_
 refine cN ?_ ?_ <;> intro h3
 ·have hlt:k<ls.length:=by have:=of_decide_eq_true h3;omega
  clear h3
  obtain ⟨l,hz⟩:∃ z,ls[k]?=some z:=⟨ls[k],List.getElem?_eq_getElem hlt⟩
  refine t15 ?_
  refine qap rfl (qac call60 (qh7 _ _) ⟨evS,⟨evS,trivial⟩⟩) ?_
  refine t4 ?_
  intro i8
  refine t10 ?_
  refine cN ?_ ?_ <;> intro h6
  ·exact absurd (show l∈qdh ks ls from List.mem_filter.2 ⟨List.mem_of_getElem? hz,by revert h6;cases qgh ks l <;> simp⟩) (by rw [hn];simp)
  refine t7 ?_
  exact qaa (k+1) (by omega) (by omega) qbl qab
 refine t8 ?_
 refine qap rfl (by ((refine qac call72 (qsd 0 (none,0) ?_) ⟨evS,trivial⟩);all_goals (decide))) ?_
 refine t5 ?_
 refine qap rfl (by ((refine qac call73 (qk1 0 (none,0) ?_) ⟨evS,trivial⟩);all_goals (decide))) ?_
 refine t4 ?_
 exact qed (Bs:=[Is (.slice none 0 0)]) results33 eT () SubL.rfl' qab
section
variable {P:Program} {c:Ctx} {A:Nat→Option VP} {L:List Item} {d:Option Tmp} {ty:TypeId} {pos:String} {af:Array Edge} {g:Option (Nat×Bool)} {α:Type} {V:α→VP} {l:List (Int×α)} {b:Nat} {t kt et:TypeId} {x y:Operand}
theorem op_lookup2D {k:Int} {zv:Value} (z:α) (hz0:∀ φ,(V z).ok φ zv) (hx:Ev A L x (Is (.map (some b)))) (hL:mp b V l∈L) (hy:Ev A L y (Is (.int .i64 k))) (hu:P.underlying t=some (.map kt et)) (hk:P.underlying kt=some (.int .i64)) (hz:(P.info? et).map (·.zero)=some (some zv)) :
  OpP P c ⟨d,.lookup t x y true,ty,pos,af,g⟩ A L (qbv [V ((qo1 l k).getD z),Is (.bool (qo1 l k).isSome)]):=by
 have h:=qyk (P:=P) (c:=c) (d:=d) (ty:=ty) (pos:=pos) (af:=af) (g:=g) hx hL hy hu hk hz
 intro φ a w K Q hm he hk'
 refine h φ a w K Q hm he fun φ' v w' hp hf=>hk' φ' v w' hp ?_
 obtain ⟨vs,e,k1⟩:=hf
 refine ⟨vs,e,?_⟩
 match vs,k1 with
 | [u1,u2],⟨a1,a2,_⟩ =>
  refine ⟨?_,a2,trivial⟩
  cases hq:qo1 l k with
  | none =>
   rw [hq] at a1
   have a1':u1=zv:=a1
   rw [a1']
   exact hz0 φ'
  | some v=>rw [hq] at a1;exact a1
end
theorem hd_zero (φ:Fz):(qut Hd.nil).ok φ (.agg #[.int .i64 0,.int .u32 0]):=⟨[_,_],rfl,⟨rfl,rfl,trivial⟩,qi5 rfl (qi5 rfl qf3)⟩
def srcR (ks:List Pg) (cnt:Nat) (S T:List Int):List Int:=match T.find? fun s=>decide (vacV (qp2 ks s)≥(cnt:Int)) with
 | some s=>[s]
 | none=>S
theorem src_sub {ks:List Pg} {cnt:Nat} {S:List Int} (hn:S.Nodup):(srcV ks cnt S).Nodup∧∀ s,s∈srcV ks cnt S→s∈S:=by
 unfold srcV
 split
 ·rename_i s h
  refine ⟨by simp,fun x hx=>?_⟩
  rw [List.mem_singleton.1 hx]
  exact List.mem_of_find?_eq_some h
 ·exact ⟨hn,fun _ h=>h⟩
theorem src_len {ks:List Pg} {cnt:Nat} {S:List Int} (h:S.length≤9):(srcV ks cnt S).length≤9:=by
 unfold srcV
 split
 ·simp
 ·exact h
theorem qjc {α:Type} {S:List α} {k:Nat} {s:α} (hz:S[k]?=some s):S.drop k=s :: S.drop (k+1):=by
 obtain ⟨hk,e⟩:=List.getElem?_eq_some_iff.1 hz
 rw [List.drop_eq_getElem_cons hk,e]
theorem inn_step {ks:List Pg} {s:Int} {cnt i ch:Nat} {u:BitVec 32} {q:List Nat} (hi:i<16) (hc:ch<cnt):inn ks s cnt (16-i) i ch u q=if qk2 u i=true then inn ks s cnt (16-(i+1)) (i+1) ch u q
   else if pkV ks (qas s+i) = -1 then inn ks s cnt (16-(i+1)) (i+1) ch u q
   else if pkV ks (qas s+i)=0 then inn ks s cnt (16-(i+1)) (i+1) (ch+1) (u|||BitVec.ofInt 32 1<<<i) (q++[i])
   else .error (pkV ks (qas s+i)):=by
 obtain ⟨m,e⟩:∃ m,16-i=m+1:=⟨15-i,by omega⟩
 rw [e,show 16-(i+1)=m by omega]
 conv=>lhs;unfold inn
 rw [if_pos hc]
theorem inn_stop {ks:List Pg} {s:Int} {cnt i ch:Nat} {u:BitVec 32} {q:List Nat} (h:¬ (i<16∧ch<cnt)):inn ks s cnt (16-i) i ch u q = .ok q:=by
 by_cases hi:i<16
 ·obtain ⟨m,e⟩:∃ m,16-i=m+1:=⟨15-i,by omega⟩
  rw [e]
  unfold inn
  rw [if_neg (by omega)]
 ·rw [show 16-i=0 by omega]
  rfl
end Go.Proofs.YtmgoplaamlignaaGreat
