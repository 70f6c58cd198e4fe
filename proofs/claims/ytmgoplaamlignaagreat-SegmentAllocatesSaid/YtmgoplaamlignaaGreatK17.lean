/- Texts laid together: walks of functions, what they compute, and plain laws of it. Own work. -/
import Derived.Test.YtmgoplaamlignaaGreatK16
import Derived.Test.YtmgoplaamlignaaGreatK12
import Derived.Test.YtmgoplaamlignaaGreatK1
namespace Go.Proofs.YtmgoplaamlignaaGreat
open Go.RowKit Tryz
set_option linter.unusedVariables false
set_option linter.unusedSimpArgs false
set_option maxRecDepth 100000
set_option maxHeartbeats 4000000
def qlc (w:BitVec 64):Re:=if w=0#64 then Re.nil else ⟨qc1 (w.setWidth 32),(w>>>32).setWidth 32⟩
def qhr (w:BitVec 64):Bool:=decide (w=0#64)||qdz (qc1 (w.setWidth 32))
theorem ql7 {w:BitVec 64} (h:w=0#64):qlc w=Re.nil∧qhr w=true:=by
 refine ⟨by unfold qlc;rw [if_pos h],by unfold qhr;rw [decide_eq_true h];rfl⟩
theorem qit {w:BitVec 64} (h:¬ w=0#64):qlc w=⟨qc1 (w.setWidth 32),(w>>>32).setWidth 32⟩∧qhr w=qdz (qc1 (w.setWidth 32)):=by
 refine ⟨by unfold qlc;rw [if_neg h],by unfold qhr;rw [decide_eq_false h];rfl⟩
theorem qm0 (w:BitVec 64):FnP Tryz.prog 56 [Is (.int .u64 (UV w))] (qbv [IsRe (qlc w),Is (.bool (qhr w))]):=by
 refine FnP.enter func56 ntmps56 rfl rfl ?_
 intro c hX
 refine t3 ?_
 intro i2
 refine t10 ?_
 refine cN ?_ ?_ <;> intro h1
 ·have h:w=0#64:=by rw [← uv0_iff];simpa using h1
  rw [(ql7 h).1,(ql7 h).2]
  refine t9 ?_
  exact qaq (Bs:=[IsRe Re.nil,Is (.bool true)]) results56 eT () SubL.rfl' (List.nil_sublist _)
 have h:¬ w=0#64:=by rw [← uv0_iff];simpa using h1
 rw [(qit h).1,(qit h).2]
 refine t6 ?_
 refine qap rfl (qac call89 (zcz _) ⟨evS,trivial⟩) ?_
 refine s1 ?_
 refine qap rfl (by exact qhi (k:=32) qgi (er rfl) (by omega) qca) ?_
 refine t3 ?_
 intro i4
 refine t4 ?_
 refine qa0 rfl (by kernel_rfl) ?_
 refine qdf (it:=blk i2 _ _) (by repeat (first|exact Drop1.here _ _|apply Drop1.next)) ?_
 refine qdj (its:=[_]) 6 (by kernel_rfl) ?_
 refine t3 ?_
 refine qbc (qac call68 (qos _) ⟨evS,trivial⟩) ?_
 refine qc6 (s:=19) rfl rfl rfl (by kernel_rfl) (fun c'=>by exact qa9 (er rfl) (er rfl) qbn qae rf rf rf) ?_
 refine s1 ?_
 refine ⟨rfl,?_⟩
 intro _
 refine qat ?_
 refine t2 ?_
 exact qaq (Bs:=[IsRe ⟨qc1 (w.setWidth 32),(w>>>32).setWidth 32⟩,Is (.bool (qdz (qc1 (w.setWidth 32))))]) results56 eT () SubL.rfl' (List.nil_sublist _)
def qq0 (p:Pg):Bool:=decide (UV p.d0>0)
def epV (p:Pg):BitVec 32:=if UV p.d0>0 then (p.d0-1#64).setWidth 32 else 0#32
def reK (k j:Nat) (r:Re):Re:=if j<k then r else Re.nil
def ndK (p:Pg) (k:Nat):Nd:=⟨qq0 p,epV p,p.d1.setWidth 32,UV p.d2,reK k 0 (qlc p.d3),reK k 1 (qlc p.d4),reK k 2 (qlc p.d5),reK k 3 (qlc p.d6)⟩
def okN (p:Pg) (k:Nat):Bool:=match k with
 | 0=>true
 | 1=>qhr p.d3
 | 2=>qhr p.d3&&qhr p.d4
 | 3=>qhr p.d3&&qhr p.d4&&qhr p.d5
 | _=>qhr p.d3&&qhr p.d4&&qhr p.d5&&qhr p.d6
def qsl (p:Pg):Bool:=decide (UV p.d0>4294967296)||decide (UV p.d1>511)||decide (UV p.d2>59)
def qcu (p:Pg):Nd×Int:=if qmo p.l=true then (if qsl p=true then (Nd.nil,14) else if okN p 4=true then (ndK p 4,0) else (Nd.nil,14)) else (Nd.nil,1)
theorem qol {p:Pg} (h:qsl p=false):UV p.d0≤4294967296∧UV p.d1≤511∧UV p.d2≤59:=by
 unfold qsl at h
 simp at h
 omega
theorem qqu {p:Pg} (h:qmo p.l=false):qcu p=(Nd.nil,1):=by unfold qcu;rw [if_neg (by rw [h];simp)]
theorem qnw {p:Pg} (h:qmo p.l=true) (h1:qsl p=true):qcu p=(Nd.nil,14):=by unfold qcu;rw [if_pos h,if_pos h1]
theorem qqt {p:Pg} (h:qmo p.l=true) (h1:qsl p=false) (h2:okN p 4=false):qcu p=(Nd.nil,14):=by unfold qcu;rw [if_pos h,if_neg (by rw [h1];simp),if_neg (by rw [h2];simp)]
theorem qnx {p:Pg} (h:qmo p.l=true) (h1:qsl p=false) (h2:okN p 4=true):qcu p=(ndK p 4,0):=by unfold qcu;rw [if_pos h,if_neg (by rw [h1];simp),if_pos h2]
theorem qw3 {p:Pg} (h:qhr p.d3=false):okN p 4=false:=by unfold okN;simp [h]
theorem qq9 {p:Pg} (h0:okN p 0=true) (h:qhr p.d3=true):okN p 1=true:=by unfold okN at h0 ⊢;simp_all
theorem qw2 {p:Pg} (h:qhr p.d4=false):okN p 4=false:=by unfold okN;simp [h]
theorem qq8 {p:Pg} (h0:okN p 1=true) (h:qhr p.d4=true):okN p 2=true:=by unfold okN at h0 ⊢;simp_all
theorem qw1 {p:Pg} (h:qhr p.d5=false):okN p 4=false:=by unfold okN;simp [h]
theorem qq7 {p:Pg} (h0:okN p 2=true) (h:qhr p.d5=true):okN p 3=true:=by unfold okN at h0 ⊢;simp_all
theorem qw0 {p:Pg} (h:qhr p.d6=false):okN p 4=false:=by unfold okN;simp [h]
theorem qq6 {p:Pg} (h0:okN p 3=true) (h:qhr p.d6=true):okN p 4=true:=by unfold okN at h0 ⊢;simp_all
set_option maxHeartbeats 8000000 in
theorem qv1 (p:Pg):FnP Tryz.prog 20 [qdw p] (qbv [qsh (qcu p).1,Is (.int .i64 (qcu p).2)]):=by
 have z2:=qbj p.d2
 refine FnP.enter func20 ntmps20 rfl rfl ?_
 intro c hX
 refine t3 ?_
 intro i1
 refine s1 ?_
 intro i2
 refine t8 ?_
 refine qap rfl (qac call55 (qlk _) ⟨evS,trivial⟩) ?_
 refine t3 ?_
 refine cN ?_ ?_ <;> intro h1
 ·have hl:qmo p.l=false:=by simpa using h1
  rw [qqu hl]
  refine t9 ?_
  exact qaq (Bs:=[qsh Nd.nil,Is (.int .i64 1)]) results20 eT () SubL.rfl' (List.nil_sublist _)
 have hl:qmo p.l=true:=by simpa using h1
 refine t23 ?_
 refine cN ?_ ?_ <;> intro h3
 ·have hb:qsl p=true:=by rw [← h3];unfold qsl;congr 2
  rw [qnw hl hb]
  refine t9 ?_
  exact qaq (Bs:=[qsh Nd.nil,Is (.int .i64 14)]) results20 eT () SubL.rfl' (List.nil_sublist _)
 have hb:qsl p=false:=by rw [← h3];unfold qsl;congr 2
 clear h3
 obtain ⟨b0,b1,b2⟩:=qol hb
 refine t14 ?_
 intro i4
 refine t12 ?_
 refine qin (fun _:Unit=>True) (fun _=>[(1,Is (.pointer (some ⟨i1,0,none⟩))),(2,Is (.pointer (some ⟨i2,0,none⟩))),(4,Is (.pointer (some ⟨i4,0,none⟩)))]) (fun _=>[blk i4 69 (tNd.cells (ndK p 0)),blk i2 69 (tNd.cells Nd.nil),blk i1 53 (tPg.cells p)]) ?_ ?_
 rotate_left
 focus
  refine cN ?_ ?_ <;> intro h6
  ·have h7:UV p.d0>0:=of_decide_eq_true h6
   have e1:qq0 p=true:=h6
   have e2:epV p=(p.d0-1#64).setWidth 32:=by unfold epV;rw [if_pos h7]
   clear h6
   refine qa0 rfl (by kernel_rfl) ?_
   refine qdf (it:=blk i4 _ _) (by repeat (exact Drop1.here _ _)) ?_
   refine qdj (its:=[_]) 9 (by kernel_rfl) ?_
   refine t6 ?_
   refine qc6 (s:=71) rfl rfl rfl (by kernel_rfl) (fun c'=>by exact qa9 (er rfl) (er rfl) qbn qae rf rf rf) ?_
   refine s1 ?_
   refine qc6 (s:=71) rfl rfl rfl (by kernel_rfl) (fun c'=>by exact qa9 (er rfl) (er rfl) qbn qae rf rf rf) ?_
   refine ⟨rfl,?_⟩
   intro _
   refine qat ?_
   refine qam (b:=i4) (As':=tNd.cells (ndK p 0)) qae (by show SubLs _ _ [Is (.bool (qq0 p)),Is (.int .u32 (UV (epV p))),_,_,_,_,_,_,_,_,_,_,_,_,_,_];rw [e1,e2];exact qev) ?_
   exact qak () trivial qbl qab
  have h7:¬ UV p.d0>0:=of_decide_eq_false h6
  have e1:qq0 p=false:=h6
  have e2:epV p=0#32:=by unfold epV;rw [if_neg h7]
  clear h6
  refine s1 ?_
  refine qam (b:=i4) (As':=tNd.cells (ndK p 0)) qae (by show SubLs _ _ [Is (.bool (qq0 p)),Is (.int .u32 (UV (epV p))),_,_,_,_,_,_,_,_,_,_,_,_,_,_];rw [e1,e2];exact qev) ?_
  exact qak () trivial qbl qab
 rintro _ _
 refine t7 ?_
 refine qbr (fun k:Nat=>k≤4∧okN p k=true) (fun k=>[(1,Is (.pointer (some ⟨i1,0,none⟩))),(2,Is (.pointer (some ⟨i2,0,none⟩))),(4,Is (.pointer (some ⟨i4,0,none⟩))),(50,Is (.int .i64 (k:Nat)))]) (fun k=>[blk i4 69 (tNd.cells (ndK p k)),blk i2 69 (tNd.cells Nd.nil),blk i1 53 (tPg.cells p)]) (fun k=>4-k) 0 ⟨Nat.zero_le _,rfl⟩ qbl qab ?_
 rintro k ⟨hk,hok⟩
 refine t6 ?_
 refine cN ?_ ?_ <;> intro h9
 ·have hk4:k=0∨k=1∨k=2∨k=3:=by have:=of_decide_eq_true h9;omega
  clear h9
  rcases hk4 with rfl|rfl|rfl|rfl
  all_goals
   refine t15 ?_
   refine qap rfl (by first|exact qan (k:=3) (sz:=1) (er rfl) (er rfl) rfl rfl (by decide) (by decide)|exact qan (k:=4) (sz:=1) (er rfl) (er rfl) rfl rfl (by decide) (by decide)|exact qan (k:=5) (sz:=1) (er rfl) (er rfl) rfl rfl (by decide) (by decide)|exact qan (k:=6) (sz:=1) (er rfl) (er rfl) rfl rfl (by decide) (by decide)) ?_
   refine s1 ?_
   refine qap rfl (qac call56 (qm0 _) ⟨evS,trivial⟩) ?_
   refine t4 ?_
   intro i6
   refine t11 ?_
   refine cN ?_ ?_ <;> intro h12
   ·have hbad:okN p 4=false:=by first|exact qw3 (by simpa using h12)|exact qw2 (by simpa using h12)|exact qw1 (by simpa using h12)|exact qw0 (by simpa using h12)
    rw [qqt hl hb hbad]
    refine t14 ?_
    exact qaq (Bs:=[qsh Nd.nil,Is (.int .i64 14)]) results20 eT () SubL.rfl' (List.nil_sublist _)
   refine t6 ?_
   refine qap rfl (by first|exact qan (k:=0) (sz:=3) (er rfl) (er rfl) rfl rfl (by decide) (by decide)|exact qan (k:=1) (sz:=3) (er rfl) (er rfl) rfl rfl (by decide) (by decide)|exact qan (k:=2) (sz:=3) (er rfl) (er rfl) rfl rfl (by decide) (by decide)|exact qan (k:=3) (sz:=3) (er rfl) (er rfl) rfl rfl (by decide) (by decide)) ?_
   refine t8 ?_
   first|exact qaa 1 ⟨by omega,qq9 (by assumption) (by simpa using h12)⟩ (by omega) qbl qab|exact qaa 2 ⟨by omega,qq8 (by assumption) (by simpa using h12)⟩ (by omega) qbl qab|exact qaa 3 ⟨by omega,qq7 (by assumption) (by simpa using h12)⟩ (by omega) qbl qab|exact qaa 4 ⟨by omega,qq6 (by assumption) (by simpa using h12)⟩ (by omega) qbl qab
 have hk4:k=4:=by have:=of_decide_eq_false h9;omega
 subst hk4
 rw [qnx hl hb hok]
 refine t13 ?_
 exact qaq (Bs:=[qsh (ndK p 4),Is (.int .i64 0)]) results20 eT () SubL.rfl' (List.nil_sublist _)
theorem d1_low {p:Pg} (h:UV p.d1≤511):UV (BitVec.ofInt 32 ((UV p.d1).tmod 512))=UV (p.d1.setWidth 32):=by
 have h0:=qbj p.d1
 rw [Int.tmod_eq_emod_of_nonneg h0,show UV p.d1 % 512=UV p.d1 by omega]
 unfold UV at *
 rw [BitVec.toNat_ofInt,BitVec.toNat_setWidth]
 omega
theorem ndK_nil0 {p:Pg} (h:qlc p.d3=Re.nil):ndK p 1=ndK p 0:=by unfold ndK reK;simp [h]
theorem ndK_re0 {p:Pg} (h:¬ p.d3=0#64):ndK p 1={ ndK p 0 with r0:=⟨qc1 (p.d3.setWidth 32),(p.d3>>>32).setWidth 32⟩ }:=by unfold ndK reK;simp [(qit h).1]
theorem ndK_nil1 {p:Pg} (h:qlc p.d4=Re.nil):ndK p 2=ndK p 1:=by unfold ndK reK;simp [h]
theorem ndK_re1 {p:Pg} (h:¬ p.d4=0#64):ndK p 2={ ndK p 1 with r1:=⟨qc1 (p.d4.setWidth 32),(p.d4>>>32).setWidth 32⟩ }:=by unfold ndK reK;simp [(qit h).1]
theorem ndK_nil2 {p:Pg} (h:qlc p.d5=Re.nil):ndK p 3=ndK p 2:=by unfold ndK reK;simp [h]
theorem ndK_re2 {p:Pg} (h:¬ p.d5=0#64):ndK p 3={ ndK p 2 with r2:=⟨qc1 (p.d5.setWidth 32),(p.d5>>>32).setWidth 32⟩ }:=by unfold ndK reK;simp [(qit h).1]
theorem ndK_nil3 {p:Pg} (h:qlc p.d6=Re.nil):ndK p 4=ndK p 3:=by unfold ndK reK;simp [h]
theorem ndK_re3 {p:Pg} (h:¬ p.d6=0#64):ndK p 4={ ndK p 3 with r3:=⟨qc1 (p.d6.setWidth 32),(p.d6>>>32).setWidth 32⟩ }:=by unfold ndK reK;simp [(qit h).1]
theorem zeroK {x:BitVec 64} (h:(UV x==0)=true):x=0#64:=by rw [← uv0_iff];simpa using h
theorem nzK {x:BitVec 64} (h:(UV x==0)=false):¬ x=0#64:=by rw [← uv0_iff];simpa using h
set_option maxHeartbeats 8000000 in
theorem qmw (p:Pg):FnP Tryz.prog 79 [qdw p] (qbv [qsh (qcu p).1,Is (.int .i64 (qcu p).2)]):=by
 have z2:=qbj p.d2
 have z1:=qbj p.d1
 refine FnP.enter func79 ntmps79 rfl rfl ?_
 intro c hX
 refine t3 ?_
 intro i1
 refine s1 ?_
 intro i2
 refine t8 ?_
 refine qap rfl (qac call81 (qw9 _) ⟨evS,trivial⟩) ?_
 refine t3 ?_
 refine cN ?_ ?_ <;> intro h1
 ·have hl:qmo p.l=false:=by simpa using h1
  rw [qqu hl]
  refine t9 ?_
  exact qaq (Bs:=[qsh Nd.nil,Is (.int .i64 1)]) results79 eT () SubL.rfl' (List.nil_sublist _)
 have hl:qmo p.l=true:=by simpa using h1
 have q1:0≤(UV p.d1).tmod 512∧(UV p.d1).tmod 512<512:=by rw [Int.tmod_eq_emod_of_nonneg z1];omega
 have q2:0≤(UV p.d2).tmod 1024∧(UV p.d2).tmod 1024<1024:=by rw [Int.tmod_eq_emod_of_nonneg z2];omega
 refine t8 ?_
 refine qap rfl (qfd (er rfl) rfl rfl (wU32 (by omega))) ?_
 refine t4 ?_
 refine qap rfl (qfd (er rfl) rfl rfl (qo3 (by omega))) ?_
 refine t2 ?_
 intro i4
 refine t24 ?_
 refine cN ?_ ?_ <;> intro h4
 ·have hb:qsl p=true:=h4
  rw [qnw hl hb]
  refine t9 ?_
  exact qaq (Bs:=[qsh Nd.nil,Is (.int .i64 14)]) results79 eT () SubL.rfl' (List.nil_sublist _)
 have hb:qsl p=false:=h4
 clear h4
 obtain ⟨b0,b1,b2⟩:=qol hb
 have e3:Value.int .u32 ((UV p.d1).tmod 512) = .int .u32 (UV (p.d1.setWidth 32)):=by rw [← d1_low b1,qj8 (by omega)]
 have e4:(UV p.d2).tmod 1024=UV p.d2:=by rw [Int.tmod_eq_emod_of_nonneg z2];omega
 rw [e3,e4]
 refine t11 ?_
 refine qin (fun _:Unit=>True) (fun _=>[(1,Is (.pointer (some ⟨i1,0,none⟩))),(2,Is (.pointer (some ⟨i2,0,none⟩))),(4,Is (.pointer (some ⟨i4,0,none⟩)))]) (fun _=>[blk i4 115 (tNd.cells (ndK p 0)),blk i2 115 (tNd.cells Nd.nil),blk i1 53 (tPg.cells p)]) ?_ ?_
 rotate_left
 focus
  refine cN ?_ ?_ <;> intro h6
  ·have h7:UV p.d0>0:=of_decide_eq_true h6
   have e1:qq0 p=true:=h6
   have e2:epV p=(p.d0-1#64).setWidth 32:=by unfold epV;rw [if_pos h7]
   clear h6
   refine t15 ?_
   refine qam (b:=i4) (As':=tNd.cells (ndK p 0)) qae (by show SubLs _ _ [Is (.bool (qq0 p)),Is (.int .u32 (UV (epV p))),_,_,_,_,_,_,_,_,_,_,_,_,_,_];rw [e1,e2];exact qev) ?_
   exact qak () trivial qbl qab
  have h7:¬ UV p.d0>0:=of_decide_eq_false h6
  have e1:qq0 p=false:=h6
  have e2:epV p=0#32:=by unfold epV;rw [if_neg h7]
  clear h6
  refine s1 ?_
  refine qam (b:=i4) (As':=tNd.cells (ndK p 0)) qae (by show SubLs _ _ [Is (.bool (qq0 p)),Is (.int .u32 (UV (epV p))),_,_,_,_,_,_,_,_,_,_,_,_,_,_];rw [e1,e2];exact qev) ?_
  exact qak () trivial qbl qab
 rintro _ _
 refine t7 ?_
 refine qbr (fun k:Nat=>k≤4∧okN p k=true) (fun k=>[(1,Is (.pointer (some ⟨i1,0,none⟩))),(2,Is (.pointer (some ⟨i2,0,none⟩))),(4,Is (.pointer (some ⟨i4,0,none⟩))),(5,Is (.int .i64 (k:Nat)))]) (fun k=>[blk i4 115 (tNd.cells (ndK p k)),blk i2 115 (tNd.cells Nd.nil),blk i1 53 (tPg.cells p)]) (fun k=>4-k) 0 ⟨Nat.zero_le _,rfl⟩ qbl qab ?_
 rintro k ⟨hk,hok⟩
 refine t7 ?_
 refine cN ?_ ?_ <;> intro h10
 ·have hk4:k=0∨k=1∨k=2∨k=3:=by have:=of_decide_eq_true h10;omega
  clear h10
  rcases hk4 with rfl|rfl|rfl|rfl
  all_goals
   refine t9 ?_
   refine qap rfl (by first|exact qan (k:=3) (sz:=1) (er rfl) (er rfl) rfl rfl (by decide) (by decide)|exact qan (k:=4) (sz:=1) (er rfl) (er rfl) rfl rfl (by decide) (by decide)|exact qan (k:=5) (sz:=1) (er rfl) (er rfl) rfl rfl (by decide) (by decide)|exact qan (k:=6) (sz:=1) (er rfl) (er rfl) rfl rfl (by decide) (by decide)) ?_
   refine t11 ?_
   refine cN ?_ ?_ <;> intro h13
   ·have hz:=zeroK h13
    refine t9 ?_
    first|(refine qam (b:=i4) (As':=tNd.cells (ndK p 1)) qae (by rw [ndK_nil0 (ql7 hz).1];exact SubLs.rfl') ?_;exact qaa 1 ⟨by omega,qq9 hok (ql7 hz).2⟩ (by omega) qbl qab)|(refine qam (b:=i4) (As':=tNd.cells (ndK p 2)) qae (by rw [ndK_nil1 (ql7 hz).1];exact SubLs.rfl') ?_;exact qaa 2 ⟨by omega,qq8 hok (ql7 hz).2⟩ (by omega) qbl qab)|(refine qam (b:=i4) (As':=tNd.cells (ndK p 3)) qae (by rw [ndK_nil2 (ql7 hz).1];exact SubLs.rfl') ?_;exact qaa 3 ⟨by omega,qq7 hok (ql7 hz).2⟩ (by omega) qbl qab)|(refine qam (b:=i4) (As':=tNd.cells (ndK p 4)) qae (by rw [ndK_nil3 (ql7 hz).1];exact SubLs.rfl') ?_;exact qaa 4 ⟨by omega,qq6 hok (ql7 hz).2⟩ (by omega) qbl qab)
   have hz:=nzK h13
   refine t6 ?_
   refine qap rfl (qac call103 (qfg _) ⟨evS,trivial⟩) ?_
   refine s1 ?_
   intro i7
   refine t7 ?_
   refine qap rfl (qac call70 (qb8 _) ⟨evS,trivial⟩) ?_
   refine t3 ?_
   refine cN ?_ ?_ <;> intro h15
   ·have hbad:okN p 4=false:=by first|exact qw3 (by rw [(qit hz).2];simpa using h15)|exact qw2 (by rw [(qit hz).2];simpa using h15)|exact qw1 (by rw [(qit hz).2];simpa using h15)|exact qw0 (by rw [(qit hz).2];simpa using h15)
    rw [qqt hl hb hbad]
    refine t14 ?_
    exact qaq (Bs:=[qsh Nd.nil,Is (.int .i64 14)]) results79 eT () SubL.rfl' (List.nil_sublist _)
   refine t6 ?_
   refine qap rfl (by exact qhi (k:=32) qgi (er rfl) (by omega) qca) ?_
   refine t3 ?_
   refine qap rfl (by first|exact qan (k:=0) (sz:=3) (er rfl) (er rfl) rfl rfl (by decide) (by decide)|exact qan (k:=1) (sz:=3) (er rfl) (er rfl) rfl rfl (by decide) (by decide)|exact qan (k:=2) (sz:=3) (er rfl) (er rfl) rfl rfl (by decide) (by decide)|exact qan (k:=3) (sz:=3) (er rfl) (er rfl) rfl rfl (by decide) (by decide)) ?_
   refine t9 ?_
   first|(refine qam (b:=i4) (As':=tNd.cells (ndK p 1)) qae (by rw [ndK_re0 hz];exact qev) ?_;exact qaa 1 ⟨by omega,qq9 hok (by rw [(qit hz).2];simpa using h15)⟩ (by omega) qbl qab)|(refine qam (b:=i4) (As':=tNd.cells (ndK p 2)) qae (by rw [ndK_re1 hz];exact qev) ?_;exact qaa 2 ⟨by omega,qq8 hok (by rw [(qit hz).2];simpa using h15)⟩ (by omega) qbl qab)|(refine qam (b:=i4) (As':=tNd.cells (ndK p 3)) qae (by rw [ndK_re2 hz];exact qev) ?_;exact qaa 3 ⟨by omega,qq7 hok (by rw [(qit hz).2];simpa using h15)⟩ (by omega) qbl qab)|(refine qam (b:=i4) (As':=tNd.cells (ndK p 4)) qae (by rw [ndK_re3 hz];exact qev) ?_;exact qaa 4 ⟨by omega,qq6 hok (by rw [(qit hz).2];simpa using h15)⟩ (by omega) qbl qab)
 have hk4:k=4:=by have:=of_decide_eq_false h10;omega
 subst hk4
 rw [qnx hl hb hok]
 refine t13 ?_
 exact qaq (Bs:=[qsh (ndK p 4),Is (.int .i64 0)]) results79 eT () SubL.rfl' (List.nil_sublist _)
def rwV (r:Re):BitVec 64:=if r=Re.nil then 0#64 else qm1 (qg2 r.to) (r.ep.setWidth 64)
def rwB (r:Re):Bool:=decide (r=Re.nil)||qdz r.to
def rwK (k j:Nat) (w:BitVec 64):BitVec 64:=if j<k then w else 0#64
def qsj (n:Nd):BitVec 64:=if n.pin=true then n.ep.setWidth 64+1#64 else 0#64
def pgK (p:Pg) (n:Nd) (k:Nat):Pg:=⟨p.l,p.h,qsj n,n.sg.setWidth 64,BitVec.ofInt 64 n.inc,rwK k 0 (rwV n.r0),rwK k 1 (rwV n.r1),rwK k 2 (rwV n.r2),rwK k 3 (rwV n.r3)⟩
def okR (n:Nd) (k:Nat):Bool:=match k with
 | 0=>true
 | 1=>rwB n.r0
 | 2=>rwB n.r0&&rwB n.r1
 | 3=>rwB n.r0&&rwB n.r1&&rwB n.r2
 | _=>rwB n.r0&&rwB n.r1&&rwB n.r2&&rwB n.r3
def qp8 (p:Pg) (n:Nd):Bool:=!qmo p.l||((!n.pin&&UV n.ep != 0)||(decide (UV n.sg>511)||(decide (n.inc<0)||decide (n.inc>59))))
def qdk (p:Pg) (n:Nd):Pg×Int:=if qp8 p n=true then (Pg.nil,1) else if okR n 4=true then (pgK p n 4,0) else (Pg.nil,1)
theorem qr0 {p:Pg} {n:Nd} (h:qp8 p n=false):0≤n.inc∧n.inc≤59∧UV n.sg≤511:=by
 unfold qp8 at h
 simp at h
 omega
theorem qqm {p:Pg} {n:Nd} (h:qp8 p n=true):qdk p n=(Pg.nil,1):=by unfold qdk;rw [if_pos h]
theorem qql {p:Pg} {n:Nd} (h:qp8 p n=false) (h2:okR n 4=false):qdk p n=(Pg.nil,1):=by unfold qdk;rw [if_neg (by rw [h];simp),if_neg (by rw [h2];simp)]
theorem qm8 {p:Pg} {n:Nd} (h:qp8 p n=false) (h2:okR n 4=true):qdk p n=(pgK p n 4,0):=by unfold qdk;rw [if_neg (by rw [h];simp),if_pos h2]
theorem qwz {n:Nd} (h:rwB n.r0=false):okR n 4=false:=by unfold okR;simp [h]
theorem qne {n:Nd} (h0:okR n 0=true) (h:rwB n.r0=true):okR n 1=true:=by unfold okR at h0 ⊢;simp_all
theorem qwo {p:Pg} {n:Nd} (h:n.r0=Re.nil):pgK p n 1=pgK p n 0:=by unfold pgK rwK rwV;simp [h]
theorem zar {p:Pg} {n:Nd} (h:¬ n.r0=Re.nil):pgK p n 1={ pgK p n 0 with d3:=qm1 (qg2 n.r0.to) (n.r0.ep.setWidth 64) }:=by unfold pgK rwK rwV;simp [h]
theorem qwy {n:Nd} (h:rwB n.r1=false):okR n 4=false:=by unfold okR;simp [h]
theorem qnd {n:Nd} (h0:okR n 1=true) (h:rwB n.r1=true):okR n 2=true:=by unfold okR at h0 ⊢;simp_all
theorem qwn {p:Pg} {n:Nd} (h:n.r1=Re.nil):pgK p n 2=pgK p n 1:=by unfold pgK rwK rwV;simp [h]
theorem zaq {p:Pg} {n:Nd} (h:¬ n.r1=Re.nil):pgK p n 2={ pgK p n 1 with d4:=qm1 (qg2 n.r1.to) (n.r1.ep.setWidth 64) }:=by unfold pgK rwK rwV;simp [h]
theorem qwx {n:Nd} (h:rwB n.r2=false):okR n 4=false:=by unfold okR;simp [h]
theorem qnc {n:Nd} (h0:okR n 2=true) (h:rwB n.r2=true):okR n 3=true:=by unfold okR at h0 ⊢;simp_all
theorem qwm {p:Pg} {n:Nd} (h:n.r2=Re.nil):pgK p n 3=pgK p n 2:=by unfold pgK rwK rwV;simp [h]
theorem zap {p:Pg} {n:Nd} (h:¬ n.r2=Re.nil):pgK p n 3={ pgK p n 2 with d5:=qm1 (qg2 n.r2.to) (n.r2.ep.setWidth 64) }:=by unfold pgK rwK rwV;simp [h]
theorem qww {n:Nd} (h:rwB n.r3=false):okR n 4=false:=by unfold okR;simp [h]
theorem qnb {n:Nd} (h0:okR n 3=true) (h:rwB n.r3=true):okR n 4=true:=by unfold okR at h0 ⊢;simp_all
theorem qwl {p:Pg} {n:Nd} (h:n.r3=Re.nil):pgK p n 4=pgK p n 3:=by unfold pgK rwK rwV;simp [h]
theorem zao {p:Pg} {n:Nd} (h:¬ n.r3=Re.nil):pgK p n 4={ pgK p n 3 with d6:=qm1 (qg2 n.r3.to) (n.r3.ep.setWidth 64) }:=by unfold pgK rwK rwV;simp [h]
theorem nilB {r:Re} (h:decide (r=Re.nil)=true):r=Re.nil:=of_decide_eq_true h
theorem nnilB {r:Re} (h:decide (r=Re.nil)=false):¬ r=Re.nil:=of_decide_eq_false h
theorem qhh {r:Re} (h:r=Re.nil):rwB r=true:=by unfold rwB;rw [decide_eq_true h];rfl
theorem qf7 {r:Re} (h:¬ r=Re.nil):rwB r=qdz r.to:=by unfold rwB;rw [decide_eq_false h];rfl
theorem qt7 (p:Pg) (n:Nd):((((!qmo p.l||(!n.pin&&UV n.ep != 0))||decide (UV n.sg≥512))||decide (n.inc<0))||decide (n.inc>59))=qp8 p n:=by
 have:decide (UV n.sg≥512)=decide (UV n.sg>511):=by rw [Bool.eq_iff_iff];simp;omega
 unfold qp8
 rw [this,Bool.or_assoc,Bool.or_assoc,Bool.or_assoc]
set_option maxHeartbeats 8000000 in
theorem qhf (p:Pg) (n:Nd):FnP Tryz.prog 40 [qdw p,qsh n] (qbv [qdw (qdk p n).1,Is (.int .i64 (qdk p n).2)]):=by
 refine FnP.enter func40 ntmps40 rfl rfl ?_
 intro c hX
 refine t3 ?_
 intro i2
 refine s1 ?_
 intro i3
 refine s1 ?_
 intro i4
 refine t8 ?_
 refine qap rfl (qac call55 (qlk _) ⟨evS,trivial⟩) ?_
 refine t28 ?_
 refine cN ?_ ?_ <;> intro h1
 ·have hb:qp8 p n=true:=by rw [← qt7];exact h1
  rw [qqm hb]
  refine t9 ?_
  exact qaq (Bs:=[qdw Pg.nil,Is (.int .i64 1)]) results40 eT () SubL.rfl' (List.nil_sublist _)
 have hb:qp8 p n=false:=by rw [← qt7];exact h1
 clear h1
 obtain ⟨b0,b1,b2⟩:=qr0 hb
 refine t10 ?_
 refine qge 43 (Is (.int .u64 (UV (BitVec.ofInt 64 n.inc)))) rfl (SubL.eq (congrArg Is (qcz (by omega)))) ?_
 refine qap rfl (qd6 (size:=1) (qs:=[(0,_),(1,_),(2,_)]) rfl rfl rfl rfl ⟨⟨rfl,_,(er rfl),qbn⟩,⟨⟨rfl,_,(er rfl),qbn⟩,⟨⟨rfl,_,(er rfl),qbn⟩,trivial⟩⟩⟩ rf qbo) ?_
 refine t11 ?_
 refine qin (fun _:Unit=>True) (fun _=>[(2,Is (.pointer (some ⟨i2,0,none⟩))),(3,Is (.pointer (some ⟨i3,0,none⟩))),(4,Is (.pointer (some ⟨i4,0,none⟩)))]) (fun _=>[blk i2 53 (tPg.cells (pgK p n 0)),blk i4 53 (tPg.cells Pg.nil),blk i3 69 (tNd.cells n)]) ?_ ?_
 rotate_left
 focus
  refine cN ?_ ?_ <;> intro h4
  ·have e1:qsj n=n.ep.setWidth 64+1#64:=by unfold qsj;rw [if_pos h4]
   refine t9 ?_
   refine qam (b:=i2) (As':=tPg.cells (pgK p n 0)) qae (by show SubLs _ _ [_,_,Is (.int .u64 (UV (qsj n))),_,_,_,_,_,_];rw [e1];exact qev) ?_
   exact qak () trivial qbl qab
  have e1:qsj n=0#64:=by unfold qsj;rw [if_neg (by rw [h4];simp)]
  refine s1 ?_
  refine qam (b:=i2) (As':=tPg.cells (pgK p n 0)) qae (by show SubLs _ _ [_,_,Is (.int .u64 (UV (qsj n))),_,_,_,_,_,_];rw [e1];exact qev) ?_
  exact qak () trivial qbl qab
 rintro _ _
 refine t9 ?_
 refine qbr (fun k:Nat=>k≤4∧okR n k=true) (fun k=>[(2,Is (.pointer (some ⟨i2,0,none⟩))),(4,Is (.pointer (some ⟨i4,0,none⟩))),(55,IsAgg ((tNd.cells n).drop 4)),(56,Is (.int .i64 (k:Nat)))]) (fun k=>[blk i2 53 (tPg.cells (pgK p n k)),blk i4 53 (tPg.cells Pg.nil)]) (fun k=>4-k) 0 ⟨Nat.zero_le _,rfl⟩ qbl qab ?_
 rintro k ⟨hk,hok⟩
 refine t6 ?_
 refine cN ?_ ?_ <;> intro h7
 ·have hk4:k=0∨k=1∨k=2∨k=3:=by have:=of_decide_eq_true h7;omega
  clear h7
  rcases hk4 with rfl|rfl|rfl|rfl
  all_goals
   refine t7 ?_
   refine qap rfl (by first|exact qlf (k:=0) (sz:=3) (er rfl) (er rfl) rfl rfl rfl rfl (by decide) (by decide) qbo|exact qlf (k:=1) (sz:=3) (er rfl) (er rfl) rfl rfl rfl rfl (by decide) (by decide) qbo|exact qlf (k:=2) (sz:=3) (er rfl) (er rfl) rfl rfl rfl rfl (by decide) (by decide) qbo|exact qlf (k:=3) (sz:=3) (er rfl) (er rfl) rfl rfl rfl rfl (by decide) (by decide) qbo) ?_
   refine s1 ?_
   intro i7
   refine t9 ?_
   refine qap rfl (by first|exact qes (vs:=Re.cells n.r0) (ws:=Re.cells Re.nil) (er rfl) evS (qj5 _ _ _ n.r0 Re.nil) (qni n.r0 Re.nil)|exact qes (vs:=Re.cells n.r1) (ws:=Re.cells Re.nil) (er rfl) evS (qj5 _ _ _ n.r1 Re.nil) (qni n.r1 Re.nil)|exact qes (vs:=Re.cells n.r2) (ws:=Re.cells Re.nil) (er rfl) evS (qj5 _ _ _ n.r2 Re.nil) (qni n.r2 Re.nil)|exact qes (vs:=Re.cells n.r3) (ws:=Re.cells Re.nil) (er rfl) evS (qj5 _ _ _ n.r3 Re.nil) (qni n.r3 Re.nil)) ?_
   refine t3 ?_
   refine cN ?_ ?_ <;> intro h10
   ·have hz:=nilB h10
    refine t8 ?_
    first|(refine qam (b:=i2) (As':=tPg.cells (pgK p n 1)) qae (by rw [qwo hz];exact SubLs.rfl') ?_;exact qaa 1 ⟨by omega,qne hok (qhh hz)⟩ (by omega) qbl qab)|(refine qam (b:=i2) (As':=tPg.cells (pgK p n 2)) qae (by rw [qwn hz];exact SubLs.rfl') ?_;exact qaa 2 ⟨by omega,qnd hok (qhh hz)⟩ (by omega) qbl qab)|(refine qam (b:=i2) (As':=tPg.cells (pgK p n 3)) qae (by rw [qwm hz];exact SubLs.rfl') ?_;exact qaa 3 ⟨by omega,qnc hok (qhh hz)⟩ (by omega) qbl qab)|(refine qam (b:=i2) (As':=tPg.cells (pgK p n 4)) qae (by rw [qwl hz];exact SubLs.rfl') ?_;exact qaa 4 ⟨by omega,qnb hok (qhh hz)⟩ (by omega) qbl qab)
   have hz:=nnilB h10
   refine t4 ?_
   refine qap rfl (qac call68 (qos _) ⟨evS,trivial⟩) ?_
   refine t3 ?_
   refine cN ?_ ?_ <;> intro h11
   ·refine qa0 rfl (by kernel_rfl) ?_
    refine qct [0,0,1,1,1,0,1,1,0,0,0,1,1,2] (by kernel_rfl) (by kernel_rfl) ?_
    refine qb7 (qay rfl) ?_
    refine qb7 (qft (er rfl) (er rfl) qfv) ?_
    refine qc4 (by exact qbf (k:=0) (er rfl) rfl rfl rfl rfl) ?_
    refine qc4 (by exact qbs (n:=2) (er rfl) qbp rf rf rf rf qbo) ?_
    refine qc4 (qac call74 (Pack_ok _) ⟨evS,trivial⟩) ?_
    refine qb7 (qfd (er rfl) rfl rfl qy3) ?_
    refine qc4 (by exact qbf (k:=2) (er rfl) rfl rfl rfl rfl) ?_
    refine qc4 (by exact qd9 (er rfl) qbp rf rf rf) ?_
    refine qb7 (qfd (er rfl) rfl rfl qy3) ?_
    refine qb7 (by exact qd5 (k:=32) qgi (er rfl) (by omega) qca) ?_
    refine qb7 (by exact qea qgi qgi (by simp) (za0 _ _)) ?_
    refine qc4 (by exact qbf (k:=2) (er rfl) rfl rfl rfl rfl) ?_
    refine qc4 (by first|exact qan (k:=3) (sz:=1) (er rfl) (er rfl) rfl rfl (by decide) (by decide)|exact qan (k:=4) (sz:=1) (er rfl) (er rfl) rfl rfl (by decide) (by decide)|exact qan (k:=5) (sz:=1) (er rfl) (er rfl) rfl rfl (by decide) (by decide)|exact qan (k:=6) (sz:=1) (er rfl) (er rfl) rfl rfl (by decide) (by decide)) ?_
    refine qiy (qav (er rfl) (er rfl) qbn qae qbo rf rf rf) ?_
    refine qeu ?_
    refine qat ?_
    refine t7 ?_
    first|(refine qam (b:=i2) (As':=tPg.cells (pgK p n 1)) qae (by rw [zar hz];exact qev) ?_;exact qaa 1 ⟨by omega,qne hok (by rw [qf7 hz];exact h11)⟩ (by omega) qbl qab)|(refine qam (b:=i2) (As':=tPg.cells (pgK p n 2)) qae (by rw [zaq hz];exact qev) ?_;exact qaa 2 ⟨by omega,qnd hok (by rw [qf7 hz];exact h11)⟩ (by omega) qbl qab)|(refine qam (b:=i2) (As':=tPg.cells (pgK p n 3)) qae (by rw [zap hz];exact qev) ?_;exact qaa 3 ⟨by omega,qnc hok (by rw [qf7 hz];exact h11)⟩ (by omega) qbl qab)|(refine qam (b:=i2) (As':=tPg.cells (pgK p n 4)) qae (by rw [zao hz];exact qev) ?_;exact qaa 4 ⟨by omega,qnb hok (by rw [qf7 hz];exact h11)⟩ (by omega) qbl qab)
   have hbad:okR n 4=false:=by first|exact qwz (by rw [qf7 hz];exact h11)|exact qwy (by rw [qf7 hz];exact h11)|exact qwx (by rw [qf7 hz];exact h11)|exact qww (by rw [qf7 hz];exact h11)
   rw [qql hb hbad]
   refine t14 ?_
   exact qaq (Bs:=[qdw Pg.nil,Is (.int .i64 1)]) results40 eT () SubL.rfl' (List.nil_sublist _)
 have hk4:k=4:=by have:=of_decide_eq_false h7;omega
 subst hk4
 rw [qm8 hb hok]
 refine t13 ?_
 exact qaq (Bs:=[qdw (pgK p n 4),Is (.int .i64 0)]) results40 eT () SubL.rfl' (List.nil_sublist _)
theorem qxv (p:Pg) (n:Nd):((((!qmo p.l||decide (UV n.sg>511))||decide (n.inc<0))||decide (n.inc>59))||(!n.pin&&UV n.ep != 0))=qp8 p n:=by
 unfold qp8
 cases qmo p.l <;> cases decide (UV n.sg>511) <;> cases decide (n.inc<0) <;> cases decide (n.inc>59) <;> simp
set_option maxHeartbeats 8000000 in
theorem qdp (p:Pg) (n:Nd):FnP Tryz.prog 51 [qdw p,qsh n] (qbv [qdw (qdk p n).1,Is (.int .i64 (qdk p n).2)]):=by
 refine FnP.enter func51 ntmps51 rfl rfl ?_
 intro c hX
 refine t3 ?_
 intro i2
 refine s1 ?_
 intro i3
 refine s1 ?_
 intro i4
 refine t8 ?_
 refine qap rfl (qac call81 (qw9 _) ⟨evS,trivial⟩) ?_
 refine t28 ?_
 refine cN ?_ ?_ <;> intro h1
 ·have hb:qp8 p n=true:=by rw [← qxv];exact h1
  rw [qqm hb]
  refine t9 ?_
  exact qaq (Bs:=[qdw Pg.nil,Is (.int .i64 1)]) results51 eT () SubL.rfl' (List.nil_sublist _)
 have hb:qp8 p n=false:=by rw [← qxv];exact h1
 clear h1
 obtain ⟨b0,b1,b2⟩:=qr0 hb
 refine t10 ?_
 intro i6
 refine t10 ?_
 refine qin (fun _:Unit=>True) (fun _=>[(3,Is (.pointer (some ⟨i3,0,none⟩))),(4,Is (.pointer (some ⟨i4,0,none⟩))),(6,Is (.pointer (some ⟨i6,0,none⟩)))]) (fun _=>[blk i6 53 [Is (.int .i64 p.l),Is (.int .u64 (UV p.h)),Is (.int .u64 (UV (qsj n))),Is (.int .u64 0),Is (.int .u64 0),Is (.int .u64 0),Is (.int .u64 0),Is (.int .u64 0),Is (.int .u64 0)],blk i4 53 (tPg.cells Pg.nil),blk i3 115 (tNd.cells n)]) ?_ ?_
 rotate_left
 focus
  refine cN ?_ ?_ <;> intro h4
  ·have e1:qsj n=n.ep.setWidth 64+1#64:=by unfold qsj;rw [if_pos h4]
   refine t9 ?_
   rw [e1]
   exact qak () trivial qbl qab
  have e1:qsj n=0#64:=by unfold qsj;rw [if_neg (by rw [h4];simp)]
  refine s1 ?_
  rw [e1]
  exact qak () trivial qbl qab
 rintro _ _
 refine t15 ?_
 refine qge 59 (Is (.int .u64 (UV (BitVec.ofInt 64 n.inc)))) rfl (SubL.eq (congrArg Is (qcz (by omega)))) ?_
 refine t7 ?_
 refine qbq (b:=i6) (As':=tPg.cells (pgK p n 0)) qae qev ?_
 refine t5 ?_
 refine qbr (fun k:Nat=>k≤4∧okR n k=true) (fun k=>[(3,Is (.pointer (some ⟨i3,0,none⟩))),(4,Is (.pointer (some ⟨i4,0,none⟩))),(6,Is (.pointer (some ⟨i6,0,none⟩))),(7,Is (.int .i64 (k:Nat)))]) (fun k=>[blk i6 53 (tPg.cells (pgK p n k)),blk i4 53 (tPg.cells Pg.nil),blk i3 115 (tNd.cells n)]) (fun k=>4-k) 0 ⟨Nat.zero_le _,rfl⟩ qbl qab ?_
 rintro k ⟨hk,hok⟩
 refine t7 ?_
 refine cN ?_ ?_ <;> intro h9
 ·have hk4:k=0∨k=1∨k=2∨k=3:=by have:=of_decide_eq_true h9;omega
  clear h9
  rcases hk4 with rfl|rfl|rfl|rfl
  all_goals
   refine t8 ?_
   refine qap rfl (by first|exact qan (k:=0) (sz:=3) (er rfl) (er rfl) rfl rfl (by decide) (by decide)|exact qan (k:=1) (sz:=3) (er rfl) (er rfl) rfl rfl (by decide) (by decide)|exact qan (k:=2) (sz:=3) (er rfl) (er rfl) rfl rfl (by decide) (by decide)|exact qan (k:=3) (sz:=3) (er rfl) (er rfl) rfl rfl (by decide) (by decide)) ?_
   refine t2 ?_
   intro i8
   refine t8 ?_
   refine qap rfl (by first|exact qes (vs:=Re.cells n.r0) (ws:=Re.cells Re.nil) (er rfl) evS (qfy _ _ _ n.r0 Re.nil) (qjb n.r0 Re.nil)|exact qes (vs:=Re.cells n.r1) (ws:=Re.cells Re.nil) (er rfl) evS (qfy _ _ _ n.r1 Re.nil) (qjb n.r1 Re.nil)|exact qes (vs:=Re.cells n.r2) (ws:=Re.cells Re.nil) (er rfl) evS (qfy _ _ _ n.r2 Re.nil) (qjb n.r2 Re.nil)|exact qes (vs:=Re.cells n.r3) (ws:=Re.cells Re.nil) (er rfl) evS (qfy _ _ _ n.r3 Re.nil) (qjb n.r3 Re.nil)) ?_
   refine t2 ?_
   refine cN ?_ ?_ <;> intro h12
   ·have hz:=nilB h12
    refine t9 ?_
    first|(refine qam (b:=i6) (As':=tPg.cells (pgK p n 1)) qae (by rw [qwo hz];exact SubLs.rfl') ?_;exact qaa 1 ⟨by omega,qne hok (qhh hz)⟩ (by omega) qbl qab)|(refine qam (b:=i6) (As':=tPg.cells (pgK p n 2)) qae (by rw [qwn hz];exact SubLs.rfl') ?_;exact qaa 2 ⟨by omega,qnd hok (qhh hz)⟩ (by omega) qbl qab)|(refine qam (b:=i6) (As':=tPg.cells (pgK p n 3)) qae (by rw [qwm hz];exact SubLs.rfl') ?_;exact qaa 3 ⟨by omega,qnc hok (qhh hz)⟩ (by omega) qbl qab)|(refine qam (b:=i6) (As':=tPg.cells (pgK p n 4)) qae (by rw [qwl hz];exact SubLs.rfl') ?_;exact qaa 4 ⟨by omega,qnb hok (qhh hz)⟩ (by omega) qbl qab)
   have hz:=nnilB h12
   refine t7 ?_
   refine qap rfl (qac call70 (qb8 _) ⟨evS,trivial⟩) ?_
   refine t3 ?_
   refine cN ?_ ?_ <;> intro h13
   ·have hbad:okR n 4=false:=by first|exact qwz (by rw [qf7 hz];simpa using h13)|exact qwy (by rw [qf7 hz];simpa using h13)|exact qwx (by rw [qf7 hz];simpa using h13)|exact qww (by rw [qf7 hz];simpa using h13)
    rw [qql hb hbad]
    refine t14 ?_
    exact qaq (Bs:=[qdw Pg.nil,Is (.int .i64 1)]) results51 eT () SubL.rfl' (List.nil_sublist _)
   refine t2 ?_
   refine qa0 rfl (by kernel_rfl) ?_
   refine qct [0,0,1,1,1,0,1,1,0,0,0,1,1,2] (by kernel_rfl) (by kernel_rfl) ?_
   refine qb7 (qay rfl) ?_
   refine qb7 (qft (er rfl) (er rfl) qfv) ?_
   refine qc4 (by exact qbf (k:=0) (er rfl) rfl rfl rfl rfl) ?_
   refine qc4 (by exact qbs (n:=2) (er rfl) qbp rf rf rf rf qbo) ?_
   refine qc4 (qac call82 (qfr _) ⟨evS,trivial⟩) ?_
   refine qb7 (qfd (er rfl) rfl rfl qy3) ?_
   refine qc4 (by exact qbf (k:=2) (er rfl) rfl rfl rfl rfl) ?_
   refine qc4 (by exact qd9 (er rfl) qbp rf rf rf) ?_
   refine qb7 (qfd (er rfl) rfl rfl qy3) ?_
   refine qb7 (by exact qd5 (k:=32) qgi (er rfl) (by omega) qca) ?_
   refine qb7 (by exact qfe qgi qgi (qop _ _ _)) ?_
   refine qc4 (by exact qbf (k:=2) (er rfl) rfl rfl rfl rfl) ?_
   refine qc4 (by first|exact qan (k:=3) (sz:=1) (er rfl) (er rfl) rfl rfl (by decide) (by decide)|exact qan (k:=4) (sz:=1) (er rfl) (er rfl) rfl rfl (by decide) (by decide)|exact qan (k:=5) (sz:=1) (er rfl) (er rfl) rfl rfl (by decide) (by decide)|exact qan (k:=6) (sz:=1) (er rfl) (er rfl) rfl rfl (by decide) (by decide)) ?_
   refine qiy (qav (er rfl) (er rfl) qbn qae qbo rf rf rf) ?_
   refine qeu ?_
   refine qat ?_
   refine t2 ?_
   rw [add_or]
   refine t5 ?_
   first|(refine qam (b:=i6) (As':=tPg.cells (pgK p n 1)) qae (by rw [zar hz];exact qev) ?_;exact qaa 1 ⟨by omega,qne hok (by rw [qf7 hz];simpa using h13)⟩ (by omega) qbl qab)|(refine qam (b:=i6) (As':=tPg.cells (pgK p n 2)) qae (by rw [zaq hz];exact qev) ?_;exact qaa 2 ⟨by omega,qnd hok (by rw [qf7 hz];simpa using h13)⟩ (by omega) qbl qab)|(refine qam (b:=i6) (As':=tPg.cells (pgK p n 3)) qae (by rw [zap hz];exact qev) ?_;exact qaa 3 ⟨by omega,qnc hok (by rw [qf7 hz];simpa using h13)⟩ (by omega) qbl qab)|(refine qam (b:=i6) (As':=tPg.cells (pgK p n 4)) qae (by rw [zao hz];exact qev) ?_;exact qaa 4 ⟨by omega,qnb hok (by rw [qf7 hz];simpa using h13)⟩ (by omega) qbl qab)
 have hk4:k=4:=by have:=of_decide_eq_false h9;omega
 subst hk4
 rw [qm8 hb hok]
 refine t13 ?_
 exact qaq (Bs:=[qdw (pgK p n 4),Is (.int .i64 0)]) results51 eT () SubL.rfl' (List.nil_sublist _)
end Go.Proofs.YtmgoplaamlignaaGreat
