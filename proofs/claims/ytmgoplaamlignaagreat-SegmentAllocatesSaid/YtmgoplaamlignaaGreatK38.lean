/- Texts laid together: walks of functions, what they compute, and plain laws of it. Own work. -/
import Derived.Test.YtmgoplaamlignaaGreatK37
import Derived.Test.YtmgoplaamlignaaGreatK23
import Derived.Test.YtmgoplaamlignaaGreatK21
import Derived.Test.YtmgoplaamlignaaGreatK1
namespace Go.Proofs.YtmgoplaamlignaaGreat
open Go.RowKit Tryz
set_option linter.unusedVariables false
set_option linter.unusedSimpArgs false
set_option maxRecDepth 100000
set_option maxHeartbeats 4000000
theorem qss (cu:Cu) (cl lines:Int) (ks:List Pg) (hks:ks.length≤5000) (hlv:0≤cu.level):FnF Tryz.prog 135 [IsCu cu,Is (.int .i64 cl),Is (.int .i64 lines),qal tPg ks] (fun B=>qek PSS fun r=>qjl B r):=by
 refine FnF.enter func135 ntmps135 rfl rfl ?_
 intro c hX
 refine t3 ?_
 intro i4
 refine s1 ?_
 intro i8
 refine t9 ?_
 refine qap rfl (by ((refine qac call164 (qh8 _ _ _ ?_) ⟨qar,⟨qar,⟨qar,trivial⟩⟩⟩);all_goals (omega))) ?_
 (refine qa5 20 rfl ?_;intro x20 hx20)
 refine s1 ?_
 intro i9
 refine t5 ?_
 obtain ⟨hd1,hd2,hd3⟩:=hx20
 refine t7 ?_
 refine cN ?_ ?_ <;> intro h2
 ·refine t10 ?_
  exact rXF (⟨_,_,(⟨_,(⟨_,_,_⟩:Cu),_,_⟩:SO26),_⟩:SS26) results135 (hp:=by exact wl0) (hD0:=hX.2)
 refine t13 ?_
 refine cN ?_ ?_ <;> intro h4
 ·refine t3 ?_
  refine kXF call139 (qgg c.w.heap.size (⟨_,_,_⟩:Cu)) ?_
  refine t5 ?_
  exact rXF (⟨_,_,(⟨_,(⟨_,_,_⟩:Cu),_,_⟩:SO26),_⟩:SS26) results135 (hp:=by exact wl0) (hD0:=hX.2)
 refine t10 ?_
 refine cN ?_ ?_ <;> intro h6
 ·refine t4 ?_
  refine kRF call134 (qbk c.w.heap.size _) ?_
  refine t5 ?_
  exact rXF (⟨_,_,(⟨_,(⟨_,_,_⟩:Cu),_,_⟩:SO26),_⟩:SS26) results135 (hp:=by exact wl0) (hD0:=hX.2)
 refine t17 ?_
 (refine qcq rfl rfl rfl (fun hg=>(by have hg0:=hg;(try simp at hg);exact qhc evG evG)) ?_)
 refine t3 ?_
 refine qb3 [(1,_),(2,_),(3,_),(4,_),(8,_),(9,_)] [blk i9 _ _,blk i8 _ _,blk i4 _ _] (fun z:Unit=>True) (fun z=>[]) (fun z=>[]) qah qab ?_ ?_
 rotate_left
 focus
  refine cN ?_ ?_ <;> intro h8
  ·refine t6 ?_
   refine qap rfl (by ((refine qaw call165 (qso (⟨_,_,_,(⟨_,_⟩:Pt),_,_,_⟩:Op24) _ _ _ ?_) ⟨qbb,⟨qbb,⟨qbb,⟨qbb,trivial⟩⟩⟩⟩);all_goals (omega))) ?_
   (refine qa5 60 rfl ?_;intro x60 hx60)
   refine s1 ?_
   intro i10
   refine t5 ?_
   obtain ⟨hp1,hp2⟩:=hx60
   have hp1l:=hp1.1
   refine t6 ?_
   refine cN ?_ ?_ <;> intro h10
   ·refine t11 ?_
    exact rXF (⟨_,_,(⟨_,(⟨_,_,_⟩:Cu),_,_⟩:SO26),_⟩:SS26) results135 (hp:=by exact wl0) (hD0:=hX.2)
   refine t11 ?_
   refine cN ?_ ?_ <;> intro h12
   ·refine t5 ?_
    refine kRF call134 (qbk c.w.heap.size _) ?_
    refine t6 ?_
    exact rXF (⟨_,_,(⟨_,(⟨_,_,_⟩:Cu),_,_⟩:SO26),_⟩:SS26) results135 (hp:=by exact wl0) (hD0:=hX.2)
   refine t9 ?_
   refine cN ?_ ?_ <;> intro h14
   ·refine t8 ?_
    refine qap rfl (by ((refine qac call140 (qlo c.w.heap.size _ _ (⟨_,_,_⟩:Cu) ?_ ?_) ⟨qbb,⟨qbb,⟨qbb,trivial⟩⟩⟩);all_goals (first|first|omega|(simp;done)|(simp;omega)|first|omega|(simp;done)|(simp;omega)|(refine Nat.le_trans (qai _ _) ?_;omega)|(refine Nat.le_trans (qai _ _) (Nat.le_trans (Nat.add_le_add_right (qai _ _) _) ?_);omega)))) ?_
    (refine qa5 84 rfl ?_;intro x84 hx84)
    refine t5 ?_
    exact rXF (⟨_,_,(⟨_,(⟨_,_,_⟩:Cu),_,_⟩:SO26),_⟩:SS26) results135 (hp:=by exact qie hx84 (hp1.mono (by decide))) (hD0:=hX.2)
   refine s1 ?_
   exact qak () (trivial) qah qab
  refine s1 ?_
  exact qak () (trivial) qah qab
 rintro ⟨⟩ _
 refine t12 ?_
 refine qb3 [(1,_),(3,_),(4,_),(8,_),(9,_)] [blk i9 _ _,blk i8 _ _,blk i4 _ _] (fun z:Unit=>True) (fun z=>[]) (fun z=>[]) qah qab ?_ ?_
 rotate_left
 focus
  refine cN ?_ ?_ <;> intro h16
  ·refine t10 ?_
   refine qap rfl (by ((refine qaw call165 (qso (⟨_,_,_,(⟨_,_⟩:Pt),_,_,_⟩:Op24) _ _ _ ?_) ⟨qbb,⟨qbb,⟨qbb,⟨qbb,trivial⟩⟩⟩⟩);all_goals (omega))) ?_
   (refine qa5 100 rfl ?_;intro x100 hx100)
   refine s1 ?_
   intro i11
   refine t5 ?_
   obtain ⟨hp3,hp4⟩:=hx100
   have hp3l:=hp3.1
   refine t6 ?_
   refine cN ?_ ?_ <;> intro h18
   ·refine t11 ?_
    exact rXF (⟨_,_,(⟨_,(⟨_,_,_⟩:Cu),_,_⟩:SO26),_⟩:SS26) results135 (hp:=by exact wl0) (hD0:=hX.2)
   refine t11 ?_
   refine cN ?_ ?_ <;> intro h20
   ·refine t5 ?_
    refine kRF call134 (qbk c.w.heap.size _) ?_
    refine t6 ?_
    exact rXF (⟨_,_,(⟨_,(⟨_,_,_⟩:Cu),_,_⟩:SO26),_⟩:SS26) results135 (hp:=by exact wl0) (hD0:=hX.2)
   refine t9 ?_
   refine cN ?_ ?_ <;> intro h22
   ·refine t8 ?_
    refine qap rfl (by ((refine qac call140 (qlo c.w.heap.size _ _ (⟨_,_,_⟩:Cu) ?_ ?_) ⟨qbb,⟨qbb,⟨qbb,trivial⟩⟩⟩);all_goals (first|first|omega|(simp;done)|(simp;omega)|first|omega|(simp;done)|(simp;omega)|(refine Nat.le_trans (qai _ _) ?_;omega)|(refine Nat.le_trans (qai _ _) (Nat.le_trans (Nat.add_le_add_right (qai _ _) _) ?_);omega)))) ?_
    (refine qa5 124 rfl ?_;intro x124 hx124)
    refine t5 ?_
    exact rXF (⟨_,_,(⟨_,(⟨_,_,_⟩:Cu),_,_⟩:SO26),_⟩:SS26) results135 (hp:=by exact qie hx124 (hp3.mono (by decide))) (hD0:=hX.2)
   refine s1 ?_
   exact qak () (trivial) qah qab
  refine s1 ?_
  exact qak () (trivial) qah qab
 rintro ⟨⟩ _
 refine t13 ?_
 refine qb3 [(4,_),(8,_),(9,_)] [blk i9 _ _,blk i8 _ _,blk i4 _ _] (fun z:Unit=>True) (fun z=>[]) (fun z=>[]) qah qab ?_ ?_
 rotate_left
 focus
  refine cN ?_ ?_ <;> intro h24
  ·refine t6 ?_
   refine qap rfl (qaw call166 (qgd (⟨_,_,_,(⟨_,_⟩:Pt),_,_,_⟩:Op24) _) ⟨qbb,⟨qbb,trivial⟩⟩) ?_
   (refine qa5 137 rfl ?_;intro x137 hx137)
   refine s1 ?_
   intro i12
   refine t5 ?_
   obtain ⟨hu1,hu2,hu3⟩:=hx137
   have hu1l:=hu1.1
   refine t6 ?_
   refine cN ?_ ?_ <;> intro h26
   ·refine t11 ?_
    exact rXF (⟨_,_,(⟨_,(⟨_,_,_⟩:Cu),_,_⟩:SO26),_⟩:SS26) results135 (hp:=by exact wl0) (hD0:=hX.2)
   refine t17 ?_
   refine cN ?_ ?_ <;> intro h28
   ·refine t5 ?_
    refine kRF call134 (qbk c.w.heap.size _) ?_
    refine t6 ?_
    exact rXF (⟨_,_,(⟨_,(⟨_,_,_⟩:Cu),_,_⟩:SO26),_⟩:SS26) results135 (hp:=by exact wl0) (hD0:=hX.2)
   refine t10 ?_
   refine cN ?_ ?_ <;> intro h30
   ·refine t8 ?_
    refine qap rfl (by ((refine qac call140 (qlo c.w.heap.size _ _ (⟨_,_,_⟩:Cu) ?_ ?_) ⟨qbb,⟨qbb,⟨qbb,trivial⟩⟩⟩);all_goals (first|first|omega|(simp;done)|(simp;omega)|first|omega|(simp;done)|(simp;omega)|(refine Nat.le_trans (qai _ _) ?_;omega)|(refine Nat.le_trans (qai _ _) (Nat.le_trans (Nat.add_le_add_right (qai _ _) _) ?_);omega)))) ?_
    (refine qa5 167 rfl ?_;intro x167 hx167)
    refine t6 ?_
    exact rXF (⟨_,_,(⟨_,(⟨_,_,_⟩:Cu),_,_⟩:SO26),_⟩:SS26) results135 (hp:=by exact qie hx167 (hu1.mono (by decide))) (hD0:=hX.2)
   refine t8 ?_
   refine qap rfl (qaw call166 (qy8 _ _) ⟨qbb,⟨qbb,trivial⟩⟩) ?_
   (refine qa5 172 rfl ?_;intro x172 hx172)
   refine s1 ?_
   intro i13
   refine t5 ?_
   obtain ⟨hv1,hv2,hv3⟩:=hx172
   have hv1l:=hv1.1
   refine t6 ?_
   refine cN ?_ ?_ <;> intro h33
   ·refine t11 ?_
    exact rXF (⟨_,_,(⟨_,(⟨_,_,_⟩:Cu),_,_⟩:SO26),_⟩:SS26) results135 (hp:=by exact wl0) (hD0:=hX.2)
   refine t11 ?_
   refine cN ?_ ?_ <;> intro h35
   ·refine t5 ?_
    refine kRF call134 (qbk c.w.heap.size _) ?_
    refine t6 ?_
    exact rXF (⟨_,_,(⟨_,(⟨_,_,_⟩:Cu),_,_⟩:SO26),_⟩:SS26) results135 (hp:=by exact wl0) (hD0:=hX.2)
   refine t9 ?_
   refine cN ?_ ?_ <;> intro h37
   ·refine t6 ?_
    refine qap rfl (OpP.to (qad (size:=2) (qs:=[(0,_)]) rfl rfl rfl ⟨⟨rfl,_,(er rfl),qaf⟩,trivial⟩ rf rf) (SubL.row1 (T:=tPt) (x:=(⟨_,_⟩:Pt)) rf rf rf qaj)) ?_
    refine t2 ?_
    refine qap rfl (by ((refine qaw call108 (qfh (⟨_,_,_,_,_,_⟩:Ep26) _ ?_ ?_) ⟨qbb,⟨qbb,trivial⟩⟩);all_goals (first|omega|(simp;done)|(simp;omega)))) ?_
    (refine qa5 197 rfl ?_;intro x197 hx197)
    refine s1 ?_
    intro i14
    refine t5 ?_
    obtain ⟨⟨he1,he2,he3⟩,he4⟩:=hx197
    have he1l:=he1.1
    refine t6 ?_
    refine cN ?_ ?_ <;> intro h39
    ·refine t11 ?_
     exact rXF (⟨_,_,(⟨_,(⟨_,_,_⟩:Cu),_,_⟩:SO26),_⟩:SS26) results135 (hp:=by exact wl0) (hD0:=hX.2)
    refine t11 ?_
    refine cN ?_ ?_ <;> intro h41
    ·refine t5 ?_
     refine kRF call134 (qbk c.w.heap.size _) ?_
     refine t6 ?_
     exact rXF (⟨_,_,(⟨_,(⟨_,_,_⟩:Cu),_,_⟩:SO26),_⟩:SS26) results135 (hp:=by exact wl0) (hD0:=hX.2)
    refine t3 ?_
    refine qa0 rfl (by kernel_rfl) ?_
    refine qag 14 (by kernel_rfl) ?_
    refine t4 ?_
    refine qbc (by ((refine qaw call52 (qcc _ _ ?_) ⟨qar,⟨qar,trivial⟩⟩);all_goals (first|first|omega|(simp;omega)|(simp;done)))) ?_
    refine t6 ?_
    refine qbc (qn3 (T:=tI64) [x172.2] (Ev.sub rfl (SubL.iteT h37 SubL.rfl')) qz3 rfl rfl (er rfl) (by exact qep rfl rfl rfl) (by simp;omega)) ?_
    refine s1 ?_
    refine qbc (by ((refine qac call140 (qlo c.w.heap.size _ _ (⟨_,_,_⟩:Cu) ?_ ?_) ⟨qbb,⟨qbb,⟨qbb,trivial⟩⟩⟩);all_goals (first|first|omega|(simp;done)|(simp;omega)|first|omega|(simp;done)|(simp;omega)|(refine Nat.le_trans (qai _ _) ?_;omega)|(refine Nat.le_trans (qai _ _) (Nat.le_trans (Nat.add_le_add_right (qai _ _) _) ?_);omega)))) ?_
    refine ⟨rfl,?_⟩
    (refine qmx 225 rfl ?_;intro x225 hx225)
    refine qef (by kernel_rfl) rfl (qav (er rfl) (er rfl) qaf qae qbo rf rf rf) ?_
    refine qat ?_
    refine t3 ?_
    exact rXF (⟨_,_,(⟨_,(⟨_,_,_⟩:Cu),_,_⟩:SO26),_⟩:SS26) results135 (hp:=by exact qie hx225 (qgf hv1 he1 (by decide))) (hD0:=hX.2)
   refine s1 ?_
   exact qak () (trivial) qah qab
  refine s1 ?_
  exact qak () (trivial) qah qab
 rintro ⟨⟩ _
 have hDs:=hX.2
 refine t9 ?_
 refine cN ?_ ?_ <;> intro h44
 ·refine t9 ?_
  refine kXF call139 (qgg c.w.heap.size (⟨_,_,_⟩:Cu)) ?_
  refine t5 ?_
  exact rXF (⟨_,_,(⟨_,(⟨_,_,_⟩:Cu),_,_⟩:SO26),_⟩:SS26) results135 (hp:=by exact wl0) (hD0:=hX.2)
 refine t10 ?_
 refine cN ?_ ?_ <;> intro h46
 ·refine t3 ?_
  refine kXF call139 (qgg c.w.heap.size (⟨_,_,_⟩:Cu)) ?_
  refine t5 ?_
  exact rXF (⟨_,_,(⟨_,(⟨_,_,_⟩:Cu),_,_⟩:SO26),_⟩:SS26) results135 (hp:=by exact wl0) (hD0:=hX.2)
 refine t8 ?_
 refine kXF call139 (qgg c.w.heap.size (⟨_,_,_⟩:Cu)) ?_
 refine t4 ?_
 exact rXF (⟨_,_,(⟨_,(⟨_,_,_⟩:Cu),_,_⟩:SO26),_⟩:SS26) results135 (hp:=by exact wl0) (hD0:=hX.2)
section
variable {P:Program} {ops:Array Oper} {c:Ctx} {N:Nat} {L:List Item}
variable {Q:Exit→Act→World→Prop} {nd:List Nat} {fr dn ks mi:List Nat} {EO:EnvO}
theorem zc8 {i:Nat} {o:Oper} {ι:Type} {p:ι→Prop} {F:ι→VP} (dn':List Nat) (hi:ops[i]?=some o) (hgd:o.guard=none) (hB:barB ops nd fr dn dn' mi i=true) (hs:OpP P c o (vals EO) L (qek p F))
  (h:∀ z,p z→JF P ops Q c N nd fr dn' ks (i :: mi) (qki EO o.dst (.v (F z))) L):JF P ops Q c N nd fr dn ks mi EO L:=by
 intro hg hN m A0 hv hmi hacc φ a w listed hfs st
 unfold barB at hB
 simp only [Bool.and_eq_true] at hB
 obtain ⟨⟨⟨⟨⟨⟨hB1,hB2⟩,hB3⟩,hB4⟩,hB5⟩,hB6⟩,hB7⟩:=hB
 have hilt:i<ops.size:=(Array.getElem?_eq_some_iff.1 hi).1
 have hnew:∀ x,x∈m→x.i≠i:=fun x hx e=>by
  have:=(hmi x.i).2 ⟨x,hx,rfl⟩
  rw [e] at this
  rw [this] at hB1;cases hB1
 have hnn:∀ x,x∈m→(qgr nd x.i).testBit i=false:=fun x hx=>by
  have:=List.all_eq_true.1 hB2 x.i (inB_iff.1 ((hmi x.i).2 ⟨x,hx,rfl⟩))
  simpa using this
 refine frun hg hN hv (fun φ a w listed hfs st=>.inr ⟨fun hr=>?_,fun j hj hjm=>?_⟩) _ φ a w listed rfl hfs st
 ·have hun:listed.getD i true=false:=by
   cases hv':listed.getD i true with
   | false=>rfl
   | true =>
    have h1:listed.getD i false=true:=by
     have:i<listed.size:=by rw [hfs.cl.size];exact hilt
     simp [this] at hv' ⊢;exact hv'
    obtain ⟨x,h2,h3⟩:=hfs.only i h1
    exact absurd h3 (hnew x h2)
  obtain ⟨i0,h1,h2,h3⟩:=qdi (listed:=listed) ops.size ⟨i,hilt,hun⟩
  have:=qfc hg hfs.cl.size h1 h2 h3
  rw [hr] at this;cases this
 ·have hun:listed.getD i false=false:=by
   cases hv':listed.getD i false with
   | false=>rfl
   | true =>
    obtain ⟨x,h2,h3⟩:=hfs.only i hv'
    exact absurd h3 (hnew x h2)
  have hji:j=i:=by
   obtain ⟨_,oj,hoj,_⟩:=mem_ready.1 hj
   have h1:=List.all_eq_true.1 hB3 j (List.mem_range.2 (Array.getElem?_eq_some_iff.1 hoj).1)
   simp only [Bool.or_eq_true] at h1
   rcases h1 with (h1|h1)|h1
   ·obtain ⟨x,h2,h3⟩:=(hmi j).1 h1
    exact absurd h3 (hjm x h2)
   ·exact Nat.eq_of_beq_eq_true h1
   ·have:=qc2 hg hfs.cl hj h1
    rw [hun] at this;cases this
  subst hji
  unfold wpOp
  simp only [hi]
  rw [if_pos (by simp [Region.wanted,hgd])]
  refine .inl (hs φ a w _ Q st.mem (evs (ops:=ops) st.mem.mem.facts fun t ht B hB=>?_) fun φ' v w' hp0 hF0=>?_)
  ·have h1:acc (lst listed) m A0 t=qcs EO t:=by
    rw [← hacc]
    refine qec rfl fun y hy hyt=>?_
    show listed.getD y.i false=true
    have hyo:=hv.at_ y hy
    have hne:=hnew y hy
    have h2:(y.i<j→(qgr nd j).testBit y.i=true)∧(j<y.i→(qgr nd y.i).testBit j=true):=by
     rcases hyt with hyt|hyt
     ·exact hg.ord y.i y.o t j o hyo hyt hi (List.mem_append_left _ ht) hne
     ·obtain ⟨p1,p2,hp12⟩:=List.append_of_mem hy
      have h3:=((hv.op p1 y p2 hp12).2 t hyt).2 j o hi (.inl (List.mem_append_left _ ht)) (Ne.symm hne)
      exact h3
    rcases Nat.lt_or_gt_of_ne hne with h3|h3
    ·exact qc2 hg hfs.cl hj (h2.1 h3)
    ·have:=h2.2 h3
     rw [hnn y hy] at this;cases this
   cases hA:qcs EO t with
   | none=>rw [hA] at hB;cases hB
   | some D =>
    rw [hA] at hB h1
    cases D with
    | v D => obtain rfl : D = B := by simpa [Out.toV] using hB
             exact st.env t D h1
    | own val I=>cases hB
  ·obtain ⟨z,hpz,hF⟩:=hF0
   have hp:HP ⟨w,φ,qb4 L,[]⟩ φ' L w':=by simpa using (HP.start st.mem.mem).new hp0
   have hcl:=hfs.cl.set hg hj
   have hjl:j<listed.size:=by rw [hfs.cl.size];exact hilt
   have hjT:(listed.setIfInBounds j true).getD j false=true:=by simp [hjl]
   have hget:∀ q,q≠j→(listed.setIfInBounds j true).getD q false=listed.getD q false:=fun q hq=>getD_set_ne false (Ne.symm hq)
   have hdst:∀ t,o.dst=some t→t<N:=by
    have:=qdg hN j o (by simpa using hi)
    exact qe1 this
   refine h z hpz hg hN (m++[⟨j,o,.v (F z),none⟩]) A0 (hv.snoc hi hnew (fun x hx _=>hnn x hx) (fun x hx m1 hd=>?_) (fun hd=>?_) qe0 (fun s hs=>hs) (fun s hs=>by cases hs)) (qvj (e:=⟨j,o,.v (F z),none⟩) hmi) ?_ φ' _ w' _ ⟨hcl,fun q hq=>?_,fun q hq=>?_⟩ ((st.bar hdst hp hF).congr fun t=>?_)
   ·have hdx:inB dn x.i=false:=by
     cases hv':inB dn x.i with
     | false=>rfl
     | true=>have:=List.all_eq_true.1 hB7 x.i (inB_iff.1 hv');rw [hd] at this;cases this
    refine ⟨hdx,fun h1=>?_⟩
    have h2:=List.all_eq_true.1 hB5 x.i (inB_iff.1 ((hmi x.i).2 ⟨x,hx,rfl⟩))
    rw [hd,Bool.false_or] at h2
    exact ⟨h1.2 h2 _,h1.2⟩
   ·have hd':inB dn' j=false:=hd
    rw [hB6] at hd';cases hd'
   ·rw [qdv,hacc,qi8]
    show Ent.app _ _=_
    unfold Ent.app qgb
    dsimp only
    rw [qjr]
    simp
   ·by_cases hqj:q=j
    ·subst hqj;exact hjT
    ·rw [hget q hqj]
     have h1:=List.all_eq_true.1 hB4 q (inB_iff.1 hq)
     simp only [Bool.or_eq_true] at h1
     rcases h1 with (h1|h1)|h1
     ·exact absurd (Nat.eq_of_beq_eq_true h1) hqj
     ·exact hfs.done q h1
     ·exact qc2 hg hfs.cl hj h1
   ·by_cases hqj:q=j
    ·subst hqj;exact ⟨_,List.mem_append_right _ (List.mem_singleton.2 rfl),rfl⟩
    ·rw [hget q hqj] at hq
     obtain ⟨x,h1,h2⟩:=hfs.only q hq
     exact ⟨x,List.mem_append_left _ h1,h2⟩
   ·rw [qdv]
    have h1:acc (lst (listed.setIfInBounds j true)) [⟨j,o,.v (F z),none⟩] (acc (lst (listed.setIfInBounds j true)) m A0)=(⟨j,o,.v (F z),none⟩:Ent).app (acc (lst (listed.setIfInBounds j true)) m A0):=by
     show (bif lst (listed.setIfInBounds j true) j then _ else _)=_
     rw [show lst (listed.setIfInBounds j true) j=true from hjT];rfl
    rw [h1]
    have h2:∀ t,acc (lst (listed.setIfInBounds j true)) m A0 t=acc (lst listed) m A0 t:=fun t=>qec rfl fun x hx _=>hget x.i (hnew x hx)
    unfold Ent.app
    dsimp only
    rw [qjr]
    by_cases hdt:o.dst=some t
    ·rw [hdt,qfw,qfw]
    ·rw [qei hdt,qei hdt,← h2 t]
     unfold qgb;simp
variable {i:Nat} {t:Tmp} {op:Op} {ty:TypeId} {pos:String} {af:Array Edge}
theorem qy9 {ι:Type} {p:ι→Prop} {F:ι→VP} (i:Nat) (dn':List Nat) (hi:ops[i]?=some ⟨some t,op,ty,pos,af,none⟩) (hB:barB ops nd fr dn dn' mi i=true) (hs:OpP P c ⟨some t,op,ty,pos,af,none⟩ (vals EO) L (qek p F))
  (h:∀ z,p z→JF P ops Q c N nd fr dn' ks (i :: mi) ((t,.v (F z)) :: EO) L):JF P ops Q c N nd fr dn ks mi EO L:=zc8 dn' hi rfl hB hs h
theorem JF_xe {ι:Type} {F:ι→VP} (i:Nat) (dn':List Nat) (hi:ops[i]?=some ⟨some t,op,ty,pos,af,none⟩) (hB:barB ops nd fr dn dn' mi i=true) (hs:OpP P c ⟨some t,op,ty,pos,af,none⟩ (vals EO) L (VEx F))
  (h:∀ z,JF P ops Q c N nd fr dn' ks (i :: mi) ((t,.v (F z)) :: EO) L):JF P ops Q c N nd fr dn ks mi EO L:=
 zc8 (p:=fun _=>True) dn' hi rfl hB (fun φ a w K Q hm he hk=>hs φ a w K Q hm he fun φ' v w' hp ⟨z,k⟩=>hk φ' v w' hp ⟨z,trivial,k⟩) fun z _=>h z
end
theorem qqo (cu:Cu) (cl:Int) (ks:List Pg) (hks:ks.length≤5000):FnF Tryz.prog 136 [IsCu cu,Is (.int .i64 cl),qal tPg ks] (fun B=>qek PSS fun r=>qjl B r):=by
 refine FnF.enter func136 ntmps136 rfl rfl ?_
 intro c hX
 refine t3 ?_
 intro i3
 refine s1 ?_
 intro i6
 refine t8 ?_
 refine qap rfl (qaw call166 (qgd (⟨_,_,_,(⟨_,_⟩:Pt),_,_,_⟩:Op24) _) ⟨qbb,⟨qbb,trivial⟩⟩) ?_
 (refine qa5 29 rfl ?_;intro x29 hx29)
 refine s1 ?_
 intro i7
 refine t11 ?_
 refine cN ?_ ?_ <;> intro h2
 ·refine t10 ?_
  exact rXF (⟨_,_,(⟨_,(⟨_,_,_⟩:Cu),_,_⟩:SO26),_⟩:SS26) results136 (hp:=by exact wl0)
 refine t11 ?_
 refine cN ?_ ?_ <;> intro h4
 ·refine t5 ?_
  refine kRF call134 (qbk c.w.heap.size _) ?_
  refine t5 ?_
  exact rXF (⟨_,_,(⟨_,(⟨_,_,_⟩:Cu),_,_⟩:SO26),_⟩:SS26) results136 (hp:=by exact wl0)
 refine t12 ?_
 refine cN ?_ ?_ <;> intro h6
 ·refine t3 ?_
  refine kXF call139 (qgg c.w.heap.size (⟨_,_,_⟩:Cu)) ?_
  refine t5 ?_
  exact rXF (⟨_,_,(⟨_,(⟨_,_,_⟩:Cu),_,_⟩:SO26),_⟩:SS26) results136 (hp:=by exact wl0)
 obtain ⟨z0,hz⟩:∃ q,x29.out.entries[0]?=some q:=⟨_,List.getElem?_eq_getElem (by
  rcases Nat.eq_zero_or_pos x29.out.entries.length with h|h
  ·rw [h] at h6;exact absurd h6 (by decide)
  ·exact h)⟩
 refine t3 ?_
 refine qa0 rfl (by kernel_rfl) ?_
 refine qag 15 (by kernel_rfl) ?_
 refine t3 ?_
 refine qbc (by exact qau (j:=0) (er rfl) (er rfl) rfl rfl rf hz) ?_
 refine t5 ?_
 refine qbc (by exact qau (j:=0) (er rfl) (er rfl) rfl rfl rf hz) ?_
 refine t2 ?_
 refine qka (qbi rfl qbo rfl) ?_
 refine s1 ?_
 refine qcp rfl rfl rfl (by kernel_rfl) (qbz qar qaf rfl rfl rfl qbo) ?_
 refine ⟨rfl,?_⟩
 intro i9
 refine qat ?_
 refine t7 ?_
 intro i10
 refine t10 ?_
 refine qb3 [(1,_),(2,_),(6,_),(8,_),(9,_),(10,_)] [blk i9 _ _,blk i6 _ _] (fun yc:Cu=>True) (fun yc=>[]) (fun yc=>[blk i10 60 (tCu.cells yc)]) qah qab ?_ ?_
 rotate_left
 focus
  refine cN ?_ ?_ <;> intro h10
  ·refine t4 ?_
   refine qam (b:=i10) (As':=tCu.cells (⟨_,_,_⟩:Cu)) qae qba ?_
   exact qak (⟨_,_,_⟩:Cu) (trivial) qah qab
  refine s1 ?_
  refine qam (b:=i10) (As':=tCu.cells (⟨_,_,_⟩:Cu)) qae qba ?_
  exact qak (⟨_,_,_⟩:Cu) (trivial) qah qab
 rintro nx _
 refine t4 ?_
 refine kRF call167 (qhp _ _ _ _) ?_
 refine t5 ?_
 intro i11
 refine t12 ?_
 refine cN ?_ ?_ <;> intro h13
 ·refine t3 ?_
  refine kRF call134 (qbk c.w.heap.size _) ?_
  refine t5 ?_
  exact rXF (⟨_,_,(⟨_,(⟨_,_,_⟩:Cu),_,_⟩:SO26),_⟩:SS26) results136 (hp:=by exact wl0)
 refine t9 ?_
 refine cN ?_ ?_ <;> intro h15
 ·refine t4 ?_
  refine qap rfl (OpP.to (qad (size:=1) (qs:=[(0,_)]) rfl rfl rfl ⟨⟨rfl,_,(er rfl),qaf⟩,trivial⟩ rf rf) (SubL.row1 (T:=tI64) (x:=_) rf rf rf qaj)) ?_
  refine t6 ?_
  exact rXF (⟨_,_,(⟨_,(⟨_,_,_⟩:Cu),_,_⟩:SO26),_⟩:SS26) results136 (hp:=by exact wl0)
 refine t5 ?_
 refine kRF call168 (qho _) ?_
 (refine qf1 88 rfl ?_;intro x88)
 refine t4 ?_
 intro i14
 refine t11 ?_
 refine cN ?_ ?_ <;> intro h18
 ·refine t2 ?_
  refine kRF call134 (qbk c.w.heap.size _) ?_
  refine t5 ?_
  exact rXF (⟨_,_,(⟨_,(⟨_,_,_⟩:Cu),_,_⟩:SO26),_⟩:SS26) results136 (hp:=by exact wl0)
 refine t5 ?_
 refine kRF call19 (qbu _ _) ?_
 refine t4 ?_
 intro i16
 refine t11 ?_
 refine cN ?_ ?_ <;> intro h21
 ·refine t2 ?_
  refine qap rfl (OpP.to (qad (size:=1) (qs:=[(0,_)]) rfl rfl rfl ⟨⟨rfl,_,(er rfl),qaf⟩,trivial⟩ rf rf) (SubL.row1 (T:=tI64) (x:=_) rf rf rf qaj)) ?_
  refine t6 ?_
  exact rXF (⟨_,_,(⟨_,(⟨_,_,_⟩:Cu),_,_⟩:SO26),_⟩:SS26) results136 (hp:=by exact wl0)
 refine t6 ?_
 refine kRF call49 (qb5 _) ?_
 refine t2 ?_
 refine cN ?_ ?_ <;> intro h23
 ·refine t2 ?_
  refine kRF call134 (qbk c.w.heap.size _) ?_
  refine t5 ?_
  exact rXF (⟨_,_,(⟨_,(⟨_,_,_⟩:Cu),_,_⟩:SO26),_⟩:SS26) results136 (hp:=by exact wl0)
 refine t5 ?_
 refine kRF call143 (qil _) ?_
 (refine qf1 108 rfl ?_;intro x108)
 refine t14 ?_
 refine cN ?_ ?_ <;> intro h26
 ·refine t2 ?_
  refine kRF call134 (qbk c.w.heap.size _) ?_
  refine t5 ?_
  exact rXF (⟨_,_,(⟨_,(⟨_,_,_⟩:Cu),_,_⟩:SO26),_⟩:SS26) results136 (hp:=by exact wl0)
 refine t12 ?_
 (refine qcq rfl rfl rfl (fun hg=>(by have hg0:=hg;(try simp at hg);exact qac call169 (qx0 _ _) ⟨qar,⟨qar,trivial⟩⟩)) ?_)
 refine t4 ?_
 refine cN ?_ ?_ <;> intro h28
 ·refine t3 ?_
  refine kXF call139 (qgg c.w.heap.size (⟨_,_,_⟩:Cu)) ?_
  refine t5 ?_
  exact rXF (⟨_,_,(⟨_,(⟨_,_,_⟩:Cu),_,_⟩:SO26),_⟩:SS26) results136 (hp:=by exact wl0)
 refine t7 ?_
 refine qap rfl (qaw call166 (qgd (⟨_,_,_,(⟨_,_⟩:Pt),_,_,_⟩:Op24) _) ⟨qbb,⟨qbb,trivial⟩⟩) ?_
 (refine qa5 129 rfl ?_;intro x129 hx129)
 refine s1 ?_
 intro i20
 refine t5 ?_
 obtain ⟨ht1,ht2,ht3⟩:=hx129
 have ht1l:=ht1.1
 refine t6 ?_
 refine cN ?_ ?_ <;> intro h31
 ·refine t10 ?_
  exact rXF (⟨_,_,(⟨_,(⟨_,_,_⟩:Cu),_,_⟩:SO26),_⟩:SS26) results136 (hp:=by exact wl0)
 refine t19 ?_
 (refine JL_i rfl rfl rfl (fun hp hg=>(by have hpg:=Bool.and_eq_true_iff.2 ⟨hp,hg⟩;have hg0:=hg;(try simp at hg);exact qhc evG evG)) ?_)
 refine t4 ?_
 refine cN ?_ ?_ <;> intro h33
 ·refine t2 ?_
  refine kRF call134 (qbk c.w.heap.size _) ?_
  refine t5 ?_
  exact rXF (⟨_,_,(⟨_,(⟨_,_,_⟩:Cu),_,_⟩:SO26),_⟩:SS26) results136 (hp:=by exact wl0)
 refine t11 ?_
 refine cN ?_ ?_ <;> intro h35
 ·refine t5 ?_
  refine kRF call134 (qbk c.w.heap.size _) ?_
  refine t5 ?_
  exact rXF (⟨_,_,(⟨_,(⟨_,_,_⟩:Cu),_,_⟩:SO26),_⟩:SS26) results136 (hp:=by exact wl0)
 refine t7 ?_
 refine qap rfl (by ((refine qaw call52 (qcc _ _ ?_) ⟨qar,⟨qar,trivial⟩⟩);all_goals (omega))) ?_
 refine t4 ?_
 have hv:=qai ks x129.writes
 refine qb0 21 (qal tPg (qcx ks x129.writes)) rfl SubL.fresh ?_
 generalize qcx ks x129.writes=vw at hv ⊢
 refine t4 ?_
 refine qap rfl (qaw call170 (qg7 _ _ (⟨_,_⟩:Pt) _ _) ⟨qbb,⟨qbb,⟨qbb,⟨qbb,⟨qbb,trivial⟩⟩⟩⟩⟩) ?_
 (refine qa5 169 rfl ?_;intro x169 hx169)
 refine s1 ?_
 intro i22
 refine t5 ?_
 obtain ⟨hy1,hy2,hy3⟩:=hx169
 have hy1l:=hy1.1
 refine t6 ?_
 refine cN ?_ ?_ <;> intro h39
 ·refine t10 ?_
  exact rXF (⟨_,_,(⟨_,(⟨_,_,_⟩:Cu),_,_⟩:SO26),_⟩:SS26) results136 (hp:=by exact wl0)
 refine t19 ?_
 (refine JL_i rfl rfl rfl (fun hp hg=>(by have hpg:=Bool.and_eq_true_iff.2 ⟨hp,hg⟩;have hg0:=hg;(try simp at hg);exact qhc evG evG)) ?_)
 refine t4 ?_
 refine cN ?_ ?_ <;> intro h41
 ·refine t2 ?_
  refine kRF call134 (qbk c.w.heap.size _) ?_
  refine t5 ?_
  exact rXF (⟨_,_,(⟨_,(⟨_,_,_⟩:Cu),_,_⟩:SO26),_⟩:SS26) results136 (hp:=by exact wl0)
 refine t11 ?_
 refine cN ?_ ?_ <;> intro h43
 ·refine t5 ?_
  refine kRF call134 (qbk c.w.heap.size _) ?_
  refine t5 ?_
  exact rXF (⟨_,_,(⟨_,(⟨_,_,_⟩:Cu),_,_⟩:SO26),_⟩:SS26) results136 (hp:=by exact wl0)
 refine t3 ?_
 refine qa0 rfl (by kernel_rfl) ?_
 refine qgl (its:=[]) ?_
 refine f1 0 ?_
 refine f1 1 ?_
 refine qkf 2 rfl (by kernel_rfl) (OpP.to (qad (size:=2) (qs:=[(0,_)]) rfl rfl rfl ⟨⟨rfl,_,(er rfl),qaf⟩,trivial⟩ rf rf) (SubL.row1 (T:=tPt) (x:=(⟨_,_⟩:Pt)) rf rf rf qaj)) ?_
 refine qkf 3 rfl (by kernel_rfl) (qlg (qs:=[(0,_),(1,_),(5,_)]) rfl rfl rfl rfl ⟨⟨rfl,_,(er rfl),qaf⟩,⟨⟨rfl,_,(er rfl),qaf⟩,⟨⟨rfl,_,(er rfl),qaf⟩,trivial⟩⟩⟩ rf qbo) ?_
 refine f1 4 ?_
 refine f1 5 ?_
 refine f1 6 ?_
 refine qkf 7 rfl (by kernel_rfl) (by ((refine qaw call52 (qcc _ _ ?_) ⟨qar,⟨qar,trivial⟩⟩);all_goals (omega))) ?_
 refine qm4 9 rfl (by kernel_rfl) (fun _=>(qbi rfl qbo rfl)) ?_
 (refine qy9 8 [0,1,2,3,4,5,6,7,8] rfl (by kernel_rfl) (by ((refine qaw call108 (qfh (⟨_,_,_,_,_,_⟩:Ep26) _ ?_ ?_) ⟨qbb,⟨qbb,trivial⟩⟩);all_goals (first|exact Nat.le_trans (qai _ _) (by omega)|simp;done))) ?_;intro x210 hx210)
 (refine qgk 23 9 (by kernel_rfl) rfl rfl ?_;intro i23)
 refine qfi 10 [0,1,2,3,4,5,6,7,8,9,10] rfl (by kernel_rfl) (fun c'=>by exact qa9 (er rfl) (er rfl) qaf qae rf rf rf) ?_
 refine qeq (by kernel_rfl) rfl ?_
 show JQ _ _ _ _ _ _
 refine t3 ?_
 obtain ⟨⟨he1,he2,he3⟩,he4⟩:=hx210
 have he1l:=he1.1
 refine t6 ?_
 refine cN ?_ ?_ <;> intro h46
 ·refine t10 ?_
  exact rXF (⟨_,_,(⟨_,(⟨_,_,_⟩:Cu),_,_⟩:SO26),_⟩:SS26) results136 (hp:=by exact wl0)
 refine t11 ?_
 refine cN ?_ ?_ <;> intro h48
 ·refine t5 ?_
  refine kRF call134 (qbk c.w.heap.size _) ?_
  refine t5 ?_
  exact rXF (⟨_,_,(⟨_,(⟨_,_,_⟩:Cu),_,_⟩:SO26),_⟩:SS26) results136 (hp:=by exact wl0)
 refine t3 ?_
 refine qa0 rfl (by kernel_rfl) ?_
 refine qag 9 (by kernel_rfl) ?_
 refine t4 ?_
 refine qbc (by ((refine qaw call52 (qcc _ _ ?_) ⟨qar,⟨qar,trivial⟩⟩);all_goals (omega))) ?_
 refine t2 ?_
 refine qbc (by ((refine qaw call52 (qcc _ _ ?_) ⟨qar,⟨qar,trivial⟩⟩);all_goals (exact Nat.le_trans (Nat.add_le_add_right (qai _ _) _) (by omega)))) ?_
 refine s1 ?_
 refine ⟨rfl,?_⟩
 refine qat ?_
 refine t6 ?_
 refine qap rfl (OpP.to (qad (size:=1) (qs:=[(0,_),(1,_)]) rfl rfl rfl ⟨⟨rfl,_,(er rfl),qaf⟩,⟨⟨rfl,_,(er rfl),qaf⟩,trivial⟩⟩ rf rf) (SubL.row2 (T:=tI64) (x:=_) (y:=_) rf rf rf rf qaj qaj)) ?_
 refine s1 ?_
 refine qap rfl (by ((refine qac call140 (qlo c.w.heap.size _ _ (⟨_,_,_⟩:Cu) ?_ ?_) ⟨qbb,⟨qbb,⟨qbb,trivial⟩⟩⟩);all_goals (first|(simp;done)|(refine Nat.le_trans (qai _ _) (Nat.le_trans (Nat.add_le_add_right (qai _ _) _) ?_);omega)))) ?_
 (refine qa5 238 rfl ?_;intro x238 hx238)
 refine t4 ?_
 exact rXF (⟨_,_,(⟨_,(⟨_,_,_⟩:Cu),_,_⟩:SO26),_⟩:SS26) results136 (hp:=by exact qie hx238 (qgf (qgf ht1 hy1 (Nat.le_refl _)) he1 (by decide)))
theorem ql4 (cu:Cu) (cl lines:Int) (ks:List Pg) (hks:ks.length≤5000):FnF Tryz.prog 137 [IsCu cu,Is (.int .i64 cl),Is (.int .i64 lines),qal tPg ks] (fun B=>qek PSS fun r=>qjl B r):=by
 refine FnF.enter func137 ntmps137 rfl rfl ?_
 intro c hX
 refine t3 ?_
 intro i4
 refine s1 ?_
 intro i8
 refine t5 ?_
 refine kRF call19 (qbu _ _) ?_
 refine t4 ?_
 intro i9
 refine t11 ?_
 refine cN ?_ ?_ <;> intro h2
 ·refine t2 ?_
  refine qap rfl (OpP.to (qad (size:=1) (qs:=[(0,_)]) rfl rfl rfl ⟨⟨rfl,_,(er rfl),qaf⟩,trivial⟩ rf rf) (SubL.row1 (T:=tI64) (x:=_) rf rf rf qaj)) ?_
  refine t6 ?_
  exact rXF (⟨_,_,(⟨_,(⟨_,_,_⟩:Cu),_,_⟩:SO26),_⟩:SS26) results137 (hp:=by exact wl0)
 refine t5 ?_
 refine kRF call171 (qjj _) ?_
 (refine qa5 30 rfl ?_;intro x30 hx30)
 refine t4 ?_
 intro i11
 refine t6 ?_
 obtain ⟨hd0,hd5⟩:=hx30
 refine t5 ?_
 refine cN ?_ ?_ <;> intro h5
 ·refine t2 ?_
  refine kRF call134 (qbk c.w.heap.size _) ?_
  refine t5 ?_
  exact rXF (⟨_,_,(⟨_,(⟨_,_,_⟩:Cu),_,_⟩:SO26),_⟩:SS26) results137 (hp:=by exact wl0)
 refine t8 ?_
 refine qap rfl (qdc (er rfl) (er rfl)) ?_
 refine t7 ?_
 (refine qcq rfl rfl rfl (fun hg=>(by have hg0:=hg;(try simp at hg);exact qd5 (k:=x30.1.depth.toNat) qiv evG (by omega) qca)) ?_)
 refine t4 ?_
 refine cN ?_ ?_ <;> intro h7
 ·refine t3 ?_
  refine kXF call139 (qgg c.w.heap.size (⟨_,_,_⟩:Cu)) ?_
  refine t5 ?_
  exact rXF (⟨_,_,(⟨_,(⟨_,_,_⟩:Cu),_,_⟩:SO26),_⟩:SS26) results137 (hp:=by exact wl0)
 refine t7 ?_
 refine kRF call172 (qkz _ _) ?_
 (refine qa5 55 rfl ?_;intro x55 hx55)
 refine s1 ?_
 intro i13
 refine t5 ?_
 obtain ⟨hl1,hl2,hl3⟩:=hx55
 refine t7 ?_
 refine cN ?_ ?_ <;> intro h10
 ·refine t10 ?_
  exact rXF (⟨_,_,(⟨_,(⟨_,_,_⟩:Cu),_,_⟩:SO26),_⟩:SS26) results137 (hp:=by exact wl0)
 refine t11 ?_
 refine cN ?_ ?_ <;> intro h12
 ·refine t5 ?_
  refine kRF call134 (qbk c.w.heap.size _) ?_
  refine t5 ?_
  exact rXF (⟨_,_,(⟨_,(⟨_,_,_⟩:Cu),_,_⟩:SO26),_⟩:SS26) results137 (hp:=by exact wl0)
 refine t10 ?_
 refine cN ?_ ?_ <;> intro h14
 ·refine t4 ?_
  refine qap rfl (qaw call170 (qg7 _ _ (⟨_,_⟩:Pt) _ _) ⟨qbb,⟨qbb,⟨qbb,⟨qbb,⟨qbb,trivial⟩⟩⟩⟩⟩) ?_
  (refine qa5 76 rfl ?_;intro x76 hx76)
  refine s1 ?_
  intro i14
  refine t4 ?_
  have hx14:PS23 x76:=hx76
  refine t17 ?_
  refine qb3 [(3,_),(4,_),(8,_),(14,_)] [blk i8 _ _,blk i4 _ _] (fun yc:S23×(List Pg)=>PS23 yc.1∧WL 12 yc.2) (fun yc=>[(15,qal tPg yc.2)]) (fun yc=>[blk i14 290 ((qo4 c.w.heap.size).cells yc.1)]) qah qab ?_ ?_
  rotate_left
  focus
   refine cN ?_ ?_ <;> intro h17
   ·refine t8 ?_
    refine qap rfl (by ((refine qac call25 (qjp _ _ _ _ ?_) ⟨qar,⟨qar,⟨qar,⟨qar,trivial⟩⟩⟩⟩);all_goals (first|omega|(simp;done)|(simp;omega)|(refine Nat.le_trans (qai _ _) ?_;omega)|(refine Nat.le_trans (qai _ _) (Nat.le_trans (Nat.add_le_add_right (qai _ _) _) ?_);omega)))) ?_
    (refine qa5 91 rfl ?_;intro x91 hx91)
    refine s1 ?_
    intro i16
    refine t5 ?_
    obtain ⟨ha1,ha2,ha3,ha4⟩:=hx91
    have ha1l:=ha1.1
    refine t6 ?_
    refine cN ?_ ?_ <;> intro h19
    ·refine t12 ?_
     exact rXF (⟨_,_,(⟨_,(⟨_,_,_⟩:Cu),_,_⟩:SO26),_⟩:SS26) results137 (hp:=by exact wl0)
    refine t10 ?_
    refine cN ?_ ?_ <;> intro h21
    ·refine t4 ?_
     refine kRF call134 (qbk c.w.heap.size _) ?_
     refine t7 ?_
     exact rXF (⟨_,_,(⟨_,(⟨_,_,_⟩:Cu),_,_⟩:SO26),_⟩:SS26) results137 (hp:=by exact wl0)
    refine t9 ?_
    refine qa0 rfl (by kernel_rfl) ?_
    refine qag 8 (by kernel_rfl) ?_
    refine t6 ?_
    refine qbc (by ((refine qaw call52 (qcc _ _ ?_) ⟨qar,⟨qar,trivial⟩⟩);all_goals (first|omega|(simp;done)|(simp;omega)|(refine Nat.le_trans (qai _ _) ?_;omega)|(refine Nat.le_trans (qai _ _) (Nat.le_trans (Nat.add_le_add_right (qai _ _) _) ?_);omega)))) ?_
    refine qbc (qaw call170 (qg7 _ _ (⟨_,_⟩:Pt) _ _) ⟨qbb,⟨qbb,⟨qbb,⟨qbb,⟨qbb,trivial⟩⟩⟩⟩⟩) ?_
    refine ⟨rfl,?_⟩
    (refine qmx 113 rfl ?_;intro x113 hx113)
    refine qef (by kernel_rfl) rfl (qav (er rfl) (er rfl) qaf qae qbo rf rf rf) ?_
    refine qat ?_
    refine qam (b:=i14) (As':=(qo4 c.w.heap.size).cells (⟨_,_,(⟨_,_,_,_,_,_,(⟨_,_⟩:Pt),_,_,_⟩:O23),_⟩:S23)) qae qba ?_
    refine qak ((⟨_,_,(⟨_,_,_,_,_,_,(⟨_,_⟩:Pt),_,_,_⟩:O23),_⟩:S23),_) ?_ qah qab
    ·exact (by exact ⟨hx113,ha1⟩)
   refine s1 ?_
   refine qam (b:=i14) (As':=(qo4 c.w.heap.size).cells (⟨_,_,(⟨_,_,_,_,_,_,(⟨_,_⟩:Pt),_,_,_⟩:O23),_⟩:S23)) qae qba ?_
   refine qak ((⟨_,_,(⟨_,_,_,_,_,_,(⟨_,_⟩:Pt),_,_,_⟩:O23),_⟩:S23),_) ?_ qah qab
   ·exact (by exact ⟨hx14,wl0⟩)
  rintro ⟨s,ws⟩ hI
  dsimp only at hI ⊢
  obtain ⟨⟨hs1,hs2,hs3⟩,hw⟩:=hI
  have hs1l:=hs1.1
  have hwl:=hw.1
  refine t8 ?_
  refine cN ?_ ?_ <;> intro h25
  ·refine t11 ?_
   exact rXF (⟨_,_,(⟨_,(⟨_,_,_⟩:Cu),_,_⟩:SO26),_⟩:SS26) results137 (hp:=by exact wl0)
  refine t11 ?_
  refine cN ?_ ?_ <;> intro h27
  ·refine t5 ?_
   refine kRF call134 (qbk c.w.heap.size _) ?_
   refine t6 ?_
   exact rXF (⟨_,_,(⟨_,(⟨_,_,_⟩:Cu),_,_⟩:SO26),_⟩:SS26) results137 (hp:=by exact wl0)
  refine t3 ?_
  refine qa0 rfl (by kernel_rfl) ?_
  refine qag 9 (by kernel_rfl) ?_
  refine t3 ?_
  refine qbc (by ((refine qaw call52 (qcc _ _ ?_) ⟨qar,⟨qar,trivial⟩⟩);all_goals (first|omega|(simp;done)|(simp;omega)|(refine Nat.le_trans (qai _ _) ?_;omega)|(refine Nat.le_trans (qai _ _) (Nat.le_trans (Nat.add_le_add_right (qai _ _) _) ?_);omega)))) ?_
  refine t4 ?_
  refine qbc (by ((refine qac call140 (qlo c.w.heap.size _ _ (⟨_,_,_⟩:Cu) ?_ ?_) ⟨qbb,⟨qbb,⟨qbb,trivial⟩⟩⟩);all_goals (first|omega|(simp;done)|(simp;omega)|(refine Nat.le_trans (qai _ _) ?_;omega)|(refine Nat.le_trans (qai _ _) (Nat.le_trans (Nat.add_le_add_right (qai _ _) _) ?_);omega)))) ?_
  refine ⟨rfl,?_⟩
  (refine qmx 136 rfl ?_;intro x136 hx136)
  refine qef (by kernel_rfl) rfl (qav (er rfl) (er rfl) qaf qae qbo rf rf rf) ?_
  refine qat ?_
  refine t3 ?_
  exact rXF (⟨_,_,(⟨_,(⟨_,_,_⟩:Cu),_,_⟩:SO26),_⟩:SS26) results137 (hp:=by exact qie hx136 (qgf hw hs1 (by decide)))
 refine t9 ?_
 intro i17
 refine t9 ?_
 refine qap rfl (qaw call170 (qg7 _ _ (⟨_,_⟩:Pt) _ _) ⟨qbb,⟨qbb,⟨qbb,⟨qbb,⟨qbb,trivial⟩⟩⟩⟩⟩) ?_
 (refine qa5 145 rfl ?_;intro x145 hx145)
 refine s1 ?_
 intro i18
 refine t5 ?_
 obtain ⟨hg1,hg2,hg3⟩:=hx145
 have hg1l:=hg1.1
 refine t6 ?_
 refine cN ?_ ?_ <;> intro h32
 ·refine t10 ?_
  exact rXF (⟨_,_,(⟨_,(⟨_,_,_⟩:Cu),_,_⟩:SO26),_⟩:SS26) results137 (hp:=by exact wl0)
 refine t11 ?_
 refine cN ?_ ?_ <;> intro h34
 ·refine t5 ?_
  refine kRF call134 (qbk c.w.heap.size _) ?_
  refine t5 ?_
  exact rXF (⟨_,_,(⟨_,(⟨_,_,_⟩:Cu),_,_⟩:SO26),_⟩:SS26) results137 (hp:=by exact wl0)
 refine t10 ?_
 refine cN ?_ ?_ <;> intro h36
 ·refine t8 ?_
  refine qap rfl (by ((refine qac call140 (qlo c.w.heap.size _ _ (⟨_,_,_⟩:Cu) ?_ ?_) ⟨qbb,⟨qbb,⟨qbb,trivial⟩⟩⟩);all_goals (first|first|omega|(simp;done)|(simp;omega)|first|omega|(simp;done)|(simp;omega)|(refine Nat.le_trans (qai _ _) ?_;omega)|(refine Nat.le_trans (qai _ _) (Nat.le_trans (Nat.add_le_add_right (qai _ _) _) ?_);omega)))) ?_
  (refine qa5 169 rfl ?_;intro x169 hx169)
  refine t5 ?_
  exact rXF (⟨_,_,(⟨_,(⟨_,_,_⟩:Cu),_,_⟩:SO26),_⟩:SS26) results137 (hp:=by exact qie hx169 (hg1.mono (by decide)))
 refine t5 ?_
 refine kXF call139 (qgg c.w.heap.size (⟨_,_,_⟩:Cu)) ?_
 refine t4 ?_
 exact rXF (⟨_,_,(⟨_,(⟨_,_,_⟩:Cu),_,_⟩:SO26),_⟩:SS26) results137 (hp:=by exact wl0)
theorem qns (cu:Cu) (cl lines:Int) (ks:List Pg) (hks:ks.length≤5000):FnF Tryz.prog 138 [IsCu cu,Is (.int .i64 cl),Is (.int .i64 lines),qal tPg ks] (fun B=>qek PSS fun r=>qjl B r):=by
 refine FnF.enter func138 ntmps138 rfl rfl ?_
 intro c hX
 refine t3 ?_
 intro i4
 refine s1 ?_
 intro i8
 refine t11 ?_
 refine qap rfl (by ((refine qaw call108 (qfh (⟨_,_,_,_,_,_⟩:Ep26) _ ?_ ?_) ⟨qbb,⟨qbb,trivial⟩⟩);all_goals (first|omega|(simp;done)|(simp;omega)))) ?_
 (refine qa5 17 rfl ?_;intro x17 hx17)
 refine s1 ?_
 intro i9
 refine t5 ?_
 obtain ⟨⟨he1,he2,he3⟩,he4⟩:=hx17
 have he1l:=he1.1
 refine t6 ?_
 refine cN ?_ ?_ <;> intro h2
 ·refine t10 ?_
  exact rXF (⟨_,_,(⟨_,(⟨_,_,_⟩:Cu),_,_⟩:SO26),_⟩:SS26) results138 (hp:=by exact wl0)
 refine t11 ?_
 refine cN ?_ ?_ <;> intro h4
 ·refine t8 ?_
  refine cN ?_ ?_ <;> intro h5
  ·refine t3 ?_
   refine kXF call139 (qgg c.w.heap.size (⟨_,_,_⟩:Cu)) ?_
   refine t6 ?_
   exact rXF (⟨_,_,(⟨_,(⟨_,_,_⟩:Cu),_,_⟩:SO26),_⟩:SS26) results138 (hp:=by exact wl0)
  refine t8 ?_
  refine kXF call139 (qgg c.w.heap.size (⟨_,_,_⟩:Cu)) ?_
  refine t5 ?_
  exact rXF (⟨_,_,(⟨_,(⟨_,_,_⟩:Cu),_,_⟩:SO26),_⟩:SS26) results138 (hp:=by exact wl0)
 refine t11 ?_
 refine cN ?_ ?_ <;> intro h8
 ·refine t5 ?_
  refine kRF call134 (qbk c.w.heap.size _) ?_
  refine t5 ?_
  exact rXF (⟨_,_,(⟨_,(⟨_,_,_⟩:Cu),_,_⟩:SO26),_⟩:SS26) results138 (hp:=by exact wl0)
 refine t10 ?_
 refine qap rfl (by ((refine qac call140 (qlo c.w.heap.size _ _ (⟨_,_,_⟩:Cu) ?_ ?_) ⟨qbb,⟨qbb,⟨qbb,trivial⟩⟩⟩);all_goals (first|first|omega|(simp;done)|(simp;omega)|first|omega|(simp;done)|(simp;omega)|(refine Nat.le_trans (qai _ _) ?_;omega)|(refine Nat.le_trans (qai _ _) (Nat.le_trans (Nat.add_le_add_right (qai _ _) _) ?_);omega)))) ?_
 (refine qa5 52 rfl ?_;intro x52 hx52)
 refine t4 ?_
 exact rXF (⟨_,_,(⟨_,(⟨_,_,_⟩:Cu),_,_⟩:SO26),_⟩:SS26) results138 (hp:=by exact qie hx52 (he1.mono (by decide)))
end Go.Proofs.YtmgoplaamlignaaGreat
