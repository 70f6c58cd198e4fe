/- Texts laid together: walks of functions, what they compute, and plain laws of it. Own work. -/
import Derived.Test.YtmgoplaamlignaaGreatK24
import Derived.Test.YtmgoplaamlignaaGreatK27
import Derived.Test.YtmgoplaamlignaaGreatK12
import Derived.Test.YtmgoplaamlignaaGreatK38
import Derived.Test.YtmgoplaamlignaaGreatK1
namespace Go.Proofs.YtmgoplaamlignaaGreat
open Go.RowKit Tryz
set_option linter.unusedVariables false
set_option linter.unusedSimpArgs false
set_option maxRecDepth 100000
set_option maxHeartbeats 4000000
def St29.vals (s:St29):List Value:=[.int .i64 s.kind,.int .u32 (UV s.key),.int .u32 (UV s.last),.int .i64 s.cols0,.int .i64 s.cols1,.int .i64 s.cols2,.int .i64 s.col,.int .i64 s.value,.int .i64 s.where_.col,.int .i64 s.where_.op,.int .i64 s.where_.value,.int .i64 s.limit]
def Co.vals (s:Co):List Value:=[.int .i64 s.col,.int .i64 s.op,.int .i64 s.value]
instance:DecidableEq Co:=fun p q=>if h:p.col=q.col∧p.op=q.op∧p.value=q.value then isTrue (by cases p;cases q;simp_all) else isFalse (fun e=>h (by subst e;exact ⟨rfl,rfl,rfl⟩))
instance:DecidableEq St29:=fun p q=>if h:p.kind=q.kind∧p.key=q.key∧p.last=q.last∧p.cols0=q.cols0∧p.cols1=q.cols1∧p.cols2=q.cols2∧p.col=q.col∧p.value=q.value∧p.where_=q.where_∧p.limit=q.limit then isTrue (by cases p;cases q;simp_all) else isFalse (fun e=>h (by subst e;exact ⟨rfl,rfl,rfl,rfl,rfl,rfl,rfl,rfl,rfl,rfl⟩))
theorem eqI3_el (d:Nat) (w:World) (a b c a' b' c':Int):(Op.equalIn (d+2) 156 (.agg #[.int .i64 a,.int .i64 b,.int .i64 c]) (.agg #[.int .i64 a',.int .i64 b',.int .i64 c'])).run Tryz.prog w = .ok (decide (a=a'∧b=b'∧c=c')) w:=by
 obtain ⟨i,hi⟩:=qxq
 rw [show d+2=(d+1)+1 from rfl,run_equalIn_array w (d+1) _ _ Tryz.underlying156 hi]
 have hc:Tryz.prog.cellsOf 2=1:=by kernel_rfl
 rw [hc]
 have hu:(isAgg 2).run Tryz.prog w = .ok false w:=qfn Tryz.underlying2 w
 simp only [List.range_succ,List.range_zero,List.nil_append,List.cons_append,Op.eqItems,part,Sem.run_bind,hu,Result.andThen_ok,Bool.false_eq_true,if_false,↓reduceIte]
 go_simp
 by_cases h1:a=a' <;> by_cases h2:b=b' <;> by_cases h3:c=c' <;> simp [h1,h2,h3]
attribute [go_sem high] eqI3_el
theorem eqCo_run (p q:Co) (w:World):(Op.equal 158 (.agg p.vals.toArray) (.agg q.vals.toArray)).run Tryz.prog w = .ok (decide (p=q)) w:=by
 have h:(Op.equalIn (9999+1) 158 (.agg #[.int .i64 p.col,.int .i64 p.op,.int .i64 p.value]) (.agg #[.int .i64 q.col,.int .i64 q.op,.int .i64 q.value])).run Tryz.prog w = .ok (decide (p=q)) w:=by
  go_simp
  obtain ⟨a,b,k⟩:=p
  obtain ⟨a',b',k'⟩:=q
  by_cases h0:k=k' <;> by_cases h1:a=a' <;> by_cases h2:b=b' <;> simp [h0,h1,h2]
 exact h
theorem eqSt_run (p q:St29) (w:World):(Op.equal 160 (.agg p.vals.toArray) (.agg q.vals.toArray)).run Tryz.prog w = .ok (decide (p=q)) w:=by
 have h:(Op.equalIn (9999+1) 160 (.agg #[.int .i64 p.kind,.int .u32 (UV p.key),.int .u32 (UV p.last),.int .i64 p.cols0,.int .i64 p.cols1,.int .i64 p.cols2,.int .i64 p.col,.int .i64 p.value,.int .i64 p.where_.col,.int .i64 p.where_.op,.int .i64 p.where_.value,.int .i64 p.limit]) (.agg #[.int .i64 q.kind,.int .u32 (UV q.key),.int .u32 (UV q.last),.int .i64 q.cols0,.int .i64 q.cols1,.int .i64 q.cols2,.int .i64 q.col,.int .i64 q.value,.int .i64 q.where_.col,.int .i64 q.where_.op,.int .i64 q.where_.value,.int .i64 q.limit])).run Tryz.prog w = .ok (decide (p=q)) w:=by
  go_simp
  obtain ⟨a0,a1,a2,a3,a4,a5,a6,a7,⟨a8,a9,a10⟩,a11⟩:=p
  obtain ⟨b0,b1,b2,b3,b4,b5,b6,b7,⟨b8,b9,b10⟩,b11⟩:=q
  by_cases h0:a0=b0
  case neg=>simp [h0]
  subst h0
  by_cases h1:a1=b1
  case neg=>simp [h1]
  subst h1
  by_cases h2:a2=b2
  case neg=>simp [h2]
  subst h2
  by_cases h3:a3=b3
  case neg=>simp [h3]
  subst h3
  by_cases h4:a4=b4
  case neg=>simp [h4]
  subst h4
  by_cases h5:a5=b5
  case neg=>simp [h5]
  subst h5
  by_cases h6:a6=b6
  case neg=>simp [h6]
  subst h6
  by_cases h7:a7=b7
  case neg=>simp [h7]
  subst h7
  by_cases h8:a8=b8 <;> by_cases h9:a9=b9 <;> by_cases h10:a10=b10 <;> by_cases h11:a11=b11 <;> simp [h8,h9,h10,h11]
 exact h
theorem qyy (o:BinOp) (x y:Operand) (p q:St29) (w:World):(eqGuard o 160 x y (.agg p.vals.toArray) (.agg q.vals.toArray)).run Tryz.prog w = .ok () w:=by
 have h:Tryz.prog.eqGuardType Tryz.prog.depth 160=false:=by kernel_rfl
 cases o <;> simp [eqGuard,program,Sem.run,h]
theorem eqSt_neq (p q:St29) (w:World):(binOp .neq 160 (.agg p.vals.toArray) (.agg q.vals.toArray)).run Tryz.prog w = .ok (.bool (!decide (p=q))) w:=by
 simp only [binOp,Sem.run_bind,eqSt_run,Result.andThen_ok,Sem.run_pure]
theorem qy0 (o:BinOp) (x y:Operand) (p q:Co) (w:World):(eqGuard o 158 x y (.agg p.vals.toArray) (.agg q.vals.toArray)).run Tryz.prog w = .ok () w:=by
 have h:Tryz.prog.eqGuardType Tryz.prog.depth 158=false:=by kernel_rfl
 cases o <;> simp [eqGuard,program,Sem.run,h]
theorem eqCo_neq (p q:Co) (w:World):(binOp .neq 158 (.agg p.vals.toArray) (.agg q.vals.toArray)).run Tryz.prog w = .ok (.bool (!decide (p=q))) w:=by
 simp only [binOp,Sem.run_bind,eqCo_run,Result.andThen_ok,Sem.run_pure]
def qrj (n lo hi:Int):Bool:=decide (n≥lo)&&decide (n≤hi)
theorem qvq (n lo hi:Int):FnP Tryz.prog 161 [Is (.int .i64 n),Is (.int .i64 lo),Is (.int .i64 hi)] (Is (.bool (qrj n lo hi))):=by
 refine FnP.enter func161 ntmps161 rfl rfl ?_
 intro c hX
 refine t19 ?_
 refine qa4 results161 rfl () (SubL.eq ?_) (List.nil_sublist _)
 rfl
def qny (s:St29):St29:=
 if (s.kind==1)=true then ⟨s.kind,s.key,0#32,s.cols0,s.cols1,s.cols2,0,0,⟨0,0,0⟩,0⟩ else
 if (s.kind==2||s.kind==3)=true then ⟨s.kind,s.key,0#32,0,0,0,s.col,s.value,⟨0,0,0⟩,0⟩ else
 if (s.kind==6)=true then ⟨s.kind,s.key,s.last,0,0,0,0,0,s.where_,s.limit⟩ else
 if (s.kind==7)=true then ⟨s.kind,s.key,s.last,0,0,0,0,0,s.where_,0⟩ else
 if (s.kind==8)=true then ⟨s.kind,s.key,s.last,0,0,0,s.col,0,s.where_,0⟩ else
 if (s.kind==9)=true then ⟨s.kind,s.key,0#32,0,0,0,0,0,s.where_,0⟩ else ⟨s.kind,s.key,0#32,0,0,0,0,0,⟨0,0,0⟩,0⟩
theorem plain_ok (s:St29):FnP Tryz.prog 188 [qov s] (qov (qny s)):=by
 obtain ⟨W,hE⟩:∃ W,qny s=W:=⟨_,rfl⟩
 rw [hE]
 unfold qny at hE
 refine FnP.enter func188 ntmps188 rfl rfl ?_
 intro c hX
 refine t3 ?_
 intro i1
 refine s1 ?_
 intro i2
 refine t3 ?_
 refine qd2 (b:=i1) hX qae ?_
 refine qb0 1 (qdo (tSt29.cells s)) rfl qfm ?_
 refine t7 ?_
 intro i3
 refine t10 ?_
 refine qb3 [(2,_),(3,_)] [blk i2 _ _] (fun z:Unit=>True) (fun z=>[]) (fun z=>[blk i3 160 (tSt29.cells W)]) qde qab ?_ ?_
 rotate_left
 focus
  refine t7 ?_
  refine cN ?_ ?_ <;> intro h3
  ·replace hE:=qce hE h3
   refine t7 ?_
   subst hE
   exact qak () trivial qde qab
  replace hE:=qdr hE h3
  refine t7 ?_
  refine qb3 [(1,_),(2,_),(3,_),(10,_)] [blk i3 _ _,blk i2 _ _] (fun yc:Bool=>yc=(s.kind==2||s.kind==3)) (fun yc=>[(16,Is (.bool yc))]) (fun yc=>[]) qde qab ?_ ?_
  rotate_left
  focus
   refine cN ?_ ?_ <;> intro h5
   ·skip
    refine s1 ?_
    refine qak _ ?_ qde qab
    ·exact (by (rw [h5];rfl))
   skip
   refine t4 ?_
   refine qak _ ?_ qde qab
   ·exact (by (rw [h5];rfl))
  rintro b hI
  refine cN ?_ ?_ <;> intro h5b
  ·rw [hI] at h5b
   replace hE:=qce hE h5b
   refine qa0 rfl (by kernel_rfl) ?_
   refine qct [0,0,0,0,0,2,0,2] (by kernel_rfl) (by kernel_rfl) ?_
   refine qb7 (by exact qa1 (k:=6) (er rfl) rfl rfl rfl rfl qbo) ?_
   refine qb7 (by exact qbw (er rfl) rfl rfl rfl) ?_
   refine qb7 (by exact qa1 (k:=7) (er rfl) rfl rfl rfl rfl qbo) ?_
   refine qb7 (by exact qbw (er rfl) rfl rfl rfl) ?_
   refine qb7 (by exact qbf (k:=6) (er rfl) rfl rfl rfl rfl) ?_
   refine qiy (qav (er rfl) (er rfl) qaf qae qbo rf rf rf) ?_
   refine qb7 (by exact qbf (k:=7) (er rfl) rfl rfl rfl rfl) ?_
   refine qiy (qav (er rfl) (er rfl) qaf qae qbo rf rf rf) ?_
   refine qeu ?_
   refine qat ?_
   refine s1 ?_
   subst hE
   exact qak () trivial qde qab
  rw [hI] at h5b
  replace hE:=qdr hE h5b
  refine t6 ?_
  refine cN ?_ ?_ <;> intro h8
  ·replace hE:=qce hE h8
   refine qa0 rfl (by kernel_rfl) ?_
   refine qct [0,0,0,0,0,0,0,2,0,2,0,2] (by kernel_rfl) (by kernel_rfl) ?_
   refine qb7 (by exact qa1 (k:=2) (er rfl) rfl rfl rfl rfl qbo) ?_
   refine qb7 (by exact qbw (er rfl) rfl rfl rfl) ?_
   refine qb7 (by exact qa1 (k:=8) (er rfl) rfl rfl rfl rfl qbo) ?_
   refine qb7 (by exact qcm (n:=3) (er rfl) rfl rfl rfl rf qbo) ?_
   refine qb7 (by exact qa1 (k:=11) (er rfl) rfl rfl rfl rfl qbo) ?_
   refine qb7 (by exact qbw (er rfl) rfl rfl rfl) ?_
   refine qb7 (by exact qbf (k:=2) (er rfl) rfl rfl rfl rfl) ?_
   refine qiy (qav (er rfl) (er rfl) qaf qae qbo rf rf rf) ?_
   refine qb7 (by exact qbf (k:=8) (er rfl) rfl rfl rfl rfl) ?_
   refine qiy (qav (er rfl) (er rfl) qaf qae qbo rf rf rf) ?_
   refine qb7 (by exact qbf (k:=11) (er rfl) rfl rfl rfl rfl) ?_
   refine qiy (qav (er rfl) (er rfl) qaf qae qbo rf rf rf) ?_
   refine qeu ?_
   refine qat ?_
   refine s1 ?_
   subst hE
   exact qak () trivial qde qab
  replace hE:=qdr hE h8
  refine t6 ?_
  refine cN ?_ ?_ <;> intro h10
  ·replace hE:=qce hE h10
   refine qa0 rfl (by kernel_rfl) ?_
   refine qct [0,0,0,0,0,2,0,2] (by kernel_rfl) (by kernel_rfl) ?_
   refine qb7 (by exact qa1 (k:=2) (er rfl) rfl rfl rfl rfl qbo) ?_
   refine qb7 (by exact qbw (er rfl) rfl rfl rfl) ?_
   refine qb7 (by exact qa1 (k:=8) (er rfl) rfl rfl rfl rfl qbo) ?_
   refine qb7 (by exact qcm (n:=3) (er rfl) rfl rfl rfl rf qbo) ?_
   refine qb7 (by exact qbf (k:=2) (er rfl) rfl rfl rfl rfl) ?_
   refine qiy (qav (er rfl) (er rfl) qaf qae qbo rf rf rf) ?_
   refine qb7 (by exact qbf (k:=8) (er rfl) rfl rfl rfl rfl) ?_
   refine qiy (qav (er rfl) (er rfl) qaf qae qbo rf rf rf) ?_
   refine qeu ?_
   refine qat ?_
   refine s1 ?_
   subst hE
   exact qak () trivial qde qab
  replace hE:=qdr hE h10
  refine t6 ?_
  refine cN ?_ ?_ <;> intro h12
  ·replace hE:=qce hE h12
   refine qa0 rfl (by kernel_rfl) ?_
   refine qct [0,0,0,0,0,0,0,2,0,2,0,2] (by kernel_rfl) (by kernel_rfl) ?_
   refine qb7 (by exact qa1 (k:=2) (er rfl) rfl rfl rfl rfl qbo) ?_
   refine qb7 (by exact qbw (er rfl) rfl rfl rfl) ?_
   refine qb7 (by exact qa1 (k:=8) (er rfl) rfl rfl rfl rfl qbo) ?_
   refine qb7 (by exact qcm (n:=3) (er rfl) rfl rfl rfl rf qbo) ?_
   refine qb7 (by exact qa1 (k:=6) (er rfl) rfl rfl rfl rfl qbo) ?_
   refine qb7 (by exact qbw (er rfl) rfl rfl rfl) ?_
   refine qb7 (by exact qbf (k:=2) (er rfl) rfl rfl rfl rfl) ?_
   refine qiy (qav (er rfl) (er rfl) qaf qae qbo rf rf rf) ?_
   refine qb7 (by exact qbf (k:=8) (er rfl) rfl rfl rfl rfl) ?_
   refine qiy (qav (er rfl) (er rfl) qaf qae qbo rf rf rf) ?_
   refine qb7 (by exact qbf (k:=6) (er rfl) rfl rfl rfl rfl) ?_
   refine qiy (qav (er rfl) (er rfl) qaf qae qbo rf rf rf) ?_
   refine qeu ?_
   refine qat ?_
   refine s1 ?_
   subst hE
   exact qak () trivial qde qab
  replace hE:=qdr hE h12
  refine t6 ?_
  refine cN ?_ ?_ <;> intro h14
  ·replace hE:=qce hE h14
   refine t7 ?_
   subst hE
   exact qak () trivial qde qab
  replace hE:=qdr hE h14
  refine t2 ?_
  subst hE
  exact qak () trivial qde qab
 rintro ⟨⟩ _
 refine t7 ?_
 exact qaq (Bs:=[_]) results188 eRF () SubL.rfl' (List.nil_sublist _)
def vS (s:St29):Bool:=
 if (!qrj s.kind 1 9||decide (UV s.key<1)||decide (UV s.key>4294967294) || !decide (s=qny s))=true then false else
 if (qrj s.kind 6 8&&(decide (UV s.last<UV s.key)||decide (UV s.last>4294967294)))=true then false else
 if (!qrj s.col 0 2 || !qrj s.where_.col 0 2 || !qrj s.where_.op 0 6 || !qrj s.limit 0 64)=true then false else
 if (s.where_.op==0 && !decide (s.where_=⟨0,0,0⟩))=true then false else (s.kind != 9||decide (s.where_.op>0))
theorem vS_col {s:St29} (h:vS s=true):0≤s.col∧s.col≤2:=by
 unfold vS at h
 split at h
 ·cases h
 ·split at h
  ·cases h
  ·split at h
   ·cases h
   ·rename_i h3
    unfold qrj at h3
    simp at h3
    omega
theorem qmi (s:St29):FnP Tryz.prog 160 [qov s] (Is (.bool (vS s))):=by
 obtain ⟨W,hE⟩:∃ W,vS s=W:=⟨_,rfl⟩
 rw [hE]
 unfold vS at hE
 refine FnP.enter func160 ntmps160 rfl rfl ?_
 intro c hX
 refine t3 ?_
 intro i1
 refine t5 ?_
 refine qa0 rfl (by kernel_rfl) ?_
 refine qag 20 (by kernel_rfl) ?_
 refine t2 ?_
 refine qbc (qac call161 (qvq _ _ _) ⟨qar,⟨qar,⟨qar,trivial⟩⟩⟩) ?_
 refine t14 ?_
 (refine qem rfl rfl (fun hg=>(by have hg0:=hg;(try simp at hg);exact qac call188 (plain_ok s) ⟨qar,trivial⟩)) ?_)
 (refine qem rfl rfl (fun hg=>(by have hg0:=hg;(try simp at hg);exact qes (vs:=s.vals) (ws:=(qny s).vals) evG evG (qyy _ _ _ s (qny s)) (eqSt_neq s (qny s)))) ?_)
 refine s1 ?_
 refine ⟨rfl,?_⟩
 refine qat ?_
 refine s1 ?_
 refine cN ?_ ?_ <;> intro h1
 ·replace hE:=qce hE h1
  refine t7 ?_
  subst hE
  exact qaq (Bs:=[_]) results160 eRF () SubL.rfl' (List.nil_sublist _)
 replace hE:=qdr hE h1
 clear h1
 refine t7 ?_
 refine kRF call161 (qvq _ _ _) ?_
 refine t14 ?_
 refine cN ?_ ?_ <;> intro h3
 ·replace hE:=qce hE h3
  refine t7 ?_
  subst hE
  exact qaq (Bs:=[_]) results160 eRF () SubL.rfl' (List.nil_sublist _)
 replace hE:=qdr hE h3
 refine t7 ?_
 refine kRF call161 (qvq _ _ _) ?_
 refine t5 ?_
 (refine qcq rfl rfl rfl (fun hg=>(by have hg0:=hg;(try simp at hg);exact qac call161 (qvq _ _ _) ⟨qar,⟨qar,⟨qar,trivial⟩⟩⟩)) ?_)
 refine t6 ?_
 (refine qcq rfl rfl rfl (fun hg=>(by have hg0:=hg;(try simp at hg);exact qac call161 (qvq _ _ _) ⟨qar,⟨qar,⟨qar,trivial⟩⟩⟩)) ?_)
 refine t5 ?_
 (refine qcq rfl rfl rfl (fun hg=>(by have hg0:=hg;(try simp at hg);exact qac call161 (qvq _ _ _) ⟨qar,⟨qar,⟨qar,trivial⟩⟩⟩)) ?_)
 refine t4 ?_
 refine cN ?_ ?_ <;> intro h5
 ·replace hE:=qce hE h5
  refine t7 ?_
  subst hE
  exact qaq (Bs:=[_]) results160 eRF () SubL.rfl' (List.nil_sublist _)
 replace hE:=qdr hE h5
 refine t13 ?_
 (refine qcq rfl rfl rfl (fun hg=>(by have hg0:=hg;(try simp at hg);exact qes (vs:=s.where_.vals) (ws:=Co.vals ⟨0,0,0⟩) evG evG (qy0 _ _ _ s.where_ ⟨0,0,0⟩) (eqCo_neq s.where_ ⟨0,0,0⟩))) ?_)
 refine t3 ?_
 refine cN ?_ ?_ <;> intro h7
 ·replace hE:=qce hE h7
  refine t7 ?_
  subst hE
  exact qaq (Bs:=[_]) results160 eRF () SubL.rfl' (List.nil_sublist _)
 replace hE:=qdr hE h7
 refine t17 ?_
 subst hE
 exact qaq (Bs:=[_]) results160 eRF () SubL.rfl' (List.nil_sublist _)
def vPL:List St29→Bool
 | []=>true
 | s :: r=>if (!vS s)=true then false else vPL r
def vP (l:List St29):Bool:=if (decide ((l.length:Int)<1)||decide ((l.length:Int)>8))=true then false else vPL l
theorem qzn:∀ {l:List St29},vPL l=true→∀ s,s∈l→vS s=true
 | s :: r,h,x,hx=>by
  unfold vPL at h
  split at h
  ·cases h
  ·rename_i h1
   rcases List.mem_cons.1 hx with rfl|hx
   ·simpa using h1
   ·exact qzn h x hx
theorem qzm {l:List St29} (h:vP l=true):l.length≤8∧∀ s,s∈l→vS s=true:=by
 unfold vP at h
 split at h
 ·cases h
 ·rename_i h1
  simp at h1
  exact ⟨by omega,qzn h⟩
theorem qjh (l:List St29):FnP Tryz.prog 129 [qal tSt29 l] (Is (.bool (vP l))):=by
 obtain ⟨W,hE⟩:∃ W,vP l=W:=⟨_,rfl⟩
 rw [hE]
 unfold vP at hE
 refine FnP.enter func129 ntmps129 rfl rfl ?_
 intro c hX
 refine t18 ?_
 refine cN ?_ ?_ <;> intro h1
 ·replace hE:=qce hE h1
  refine t7 ?_
  subst hE
  exact qaq (Bs:=[_]) results129 eRF () SubL.rfl' (List.nil_sublist _)
 rw [ifF h1] at hE
 have hl8:l.length≤8:=by
  rw [Bool.or_eq_false_iff] at h1
  have:=of_decide_eq_false h1.2
  omega
 clear h1
 refine t9 ?_
 refine qaz [(0,_),(2,_)] [] (fun k:Nat=>k≤(l).length∧vPL (List.drop k (l))=W) (fun k=>[(3,Is (.int .i64 (k:Nat)))]) (fun k=>[]) (fun k=>(l).length-k) 0 ⟨by exact Nat.zero_le _,hE⟩ qde qab ?_
 clear hE
 rintro k ⟨hk,hE⟩
 refine t9 ?_
 refine cN ?_ ?_ <;> intro h4
 ·have hlt:k<(l).length:=by have:=of_decide_eq_true h4;omega
  clear h4
  obtain ⟨z,hz⟩:∃ q,(l)[k]?=some q:=⟨_,List.getElem?_eq_getElem hlt⟩
  rw [qjc hz,vPL] at hE
  (try dsimp only at hE)
  refine t10 ?_
  refine kRF call160 (qmi z) ?_
  refine t3 ?_
  refine cN ?_ ?_ <;> intro h6
  ·replace hE:=qce hE h6
   refine t11 ?_
   subst hE
   exact qaq (Bs:=[_]) results129 eRF () SubL.rfl' (List.nil_sublist _)
  replace hE:=qdr hE h6
  refine t8 ?_
  exact qaa (k+1) ⟨by omega,hE⟩ (by omega) qde qab
 have hke:k=(l).length:=by have:=of_decide_eq_false h4;omega
 clear h4
 subst hke
 rw [List.drop_length,vPL] at hE
 (try dsimp only at hE)
 refine t11 ?_
 subst hE
 exact qaq (Bs:=[_]) results129 eRF () SubL.rfl' (List.nil_sublist _)
theorem qy4 (s:St29):FnP Tryz.prog 153 [qov s] (Is (.bool (qrj s.kind 1 4))):=by
 refine FnP.enter func153 ntmps153 rfl rfl ?_
 intro c hX
 refine t3 ?_
 intro i1
 refine t7 ?_
 refine kRF call161 (qvq _ _ _) ?_
 refine t4 ?_
 refine qa4 results153 rfl () (SubL.eq ?_) (List.nil_sublist _)
 rfl
theorem qr8 (t:List Rw) (ht:t.length≤10000):FnP Tryz.prog 128 [qal tRw t] (VEx fun b:Bool=>Is (.bool b)):=by
 refine FnP.enter func128 ntmps128 rfl rfl ?_
 intro c hX
 refine t12 ?_
 refine qaz [(0,_),(2,_)] [] (fun k:Nat=>k≤(t).length) (fun k=>[(3,Is (.int .i64 (k:Nat)))]) (fun k=>[]) (fun k=>(t).length-k) 0 (Nat.zero_le _) qah qab ?_
 rintro k hk
 refine t9 ?_
 refine cN ?_ ?_ <;> intro h2
 ·have hlt:k<(t).length:=by have:=of_decide_eq_true h2;omega
  clear h2
  obtain ⟨z,hz⟩:∃ q,(t)[k]?=some q:=⟨_,List.getElem?_eq_getElem hlt⟩
  obtain ⟨q,hq0⟩:∃ q,t.getD (k-1) Rw.nil=q:=⟨_,rfl⟩
  have hq:0<k→t[k-1]?=some q:=fun h=>by rw [← hq0,List.getD_eq_getElem?_getD,List.getElem?_eq_getElem (by omega)];rfl
  refine t5 ?_
  refine qa0 rfl (by kernel_rfl) ?_
  refine qag 32 (by kernel_rfl) ?_
  refine t21 ?_
  (refine JW_i rfl rfl (fun hp hg=>(by have hpg:=Bool.and_eq_true_iff.2 ⟨hp,hg⟩;have hg0:=hg;(try simp at hg);exact qau (j:=k-1) evG evG rfl rfl (by omega) (hq (by omega)))) ?_)
  refine t10 ?_
  refine ⟨rfl,?_⟩
  refine qat ?_
  refine s1 ?_
  refine cN ?_ ?_ <;> intro h4
  ·refine t11 ?_
   exact qci (Bs:=[_]) _ rfl results128 eXF (List.nil_sublist _)
  refine t8 ?_
  exact qaa (k+1) (by omega) (by omega) qah qab
 have hke:k=(t).length:=by have:=of_decide_eq_false h2;omega
 clear h2
 subst hke
 refine t11 ?_
 exact qci (Bs:=[_]) _ rfl results128 eXF (List.nil_sublist _)
theorem find_ok (t:List Rw) (key:BitVec 32) (ht:t.length≤10000):FnP Tryz.prog 130 [qal tRw t,Is (.int .u32 (UV key))] (qek (fun r:Nat×Bool=>r.1≤t.length∧(r.2=true→r.1<t.length)) fun r=>qbv [Is (.int .i64 (r.1:Nat)),Is (.bool r.2)]):=by
 refine FnP.enter func130 ntmps130 rfl rfl ?_
 intro c hX
 refine t13 ?_
 refine qaz [(0,_),(1,_),(4,_),(5,_)] [] (fun k:Nat=>k≤(t).length) (fun k=>[(6,Is (.int .i64 (k:Nat)))]) (fun k=>[]) (fun k=>(t).length-k) 0 (Nat.zero_le _) qah qab ?_
 rintro k hk
 refine t9 ?_
 refine cN ?_ ?_ <;> intro h2
 ·have hlt:k<(t).length:=by have:=of_decide_eq_true h2;omega
  clear h2
  obtain ⟨z,hz⟩:∃ q,(t)[k]?=some q:=⟨_,List.getElem?_eq_getElem hlt⟩
  refine t15 ?_
  refine cN ?_ ?_ <;> intro h4
  ·refine s1 ?_
   refine qa0 rfl (by kernel_rfl) ?_
   refine qag 10 (by kernel_rfl) ?_
   refine t10 ?_
   refine ⟨rfl,?_⟩
   refine qat ?_
   refine t7 ?_
   exact qmn (_,_) results130 (hp:=by exact ⟨by omega,fun _=>by omega⟩)
  refine t8 ?_
  exact qaa (k+1) (by omega) (by omega) qah qab
 have hke:k=(t).length:=by have:=of_decide_eq_false h2;omega
 clear h2
 subst hke
 refine t14 ?_
 exact qmn (_,_) results130 (hp:=by exact ⟨Nat.le_refl _,fun h=>Bool.noConfusion h⟩)
def addS (a b:Int):Int×Bool:=if ((decide (b>0)&&decide (a>IntKind.i64.wrap (9223372036854775807-b)))||(decide (b<0)&&decide (a<IntKind.i64.wrap (-9223372036854775808-b))))=true then (0,false) else (IntKind.i64.wrap (a+b),true)
theorem Add29_ok (a b:Int):FnP Tryz.prog 162 [Is (.int .i64 a),Is (.int .i64 b)] (qbv [Is (.int .i64 (addS a b).1),Is (.bool (addS a b).2)]):=by
 obtain ⟨W,hE⟩:∃ W,addS a b=W:=⟨_,rfl⟩
 rw [hE]
 unfold addS at hE
 refine FnP.enter func162 ntmps162 rfl rfl ?_
 intro c hX
 refine t29 ?_
 refine cN ?_ ?_ <;> intro h1
 ·replace hE:=qce hE h1
  refine t8 ?_
  subst hE
  exact qaq (Bs:=[_,_]) results162 eRF () SubL.rfl' (List.nil_sublist _)
 replace hE:=qdr hE h1
 refine t12 ?_
 subst hE
 exact qaq (Bs:=[_,_]) results162 eRF () SubL.rfl' (List.nil_sublist _)
def colAt (r:Rw):Nat→Int
 | 0=>r.cols0
 | 1=>r.cols1
 | _=>r.cols2
def zac (r:Rw) (k:Nat) (v:Int):Rw:=match k with
 | 0=>{ r with cols0:=v }
 | 1=>{ r with cols1:=v }
 | _=>{ r with cols2:=v }
theorem e3 {k:Nat} (hk:k<3):k=0∨k=1∨k=2:=by omega
theorem col_idx (r:Rw) {k:Nat} (hk:k<3):(tRw.cells r)[0+1+k*1]?=some (Is (.int .i64 (colAt r k))):=by
 rcases e3 hk with rfl|rfl|rfl <;> rfl
theorem zci (r:Rw) (v:Int) {k:Nat} (hk:k<3):ovr (tRw.cells r) (0+1+k*1) [Is (.int .i64 v)]=tRw.cells (zac r k v):=by
 rcases e3 hk with rfl|rfl|rfl <;> rfl
theorem zcj (r:Rw) {k:Nat} (hk:k<3):Nat.ble (0+1+k*1+1) (tRw.cells r).length=true:=Nat.ble_eq_true_of_le (by rw [tRw.len];show _≤4;omega)
theorem quq (s:St29) (r:Rw) (hc:0≤s.col∧s.col≤2):FnP Tryz.prog 132 [qov s,IsRw r] (VEx fun x:Rw×Int=>qbv [IsRw x.1,Is (.int .i64 x.2)]):=by
 obtain ⟨j,hj,hj3⟩:∃ j:Nat,s.col=(j:Int)∧j<3:=⟨s.col.toNat,by omega,by omega⟩
 refine FnP.enter func132 ntmps132 rfl rfl ?_
 intro c hX
 refine t3 ?_
 intro i2
 refine s1 ?_
 intro i3
 refine s1 ?_
 intro i4
 refine t11 ?_
 refine cN ?_ ?_ <;> intro h1
 ·refine t7 ?_
  refine qap rfl (qan (k:=j) (sz:=1) (er rfl) (er rfl) rfl rfl hj hj3) ?_
  refine qk0 (qav (Rs:=tRw.cells (zac r j s.value)) (er rfl) (er rfl) qaf qae (zci _ _ hj3) rf rf (zcj _ hj3)) ?_
  refine t11 ?_
  exact qci (Bs:=[_,_]) ((⟨_,_,_,_⟩:Rw),_) rfl results132 eXF (List.nil_sublist _)
 refine t3 ?_
 refine qa0 rfl (by kernel_rfl) ?_
 refine qag 13 (by kernel_rfl) ?_
 refine t3 ?_
 refine qbc (qan (k:=j) (sz:=1) (er rfl) (er rfl) rfl rfl hj hj3) ?_
 refine qbc (qif (er rfl) qbp rf rf (col_idx _ hj3)) ?_
 refine t2 ?_
 refine qbc (qac call162 (Add29_ok _ _) ⟨qar,⟨qar,trivial⟩⟩) ?_
 refine t5 ?_
 refine ⟨rfl,?_⟩
 refine qat ?_
 refine t8 ?_
 refine cN ?_ ?_ <;> intro h5
 ·refine t9 ?_
  exact qci (Bs:=[_,_]) ((⟨_,_,_,_⟩:Rw),_) rfl results132 eXF (List.nil_sublist _)
 refine t8 ?_
 refine qap rfl (qan (k:=j) (sz:=1) (er rfl) (er rfl) rfl rfl hj hj3) ?_
 refine qk0 (qav (Rs:=tRw.cells (zac r j (addS (colAt r j) s.value).1)) (er rfl) (er rfl) qaf qae (zci _ _ hj3) rf rf (zcj _ hj3)) ?_
 refine t10 ?_
 exact qci (Bs:=[_,_]) ((⟨_,_,_,_⟩:Rw),_) rfl results132 eXF (List.nil_sublist _)
theorem Apply_ok (t:List Rw) (pr:List St29) (ht:t.length≤9000) (hkd:∀ s,s∈pr→1≤s.kind∧s.kind≤4):FnP Tryz.prog 106 [qal tRw t,qal tSt29 pr] (qek (fun r:List Rw=>r.length≤t.length+pr.length) fun r=>qbv [qal tRw r,Top,Top,Top]):=by
 refine FnP.enter func106 ntmps106 rfl rfl ?_
 intro c hX
 refine t12 ?_
 refine qap rfl (by ((refine qac call128 (qr8 _ ?_) ⟨qar,trivial⟩);all_goals (omega))) ?_
 (refine qf1 19 rfl ?_;intro x19)
 refine t3 ?_
 (refine qcq rfl rfl rfl (fun hg=>(by have hg0:=hg;(try simp at hg);exact qac call129 (qjh _) ⟨qar,trivial⟩)) ?_)
 refine t4 ?_
 refine cN ?_ ?_ <;> intro h1
 ·refine t11 ?_
  exact qcd (Bs:=[_,_,_,_]) _ rfl results106 eXF (List.nil_sublist _) (by exact by omega)
 have hv:vP pr=true:=by
  cases hq:vP pr
  ·rw [hq] at h1;simp at h1
  ·rfl
 obtain ⟨hl8,hvs⟩:=qzm hv
 clear h1
 refine t4 ?_
 (refine qzh rfl (qbx tRw rfl rfl) ?_;intro i27)
 refine s1 ?_
 (refine qe6 rfl (qb9 (er rfl) (fun _=>qae) qar (by exact qep rfl rfl rfl) qbt) ?_;intro i29)
 refine t4 ?_
 refine qa8 hX (v:=slV _ i29) qae ?_
 refine qb0 8 (qal tRw t) rfl (by simpa using qfm) ?_
 refine t11 ?_
 refine qcn 221 tRs29 ?_
 refine qaz [(0,_),(1,_),(4,_),(5,_),(6,_),(7,_)] [] (fun y:Nat×(List Rw)×(List Rs29)×(Option Addr×Nat)=>y.1≤(pr).length∧(y.2.1.length≤t.length+y.1∧y.2.2.1.length≤y.1)) (fun y=>[(8,qal tRw y.2.1),(9,Is (slV (y.2.2.1).length y.2.2.2)),(10,Is (.int .i64 (y.1:Nat)))]) (fun y=>[buf (slV (y.2.2.1).length y.2.2.2) 221 tRs29 (y.2.2.1)]) (fun y=>(pr).length-y.1) (0,t,[],(none,0)) ?_ qah qab ?_
 ·exact ⟨by exact Nat.zero_le _,⟨Nat.le_refl _,Nat.le_refl 0⟩⟩
 rintro ⟨k,now,rs,v_0⟩ ⟨hk,hI⟩
 dsimp only at hk hI ⊢
 refine t9 ?_
 refine cN ?_ ?_ <;> intro h6
 ·have hlt:k<(pr).length:=by have:=of_decide_eq_true h6;omega
  clear h6
  obtain ⟨z,hz⟩:∃ q,(pr)[k]?=some q:=⟨_,List.getElem?_eq_getElem hlt⟩
  obtain ⟨hI1,hIr⟩:=hI
  have hkz:=hkd z (List.mem_of_getElem? hz)
  have hcz:=vS_col (hvs z (List.mem_of_getElem? hz))
  refine t11 ?_
  intro i11
  refine t8 ?_
  refine qap rfl (by ((refine qac call130 (find_ok _ _ ?_) ⟨qar,⟨qar,trivial⟩⟩);all_goals (omega))) ?_
  (refine qa5 44 rfl ?_;intro x44 hx44)
  refine t8 ?_
  obtain ⟨hf1,hf2⟩:=hx44
  refine t8 ?_
  intro i15
  refine t10 ?_
  refine qb3 [(0,_),(1,_),(4,_),(5,_),(6,_),(7,_),(9,_),(10,_),(11,_),(12,_),(13,_),(15,_),(30,_),(31,_),(32,_),(36,_),(37,_),(38,_),(39,_),(40,_),(41,_),(42,_),(43,_),(44,_),(45,_),(46,_),(47,_),(48,_),(49,_)] [blk i15 _ _,blk i11 _ _,buf _ _ _ _] (fun yc:(List Rw)×Int=>yc.1.length≤t.length+(k+1)) (fun yc=>[(8,qal tRw yc.1),(14,Is (.int .i64 yc.2))]) (fun yc=>[]) qah qab ?_ ?_
  rotate_left
  focus
   refine t7 ?_
   refine cN ?_ ?_ <;> intro h20
   ·refine t5 ?_
    refine cN ?_ ?_ <;> intro h21
    ·refine t4 ?_
     refine qak (_,_) ?_ qah qab
     ·exact (by (simp;omega))
    refine qa0 rfl (by kernel_rfl) ?_
    refine qag 16 (by kernel_rfl) ?_
    refine qka (qbx tRw rfl rfl) ?_
    refine t2 ?_
    refine qbc (qdb (er rfl) rfl rfl rfl ⟨_,_,(er rfl),rf⟩ (by omega) (by omega)) ?_
    refine qd1 rfl rfl rfl rf (by kernel_rfl) (qd0 qar (by exact qep rfl rfl rfl) qbt) ?_
    refine t5 ?_
    refine qbc (OpP.to (qad (size:=4) (qs:=[(0,_)]) rfl rfl rfl ⟨⟨rfl,_,(er rfl),qaf⟩,trivial⟩ rf rf) (SubL.row1 (T:=tRw) (x:=(⟨_,_,_,_⟩:Rw)) rf rf rf qaj)) ?_
    refine qd1 rfl rfl rfl rf (by kernel_rfl) (qd0 (by exact er rfl) (by exact qep rfl rfl rfl) qbt) ?_
    refine t2 ?_
    refine qbc (qdb (er rfl) rfl rfl ⟨_,_,(er rfl),rf⟩ rfl (by omega) (by omega)) ?_
    refine qd1 rfl rfl rfl rf (by kernel_rfl) (qd0 qar (by exact qep rfl rfl rfl) qbt) ?_
    refine ⟨rfl,?_⟩
    intro i105
    refine JD_1 (by kernel_rfl) rfl rfl (qeb rfl) ?_
    refine qat ?_
    refine s1 ?_
    refine qee hX (v:=slV _ i105) qae ?_
    refine qak (_,_) ?_ qah qab
    ·exact (by (simp;omega))
   have hk1:z.kind≠1:=by simpa using h20
   refine t7 ?_
   refine qb3 [(0,_),(1,_),(4,_),(5,_),(6,_),(7,_),(8,_),(9,_),(10,_),(11,_),(12,_),(13,_),(14,_),(15,_),(30,_),(31,_),(32,_),(36,_),(37,_),(38,_),(39,_),(40,_),(41,_),(42,_),(43,_),(44,_),(45,_),(46,_),(47,_),(48,_),(49,_),(88,_),(107,_)] [blk i15 _ _,blk i11 _ _,buf _ _ _ _] (fun yc:Bool=>yc=true) (fun yc=>[(106,Is (.bool yc))]) (fun yc=>[]) qah qab ?_ ?_
   rotate_left
   focus
    refine cN ?_ ?_ <;> intro h24
    ·skip
     refine s1 ?_
     refine qak _ ?_ qah qab
     ·exact (by exact h24)
    have hk2:z.kind≠2:=by simpa using h24
    refine t6 ?_
    refine cN ?_ ?_ <;> intro h25
    ·refine s1 ?_
     refine qak _ ?_ qah qab
     ·exact (by exact h25)
    have hk3:z.kind≠3:=by simpa using h25
    refine t6 ?_
    refine cN ?_ ?_ <;> intro h26
    ·refine s1 ?_
     refine qak _ ?_ qah qab
     ·exact (by exact h26)
    exact absurd (show z.kind=4 by omega) (by simpa using h26)
   rintro b hI
   refine cN ?_ ?_ <;> intro h24b
   ·clear hI
    refine t8 ?_
    refine cN ?_ ?_ <;> intro h30
    ·refine t5 ?_
     refine qak (_,_) ?_ qah qab
     ·exact (by (simp;omega))
    have hlt:x44.1<now.length:=hf2 (by simpa using h30)
    refine t8 ?_
    refine cN ?_ ?_ <;> intro h32
    ·refine qa0 rfl (by kernel_rfl) ?_
     refine qag 10 (by kernel_rfl) ?_
     refine qka (qbx tRw rfl rfl) ?_
     refine t2 ?_
     refine qbc (qdb (er rfl) rfl rfl rfl ⟨_,_,(er rfl),rf⟩ (by omega) (by omega)) ?_
     refine qd1 rfl rfl rfl rf (by kernel_rfl) (qd0 qar (by exact qep rfl rfl rfl) qbt) ?_
     refine t3 ?_
     refine qbc (qdb (er rfl) rfl rfl ⟨_,_,(er rfl),(show _=((x44.1+1:Nat):Int) by rfl)⟩ rfl (by omega) (by omega)) ?_
     refine qd1 rfl rfl rfl rf (by kernel_rfl) (qd0 qar (by exact qep rfl rfl rfl) qbt) ?_
     refine ⟨rfl,?_⟩
     intro i142
     refine JD_1 (by kernel_rfl) rfl rfl (qeb rfl) ?_
     refine qat ?_
     refine t2 ?_
     refine qee hX (v:=slV _ i142) qae ?_
     refine qak (_,_) ?_ qah qab
     ·exact (by (simp;omega))
    refine t8 ?_
    refine cN ?_ ?_ <;> intro h34
    ·exact absurd (show z.kind=9 by simpa using h34) (by omega)
    refine t2 ?_
    (refine qzh rfl (qbx tRw rfl rfl) ?_;intro i111)
    refine s1 ?_
    (refine qe6 rfl (qb9 (er rfl) (fun _=>qae) qar (by exact qep rfl rfl rfl) qbt) ?_;intro i113)
    refine t3 ?_
    obtain ⟨rz,hrz⟩:∃ q,([]++now)[x44.1]?=some q:=⟨_,List.getElem?_eq_getElem (by simpa using hlt)⟩
    refine qa0 rfl (by kernel_rfl) ?_
    refine qgl (its:=[]) ?_
    refine qhq 0 rfl (by kernel_rfl) (fun _=>(qay rfl)) ?_
    refine qhq 1 rfl (by kernel_rfl) (fun _=>(qay rfl)) ?_
    refine f1 2 ?_
    refine f1 3 ?_
    refine f1 4 ?_
    refine qkf 5 rfl (by kernel_rfl) (by exact qao (k:=x44.1) (er rfl) qbp (er rfl) rfl rfl qca qbt) ?_
    refine qkf 6 rfl (by kernel_rfl) (by exact qbd (er rfl) qbp hrz rfl rfl rfl) ?_
    (refine JF_xe 7 [2,3,4,5,6,7] rfl (by kernel_rfl) (qac call132 (quq _ (⟨_,_,_,_⟩:Rw) hcz) ⟨qbb,⟨qbb,trivial⟩⟩) ?_;intro x122)
    refine f1 8 ?_
    refine f1 9 ?_
    refine qhq 10 rfl (by kernel_rfl) (fun _=>(qjv (er rfl) rfl)) ?_
    refine qkf 11 rfl (by kernel_rfl) (by exact qao (k:=x44.1) (er rfl) qbp (er rfl) rfl rfl qca qbt) ?_
    refine qfi 12 [0,1,2,3,4,5,6,7,8,9,11,12] rfl (by kernel_rfl) (fun c'=>by exact qc8 (z':=x122.1) (er rfl) (er rfl) qaf qae hrz rfl rf rf) ?_
    refine f1 13 ?_
    refine qeq (by kernel_rfl) rfl ?_
    show JQ _ _ _ _ _ _
    refine t2 ?_
    refine qee hX (v:=slV _ i113) qae ?_
    refine qak (_,_) ?_ qah qab
    ·exact (by (simp;omega))
   exact absurd h24b (by rw [hI];decide)
  rintro ⟨nw,cd⟩ hI
  dsimp only at hI ⊢
  refine t7 ?_
  refine cN ?_ ?_ <;> intro h40
  ·refine t18 ?_
   exact qcd (Bs:=[_,_,_,_]) _ rfl results106 eXF (List.nil_sublist _) (by exact by omega)
  refine t5 ?_
  refine qap rfl (OpP.to (qad (size:=2) (qs:=[(0,_)]) rfl rfl rfl ⟨⟨rfl,_,(er rfl),qaf⟩,trivial⟩ rf rf) (SubL.row1 (T:=tRs29) (x:=(⟨_,_⟩:Rs29)) rf rf rf qaj)) ?_
  (refine qe6 rfl (qb9 (er rfl) (fun _=>qae) (by exact er rfl) (by exact qep rfl rfl rfl) qbt) ?_;intro i172)
  refine t9 ?_
  refine qaa (k+1,_,_,_) ?_ ?_ qah qab
  ·exact ⟨by omega,⟨hI,by simp;omega⟩⟩
  ·exact (by omega)
 have hke:k=(pr).length:=by have:=of_decide_eq_false h6;omega
 clear h6
 subst hke
 refine t16 ?_
 exact qcd (Bs:=[_,_,_,_]) _ rfl results106 eXF (List.nil_sublist _) (by exact by omega)
end Go.Proofs.YtmgoplaamlignaaGreat
