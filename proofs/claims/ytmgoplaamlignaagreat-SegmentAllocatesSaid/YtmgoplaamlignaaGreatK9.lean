/- Texts laid together: walks of functions, what they compute, and plain laws of it. Own work. -/
import Derived.ProofKit
import Derived.Deep.Slices
import Derived.OpenShut
import Derived.Test.YtmgoplaamlignaaGreatK8
import Derived.Test.YtmgoplaamlignaaGreatK1
import Derived.Test.YtmgoplaamlignaaGreatK7
namespace Go.Proofs.YtmgoplaamlignaaGreat
open Go.RowKit Tryz
set_option linter.unusedVariables false
set_option linter.unusedSimpArgs false
set_option maxRecDepth 100000
set_option maxHeartbeats 4000000
structure Hd where
 owner:Int
 used:BitVec 32
 deriving DecidableEq
structure Re where
 to:Pt
 ep:BitVec 32
 deriving DecidableEq
structure Nd where
 pin:Bool
 ep:BitVec 32
 sg:BitVec 32
 inc:Int
 r0:Re
 r1:Re
 r2:Re
 r3:Re
 deriving DecidableEq
def Hd.nil:Hd:=⟨0,0#32⟩
def Re.nil:Re:=⟨Pt.nil,0#32⟩
def Nd.nil:Nd:=⟨false,0#32,0#32,0,Re.nil,Re.nil,Re.nil,Re.nil⟩
def tHd:Ty Hd:=⟨2,fun x=>[Is (.int .i64 x.owner),Is (.int .u32 (UV x.used))],fun _=>rfl⟩
@[reducible] def qut (x:Hd):VP:=IsAgg (tHd.cells x)
def Hd.cells (x:Hd):List Value:=[.int .i64 x.owner,.int .u32 (UV x.used)]
def tRe:Ty Re:=⟨3,fun x=>[Is (.int .i64 x.to.line),Is (.int .i64 x.to.gen),Is (.int .u32 (UV x.ep))],fun _=>rfl⟩
@[reducible] def IsRe (x:Re):VP:=IsAgg (tRe.cells x)
def Re.cells (x:Re):List Value:=[.int .i64 x.to.line,.int .i64 x.to.gen,.int .u32 (UV x.ep)]
def tNd:Ty Nd:=⟨16,fun x=>[Is (.bool x.pin),Is (.int .u32 (UV x.ep)),Is (.int .u32 (UV x.sg)),Is (.int .i64 x.inc),Is (.int .i64 x.r0.to.line),Is (.int .i64 x.r0.to.gen),Is (.int .u32 (UV x.r0.ep)),Is (.int .i64 x.r1.to.line),Is (.int .i64 x.r1.to.gen),Is (.int .u32 (UV x.r1.ep)),Is (.int .i64 x.r2.to.line),Is (.int .i64 x.r2.to.gen),Is (.int .u32 (UV x.r2.ep)),Is (.int .i64 x.r3.to.line),Is (.int .i64 x.r3.to.gen),Is (.int .u32 (UV x.r3.ep))],fun _=>rfl⟩
@[reducible] def qsh (x:Nd):VP:=IsAgg (tNd.cells x)
def Nd.cells (x:Nd):List Value:=[.bool x.pin,.int .u32 (UV x.ep),.int .u32 (UV x.sg),.int .i64 x.inc,.int .i64 x.r0.to.line,.int .i64 x.r0.to.gen,.int .u32 (UV x.r0.ep),.int .i64 x.r1.to.line,.int .i64 x.r1.to.gen,.int .u32 (UV x.r1.ep),.int .i64 x.r2.to.line,.int .i64 x.r2.to.gen,.int .u32 (UV x.r2.ep),.int .i64 x.r3.to.line,.int .i64 x.r3.to.gen,.int .u32 (UV x.r3.ep)]
theorem qog (d:Nat) (w:World) (p q:Re):(Op.equalIn (d+3) 66 (.agg #[.int .i64 p.to.line,.int .i64 p.to.gen,.int .u32 (UV p.ep)]) (.agg #[.int .i64 q.to.line,.int .i64 q.to.gen,.int .u32 (UV q.ep)])).run Tryz.prog w = .ok (decide (p=q)) w:=by
 go_simp
 obtain ⟨⟨a,b⟩,c⟩:=p
 obtain ⟨⟨a',b'⟩,c'⟩:=q
 by_cases h1:a=a' <;> by_cases h2:b=b' <;> by_cases h3:c=c' <;> simp [h1,h2,h3]
theorem eqRe_run (p q:Re) (w:World):(Op.equal 66 (.agg p.cells.toArray) (.agg q.cells.toArray)).run Tryz.prog w = .ok (decide (p=q)) w:=qog 9997 w p q
theorem eqRe_one:∃ i,Tryz.prog.info? 66=some i:=by
 have h:(Tryz.prog.info? 66).isSome=true:=by kernel_rfl
 exact Option.isSome_iff_exists.1 h
theorem qh3 (cs:Array Value) (k:Nat) (w:World):(part 66 cs k).run Tryz.prog w = .ok (.agg (cs.extract k (k+3))) w:=by
 have hn:(Tryz.prog.info? 66).map (·.size)=some 3:=by kernel_rfl
 have hu:(isAgg 66).run Tryz.prog w = .ok true w:=qfn Tryz.underlying66 w
 simp only [part,Sem.run_bind,hu,Result.andThen_ok,if_true,qby hn,Sem.run_pure]
set_option maxHeartbeats 4000000 in
@[go_sem high] theorem eqRe_4 (d:Nat) (w:World) (a0 a1 a2 a3 b0 b1 b2 b3:Re) :
  (Op.equalIn (d+4) 67 (.agg #[.int .i64 a0.to.line,.int .i64 a0.to.gen,.int .u32 (UV a0.ep),.int .i64 a1.to.line,.int .i64 a1.to.gen,.int .u32 (UV a1.ep),.int .i64 a2.to.line,.int .i64 a2.to.gen,.int .u32 (UV a2.ep),.int .i64 a3.to.line,.int .i64 a3.to.gen,.int .u32 (UV a3.ep)]) (.agg #[.int .i64 b0.to.line,.int .i64 b0.to.gen,.int .u32 (UV b0.ep),.int .i64 b1.to.line,.int .i64 b1.to.gen,.int .u32 (UV b1.ep),.int .i64 b2.to.line,.int .i64 b2.to.gen,.int .u32 (UV b2.ep),.int .i64 b3.to.line,.int .i64 b3.to.gen,.int .u32 (UV b3.ep)])).run Tryz.prog w = .ok ((decide (a0=b0)&&(decide (a1=b1)&&(decide (a2=b2)&&decide (a3=b3))))) w:=by
 obtain ⟨i,hi⟩:=eqRe_one
 rw [show d+4=(d+3)+1 from rfl,run_equalIn_array w (d+3) _ _ Tryz.underlying67 hi]
 have hc:Tryz.prog.cellsOf 66=3:=by kernel_rfl
 rw [hc]
 simp only [List.range_succ,List.range_zero,List.nil_append,List.cons_append,Op.eqItems,Sem.run_bind,qh3,Result.andThen_ok]
 have e0:=qog d w a0 b0
 have e1:=qog d w a1 b1
 have e2:=qog d w a2 b2
 have e3:=qog d w a3 b3
 simp [qh3,e0,e1,e2,e3]
 by_cases h0:a0=b0
 case neg=>simp [qh3,e0,e1,e2,e3,h0]
 by_cases h1:a1=b1
 case neg=>simp [qh3,e0,e1,e2,e3,h0,h1]
 by_cases h2:a2=b2
 case neg=>simp [qh3,e0,e1,e2,e3,h0,h1,h2]
 by_cases h3:a3=b3 <;> simp [qh3,e0,e1,e2,e3,h0,h1,h2,h3]
theorem qj5 (o:BinOp) (x y:Operand) (p q:Re) (w:World):(eqGuard o 66 x y (.agg p.cells.toArray) (.agg q.cells.toArray)).run Tryz.prog w = .ok () w:=by
 have h:Tryz.prog.eqGuardType Tryz.prog.depth 66=false:=by kernel_rfl
 cases o <;> simp [eqGuard,program,Sem.run,h]
theorem qni (p q:Re) (w:World):(binOp .eql 66 (.agg p.cells.toArray) (.agg q.cells.toArray)).run Tryz.prog w = .ok (.bool (decide (p=q))) w:=by
 simp only [binOp,Sem.run_bind,eqRe_run,Result.andThen_ok,Sem.run_pure]
theorem qlm (d:Nat) (w:World) (p q:Re):(Op.equalIn (d+3) 112 (.agg #[.int .i64 p.to.line,.int .i64 p.to.gen,.int .u32 (UV p.ep)]) (.agg #[.int .i64 q.to.line,.int .i64 q.to.gen,.int .u32 (UV q.ep)])).run Tryz.prog w = .ok (decide (p=q)) w:=by
 go_simp
 obtain ⟨⟨a,b⟩,c⟩:=p
 obtain ⟨⟨a',b'⟩,c'⟩:=q
 by_cases h1:a=a' <;> by_cases h2:b=b' <;> by_cases h3:c=c' <;> simp [h1,h2,h3]
theorem qtx (p q:Re) (w:World):(Op.equal 112 (.agg p.cells.toArray) (.agg q.cells.toArray)).run Tryz.prog w = .ok (decide (p=q)) w:=qlm 9997 w p q
theorem zce:∃ i,Tryz.prog.info? 112=some i:=by
 have h:(Tryz.prog.info? 112).isSome=true:=by kernel_rfl
 exact Option.isSome_iff_exists.1 h
theorem qgv (cs:Array Value) (k:Nat) (w:World):(part 112 cs k).run Tryz.prog w = .ok (.agg (cs.extract k (k+3))) w:=by
 have hn:(Tryz.prog.info? 112).map (·.size)=some 3:=by kernel_rfl
 have hu:(isAgg 112).run Tryz.prog w = .ok true w:=qfn Tryz.underlying112 w
 simp only [part,Sem.run_bind,hu,Result.andThen_ok,if_true,qby hn,Sem.run_pure]
set_option maxHeartbeats 4000000 in
@[go_sem high] theorem eqReR_4 (d:Nat) (w:World) (a0 a1 a2 a3 b0 b1 b2 b3:Re) :
  (Op.equalIn (d+4) 113 (.agg #[.int .i64 a0.to.line,.int .i64 a0.to.gen,.int .u32 (UV a0.ep),.int .i64 a1.to.line,.int .i64 a1.to.gen,.int .u32 (UV a1.ep),.int .i64 a2.to.line,.int .i64 a2.to.gen,.int .u32 (UV a2.ep),.int .i64 a3.to.line,.int .i64 a3.to.gen,.int .u32 (UV a3.ep)]) (.agg #[.int .i64 b0.to.line,.int .i64 b0.to.gen,.int .u32 (UV b0.ep),.int .i64 b1.to.line,.int .i64 b1.to.gen,.int .u32 (UV b1.ep),.int .i64 b2.to.line,.int .i64 b2.to.gen,.int .u32 (UV b2.ep),.int .i64 b3.to.line,.int .i64 b3.to.gen,.int .u32 (UV b3.ep)])).run Tryz.prog w = .ok ((decide (a0=b0)&&(decide (a1=b1)&&(decide (a2=b2)&&decide (a3=b3))))) w:=by
 obtain ⟨i,hi⟩:=zce
 rw [show d+4=(d+3)+1 from rfl,run_equalIn_array w (d+3) _ _ Tryz.underlying113 hi]
 have hc:Tryz.prog.cellsOf 112=3:=by kernel_rfl
 rw [hc]
 simp only [List.range_succ,List.range_zero,List.nil_append,List.cons_append,Op.eqItems,Sem.run_bind,qgv,Result.andThen_ok]
 have e0:=qlm d w a0 b0
 have e1:=qlm d w a1 b1
 have e2:=qlm d w a2 b2
 have e3:=qlm d w a3 b3
 simp [qgv,e0,e1,e2,e3]
 by_cases h0:a0=b0
 case neg=>simp [qgv,e0,e1,e2,e3,h0]
 by_cases h1:a1=b1
 case neg=>simp [qgv,e0,e1,e2,e3,h0,h1]
 by_cases h2:a2=b2
 case neg=>simp [qgv,e0,e1,e2,e3,h0,h1,h2]
 by_cases h3:a3=b3 <;> simp [qgv,e0,e1,e2,e3,h0,h1,h2,h3]
theorem qfy (o:BinOp) (x y:Operand) (p q:Re) (w:World):(eqGuard o 112 x y (.agg p.cells.toArray) (.agg q.cells.toArray)).run Tryz.prog w = .ok () w:=by
 have h:Tryz.prog.eqGuardType Tryz.prog.depth 112=false:=by kernel_rfl
 cases o <;> simp [eqGuard,program,Sem.run,h]
theorem qjb (p q:Re) (w:World):(binOp .eql 112 (.agg p.cells.toArray) (.agg q.cells.toArray)).run Tryz.prog w = .ok (.bool (decide (p=q))) w:=by
 simp only [binOp,Sem.run_bind,qtx,Result.andThen_ok,Sem.run_pure]
theorem zcf (p q:Re) (w:World):(binOp .neq 112 (.agg p.cells.toArray) (.agg q.cells.toArray)).run Tryz.prog w = .ok (.bool (!decide (p=q))) w:=by
 simp only [binOp,Sem.run_bind,qtx,Result.andThen_ok,Sem.run_pure]
structure Rt where
 first:Pt
 depth:Int
 p0:Pt
 p1:Pt
 p2:Pt
 p3:Pt
 deriving DecidableEq
def Rt.nil:Rt:=⟨Pt.nil,0,Pt.nil,Pt.nil,Pt.nil,Pt.nil⟩
def tRt:Ty Rt:=⟨11,fun r=>[Is (.int .i64 r.first.line),Is (.int .i64 r.first.gen),Is (.int .i64 r.depth),Is (.int .i64 r.p0.line),Is (.int .i64 r.p0.gen),Is (.int .i64 r.p1.line),Is (.int .i64 r.p1.gen),Is (.int .i64 r.p2.line),Is (.int .i64 r.p2.gen),Is (.int .i64 r.p3.line),Is (.int .i64 r.p3.gen)],fun _=>rfl⟩
@[reducible] def IsRt (r:Rt):VP:=IsAgg (tRt.cells r)
def Rt.cells (r:Rt):List Value:=[.int .i64 r.first.line,.int .i64 r.first.gen,.int .i64 r.depth,.int .i64 r.p0.line,.int .i64 r.p0.gen,.int .i64 r.p1.line,.int .i64 r.p1.gen,.int .i64 r.p2.line,.int .i64 r.p2.gen,.int .i64 r.p3.line,.int .i64 r.p3.gen]
theorem qrr (d:Nat) (w:World) (p q:Pt):(Op.equalIn (d+2) 88 (.agg #[.int .i64 p.line,.int .i64 p.gen]) (.agg #[.int .i64 q.line,.int .i64 q.gen])).run Tryz.prog w = .ok (decide (p=q)) w:=by
 go_simp
 obtain ⟨a,b⟩:=p
 obtain ⟨a',b'⟩:=q
 by_cases h1:a=a' <;> by_cases h2:b=b' <;> simp [h1,h2]
theorem eq4R_one:∃ i,Tryz.prog.info? 88=some i:=by
 have h:(Tryz.prog.info? 88).isSome=true:=by kernel_rfl
 exact Option.isSome_iff_exists.1 h
theorem qh4 (cs:Array Value) (k:Nat) (w:World):(part 88 cs k).run Tryz.prog w = .ok (.agg (cs.extract k (k+2))) w:=by
 have hn:(Tryz.prog.info? 88).map (·.size)=some 2:=by kernel_rfl
 have hu:(isAgg 88).run Tryz.prog w = .ok true w:=qfn Tryz.underlying88 w
 simp only [part,Sem.run_bind,hu,Result.andThen_ok,if_true,qby hn,Sem.run_pure]
set_option maxHeartbeats 4000000 in
@[go_sem high] theorem eq4R (d:Nat) (w:World) (a0 a1 a2 a3 b0 b1 b2 b3:Pt) :
  (Op.equalIn (d+3) 292 (.agg #[.int .i64 a0.line,.int .i64 a0.gen,.int .i64 a1.line,.int .i64 a1.gen,.int .i64 a2.line,.int .i64 a2.gen,.int .i64 a3.line,.int .i64 a3.gen]) (.agg #[.int .i64 b0.line,.int .i64 b0.gen,.int .i64 b1.line,.int .i64 b1.gen,.int .i64 b2.line,.int .i64 b2.gen,.int .i64 b3.line,.int .i64 b3.gen])).run Tryz.prog w = .ok ((decide (a0=b0)&&(decide (a1=b1)&&(decide (a2=b2)&&decide (a3=b3))))) w:=by
 obtain ⟨i,hi⟩:=eq4R_one
 rw [show d+3=(d+2)+1 from rfl,run_equalIn_array w (d+2) _ _ Tryz.underlying292 hi]
 have hc:Tryz.prog.cellsOf 88=2:=by kernel_rfl
 rw [hc]
 simp only [List.range_succ,List.range_zero,List.nil_append,List.cons_append,Op.eqItems,Sem.run_bind,qh4,Result.andThen_ok]
 have e0:=qrr d w a0 b0
 have e1:=qrr d w a1 b1
 have e2:=qrr d w a2 b2
 have e3:=qrr d w a3 b3
 simp [qh4,e0,e1,e2,e3]
 by_cases h0:a0=b0
 case neg=>simp [qh4,e0,e1,e2,e3,h0]
 by_cases h1:a1=b1
 case neg=>simp [qh4,e0,e1,e2,e3,h0,h1]
 by_cases h2:a2=b2
 case neg=>simp [qh4,e0,e1,e2,e3,h0,h1,h2]
 by_cases h3:a3=b3 <;> simp [qh4,e0,e1,e2,e3,h0,h1,h2,h3]
set_option maxHeartbeats 4000000 in
theorem zcc (p q:Rt) (w:World):(Op.equal 294 (.agg p.cells.toArray) (.agg q.cells.toArray)).run Tryz.prog w = .ok (decide (p=q)) w:=by
 obtain ⟨a0,ad,a1,a2,a3,a4⟩:=p
 obtain ⟨b0,bd,b1,b2,b3,b4⟩:=q
 have h:(Op.equalIn (9999+1) 294 (.agg #[.int .i64 a0.line,.int .i64 a0.gen,.int .i64 ad,.int .i64 a1.line,.int .i64 a1.gen,.int .i64 a2.line,.int .i64 a2.gen,.int .i64 a3.line,.int .i64 a3.gen,.int .i64 a4.line,.int .i64 a4.gen]) (.agg #[.int .i64 b0.line,.int .i64 b0.gen,.int .i64 bd,.int .i64 b1.line,.int .i64 b1.gen,.int .i64 b2.line,.int .i64 b2.gen,.int .i64 b3.line,.int .i64 b3.gen,.int .i64 b4.line,.int .i64 b4.gen])).run Tryz.prog w = .ok (decide ((⟨a0,ad,a1,a2,a3,a4⟩:Rt)=⟨b0,bd,b1,b2,b3,b4⟩)) w:=by
  go_simp
  obtain ⟨x,y⟩:=a0
  obtain ⟨x',y'⟩:=b0
  by_cases hx:x=x'
  case neg=>simp [hx]
  by_cases hy:y=y'
  case neg=>simp [hx,hy]
  by_cases hd:ad=bd
  case neg=>simp [hx,hy,hd]
  by_cases h1:a1=b1
  case neg=>simp [hx,hy,hd,h1]
  by_cases h2:a2=b2
  case neg=>simp [hx,hy,hd,h1,h2]
  by_cases h3:a3=b3 <;> by_cases h4:a4=b4 <;> simp [hx,hy,hd,h1,h2,h3,h4]
 exact h
theorem qvt (o:BinOp) (x y:Operand) (p q:Rt) (w:World):(eqGuard o 294 x y (.agg p.cells.toArray) (.agg q.cells.toArray)).run Tryz.prog w = .ok () w:=by
 have h:Tryz.prog.eqGuardType Tryz.prog.depth 294=false:=by kernel_rfl
 cases o <;> simp [eqGuard,program,Sem.run,h]
theorem zcd (p q:Rt) (w:World):(binOp .eql 294 (.agg p.cells.toArray) (.agg q.cells.toArray)).run Tryz.prog w = .ok (.bool (decide (p=q))) w:=by
 simp only [binOp,Sem.run_bind,zcc,Result.andThen_ok,Sem.run_pure]
structure En where
 key:BitVec 32
 to:Pt
 deriving DecidableEq
structure Bk where
 depth:Int
 pat:BitVec 32
 next:Pt
 es:List En
 deriving DecidableEq
def tEn:Ty En:=⟨3,fun e=>[Is (.int .u32 (UV e.key)),Is (.int .i64 e.to.line),Is (.int .i64 e.to.gen)],fun _=>rfl⟩
def tBk:Ty Bk:=⟨5,fun b=>[Is (.int .i64 b.depth),Is (.int .u32 (UV b.pat)),Is (.int .i64 b.next.line),Is (.int .i64 b.next.gen),qal tEn b.es],fun _=>rfl⟩
@[reducible] def IsEn (e:En):VP:=IsAgg (tEn.cells e)
@[reducible] def IsBk (b:Bk):VP:=IsAgg (tBk.cells b)
def En.cells (e:En):List Value:=[.int .u32 (UV e.key),.int .i64 e.to.line,.int .i64 e.to.gen]
def Bk.nil:Bk:=⟨0,0#32,Pt.nil,[]⟩
theorem qzs {a:Int} (h:(Lit.int .u64 a).wf=true):∃ x:BitVec 64,a=UV x:=by
 simp [Lit.wf,IntKind.min,IntKind.max,IntKind.signed,IntKind.bits] at h
 refine ⟨BitVec.ofNat 64 a.toNat,?_⟩
 unfold UV
 rw [BitVec.toNat_ofNat]
 omega
theorem zbt {a:Int} (h:(Lit.int .i64 a).wf=true):-9223372036854775808≤a∧a≤9223372036854775807:=by
 simp [Lit.wf,IntKind.min,IntKind.max,IntKind.signed,IntKind.bits] at h
 omega

section
open Go.RowKit Go.ChangeShapes Go.WideShapes Go.ChangeAt
section
variable {H:Type} {enc:TypeId×Value→H} {P:Program} {w:World} {base:Nat} {held:Bool}
theorem trod_lt0 {t:TypeId} {v:Value} {d:DataW H} {ps:List MemPlace} {sp:Nat→Bool} (h:DataW.Trod enc P w 0 sp held t v d ps):∀ x∈ps,x.block<w.heap.size:=by
 obtain ⟨m,hm⟩:=h;exact DataW.trod_lt m _ _ _ hm
end
end
section
open Go.RowKit Go.ChangeShapes Go.WideShapes Go.ChangeAt
def phi (w:World):Fz:=fun b i=>w.cell? ⟨b,i,none⟩
theorem Fn.run {P:Program} {f:FuncId} {As:List VP} {r:Value} (h:FnP P f As (Is r)) (w:World) (vs:List Value) (hv:Alls (phi w) As vs):Calls P f vs.toArray w fun e w'=>e = .returned r∧Below w.heap.size w w':=by
 refine (h (phi w) w vs hv ⟨fun _ _ _ h=>h,by simp,List.Pairwise.nil⟩).mono ?_
 rintro e w' ⟨i,v,φ',rfl,h1,h2⟩
 have h1':v=r:=h1
 subst h1'
 exact ⟨rfl,Kpt.below (by simpa [qb4] using h2.kept)⟩
def tU32:Ty (BitVec 32):=⟨1,fun n=>[Is (.int .u32 (UV n))],fun _=>rfl⟩
def tSl {α:Type} (T:Ty α):Ty (List α):=⟨1,fun xs=>[qal T xs],fun _=>rfl⟩
def qix (a:Int):Prop:=-9223372036854775808≤a∧a≤9223372036854775807
section
variable {H:Type} {enc:TypeId×Value→H} {P:Program} {w:World} {base:Nat} {sp:Nat→Bool} {held:Bool}
def Rds {H:Type} (enc:TypeId×Value→H) (P:Program) (w:World) (base:Nat) (sp:Nat→Bool) (held:Bool) {α:Type} (t:TypeId) (T:Ty α) (R:α→Prop):Prop:=
 ∀ (fuel:Nat) (cs:List Value) (x:DataW H×List MemPlace),DataW.trod enc P w base sp held fuel t cs=some x→∃ a,Alls (phi w) (T.cells a) cs∧ones cs∧R a
theorem qd8 {us vs:List Value} (h:ones us) (k:ones vs):ones (us++vs):=fun u hu=>(List.mem_append.1 hu).elim (h u) (k u)
theorem qtb {v:Value} (h:v.oneCell'=true):ones [v]:=qi5 h qf3
theorem rds_i64 {t:TypeId} (ht:P.underlying t=some (.int .i64)):Rds enc P w base sp held t tI64 qix:=by
 intro fuel cs x h
 obtain ⟨a,rfl,_,hw⟩:=DataW.trod_int ht h
 exact ⟨a,⟨rfl,trivial⟩,qtb rfl,zbt hw⟩
theorem rds_u64 {t:TypeId} (ht:P.underlying t=some (.int .u64)):Rds enc P w base sp held t qur (fun _=>True):=by
 intro fuel cs x h
 obtain ⟨a,rfl,_,hw⟩:=DataW.trod_int ht h
 obtain ⟨b,rfl⟩:=qzs hw
 exact ⟨b,⟨rfl,trivial⟩,qtb rfl,trivial⟩
theorem rds_slice {α:Type} {T:Ty α} {R:α→Prop} {t e:TypeId} (ht:P.underlying t=some (.slice e)) (hc:P.cellsOf e=T.size) (hs:Nat.blt 0 T.size=true) (he:Rds enc P w base sp held e T R):Rds enc P w base sp held t (tSl T) (fun xs=>∀ a∈xs,R a):=by
 intro fuel cs x h
 have hs':0<T.size:=Nat.le_of_ble_eq_true hs
 rcases Go.Deep.open_slice ht h with ⟨rfl,_⟩|⟨a,len,cap,m,n,D,Pl,rfl,_,hl,hm,hmm,_,hx⟩
 ·exact ⟨[],⟨⟨none,0,0,rfl,rfl,Nat.le_refl _,Nat.zero_le _,.inl rfl⟩,trivial⟩,qtb rfl,fun a ha=>absurd ha (List.not_mem_nil)⟩
 have hlm:len≤m:=by rw [hmm];split <;> omega
 rcases Nat.eq_zero_or_pos len with h0|h0
 ·subst h0
  exact ⟨[],⟨⟨some a,0,cap,rfl,rfl,Nat.zero_le _,hm,.inl rfl⟩,trivial⟩,qtb rfl,fun a ha=>absurd ha (List.not_mem_nil)⟩
 have hspot:a.spot=none:=by
  obtain ⟨cs',h1,h2⟩:=hx 0 (by omega)
  rw [hc] at h1
  obtain ⟨_,hlen,hcell⟩:=World.cells?_some h1
  have h3:=hcell 0 hs'
  rw [List.getElem?_eq_getElem (by omega)] at h3
  simpa [Addr.add] using World.cell?_spot h3
 have key:∀ i,i<len→∃ y:α,a.spot=none∧RefAt (phi w) a.block (a.off+i*T.size) (T.cells y)∧R y:=fun i hi=>by
  obtain ⟨cs',h1,h2⟩:=hx i (by omega)
  rw [hc] at h1
  obtain ⟨_,hlen,hcell⟩:=World.cells?_some h1
  obtain ⟨y,g1,g2,g3⟩:=he _ _ _ h2
  refine ⟨y,hspot,fun j A hA=>?_,g3⟩
  obtain ⟨u,k1,k2⟩:=g1.get hA
  refine ⟨u,?_,k2,g2 u (List.mem_of_getElem? k1)⟩
  have hj:j<T.size:=by
   have:=(List.getElem?_eq_some_iff.1 hA).1
   rw [T.len] at this;exact this
  have h3:=hcell j hj
  rw [k1] at h3
  obtain ⟨b,o,q⟩:=a
  dsimp only at hspot
  subst hspot
  rw [qr5,qr5] at h3
  exact h3
 obtain ⟨y0,_,_⟩:=key 0 h0
 have:Inhabited α:=⟨y0⟩
 obtain ⟨A,hA⟩:=Go.Deep.choose_lt key
 obtain ⟨b,o,q⟩:=a
 dsimp only at hspot hA
 subst hspot
 refine ⟨(List.range len).map A,⟨⟨some ⟨b,o,none⟩,len,cap,rfl,by simp,hl,hm,.inr ⟨b,o,rfl,fun k x hk=>?_⟩⟩,trivial⟩,qtb rfl,fun y hy=>?_⟩
 ·have hlt:k<len:=by
   have:=(List.getElem?_eq_some_iff.1 hk).1
   simpa using this
  rw [List.getElem?_map,List.getElem?_range hlt] at hk
  simp only [Option.map_some,Option.some.injEq] at hk
  subst hk
  exact (hA k hlt).2.1
 ·obtain ⟨i,hi,rfl⟩:=List.mem_map.1 hy
  exact (hA i (List.mem_range.1 hi)).2.2
theorem rds_arg1 {α:Type} {T:Ty α} {R:α→Prop} {t:TypeId} {v:Value} {d:DataW H} {ps:List MemPlace} {A:α→VP} (hT:∀ a,T.cells a=[A a]) (he:Rds enc P w base sp held t T R) (hv:v.cells.toList=[v])
  (h:DataW.Trod enc P w base sp held t v d ps):∃ a,(A a).ok (phi w) v∧R a:=by
 obtain ⟨fuel,hf⟩:=h
 obtain ⟨a,h1,_,h2⟩:=he _ _ _ hf
 rw [hv,hT] at h1
 exact ⟨a,h1.1,h2⟩
theorem rds_argS {α:Type} {T:Ty α} {R:α→Prop} {t:TypeId} {fs:Array Field} (ht:P.underlying t=some (.struct fs)) {r:Reach} {b0:Nat} {v:Value} {d:DataW H} {ps:List MemPlace} (he:Rds enc P w base sp held t T R)
  (hval:Value.okWide P w r b0 t v) (h:DataW.Trod enc P w base sp held t v d ps):∃ a,(IsAgg (T.cells a)).ok (phi w) v∧R a:=by
 obtain ⟨cs,rfl,_⟩:=okWide_struct ht hval
 obtain ⟨fuel,hf⟩:=h
 obtain ⟨a,h1,h2,h3⟩:=he _ _ _ hf
 exact ⟨a,⟨_,rfl,h1,h2⟩,h3⟩
theorem rds_argSl {α:Type} {T:Ty α} {R:List α→Prop} {t e:TypeId} (ht:P.underlying t=some (.slice e)) {r:Reach} {b0:Nat} {v:Value} {d:DataW H} {ps:List MemPlace} (he:Rds enc P w base sp held t (tSl T) R)
  (hval:Value.okWide P w r b0 t v) (h:DataW.Trod enc P w base sp held t v d ps):∃ xs,(qal T xs).ok (phi w) v∧R xs:=by
 obtain ⟨a,len,cap,rfl⟩:=okWide_slice ht hval
 exact rds_arg1 (A:=qal T) (fun _=>rfl) he rfl h
end
end
structure S19 where
 need:List Int
 fresh:List Pg
 writes:List Pg
 s:Int
 code:Int
 over:Bool
def tS19:Ty S19:=⟨6,fun a=>[qal tI64 a.need,qal tPg a.fresh,qal tPg a.writes,Is (.int .i64 a.s),Is (.int .i64 a.code),Is (.bool a.over)],fun _=>rfl⟩
@[reducible] def qza (a:S19):VP:=IsAgg (tS19.cells a)
def tS19F (B:Nat):Ty S19:=⟨6,fun a=>[qal tI64 a.need,qal tPg a.fresh,qbe B (qal tPg a.writes),Is (.int .i64 a.s),Is (.int .i64 a.code),Is (.bool a.over)],fun _=>rfl⟩
@[reducible] def IsS19F (B:Nat) (a:S19):VP:=IsAgg ((tS19F B).cells a)
def S19.nil:S19:=⟨[],[],[],0,0,false⟩
structure Rw where
 key:BitVec 32
 cols0:Int
 cols1:Int
 cols2:Int
def tRw:Ty Rw:=⟨4,fun a=>[Is (.int .u32 (UV a.key)),Is (.int .i64 a.cols0),Is (.int .i64 a.cols1),Is (.int .i64 a.cols2)],fun _=>rfl⟩
@[reducible] def IsRw (a:Rw):VP:=IsAgg (tRw.cells a)
def Rw.nil:Rw:=⟨0#32,0,0,0⟩
structure Vs where
 row:Rw
 deleted:Bool
 epoch:BitVec 32
 stamp:BitVec 64
 prev:Pt
def tVs:Ty Vs:=⟨9,fun a=>[Is (.int .u32 (UV a.row.key)),Is (.int .i64 a.row.cols0),Is (.int .i64 a.row.cols1),Is (.int .i64 a.row.cols2),Is (.bool a.deleted),Is (.int .u32 (UV a.epoch)),Is (.int .u64 (UV a.stamp)),Is (.int .i64 a.prev.line),Is (.int .i64 a.prev.gen)],fun _=>rfl⟩
@[reducible] def IsVs (a:Vs):VP:=IsAgg (tVs.cells a)
def Vs.nil:Vs:=⟨Rw.nil,false,0#32,0#64,Pt.nil⟩
structure O23 where
 code:Int
 found:Bool
 done:Bool
 split:Bool
 hint:Bool
 deep:Bool
 to:Pt
 check:List Int
 hops:Int
 fresh:Int
def tO23:Ty O23:=⟨11,fun a=>[Is (.int .i64 a.code),Is (.bool a.found),Is (.bool a.done),Is (.bool a.split),Is (.bool a.hint),Is (.bool a.deep),Is (.int .i64 a.to.line),Is (.int .i64 a.to.gen),qal tI64 a.check,Is (.int .i64 a.hops),Is (.int .i64 a.fresh)],fun _=>rfl⟩
@[reducible] def IsO23 (a:O23):VP:=IsAgg (tO23.cells a)
def O23.nil:O23:=⟨0,false,false,false,false,false,Pt.nil,[],0,0⟩
structure S23 where
 need:List Int
 writes:List Pg
 out:O23
 over:Bool
def tS23:Ty S23:=⟨14,fun a=>[qal tI64 a.need,qal tPg a.writes,Is (.int .i64 a.out.code),Is (.bool a.out.found),Is (.bool a.out.done),Is (.bool a.out.split),Is (.bool a.out.hint),Is (.bool a.out.deep),Is (.int .i64 a.out.to.line),Is (.int .i64 a.out.to.gen),qal tI64 a.out.check,Is (.int .i64 a.out.hops),Is (.int .i64 a.out.fresh),Is (.bool a.over)],fun _=>rfl⟩
def qo4 (B:Nat):Ty S23:=⟨14,fun a=>[qal tI64 a.need,qbe B (qal tPg a.writes),Is (.int .i64 a.out.code),Is (.bool a.out.found),Is (.bool a.out.done),Is (.bool a.out.split),Is (.bool a.out.hint),Is (.bool a.out.deep),Is (.int .i64 a.out.to.line),Is (.int .i64 a.out.to.gen),qal tI64 a.out.check,Is (.int .i64 a.out.hops),Is (.int .i64 a.out.fresh),Is (.bool a.over)],fun _=>rfl⟩
@[reducible] def qqh (B:Nat) (a:S23):VP:=IsAgg ((qo4 B).cells a)
def S23.nil:S23:=⟨[],[],O23.nil,false⟩
structure P23 where
 need:List Int
 empty:Bool
 page:Pg
 bucket:Bk
 out:O23
def tP23:Ty P23:=⟨27,fun a=>[qal tI64 a.need,Is (.bool a.empty),Is (.int .i64 a.page.l),Is (.int .u64 (UV a.page.h)),Is (.int .u64 (UV a.page.d0)),Is (.int .u64 (UV a.page.d1)),Is (.int .u64 (UV a.page.d2)),Is (.int .u64 (UV a.page.d3)),Is (.int .u64 (UV a.page.d4)),Is (.int .u64 (UV a.page.d5)),Is (.int .u64 (UV a.page.d6)),Is (.int .i64 a.bucket.depth),Is (.int .u32 (UV a.bucket.pat)),Is (.int .i64 a.bucket.next.line),Is (.int .i64 a.bucket.next.gen),qal tEn a.bucket.es,Is (.int .i64 a.out.code),Is (.bool a.out.found),Is (.bool a.out.done),Is (.bool a.out.split),Is (.bool a.out.hint),Is (.bool a.out.deep),Is (.int .i64 a.out.to.line),Is (.int .i64 a.out.to.gen),qal tI64 a.out.check,Is (.int .i64 a.out.hops),Is (.int .i64 a.out.fresh)],fun _=>rfl⟩
@[reducible] def IsP23 (a:P23):VP:=IsAgg (tP23.cells a)
def P23.nil:P23:=⟨[],false,⟨0,0#64,0#64,0#64,0#64,0#64,0#64,0#64,0#64⟩,Bk.nil,O23.nil⟩
structure N24 where
 level:Int
 leftmost:Bool
 dead:Bool
 high:BitVec 32
 right:Pt
 entries:List En
def tN24:Ty N24:=⟨7,fun a=>[Is (.int .i64 a.level),Is (.bool a.leftmost),Is (.bool a.dead),Is (.int .u32 (UV a.high)),Is (.int .i64 a.right.line),Is (.int .i64 a.right.gen),qal tEn a.entries],fun _=>rfl⟩
@[reducible] def qv5 (a:N24):VP:=IsAgg (tN24.cells a)
def N24.nil:N24:=⟨0,false,false,0#32,Pt.nil,[]⟩
structure Op24 where
 kind:Int
 key:BitVec 32
 last:BitVec 32
 to:Pt
 level:Int
 limit:Int
 fresh:List Pg
def tOp24:Ty Op24:=⟨8,fun a=>[Is (.int .i64 a.kind),Is (.int .u32 (UV a.key)),Is (.int .u32 (UV a.last)),Is (.int .i64 a.to.line),Is (.int .i64 a.to.gen),Is (.int .i64 a.level),Is (.int .i64 a.limit),qal tPg a.fresh],fun _=>rfl⟩
@[reducible] def qmy (a:Op24):VP:=IsAgg (tOp24.cells a)
def Op24.nil:Op24:=⟨0,0#32,0#32,Pt.nil,0,0,[]⟩
structure O24 where
 code:Int
 found:Bool
 done:Bool
 split:Bool
 unposted:Bool
 dead:Bool
 more:Bool
 to:Pt
 entries:List En
 check:List Int
 hops:Int
 fresh:Int
 height:Int
def tO24:Ty O24:=⟨14,fun a=>[Is (.int .i64 a.code),Is (.bool a.found),Is (.bool a.done),Is (.bool a.split),Is (.bool a.unposted),Is (.bool a.dead),Is (.bool a.more),Is (.int .i64 a.to.line),Is (.int .i64 a.to.gen),qal tEn a.entries,qal tI64 a.check,Is (.int .i64 a.hops),Is (.int .i64 a.fresh),Is (.int .i64 a.height)],fun _=>rfl⟩
@[reducible] def qv4 (a:O24):VP:=IsAgg (tO24.cells a)
def O24.nil:O24:=⟨0,false,false,false,false,false,false,Pt.nil,[],[],0,0,0⟩
structure S24 where
 need:List Int
 writes:List Pg
 out:O24
 over:Bool
def tS24:Ty S24:=⟨17,fun a=>[qal tI64 a.need,qal tPg a.writes,Is (.int .i64 a.out.code),Is (.bool a.out.found),Is (.bool a.out.done),Is (.bool a.out.split),Is (.bool a.out.unposted),Is (.bool a.out.dead),Is (.bool a.out.more),Is (.int .i64 a.out.to.line),Is (.int .i64 a.out.to.gen),qal tEn a.out.entries,qal tI64 a.out.check,Is (.int .i64 a.out.hops),Is (.int .i64 a.out.fresh),Is (.int .i64 a.out.height),Is (.bool a.over)],fun _=>rfl⟩
def qsr (B:Nat):Ty S24:=⟨17,fun a=>[qal tI64 a.need,qbe B (qal tPg a.writes),Is (.int .i64 a.out.code),Is (.bool a.out.found),Is (.bool a.out.done),Is (.bool a.out.split),Is (.bool a.out.unposted),Is (.bool a.out.dead),Is (.bool a.out.more),Is (.int .i64 a.out.to.line),Is (.int .i64 a.out.to.gen),qal tEn a.out.entries,qal tI64 a.out.check,Is (.int .i64 a.out.hops),Is (.int .i64 a.out.fresh),Is (.int .i64 a.out.height),Is (.bool a.over)],fun _=>rfl⟩
@[reducible] def qjm (B:Nat) (a:S24):VP:=IsAgg ((qsr B).cells a)
def S24.nil:S24:=⟨[],[],O24.nil,false⟩
structure P24 where
 need:List Int
 noTree:Bool
 none:Bool
 code:Int
 page:Pg
 node:N24
 top:N24
 hops:Int
 unposted:Bool
 dead:Bool
def tP24:Ty P24:=⟨30,fun a=>[qal tI64 a.need,Is (.bool a.noTree),Is (.bool a.none),Is (.int .i64 a.code),Is (.int .i64 a.page.l),Is (.int .u64 (UV a.page.h)),Is (.int .u64 (UV a.page.d0)),Is (.int .u64 (UV a.page.d1)),Is (.int .u64 (UV a.page.d2)),Is (.int .u64 (UV a.page.d3)),Is (.int .u64 (UV a.page.d4)),Is (.int .u64 (UV a.page.d5)),Is (.int .u64 (UV a.page.d6)),Is (.int .i64 a.node.level),Is (.bool a.node.leftmost),Is (.bool a.node.dead),Is (.int .u32 (UV a.node.high)),Is (.int .i64 a.node.right.line),Is (.int .i64 a.node.right.gen),qal tEn a.node.entries,Is (.int .i64 a.top.level),Is (.bool a.top.leftmost),Is (.bool a.top.dead),Is (.int .u32 (UV a.top.high)),Is (.int .i64 a.top.right.line),Is (.int .i64 a.top.right.gen),qal tEn a.top.entries,Is (.int .i64 a.hops),Is (.bool a.unposted),Is (.bool a.dead)],fun _=>rfl⟩
@[reducible] def qum (a:P24):VP:=IsAgg (tP24.cells a)
def P24.nil:P24:=⟨[],false,false,0,⟨0,0#64,0#64,0#64,0#64,0#64,0#64,0#64,0#64⟩,N24.nil,N24.nil,0,false,false⟩
structure Ep26 where
 kind:Int
 client:Int
 inc:Int
 lines:Int
 for_:Int
 list:List Pt
def tEp26:Ty Ep26:=⟨6,fun a=>[Is (.int .i64 a.kind),Is (.int .i64 a.client),Is (.int .i64 a.inc),Is (.int .i64 a.lines),Is (.int .i64 a.for_),qal tPt a.list],fun _=>rfl⟩
@[reducible] def qqi (a:Ep26):VP:=IsAgg (tEp26.cells a)
def Ep26.nil:Ep26:=⟨0,0,0,0,0,[]⟩
structure EO26 where
 code:Int
 epoch:BitVec 32
 blocker:Int
 freed:List Pt
 check:List Int
def tEO26:Ty EO26:=⟨5,fun a=>[Is (.int .i64 a.code),Is (.int .u32 (UV a.epoch)),Is (.int .i64 a.blocker),qal tPt a.freed,qal tI64 a.check],fun _=>rfl⟩
@[reducible] def IsEO26 (a:EO26):VP:=IsAgg (tEO26.cells a)
def EO26.nil:EO26:=⟨0,0#32,0,[],[]⟩
structure ES26 where
 need:List Int
 writes:List Pg
 out:EO26
 over:Bool
 locked:Bool
def tES26:Ty ES26:=⟨9,fun a=>[qal tI64 a.need,qal tPg a.writes,Is (.int .i64 a.out.code),Is (.int .u32 (UV a.out.epoch)),Is (.int .i64 a.out.blocker),qal tPt a.out.freed,qal tI64 a.out.check,Is (.bool a.over),Is (.bool a.locked)],fun _=>rfl⟩
def qz2 (B:Nat):Ty ES26:=⟨9,fun a=>[qal tI64 a.need,qbe B (qal tPg a.writes),Is (.int .i64 a.out.code),Is (.int .u32 (UV a.out.epoch)),Is (.int .i64 a.out.blocker),qal tPt a.out.freed,qal tI64 a.out.check,Is (.bool a.over),Is (.bool a.locked)],fun _=>rfl⟩
@[reducible] def qow (B:Nat) (a:ES26):VP:=IsAgg ((qz2 B).cells a)
def ES26.nil:ES26:=⟨[],[],EO26.nil,false,false⟩
structure Cu where
 phase:Int
 level:Int
 key:BitVec 32
def tCu:Ty Cu:=⟨3,fun a=>[Is (.int .i64 a.phase),Is (.int .i64 a.level),Is (.int .u32 (UV a.key))],fun _=>rfl⟩
@[reducible] def IsCu (a:Cu):VP:=IsAgg (tCu.cells a)
def Cu.nil:Cu:=⟨0,0,0#32⟩
structure SO26 where
 code:Int
 next:Cu
 did:Bool
 check:List Int
def tSO26:Ty SO26:=⟨6,fun a=>[Is (.int .i64 a.code),Is (.int .i64 a.next.phase),Is (.int .i64 a.next.level),Is (.int .u32 (UV a.next.key)),Is (.bool a.did),qal tI64 a.check],fun _=>rfl⟩
def SO26.nil:SO26:=⟨0,Cu.nil,false,[]⟩
structure SS26 where
 need:List Int
 writes:List Pg
 out:SO26
 over:Bool
def tSS26:Ty SS26:=⟨9,fun a=>[qal tI64 a.need,qal tPg a.writes,Is (.int .i64 a.out.code),Is (.int .i64 a.out.next.phase),Is (.int .i64 a.out.next.level),Is (.int .u32 (UV a.out.next.key)),Is (.bool a.out.did),qal tI64 a.out.check,Is (.bool a.over)],fun _=>rfl⟩
def qz1 (B:Nat):Ty SS26:=⟨9,fun a=>[qal tI64 a.need,qbe B (qal tPg a.writes),Is (.int .i64 a.out.code),Is (.int .i64 a.out.next.phase),Is (.int .i64 a.out.next.level),Is (.int .u32 (UV a.out.next.key)),Is (.bool a.out.did),qal tI64 a.out.check,Is (.bool a.over)],fun _=>rfl⟩
@[reducible] def qjl (B:Nat) (a:SS26):VP:=IsAgg ((qz1 B).cells a)
def SS26.nil:SS26:=⟨[],[],SO26.nil,false⟩
structure Co where
 col:Int
 op:Int
 value:Int
def tCo:Ty Co:=⟨3,fun a=>[Is (.int .i64 a.col),Is (.int .i64 a.op),Is (.int .i64 a.value)],fun _=>rfl⟩
def Co.nil:Co:=⟨0,0,0⟩
structure St29 where
 kind:Int
 key:BitVec 32
 last:BitVec 32
 cols0:Int
 cols1:Int
 cols2:Int
 col:Int
 value:Int
 where_:Co
 limit:Int
def tSt29:Ty St29:=⟨12,fun a=>[Is (.int .i64 a.kind),Is (.int .u32 (UV a.key)),Is (.int .u32 (UV a.last)),Is (.int .i64 a.cols0),Is (.int .i64 a.cols1),Is (.int .i64 a.cols2),Is (.int .i64 a.col),Is (.int .i64 a.value),Is (.int .i64 a.where_.col),Is (.int .i64 a.where_.op),Is (.int .i64 a.where_.value),Is (.int .i64 a.limit)],fun _=>rfl⟩
@[reducible] def qov (a:St29):VP:=IsAgg (tSt29.cells a)
def St29.nil:St29:=⟨0,0#32,0#32,0,0,0,0,0,Co.nil,0⟩
structure Rs29 where
 rows:List Rw
 number:Int
def tRs29:Ty Rs29:=⟨2,fun a=>[qal tRw a.rows,Is (.int .i64 a.number)],fun _=>rfl⟩
@[reducible] def IsRs29 (a:Rs29):VP:=IsAgg (tRs29.cells a)
def Rs29.nil:Rs29:=⟨[],0⟩
structure J31 where
 client:Int
 seq:Int
 lines:Int
 program:List St29
 access:List Int
 snapshot:Bool
 vector0:BitVec 64
 vector1:BitVec 64
 vector2:BitVec 64
 vector3:BitVec 64
 vector4:BitVec 64
 vector5:BitVec 64
def tJ31:Ty J31:=⟨12,fun a=>[Is (.int .i64 a.client),Is (.int .i64 a.seq),Is (.int .i64 a.lines),qal tSt29 a.program,qal tI64 a.access,Is (.bool a.snapshot),Is (.int .u64 (UV a.vector0)),Is (.int .u64 (UV a.vector1)),Is (.int .u64 (UV a.vector2)),Is (.int .u64 (UV a.vector3)),Is (.int .u64 (UV a.vector4)),Is (.int .u64 (UV a.vector5))],fun _=>rfl⟩
@[reducible] def IsJ31 (a:J31):VP:=IsAgg (tJ31.cells a)
def J31.nil:J31:=⟨0,0,0,[],[],false,0#64,0#64,0#64,0#64,0#64,0#64⟩
structure O31 where
 code:Int
 statement:Int
 want:Int
 results:List Rs29
 check:List Int
 hint:Bool
 deep:Bool
 unposted:Bool
 dead:Bool
def tO31:Ty O31:=⟨9,fun a=>[Is (.int .i64 a.code),Is (.int .i64 a.statement),Is (.int .i64 a.want),qal tRs29 a.results,qal tI64 a.check,Is (.bool a.hint),Is (.bool a.deep),Is (.bool a.unposted),Is (.bool a.dead)],fun _=>rfl⟩
def O31.nil:O31:=⟨0,0,0,[],[],false,false,false,false⟩
structure S31 where
 need:List Int
 writes:List Pg
 out:O31
 over:Bool
def tS31:Ty S31:=⟨12,fun a=>[qal tI64 a.need,qal tPg a.writes,Is (.int .i64 a.out.code),Is (.int .i64 a.out.statement),Is (.int .i64 a.out.want),qal tRs29 a.out.results,qal tI64 a.out.check,Is (.bool a.out.hint),Is (.bool a.out.deep),Is (.bool a.out.unposted),Is (.bool a.out.dead),Is (.bool a.over)],fun _=>rfl⟩
def tS31F (B:Nat):Ty S31:=⟨12,fun a=>[qal tI64 a.need,qbe B (qal tPg a.writes),Is (.int .i64 a.out.code),Is (.int .i64 a.out.statement),Is (.int .i64 a.out.want),qal tRs29 a.out.results,qal tI64 a.out.check,Is (.bool a.out.hint),Is (.bool a.out.deep),Is (.bool a.out.unposted),Is (.bool a.out.dead),Is (.bool a.over)],fun _=>rfl⟩
def S31.nil:S31:=⟨[],[],O31.nil,false⟩
structure Run31 where
 job:J31
 known:List Pg
 w:List Pg
 c:List Int
 need:List Int
 code:Int
 out:O31
def tRun31:Ty Run31:=⟨26,fun a=>[Is (.int .i64 a.job.client),Is (.int .i64 a.job.seq),Is (.int .i64 a.job.lines),qal tSt29 a.job.program,qal tI64 a.job.access,Is (.bool a.job.snapshot),Is (.int .u64 (UV a.job.vector0)),Is (.int .u64 (UV a.job.vector1)),Is (.int .u64 (UV a.job.vector2)),Is (.int .u64 (UV a.job.vector3)),Is (.int .u64 (UV a.job.vector4)),Is (.int .u64 (UV a.job.vector5)),qal tPg a.known,qal tPg a.w,qal tI64 a.c,qal tI64 a.need,Is (.int .i64 a.code),Is (.int .i64 a.out.code),Is (.int .i64 a.out.statement),Is (.int .i64 a.out.want),qal tRs29 a.out.results,qal tI64 a.out.check,Is (.bool a.out.hint),Is (.bool a.out.deep),Is (.bool a.out.unposted),Is (.bool a.out.dead)],fun _=>rfl⟩
def tRun31F (B:Nat):Ty Run31:=⟨26,fun a=>[Is (.int .i64 a.job.client),Is (.int .i64 a.job.seq),Is (.int .i64 a.job.lines),qal tSt29 a.job.program,qal tI64 a.job.access,Is (.bool a.job.snapshot),Is (.int .u64 (UV a.job.vector0)),Is (.int .u64 (UV a.job.vector1)),Is (.int .u64 (UV a.job.vector2)),Is (.int .u64 (UV a.job.vector3)),Is (.int .u64 (UV a.job.vector4)),Is (.int .u64 (UV a.job.vector5)),qal tPg a.known,qbe B (qal tPg a.w),qal tI64 a.c,qal tI64 a.need,Is (.int .i64 a.code),Is (.int .i64 a.out.code),Is (.int .i64 a.out.statement),Is (.int .i64 a.out.want),qal tRs29 a.out.results,qal tI64 a.out.check,Is (.bool a.out.hint),Is (.bool a.out.deep),Is (.bool a.out.unposted),Is (.bool a.out.dead)],fun _=>rfl⟩
def Run31.nil:Run31:=⟨J31.nil,[],[],[],[],0,O31.nil⟩
structure Fd31 where
 head:Bool
 page:Pg
 version:Vs
 there:Bool
def tFd31:Ty Fd31:=⟨20,fun a=>[Is (.bool a.head),Is (.int .i64 a.page.l),Is (.int .u64 (UV a.page.h)),Is (.int .u64 (UV a.page.d0)),Is (.int .u64 (UV a.page.d1)),Is (.int .u64 (UV a.page.d2)),Is (.int .u64 (UV a.page.d3)),Is (.int .u64 (UV a.page.d4)),Is (.int .u64 (UV a.page.d5)),Is (.int .u64 (UV a.page.d6)),Is (.int .u32 (UV a.version.row.key)),Is (.int .i64 a.version.row.cols0),Is (.int .i64 a.version.row.cols1),Is (.int .i64 a.version.row.cols2),Is (.bool a.version.deleted),Is (.int .u32 (UV a.version.epoch)),Is (.int .u64 (UV a.version.stamp)),Is (.int .i64 a.version.prev.line),Is (.int .i64 a.version.prev.gen),Is (.bool a.there)],fun _=>rfl⟩
@[reducible] def IsFd31 (a:Fd31):VP:=IsAgg (tFd31.cells a)
def Fd31.nil:Fd31:=⟨false,⟨0,0#64,0#64,0#64,0#64,0#64,0#64,0#64,0#64⟩,Vs.nil,false⟩
structure Acn where
 kind:Int
 client:Int
 key:Int
 a:Int
 b:Int
 n:Int
def tAct:Ty Acn:=⟨6,fun a=>[Is (.int .i64 a.kind),Is (.int .i64 a.client),Is (.int .i64 a.key),Is (.int .i64 a.a),Is (.int .i64 a.b),Is (.int .i64 a.n)],fun _=>rfl⟩
@[reducible] def IsAct (a:Acn):VP:=IsAgg (tAct.cells a)
def Acn.nil:Acn:=⟨0,0,0,0,0,0⟩
structure Hp where
 pages:List Pg
 lines:Int
 seq:Int
 table:List Rw
 cursor:Cu
def tHp:Ty Hp:=⟨7,fun a=>[qal tPg a.pages,Is (.int .i64 a.lines),Is (.int .i64 a.seq),qal tRw a.table,Is (.int .i64 a.cursor.phase),Is (.int .i64 a.cursor.level),Is (.int .u32 (UV a.cursor.key))],fun _=>rfl⟩
def Hp.nil:Hp:=⟨[],0,0,[],Cu.nil⟩
end Go.Proofs.YtmgoplaamlignaaGreat
